/- Part 4 of the texts that the proof needs. -/
import Derived.Test.YtopmifmfecfaaaaRrC
set_option linter.unusedVariables false
set_option linter.unusedSimpArgs false
namespace Go.Proofs.Ytopmifmfecfaaaa
open Go Go.RowKit Go.Proofs.Gw
theorem cl_108 : calledT Try.prog 108 = true := by kernel_rfl
theorem cl_109 : calledT Try.prog 109 = true := by kernel_rfl
theorem cl_119 : calledT Try.prog 119 = true := by kernel_rfl
theorem cl_128 : calledT Try.prog 128 = true := by kernel_rfl
theorem cl_14 : calledT Try.prog 14 = true := by kernel_rfl
theorem cl_48 : calledT Try.prog 48 = true := by kernel_rfl
theorem cl_50 : calledT Try.prog 50 = true := by kernel_rfl
theorem cl_51 : calledT Try.prog 51 = true := by kernel_rfl
theorem cl_52 : calledT Try.prog 52 = true := by kernel_rfl
theorem cl_57 : calledT Try.prog 57 = true := by kernel_rfl
theorem cl_58 : calledT Try.prog 58 = true := by kernel_rfl
theorem cl_63 : calledT Try.prog 63 = true := by kernel_rfl
theorem cl_81 : calledT Try.prog 81 = true := by kernel_rfl
theorem cl_88 : calledT Try.prog 88 = true := by kernel_rfl
theorem el_52 : elemT Try.prog 52 = some (.agg #[.slice none 0 0, .slice none 0 0, .int .i64 0, .int .i64 0], 4, 64) := by kernel_rfl
theorem fd_54_0 : fieldT Try.prog 54 0 = some 0 := by kernel_rfl
theorem fd_54_1 : fieldT Try.prog 54 1 = some 1 := by kernel_rfl
theorem fd_58_0 : fieldT Try.prog 58 0 = some 0 := by kernel_rfl
theorem fd_58_1 : fieldT Try.prog 58 1 = some 1 := by kernel_rfl
theorem st_58 : structT Try.prog 58 = some 5 := by kernel_rfl
def FitR (p : Prob) (u : Int) (ml : Int → Int) (mf : Int → Int → Int) (s : So) : Prop := SoundS s ∧ s.n = u ∧ u ≤ 60 ∧ (∀ k, 0 ≤ k → k < u → ProperP p (ml k) (mf k) ∧ (s.X k).tdiv s.den ≤ 1000) ∧ ∀ j, 0 ≤ j → j < p.m → p.D j * s.den ≤ madeF u mf s.X j
theorem madeX_rng {m u : Int} {X : Int → Int} {mf : Int → Int → Int} (h : ∀ k, 0 ≤ k → k < u → (∀ j, 0 ≤ j → j < m → 0 ≤ mf k j ∧ mf k j ≤ 1000) ∧ 0 ≤ X k ∧ X k ≤ 1073741824) : ∀ {i : Int}, 0 ≤ i → i ≤ u → ∀ {j : Int}, 0 ≤ j → j < m → 0 ≤ madeF i mf X j ∧ madeF i mf X j ≤ 1073741824000 * i := by
  intro i i0
  obtain ⟨n, rfl⟩ := Int.eq_ofNat_of_zero_le i0
  induction n with
  | zero => intro _ j _ _; exact ⟨Int.le_refl _, by show (0 : Int) ≤ _; omega⟩
  | succ n ih =>
    intro hi j j0 j1
    have h1 := ih (by omega) (by omega) j0 j1
    obtain ⟨h2, h3, h4⟩ := h n (by omega) (by omega)
    have h5 := h2 j j0 j1
    have h6 := mul_rng3 h5.1 h5.2 h3 h4
    have h7 := madeF_next (pt := mf) (cnt := X) (i := (n : Int)) (j := j) (by omega)
    rw [show ((n + 1 : Nat) : Int) = (n : Int) + 1 by omega, h7]; omega
theorem tmod_rng {a d : Int} (h : 0 ≤ a) (hd : 1 ≤ d) : 0 ≤ a.tmod d ∧ a.tmod d < d := by
  rw [Int.tmod_eq_emod_of_nonneg h]
  exact ⟨Int.emod_nonneg _ (by omega), Int.emod_lt_of_pos _ (by omega)⟩
theorem prop_rng {p : Prob} {n : Int} {f : Int → Int} (h : ProperP p n f) : n = p.m ∧ ∀ j, 0 ≤ j → j < p.m → 0 ≤ f j ∧ f j ≤ 1000 := by
  have he := h.1.eq
  refine ⟨he, fun j j0 j1 => ?_⟩
  have h1 := h.1.all j j0 j1
  have h2 := h.2 j j0 (by omega)
  have h3 := dnn9 h.1.ok j0 j1
  omega
set_option maxHeartbeats 4000000 in
set_option maxRecDepth 20000 in
theorem c_fitting {vL vD : Value} {p : Prob} {vM : Value} {u : Int} {mv : Int → Value} {ml : Int → Int} {mf : Int → Int → Int} {vX vY : Value} {s : So} (w0 : World) (h : PAt w0 vL vD p) (hok : p.Ok) (hM : MAt w0 vM u mv ml mf) (hX : Row w0 vX 1 s.n (ints s.X)) (hY : Row w0 vY 1 s.m (ints s.Y)) (hn60 : s.n ≤ 1000) :
    Calls Try.prog 81 [.agg #[vL, vD, .int .i64 p.stock, .int .i64 p.kerf], .agg #[vM, vX, vY, .int .i64 s.val, .int .i64 s.den]].toArray w0 fun e w => ∃ v, e = .returned v ∧ v = B (FitR p u ml mf s) ∧ Sat w0 w [] := by
  have hm := h.L.slh.n0; have hm1 := h.L.slh.n1; have hd := h.D.slh.n0; have hd1 := h.D.slh.n1; have hs := h.is; have hk := h.ik
  have hu := hM.row.slh.n0; have hu1 := hM.row.slh.n1; have hn := hX.slh.n0; have hn1 := hX.slh.n1
  refine zenG Try.func81 Try.ntmps81 fun w hS => ?_
  refine zsr ?_
  refine zla (xbx (cs := [_, _, _, _]) hS) ?_; rintro _ w ⟨g1, rfl, hS⟩
  replace hS := hS.n1
  refine zla (xbx (cs := [_, _, _, _, _]) hS) ?_; rintro _ w ⟨g2, rfl, hS⟩
  replace hS := hS.n2
  refine zlv xas ?_
  refine zlz ?_
  refine zlv (xfb 1 fd_58_1) ?_
  refine zlv (xlp 1 (ds := [vX, vY, .int .i64 s.val, .int .i64 s.den]) st_36 hS) ?_
  refine zla (xal (cs := [_, _, _, _]) el_36 hS) ?_; rintro _ w ⟨g3, rfl, hS⟩
  replace hS := hS.n3
  refine zle (xsw 2 st_36 hS (hd := (ones_cons hX.slh.one (ones_cons hY.slh.one (ones_cons rfl (ones_cons rfl ones_nil)))))) ?_; clear hS; rintro w hS
  replace hS := hS.n3
  refine zlt <| zsq <| zsr ?_
  refine zlv (xls 2 st_36 hS) ?_
  refine zlc (xc0 cl_29) (c_value30 (s := s) w (hX.below hS.below) (hY.below hS.below) (by omega)) ?_; rintro _ w ⟨xv91, yv91, ev91, rfl, hvav91, hS'⟩
  replace hS := hS.cmp hS'; clear hS'
  refine zs3 ?_
  refine zla (xal (cs := [_, _]) el_65 hS) ?_; rintro _ w ⟨g4, rfl, hS⟩
  replace hS := hS.n4
  refine zle (xsw 3 st_65 hS) ?_; clear hS; rintro w hS
  replace hS := hS.n4
  refine zlv xas ?_
  refine zlz ?_
  refine zs3 ?_
  refine zlb 24 ?_ ?_ <;> intro hc
  ·
   iterate 7 refine zlo ?_
   refine zs2 ?_
   iterate 4 refine zlo ?_
   refine zlv xpt ?_
   refine zlt <| zct <| zsr ?_
   refine zlv xas ?_
   refine zlt <| zrt <| ztr <| zf1 ⟨_, rfl, ?_⟩
   refine ⟨false_B ?_, hS.nl⟩
   rintro ⟨g1, g2, g3, g4, g5⟩
   first
   | (rcases hvav91 with ⟨q1, _⟩ | ⟨_, _, _, q4⟩; exact absurd g1 q1; omega)
   | omega
   | (have h9 := g4 k hk0 (by omega); first | exact absurd h9.1 ‹_› | (have := h9.2; omega))
   | (have h9 := g5 i hi0 (by omega); have h8 := hf i hi0 (by omega); rw [show k = u by omega] at h8; omega)
  refine zlv (xfb 0 fd_36_0) ?_
  refine zlv (xlb 2 pl_22 hS) ?_
  refine zlv (xln sl_22 hX.slh) ?_
  refine zlv (xfb 0 fd_58_0) ?_
  refine zlv (xlb 1 pl_32 hS) ?_
  refine zlv (xln sl_32 hM.row.slh) ?_
  refine zs3 ?_
  refine zlb 33 ?_ ?_ <;> intro hc
  ·
   iterate 4 refine zlo ?_
   refine zlv xpt ?_
   refine zlt <| zct <| zsr ?_
   refine zlv xas ?_
   refine zlt <| zrt <| ztr <| zf1 ⟨_, rfl, ?_⟩
   refine ⟨false_B ?_, hS.nl⟩
   rintro ⟨g1, g2, g3, g4, g5⟩
   first
   | (rcases hvav91 with ⟨q1, _⟩ | ⟨_, _, _, q4⟩; exact absurd g1 q1; omega)
   | omega
   | (have h9 := g4 k hk0 (by omega); first | exact absurd h9.1 ‹_› | (have := h9.2; omega))
   | (have h9 := g5 i hi0 (by omega); have h8 := hf i hi0 (by omega); rw [show k = u by omega] at h8; omega)
  refine zlv (xfb 0 fd_36_0) ?_
  refine zlv (xlb 2 pl_22 hS) ?_
  refine zlv (xln sl_22 hX.slh) ?_
  refine zs2 ?_
  refine zlt ?_
  refine zcif ?_ ?_ <;> intro hc
  ·
   refine zsr ?_
   refine zlv xas ?_
   refine zlt <| zrt <| ztr <| zf1 ⟨_, rfl, ?_⟩
   refine ⟨false_B ?_, hS.nl⟩
   rintro ⟨g1, g2, g3, g4, g5⟩
   first
   | (rcases hvav91 with ⟨q1, _⟩ | ⟨_, _, _, q4⟩; exact absurd g1 q1; omega)
   | omega
   | (have h9 := g4 k hk0 (by omega); first | exact absurd h9.1 ‹_› | (have := h9.2; omega))
   | (have h9 := g5 i hi0 (by omega); have h8 := hf i hi0 (by omega); rw [show k = u by omega] at h8; omega)
  refine zsk <| ztn <| zsr ?_
  refine zlv (xfb 0 fd_39_0) ?_
  have hsd : SoundS s := by rcases hvav91 with ⟨_, _, _, q4⟩ | ⟨q1, _⟩; omega; exact q1
  obtain ⟨⟨d1, d2⟩, ⟨d3, d4⟩, d5⟩ := id hsd
  have hpm1 := hok.m1; have hpm2 := hok.m2; have hpd := hok.d
  refine zlv (xlb 0 pl_22 hS) ?_
  refine zlv (xln sl_22 h.L.slh) ?_
  refine zla (xmk sl_22 el_3 hS) ?_; rintro v1 w ⟨hS, hv1⟩
  replace hS := hS.n5
  refine zlv xas ?_
  refine zlt <| zsq <| zsr ?_
  refine zlv (xfb 0 fd_58_0) ?_
  refine zlv (xlb 1 pl_32 hS) ?_
  refine zlv (xln sl_32 hM.row.slh) ?_
  refine zlv xmv ?_
  refine zlt <| zbk <| zlp (fun mm M w => ∃ (f : Int → Int) (k : Int), mm = ((u - k).toNat) ∧ (0 ≤ k) ∧ (k ≤ u) ∧ (∀ i, 0 ≤ i → i < k → ProperP p (ml i) (mf i) ∧ (s.X i).tdiv s.den ≤ 1000) ∧ (∀ j, 0 ≤ j → j < p.m → f j = madeF k mf s.X j) ∧ M = [(2, .pointer (some ⟨g1, 0, none⟩)), (5, .pointer (some ⟨g3, 0, none⟩)), (8, v1), (44, vM), (45, .int .i64 u), (46, .int .i64 k)] ∧ Sat w0 w [.blk g1 [vL, vD, .int .i64 p.stock, .int .i64 p.kerf], .blk g2 [vM, vX, vY, .int .i64 s.val, .int .i64 s.den], .blk g3 [vX, vY, .int .i64 s.val, .int .i64 s.den], .blk g4 [.int .i64 xv91, .int .i64 yv91], .own v1 1 3 p.m (ints f)]) ⟨(fun _ => 0), 0, rfl, (by omega), (by omega), ?_, ?_, rfl, hS⟩ ?_
  ·
   intro i i0 i1; omega
  ·
   intro j _ _; rfl
  clear hS w
  rintro mm M w ⟨f, k, rfl, hk0, hk1, hall, hf, rfl, hS⟩
  refine zsr ?_
  refine zlv xlss ?_
  refine zlt <| zsq ?_
  refine zcif ?_ ?_ <;> intro hc
  ·
   refine zsk <| ztn <| zsq <| zbk <| zsr ?_
   refine zlv xmv ?_
   refine zlv (xix (kk := k) sl_32 hM.row.slh) ?_
   refine zlv (xlr (u := (mv k)) pl_22 (hM.row.below hS.below)) ?_
   have hXk9 := d5 k hk0 (by omega)
   have hqd := tdiv_abs (a := s.X k) (d := s.den) (A := 1073741824) (by omega) (by omega)
   refine zs2 ?_
   refine zlt <| zsq <| zsq ?_
   refine zdst [0, 1, 2, 3, 4] [0, 1, 2, 3, 4] 1000 mx_ hS ?_; clear hS; intro w hS
   refine zdla 0 (fun w hS => (xls 0 st_39 hS)) ?_
   refine zdv 1 (fun _ => xmv) ?_
   refine zdc 2 (xc0 cl_37) (c_pproper (p := p) w (h.below hS.below) ((hM.p k (by omega) (by omega)).below hS.below)) ?_; rintro _ w ⟨rfl, hS'⟩
   replace hS := hS.cmp hS'; clear hS'
   refine ⟨⟨fun _ => hS, hS⟩, ?_⟩
   refine zdv 3 (fun _ => xnot) ?_
   refine zdv 4 (fun _ => xmv) ?_
   refine zdb 55 ?_ ?_ <;> intro hc
   ·
    refine zdof 5 ?_
    refine zdof 6 ?_
    refine zdof 7 ?_
    refine zdof 8 ?_
    refine zdof 9 ?_
    refine zdof 10 ?_
    refine zdof 11 ?_
    refine zdof 12 ?_
    refine zdof 13 ?_
    refine zdv 14 (fun _ => xpt) ?_
    refine zdd <| ztn <| zct <| zsr ?_
    refine zlv xas ?_
    refine zlt <| zrt <| ztr <| zbr <| ztr <| ztr <| zbr <| ztr <| zf1 ⟨_, rfl, ?_⟩
    refine ⟨false_B ?_, hS.nl⟩
    rintro ⟨g1, g2, g3, g4, g5⟩
    first
    | (rcases hvav91 with ⟨q1, _⟩ | ⟨_, _, _, q4⟩; exact absurd g1 q1; omega)
    | omega
    | (have h9 := g4 k hk0 (by omega); first | exact absurd h9.1 ‹_› | (have := h9.2; omega))
    | (have h9 := g5 i hi0 (by omega); have h8 := hf i hi0 (by omega); rw [show k = u by omega] at h8; omega)
   refine zdv 5 (fun _ => (xfb 0 fd_36_0)) ?_
   refine zdla 6 (fun w hS => (xlb 2 pl_22 hS)) ?_
   refine zdv 7 (fun _ => xmv) ?_
   refine zdv 8 (fun _ => (xix (kk := k) sl_22 hX.slh)) ?_
   refine zdla 9 (fun w hS => (xlr (u := .int .i64 (s.X k)) pl_3 (hX.below hS.below))) ?_
   refine zdv 10 (fun _ => (xfb 3 fd_36_3)) ?_
   refine zdla 11 (fun w hS => (xlb 2 pl_3 hS)) ?_
   refine zdv 12 (fun _ => (xquo (r := (Int.tdiv (s.X k) s.den)))) ?_
   refine zdv 13 (fun _ => xgtr) ?_
   refine zdv 14 (fun _ => xpf) ?_
   refine zdd <| ztn ?_
   refine zcif ?_ ?_ <;> intro hc
   ·
    refine zsr ?_
    refine zlv xas ?_
    refine zlt <| zrt <| ztr <| zbr <| ztr <| ztr <| zbr <| ztr <| zf1 ⟨_, rfl, ?_⟩
    refine ⟨false_B ?_, hS.nl⟩
    rintro ⟨g1, g2, g3, g4, g5⟩
    first
    | (rcases hvav91 with ⟨q1, _⟩ | ⟨_, _, _, q4⟩; exact absurd g1 q1; omega)
    | omega
    | (have h9 := g4 k hk0 (by omega); first | exact absurd h9.1 ‹_› | (have := h9.2; omega))
    | (have h9 := g5 i hi0 (by omega); have h8 := hf i hi0 (by omega); rw [show k = u by omega] at h8; omega)
   refine zsk <| ztn <| zsr ?_
   refine zlv xmv ?_
   have hpk : ProperP p (ml k) (mf k) := by first | assumption | exact Classical.not_not.1 ‹_›
   have hrk := prop_rng hpk
   have hXk := d5 k hk0 (by omega)
   refine zlv (xln sl_22 (hM.p k (by omega) (by omega)).slh) ?_
   refine zlv xmv ?_
   refine zlt <| zbk <| zlp (fun mm M w => ∃ (f2 : Int → Int) (j : Int), mm = ((ml k - j).toNat) ∧ (0 ≤ j) ∧ (j ≤ ml k) ∧ (∀ q, 0 ≤ q → q < p.m → f2 q = (if q < j then madeF (k + 1) mf s.X q else madeF k mf s.X q)) ∧ M = [(2, .pointer (some ⟨g1, 0, none⟩)), (5, .pointer (some ⟨g3, 0, none⟩)), (8, v1), (9, .int .i64 k), (44, vM), (45, .int .i64 u), (46, .int .i64 k), (66, (mv k)), (67, .int .i64 (ml k)), (68, .int .i64 j)] ∧ Sat w0 w [.blk g1 [vL, vD, .int .i64 p.stock, .int .i64 p.kerf], .blk g2 [vM, vX, vY, .int .i64 s.val, .int .i64 s.den], .blk g3 [vX, vY, .int .i64 s.val, .int .i64 s.den], .blk g4 [.int .i64 xv91, .int .i64 yv91], .own v1 1 3 p.m (ints f2)]) ⟨f, 0, rfl, (by omega), (by omega), ?_, rfl, hS⟩ ?_
   ·
    intro q q0 q1; rw [if_neg (by omega)]; exact hf q q0 q1
   clear hS w
   rintro mm M w ⟨f2, j, rfl, hj0, hj1, hf2, rfl, hS⟩
   refine zsr ?_
   refine zlv xlss ?_
   refine zlt <| zsq ?_
   refine zcif ?_ ?_ <;> intro hc
   ·
    refine zsk <| ztn <| zsq <| zbk <| zsr ?_
    refine zlv xmv ?_
    refine zlv (xix (kk := j) sl_22 (hM.p k (by omega) (by omega)).slh) ?_
    refine zlv (xlr (u := .int .i64 ((mf k) j)) pl_3 ((hM.p k (by omega) (by omega)).below hS.below)) ?_
    have hrj := hrk.2 j hj0 (by omega)
    have hxj := mul_rng3 hrj.1 hrj.2 hXk.1 hXk.2
    have hmr := madeX_rng (m := p.m) (u := k) (fun i i0 i1 => ⟨(prop_rng (hall i i0 i1).1).2, d5 i i0 (by omega)⟩) hk0 (Int.le_refl _) (j := j) hj0 (by omega)
    have hfj := hf2 j hj0 (by omega)
    rw [if_neg (by omega)] at hfj
    refine zs2 ?_
    refine zlt ?_
    refine zdst [0, 1, 2, 3, 4] [0, 1, 2, 3] 13 mx_ hS ?_; clear hS; intro w hS
    refine zdv 0 (fun _ => xmv) ?_
    refine zdv 1 (fun _ => xmv) ?_
    refine zdv 2 (fun _ => (xix (kk := j) sl_22 hv1)) ?_
    refine zdl 3 (fun w hS => (xlr (u := .int .i64 (f2 j)) pl_3 (hS.rowN 4 rfl))) ?_
    refine zdv 4 (fun _ => xmv) ?_
    refine zdv 5 (fun _ => (xfb 0 fd_36_0)) ?_
    refine zdla 6 (fun w hS => (xlb 2 pl_22 hS)) ?_
    refine zdv 7 (fun _ => xmv) ?_
    refine zdv 8 (fun _ => (xix (kk := k) sl_22 hX.slh)) ?_
    refine zdla 9 (fun w hS => (xlr (u := .int .i64 (s.X k)) pl_3 (hX.below hS.below))) ?_
    refine zdv 10 (fun _ => (xmul (r := (((mf k) j) * (s.X k))) (e := rfl))) ?_
    refine zdv 11 (fun _ => (xadd (r := f2 j + (((mf k) j) * (s.X k))))) ?_
    refine zdv 12 (fun _ => (xix (kk := j) sl_22 hv1)) ?_
    refine zde 13 (xso 4 pl_3 hS (upd_ints _ _ _)) ?_; clear hS; rintro w hS
    replace hS := hS.n5
    refine ⟨⟨fun h => absurd h (by decide), hS.pk [0, 1, 2, 3]⟩, ?_⟩
    refine zdd <| zbn <| ztn <| zrg ?_
    refine zlv (xadd (r := j + 1)) ?_
    refine zlv xmv ?_
    refine zln <| zlq ⟨(upd f2 j (f2 j + (((mf k) j) * (s.X k)))), j + 1, rfl, (by omega), (by omega), ?_, rfl, hS⟩
    ·
     intro q q0 q1; unfold upd; by_cases e : q = j
     · rw [if_pos e, if_pos (by omega), e, madeF_next hk0]; omega
     · rw [if_neg e, hf2 q q0 q1]; by_cases e2 : q < j
       · rw [if_pos e2, if_pos (by omega)]
       · rw [if_neg e2, if_neg (by omega)]
   refine zxt <| ztx <| ztx <| zbh <| zbn <| ztn <| zrg ?_
   refine zlv (xadd (r := k + 1)) ?_
   refine zlv xmv ?_
   refine zln <| zlq ⟨f2, k + 1, rfl, (by omega), (by omega), ?_, ?_, rfl, hS⟩
   ·
    intro i i0 i1; rcases Int.lt_or_eq_of_le (show i ≤ k by omega) with h9 | h9
    · exact hall i i0 h9
    · rw [h9]; exact ⟨hpk, by omega⟩
   ·
    intro q q0 q1; rw [hf2 q q0 q1, if_pos (by omega)]
  refine zxt <| ztx <| ztx <| zbh <| ztn <| zsq <| zsr ?_
  refine zlv xmv ?_
  refine zlv (xln sl_22 hv1) ?_
  refine zlv xmv ?_
  refine zlt <| zbk <| zlp (fun mm M w => ∃ (i : Int), mm = ((p.m - i).toNat) ∧ (0 ≤ i) ∧ (i ≤ p.m) ∧ (∀ j, 0 ≤ j → j < i → p.D j * s.den ≤ f j) ∧ M = [(2, .pointer (some ⟨g1, 0, none⟩)), (5, .pointer (some ⟨g3, 0, none⟩)), (88, v1), (89, .int .i64 p.m), (90, .int .i64 i)] ∧ Sat w0 w [.blk g1 [vL, vD, .int .i64 p.stock, .int .i64 p.kerf], .blk g2 [vM, vX, vY, .int .i64 s.val, .int .i64 s.den], .blk g3 [vX, vY, .int .i64 s.val, .int .i64 s.den], .blk g4 [.int .i64 xv91, .int .i64 yv91], .own v1 1 3 p.m (ints f)]) ⟨0, rfl, (by omega), (by omega), ?_, rfl, hS⟩ ?_
  ·
   intro j j0 j1; omega
  clear hS w
  rintro mm M w ⟨i, rfl, hi0, hi1, hge, rfl, hS⟩
  refine zsr ?_
  refine zlv xlss ?_
  refine zlt <| zsq ?_
  refine zcif ?_ ?_ <;> intro hc
  ·
   refine zsk <| ztn <| zsq <| zbk <| zsr ?_
   refine zlv xmv ?_
   refine zlv (xix (kk := i) sl_22 hv1) ?_
   refine zlv (xlr (u := .int .i64 (f i)) pl_3 (hS.rowN 4 rfl)) ?_
   have hdd := dnn9 hok hi0 (by omega : i < p.m)
   have hdm := mul_rng3 hdd.1 hdd.2 (show 0 ≤ s.den by omega) d2
   refine zs2 ?_
   refine zlt <| zsq ?_
   refine zdst [0, 1, 2, 3, 4] [0, 1, 2, 3, 4] 1000 mx_ hS ?_; clear hS; intro w hS
   refine zdv 0 (fun _ => xmv) ?_
   refine zdv 1 (fun _ => (xfb 1 fd_39_1)) ?_
   refine zdla 2 (fun w hS => (xlb 0 pl_22 hS)) ?_
   refine zdv 3 (fun _ => xmv) ?_
   refine zdv 4 (fun _ => (xix (kk := i) sl_22 h.D.slh)) ?_
   refine zdla 5 (fun w hS => (xlr (u := .int .i64 (p.D i)) pl_3 (h.D.below hS.below))) ?_
   have hbv := h.iD i
   refine zdv 6 (fun _ => (xfb 3 fd_36_3)) ?_
   refine zdla 7 (fun w hS => (xlb 2 pl_3 hS)) ?_
   refine zdv 8 (fun _ => (xmul (r := ((p.D i) * s.den)) (e := rfl))) ?_
   refine zdv 9 (fun _ => xlss) ?_
   refine zdd <| ztn ?_
   refine zcif ?_ ?_ <;> intro hc
   ·
    refine zsr ?_
    refine zlv xas ?_
    refine zlt <| zrt <| zbr <| ztr <| ztr <| zbr <| ztr <| zf1 ⟨_, rfl, ?_⟩
    refine ⟨false_B ?_, hS.nl⟩
    rintro ⟨g1, g2, g3, g4, g5⟩
    first
    | (rcases hvav91 with ⟨q1, _⟩ | ⟨_, _, _, q4⟩; exact absurd g1 q1; omega)
    | omega
    | (have h9 := g4 k hk0 (by omega); first | exact absurd h9.1 ‹_› | (have := h9.2; omega))
    | (have h9 := g5 i hi0 (by omega); have h8 := hf i hi0 (by omega); rw [show k = u by omega] at h8; omega)
   refine zsk <| zbn <| ztn <| zrg ?_
   refine zlv (xadd (r := i + 1)) ?_
   refine zlv xmv ?_
   refine zln <| zlq ⟨i + 1, rfl, (by omega), (by omega), ?_, rfl, hS⟩
   ·
    intro j j0 j1; rcases Int.lt_or_eq_of_le (show j ≤ i by omega) with h9 | h9
    · exact hge j j0 h9
    · rw [h9]; omega
  refine zxt <| ztx <| ztx <| zbh <| ztn <| zsr ?_
  refine zlv xas ?_
  refine zlt <| zrt <| zf1 ⟨_, rfl, ?_⟩
  exact ⟨true_B ⟨hsd, by omega, by omega, fun k k0 k1 => hall k k0 (by omega), fun j j0 j1 => by have h9 := hge j j0 (by omega); have h8 := hf j j0 j1; rw [show k = u by omega] at h8; omega⟩, hS.nl⟩
theorem fl_at (s : So) (ml : Int → Int) (mf : Int → Int → Int) : ∀ n : Nat, ∀ k, 0 ≤ k → k < flN s n → ∃ q : Nat, q < n ∧ s.den ≤ s.X q ∧ flL s ml n k = ml q ∧ flG s mf n k = mf q ∧ flC s n k = (s.X q).tdiv s.den
  | 0, k, k0, k1 => by simp [flN] at k1; omega
  | n + 1, k, k0, k1 => by
    simp only [flN, flL, flG, flC] at k1 ⊢
    by_cases h : s.den ≤ s.X n
    · rw [if_pos h] at k1 ⊢
      rw [if_pos h, if_pos h]
      by_cases e : k < flN s n
      · obtain ⟨q, h1, h2, h3, h4, h5⟩ := fl_at s ml mf n k k0 e
        exact ⟨q, by omega, h2, by rw [gsn_lt e]; exact h3, by rw [gsn_lt e]; exact h4, by rw [snoc_lt e]; exact h5⟩
      · exact ⟨n, by omega, h, gsn_at e, gsn_at e, snoc_at e⟩
    · rw [if_neg h] at k1 ⊢
      rw [if_neg h, if_neg h]
      obtain ⟨q, h1, h2, h3, h4, h5⟩ := fl_at s ml mf n k k0 k1
      exact ⟨q, by omega, h2, h3, h4, h5⟩
def WholeR (p : Prob) (u : Int) (ml : Int → Int) (mf : Int → Int → Int) (s : So) (n : Int) (ln : Int → Int) (pt : Int → Int → Int) (cnt : Int → Int) (e : Int) : Prop :=
  (¬ (p.Ok ∧ FitR p u ml mf s) ∧ n = 0 ∧ e = 1) ∨ (p.Ok ∧ FitR p u ml mf s ∧ ChkR p e ∧ e ≠ 0 ∧ n = 0) ∨
  (p.Ok ∧ FitR p u ml mf s ∧ ChkR p 0 ∧ e = 0 ∧ n = flN s u.toNat ∧ ln = flL s ml u.toNat ∧ pt = flG s mf u.toNat ∧ cnt = flC s u.toNat)
theorem WholeR.ok {p : Prob} {u n : Int} {ml ln cnt : Int → Int} {mf pt : Int → Int → Int} {s : So} {e : Int} (h : WholeR p u ml mf s n ln pt cnt e) (he : e = 0) (hu : 0 ≤ u) : p.Ok ∧ FitR p u ml mf s ∧ psum (fun _ => 1) p.D p.m.toNat ≤ 1000 ∧ n ≤ 60 ∧ PlanOk p n ln pt cnt ∧ 0 ≤ n := by
  rcases h with ⟨_, _, h⟩ | ⟨_, _, _, h, _⟩ | ⟨h1, h2, h3, _, h4, h5, h6, h7⟩
  · omega
  · exact absurd he h
  · have hr := flN_rng s u.toNat
    have hu6 := h2.2.2.1
    refine ⟨h1, h2, ?_, by omega, ⟨h1, by omega, fun k k0 k1 => ?_⟩, by omega⟩
    · rcases h3 with ⟨h, _⟩ | ⟨_, _, h⟩ | ⟨_, h, _⟩
      · exact absurd h1 h
      · omega
      · exact h
    · rw [h4] at k1
      obtain ⟨q, q1, q2, q3, q4, q5⟩ := fl_at s ml mf u.toNat k k0 k1
      rw [h5, h6, h7, q3, q4, q5]
      obtain ⟨g1, g2⟩ := h2.2.2.2.1 q (by omega) (by omega)
      have hd := h2.1.1
      refine ⟨?_, g2, g1.1⟩
      rw [Int.tdiv_eq_ediv_of_nonneg (by omega)]
      exact (Int.le_ediv_iff_mul_le (by omega)).2 (by omega)
theorem leftP_ok {p : Prob} (hok : p.Ok) {f : Int → Int} (hf : ∀ k, 0 ≤ k → k < p.m → 0 ≤ f k) : (⟨p.m, p.L, p.d, leftF p f, p.stock, p.kerf⟩ : Prob).Ok := by
  refine ⟨hok.m1, hok.m2, hok.d, hok.s1, hok.s2, hok.k1, hok.k2, fun i i0 i1 => ?_⟩
  have he := hok.all i i0 i1
  have h1 := dnn9 hok i0 i1
  have h2 := hf i i0 i1
  unfold Prob.each at he ⊢
  have e : leftF p f i = max 0 (p.D i - f i) := if_pos ⟨i0, i1⟩
  show _ ∧ _
  dsimp only
  rw [e]
  omega
theorem leftP_tot {p : Prob} (hok : p.Ok) {f : Int → Int} (hf : ∀ k, 0 ≤ k → k < p.m → 0 ≤ f k) : ∀ n : Nat, (n : Int) ≤ p.m → psum (fun _ => 1) (leftF p f) n ≤ psum (fun _ => 1) p.D n
  | 0, _ => Int.le_refl _
  | n + 1, hn => by
    have h1 := leftP_tot hok hf n (by omega)
    have h2 := hf n (by omega) (by omega)
    have h3 := dnn9 hok (k := (n : Int)) (by omega) (by omega)
    have e : leftF p f n = max 0 (p.D n - f n) := if_pos ⟨by omega, by omega⟩
    simp only [psum, e]
    omega
set_option maxHeartbeats 4000000 in
set_option maxRecDepth 20000 in
theorem c_whole {vL vD : Value} {p : Prob} {vM : Value} {u : Int} {mv : Int → Value} {ml : Int → Int} {mf : Int → Int → Int} {vX vY : Value} {s : So} (w0 : World) (h : PAt w0 vL vD p) (hM : MAt w0 vM u mv ml mf) (hX : Row w0 vX 1 s.n (ints s.X)) (hY : Row w0 vY 1 s.m (ints s.Y)) (hn60 : s.n ≤ 1000) :
    Calls Try.prog 48 [.agg #[vL, vD, .int .i64 p.stock, .int .i64 p.kerf], .agg #[vM, vX, vY, .int .i64 s.val, .int .i64 s.den]].toArray w0 fun e w => ∃ v, e = .returned v ∧ ∃ r n pv ln pt cnt e, v = .tuple #[r, .int .i64 e] ∧ WholeR p u ml mf s n ln pt cnt e ∧ Slh r n ∧ Sat w0 w [.own r 2 50 n (ucells pv cnt), .sem (Frame.rows 3 n pv ln pt)] := by
  have hm := h.L.slh.n0; have hm1 := h.L.slh.n1; have hd := h.D.slh.n0; have hd1 := h.D.slh.n1; have hs := h.is; have hk := h.ik
  have hu := hM.row.slh.n0; have hu1 := hM.row.slh.n1; have hn := hX.slh.n0; have hn1 := hX.slh.n1
  refine zenG Try.func48 Try.ntmps48 fun w hS => ?_
  refine zsr ?_
  refine zla (xbx (cs := [_, _, _, _]) hS) ?_; rintro _ w ⟨g1, rfl, hS⟩
  replace hS := hS.n1
  refine zla (xbx (cs := [_, _, _, _, _]) hS) ?_; rintro _ w ⟨g2, rfl, hS⟩
  replace hS := hS.n2
  refine zs2 ?_
  refine zlt <| zsq <| zsr ?_
  refine zlv (xls 0 st_39 hS) ?_
  refine zlc (xc0 cl_34) (c_pvalid (p := p) w (h.below hS.below)) ?_; rintro _ w ⟨rfl, hS'⟩
  replace hS := hS.cmp hS'; clear hS'
  refine zs2 ?_
  refine zlb 12 ?_ ?_ <;> intro hc
  ·
   iterate 4 refine zlo ?_
   refine zlv xpt ?_
   refine zlt <| zct <| zsr ?_
   refine zs2 ?_
   refine zlt <| zrt <| ztr <| zf2 ⟨_, rfl, ?_⟩
   exact ⟨_, 0, fun _ => undef, fun _ => 0, fun _ _ => 0, fun _ => 0, 1, rfl, .inl ⟨by first | exact fun hh => absurd hh.1 ‹¬ p.Ok› | exact fun hh => absurd hh.2 ‹_›, rfl, rfl⟩, slh_nil, ((hS.sub (.cons _ (.cons _ .slnil))).addnil 2 50 (ucells (fun _ => undef) (fun _ => 0))).addrows 3 (fun _ => undef) (fun _ => 0) (fun _ _ => 0)⟩
  refine zlv (xls 0 st_39 hS) ?_
  refine zlv (xls 1 st_58 hS) ?_
  refine zlc (xc0 cl_81) (c_fitting (p := p) (u := u) (ml := ml) (mf := mf) (s := s) w (h.below hS.below) (by first | assumption | exact Classical.not_not.1 ‹_›) (hM.below hS.below) (hX.below hS.below) (hY.below hS.below) hn60) ?_; rintro _ w ⟨rfl, hS'⟩
  replace hS := hS.cmp hS'; clear hS'
  refine zs2 ?_
  refine zlt ?_
  refine zcif ?_ ?_ <;> intro hc
  ·
   refine zsr ?_
   refine zs2 ?_
   refine zlt <| zrt <| ztr <| zf2 ⟨_, rfl, ?_⟩
   exact ⟨_, 0, fun _ => undef, fun _ => 0, fun _ _ => 0, fun _ => 0, 1, rfl, .inl ⟨by first | exact fun hh => absurd hh.1 ‹¬ p.Ok› | exact fun hh => absurd hh.2 ‹_›, rfl, rfl⟩, slh_nil, ((hS.sub (.cons _ (.cons _ .slnil))).addnil 2 50 (ucells (fun _ => undef) (fun _ => 0))).addrows 3 (fun _ => undef) (fun _ => 0) (fun _ _ => 0)⟩
  refine zsk <| ztn <| zsq <| zsr ?_
  refine zlv (xls 0 st_39 hS) ?_
  refine zlc (xc0 cl_44) (c_chk34 (p := p) w (h.below hS.below)) ?_; rintro _ w ⟨eck1, rfl, hck1, hS'⟩
  replace hS := hS.cmp hS'; clear hS'
  have hokp : p.Ok := by first | assumption | exact Classical.not_not.1 ‹_›
  have hfitt : FitR p u ml mf s := by first | assumption | exact Classical.not_not.1 ‹_›
  have hok9 := hokp
  refine zlv xas ?_
  refine zlz ?_
  refine zs2 ?_
  refine zlt ?_
  refine zcif ?_ ?_ <;> intro hc
  ·
   refine zsr ?_
   refine zs3 ?_
   refine zlt <| zrt <| ztr <| zf2 ⟨_, rfl, ?_⟩
   exact ⟨_, 0, fun _ => undef, fun _ => 0, fun _ _ => 0, fun _ => 0, _, rfl, .inr (.inl ⟨hokp, hfitt, hck1, by omega, rfl⟩), slh_nil, ((hS.sub (.cons _ (.cons _ .slnil))).addnil 2 50 (ucells (fun _ => undef) (fun _ => 0))).addrows 3 (fun _ => undef) (fun _ => 0) (fun _ _ => 0)⟩
  refine zsk <| ztn <| zsr ?_
  refine zlv (xfb 0 fd_58_0) ?_
  have hml := fun k k0 k1 => (show ml k ≤ 100000 by have := (prop_rng (hfitt.2.2.2.1 k k0 k1).1).1; have := hokp.m2; omega)
  have hun := hfitt.2.1
  refine zlv (xlb 1 pl_32 hS) ?_
  refine zlv (xfb 1 fd_58_1) ?_
  refine zlv (xlp 1 (ds := [vX, vY, .int .i64 s.val, .int .i64 s.den]) st_36 hS) ?_
  refine zlc (xc0 cl_14) (c_floor30 (u := u) (ml := ml) (mf := mf) (s := s) w (hM.below hS.below) (hX.below hS.below) (hY.below hS.below) (by omega) (fun k k0 k1 => by have := hml k k0 k1; omega)) ?_; rintro _ w ⟨vffl1, fnfl1, fvfl1, flfl1, fgfl1, fcfl1, fefl1, rfl, hflfl1, hvffl1, hS'⟩
  replace hS : Sat w0 w [.blk g1 [vL, vD, .int .i64 p.stock, .int .i64 p.kerf], .blk g2 [vM, vX, vY, .int .i64 s.val, .int .i64 s.den], .own vffl1 2 50 fnfl1 (ucells fvfl1 fcfl1), .sem (Frame.rows 3 fnfl1 fvfl1 flfl1 fgfl1)] := hS.comp hS'; clear hS'
  have hfrfl1 := fun k (k0 : 0 ≤ k) (k1 : k < fnfl1) => hS.slhIn 3 rfl k0 k1
  refine zs5 ?_
  refine zlz ?_
  refine zs3 ?_
  refine zlt <| zrt <| zf2 ⟨_, rfl, ?_⟩
  have hfl := hflfl1.resolve_left fun hh => hh.1 ⟨hfitt.1, hfitt.2.1.symm⟩
  exact ⟨_, _, _, _, _, _, 0, rfl, .inr (.inr ⟨hokp, hfitt, (by rw [show (0 : Int) = eck1 by omega]; exact hck1), rfl, hfl.2.2.1, hfl.2.2.2.1, hfl.2.2.2.2.1, hfl.2.2.2.2.2.1⟩), hvffl1, hS.pk [2, 3]⟩
theorem row2p {w : World} {v a b : Value} (h : Row w v 1 2 (fun k => [a, b].getD k.toNat undef)) : Row w v 1 2 (pair2 a b) := ⟨h.1, fun k hk => by
  have := h.2 k hk
  rcases k with _ | _ | k
  · exact this
  · exact this
  · simp at hk; omega⟩
theorem VAt.cat {w : World} {v v1 v2 : Value} {n1 n2 : Int} {pv1 pv2 : Int → Value} {ln1 ln2 c1 c2 : Int → Int} {pt1 pt2 : Int → Int → Int} (hr : Row w v 2 (n1 + n2) (ucells (cat n1 pv1 pv2) (cat n1 c1 c2))) (h1 : VAt w v1 n1 pv1 ln1 pt1 c1) (h2 : VAt w v2 n2 pv2 ln2 pt2 c2) (n10 : 0 ≤ n1) : VAt w v (n1 + n2) (cat n1 pv1 pv2) (cat n1 ln1 ln2) (cat n1 pt1 pt2) (cat n1 c1 c2) := by
  refine ⟨hr, fun i i0 i1 => ?_, fun i i0 i1 => ?_⟩
  · unfold Gw.cat
    by_cases h : i < n1
    · rw [if_pos h, if_pos h, if_pos h]; exact h1.p i i0 h
    · rw [if_neg h, if_neg h, if_neg h]; exact h2.p (i - n1) (by omega) (by omega)
  · unfold Gw.cat
    by_cases h : i < n1
    · rw [if_pos h]; exact h1.room i i0 h
    · rw [if_neg h]; exact h2.room (i - n1) (by omega) (by omega)
theorem catG2 (n m : Int) (p q : Int → Value) {k : Int} (k0 : 0 ≤ k) (k1 : k < n + m) : catG (pair2 n m) (pair2 p q) 2 k = cat n p q k := by
  simp only [catG, tot, pair2, Gw.cat]
  by_cases h : k < n
  · simp [h]; omega
  · simp [h]
theorem catN2 (n m : Int) (p q : Int → Int) {k : Int} (k0 : 0 ≤ k) (k1 : k < n + m) : catN (pair2 n m) (pair2 p q) 2 k = cat n p q k := by
  simp only [catN, tot, pair2, Gw.cat]
  by_cases h : k < n
  · simp [h]; omega
  · simp [h]
def DownR (p : Prob) (u : Int) (ml : Int → Int) (mf : Int → Int → Int) (s : So) (out : Us) (e : Int) : Prop :=
  (e ≠ 0 ∧ out = [] ∧ ∃ n ln pt cnt, WholeR p u ml mf s n ln pt cnt e) ∨ (∃ n1 ln1 pt1 cnt1 n2 ln2 pt2 cnt2, WholeR p u ml mf s n1 ln1 pt1 cnt1 0 ∧ 0 ≤ n1 ∧ 0 ≤ n2 ∧ NormR (ones (ffRun p.m (p.stock + p.kerf) (szP p) (pcsTo (leftF p (madeF n1 pt1 cnt1)) p.m 0))) (plL n2 ln2 pt2 cnt2) ∧ TrimR p (n1 + n2) (cat n1 ln1 ln2) (cat n1 pt1 pt2) (cat n1 cnt1 cnt2) out e)
set_option maxHeartbeats 4000000 in
set_option maxRecDepth 20000 in
theorem c_down {vL vD : Value} {p : Prob} {vM : Value} {u : Int} {mv : Int → Value} {ml : Int → Int} {mf : Int → Int → Int} {vX vY : Value} {s : So} (w0 : World) (h : PAt w0 vL vD p) (hM : MAt w0 vM u mv ml mf) (hX : Row w0 vX 1 s.n (ints s.X)) (hY : Row w0 vY 1 s.m (ints s.Y)) (hn60 : s.n ≤ 1000) :
    Calls Try.prog 21 [.agg #[vL, vD, .int .i64 p.stock, .int .i64 p.kerf], .agg #[vM, vX, vY, .int .i64 s.val, .int .i64 s.den]].toArray w0 fun e w => ∃ v, e = .returned v ∧ ∃ r n pv ln pt cnt e, v = .tuple #[r, .int .i64 e] ∧ DownR p u ml mf s (plL n ln pt cnt) e ∧ (∀ k, 0 ≤ k → k < n → 1 ≤ cnt k ∧ cnt k ≤ 1000000000) ∧ n ≤ 1000000 ∧ Slh r n ∧ Sat w0 w [.own r 2 50 n (ucells pv cnt), .sem (Frame.rows 3 n pv ln pt)] := by
  have hm := h.L.slh.n0; have hm1 := h.L.slh.n1; have hd := h.D.slh.n0; have hd1 := h.D.slh.n1; have hs := h.is; have hk := h.ik
  have hu := hM.row.slh.n0; have hu1 := hM.row.slh.n1; have hn := hX.slh.n0; have hn1 := hX.slh.n1
  refine zenG Try.func21 Try.ntmps21 fun w hS => ?_
  refine zsr ?_
  refine zla (xbx (cs := [_, _, _, _]) hS) ?_; rintro _ w ⟨g1, rfl, hS⟩
  replace hS := hS.n1
  refine zla (xbx (cs := [_, _, _, _, _]) hS) ?_; rintro _ w ⟨g2, rfl, hS⟩
  replace hS := hS.n2
  refine zs2 ?_
  refine zlz ?_
  refine zlv (xls 0 st_39 hS) ?_
  refine zlv (xls 1 st_58 hS) ?_
  refine zlc (xc0 cl_48) (c_whole (p := p) (u := u) (ml := ml) (mf := mf) (s := s) w (h.below hS.below) (hM.below hS.below) (hX.below hS.below) (hY.below hS.below) hn60) ?_; rintro _ w ⟨vnwh1, nnwh1, pnwh1, lnwh1, gnwh1, cnwh1, enwh1, rfl, hwhwh1, hvnwh1, hS'⟩
  replace hS : Sat w0 w [.blk g1 [vL, vD, .int .i64 p.stock, .int .i64 p.kerf], .blk g2 [vM, vX, vY, .int .i64 s.val, .int .i64 s.den], .own vnwh1 2 50 nnwh1 (ucells pnwh1 cnwh1), .sem (Frame.rows 3 nnwh1 pnwh1 lnwh1 gnwh1)] := hS.comp hS'; clear hS'
  have hrnwh1 := fun k (k0 : 0 ≤ k) (k1 : k < nnwh1) => hS.slhIn 3 rfl k0 k1
  refine zs5 ?_
  refine zlt <| zsq <| zsr ?_
  refine zs2 ?_
  refine zlt ?_
  refine zcif ?_ ?_ <;> intro hc
  ·
   refine zsr ?_
   refine zs3 ?_
   refine zlt <| zrt <| ztr <| zf2 ⟨_, rfl, ?_⟩
   exact ⟨_, 0, fun _ => undef, fun _ => 0, fun _ _ => 0, fun _ => 0, _, rfl, .inl ⟨by omega, rfl, _, _, _, _, hwhwh1⟩, fun k k0 k1 => by omega, by omega, slh_nil, ((hS.sub (.cons _ (.cons _ (.cons _ (.cons _ .slnil))))).addnil 2 50 (ucells (fun _ => undef) (fun _ => 0))).addrows 3 (fun _ => undef) (fun _ => 0) (fun _ _ => 0)⟩
  refine zsk <| ztn <| zsr ?_
  refine zlv (xls 0 st_39 hS) ?_
  obtain ⟨hokp, hfitt, htot, hn60w, hplw, hn19⟩ := hwhwh1.ok (by omega) hu
  have hok9 := hokp
  refine zlv xmv ?_
  refine zlc (xc0 cl_49) (c_pmade (u := nnwh1) (pv := pnwh1) (ln := lnwh1) (pt := gnwh1) (cnt := cnwh1) (p := p) w (⟨(hS.rowN 2 rfl), fun k k0 k1 => hS.rowIn 3 rfl k0 k1, fun k k0 k1 => hS.roomIn 3 rfl k0 k1⟩ : VAt _ vnwh1 nnwh1 pnwh1 lnwh1 gnwh1 cnwh1) (h.below hS.below)) ?_; rintro _ w ⟨vdmd1, ndmd1, fdmd1, edmd1, rfl, hmdmd1, hvdmd1, hS'⟩
  replace hS : Sat w0 w [.blk g1 [vL, vD, .int .i64 p.stock, .int .i64 p.kerf], .blk g2 [vM, vX, vY, .int .i64 s.val, .int .i64 s.den], .own vnwh1 2 50 nnwh1 (ucells pnwh1 cnwh1), .sem (Frame.rows 3 nnwh1 pnwh1 lnwh1 gnwh1), .own vdmd1 1 3 ndmd1 (ints fdmd1)] := hS.comp hS'; clear hS'
  obtain ⟨hnd9, hfd9⟩ : ndmd1 = p.m ∧ fdmd1 = madeF nnwh1 gnwh1 cnwh1 := by rcases hmdmd1 with ⟨g1, _⟩ | ⟨_, g2, g3, _⟩; exact absurd hplw g1; exact ⟨g2, g3⟩
  have hfbb : ∀ k, 0 ≤ k → k < p.m → 0 ≤ fdmd1 k ∧ fdmd1 k ≤ 2000000000 := fun k k0 k1 => by rw [hfd9]; have h9 := madeF_rng hplw.2.2 hn19 (Int.le_refl _) k0 k1; omega
  have hfb9 := fun k (k0 : 0 ≤ k) (k1 : k < p.m) => (hfbb k k0 k1).1
  have htl := leftP_tot hokp hfb9 p.m.toNat (by have := hokp.m1; omega)
  refine zs5 ?_
  refine zlt <| zsq ?_
  refine zdst [0, 1, 2, 3, 4] [0, 1, 2, 3, 4] 1000 mx_ hS ?_; clear hS; intro w hS
  refine zdla 0 (fun w hS => (xls 0 st_39 hS)) ?_
  refine zdv 1 (fun _ => xmv) ?_
  refine zdla 2 (fun w hS => (xls 0 st_39 hS)) ?_
  refine zdv 3 (fun _ => xmv) ?_
  refine zdc 4 (xc0 cl_52) (c_left (p := p) (f := fdmd1) w (h.below hS.below) hokp (hnd9 ▸ (hS.rowN 4 rfl)) hfbb) ?_; rintro _ w ⟨vllf1, wllf1, rfl, hvllf1, hwllf1, hS'⟩
  replace hS : Sat w0 w [.blk g1 [vL, vD, .int .i64 p.stock, .int .i64 p.kerf], .blk g2 [vM, vX, vY, .int .i64 s.val, .int .i64 s.den], .own vnwh1 2 50 nnwh1 (ucells pnwh1 cnwh1), .sem (Frame.rows 3 nnwh1 pnwh1 lnwh1 gnwh1), .own vdmd1 1 3 ndmd1 (ints fdmd1), .own vllf1 1 3 p.m (ints p.L), .own wllf1 1 3 p.d (ints (leftF p fdmd1))] := hS.comp hS'; clear hS'
  refine ⟨⟨fun _ => hS.pk [0, 1, 2, 3, 4], hS.pk [0, 1, 2, 3, 4]⟩, ?_⟩
  refine zdc 5 (xc0 cl_45) (c_firstfit (p := (⟨p.m, p.L, p.d, (leftF p fdmd1), p.stock, p.kerf⟩ : Prob)) w (⟨(hS.rowN 5 rfl), (hS.rowN 6 rfl), h.iL, (leftF_bnd hokp hfb9), (by (try dsimp only); omega), (by (try dsimp only); omega)⟩ : PAt _ _ _ (⟨p.m, p.L, p.d, (leftF p fdmd1), p.stock, p.kerf⟩ : Prob)) (leftP_ok hokp hfb9) (by show psum (fun _ => 1) (leftF p _) p.m.toNat ≤ 1000; omega)) ?_; rintro vnn1 w ⟨_, nnn1, pnn1, lnn1, gnn1, cnn1, rfl, hnrn1, hn0n1, hn1n1, hncn1, hvnn1, hS'⟩
  replace hS : Sat w0 w [.blk g1 [vL, vD, .int .i64 p.stock, .int .i64 p.kerf], .blk g2 [vM, vX, vY, .int .i64 s.val, .int .i64 s.den], .own vnwh1 2 50 nnwh1 (ucells pnwh1 cnwh1), .sem (Frame.rows 3 nnwh1 pnwh1 lnwh1 gnwh1), .own vdmd1 1 3 ndmd1 (ints fdmd1), .own vllf1 1 3 p.m (ints p.L), .own wllf1 1 3 p.d (ints (leftF p fdmd1)), .own vnn1 2 50 nnn1 (ucells pnn1 cnn1), .sem (Frame.rows 3 nnn1 pnn1 lnn1 gnn1)] := hS.comp hS'; clear hS'
  have hrnn1 := fun k (k0 : 0 ≤ k) (k1 : k < nnn1) => hS.slhIn 8 rfl k0 k1
  refine ⟨⟨fun _ => hS.pk [0, 1, 2, 3, 4], hS.pk [0, 1, 2, 3, 4]⟩, ?_⟩
  refine zda 6 (xli (n := 2) (len := 2) (pv := [(0, vnwh1), (1, vnn1)]) (cs := [vnwh1, vnn1]) (c := fun k => ([(vnwh1 : Value), (vnn1 : Value)]).getD k.toNat undef) sl_129 el_43 hS (hf := by obtain ⟨_, _, _, _, rfl, _⟩ := hvnwh1; obtain ⟨_, _, _, _, rfl, _⟩ := hvnn1; kernel_rfl)) ?_; rintro v1 w ⟨hS, hv1⟩
  replace hS := hS.n10
  refine ⟨⟨fun _ => hS.pk [0, 1, 2, 3, 4], hS.pk [0, 1, 2, 3, 4]⟩, ?_⟩
  have hna := nut2 (w := w) (n := nnwh1) (m := nnn1) (pa := pnwh1) (pb := pnn1) (ca := cnwh1) (cb := cnn1) (row2p (hS.rowN 9 rfl)) (hS.rowN 2 rfl) (hS.rowN 7 rfl) (fun k k0 k1 => (hrnwh1 k k0 k1).one) (fun k k0 k1 => (hrnn1 k k0 k1).one)
  have htt : ∀ k : Int, 0 ≤ k → k ≤ 2 → tot (pair2 nnwh1 nnn1) k.toNat ≤ 10000000 := fun k k0 k1 => by
    have : k = 0 ∨ k = 1 ∨ k = 2 := by omega
    rcases this with rfl | rfl | rfl
    · simp [tot]
    · simp [tot, pair2]; omega
    · have e2 := tot2 nnwh1 nnn1; rw [show (2 : Int).toNat = 2 from rfl, e2]; omega
  refine zdc 7 (xc0 cl_51) (c_concatU w hna htt) ?_; rintro vq1 w ⟨_, rfl, hslq1, hS'⟩
  rw [show (2 : Int).toNat = 2 from rfl, tot2] at hslq1 hS'
  replace hS' := hS'.recont 0 rfl (d := ucells (cat nnwh1 pnwh1 pnn1) (cat nnwh1 cnwh1 cnn1)) (fun k k0 k1 => by unfold ucells; rw [catG2 _ _ _ _ (by omega) (by omega), catN2 _ _ _ _ (by omega) (by omega)])
  replace hS : Sat w0 w [.blk g1 [vL, vD, .int .i64 p.stock, .int .i64 p.kerf], .blk g2 [vM, vX, vY, .int .i64 s.val, .int .i64 s.den], .own vnwh1 2 50 nnwh1 (ucells pnwh1 cnwh1), .sem (Frame.rows 3 nnwh1 pnwh1 lnwh1 gnwh1), .own vdmd1 1 3 ndmd1 (ints fdmd1), .own vllf1 1 3 p.m (ints p.L), .own wllf1 1 3 p.d (ints (leftF p fdmd1)), .own vnn1 2 50 nnn1 (ucells pnn1 cnn1), .sem (Frame.rows 3 nnn1 pnn1 lnn1 gnn1), .own v1 1 43 2 (fun k => ([(vnwh1 : Value), (vnn1 : Value)]).getD k.toNat undef), .own vq1 2 50 (nnwh1 + nnn1) (ucells (cat nnwh1 pnwh1 pnn1) (cat nnwh1 cnwh1 cnn1))] := hS.comp hS'
  clear hS'
  refine ⟨⟨fun _ => hS.pk [0, 1, 2, 3, 4], hS.pk [0, 1, 2, 3, 4]⟩, ?_⟩
  refine zdc 8 (xc0 cl_50) (c_trim (u := (nnwh1 + nnn1)) (pv := (cat nnwh1 pnwh1 pnn1)) (ln := (cat nnwh1 lnwh1 lnn1)) (pt := (cat nnwh1 gnwh1 gnn1)) (cnt := (cat nnwh1 cnwh1 cnn1)) (p := p) w (VAt.cat (hS.rowN 10 rfl) (⟨(hS.rowN 2 rfl), fun k k0 k1 => hS.rowIn 3 rfl k0 k1, fun k k0 k1 => hS.roomIn 3 rfl k0 k1⟩ : VAt _ vnwh1 nnwh1 pnwh1 lnwh1 gnwh1 cnwh1) (⟨(hS.rowN 7 rfl), fun k k0 k1 => hS.rowIn 8 rfl k0 k1, fun k k0 k1 => hS.roomIn 8 rfl k0 k1⟩ : VAt _ vnn1 nnn1 pnn1 lnn1 gnn1 cnn1) (by omega)) (h.below hS.below)) ?_; rintro _ w ⟨vntr1, nntr1, pntr1, lntr1, gntr1, cntr1, entr1, rfl, htrtr1, htctr1, htntr1, hvntr1, hS'⟩
  replace hS : Sat w0 w [.blk g1 [vL, vD, .int .i64 p.stock, .int .i64 p.kerf], .blk g2 [vM, vX, vY, .int .i64 s.val, .int .i64 s.den], .own vnwh1 2 50 nnwh1 (ucells pnwh1 cnwh1), .sem (Frame.rows 3 nnwh1 pnwh1 lnwh1 gnwh1), .own vdmd1 1 3 ndmd1 (ints fdmd1), .own vllf1 1 3 p.m (ints p.L), .own wllf1 1 3 p.d (ints (leftF p fdmd1)), .own vnn1 2 50 nnn1 (ucells pnn1 cnn1), .sem (Frame.rows 3 nnn1 pnn1 lnn1 gnn1), .own v1 1 43 2 (fun k => ([(vnwh1 : Value), (vnn1 : Value)]).getD k.toNat undef), .own vq1 2 50 (nnwh1 + nnn1) (ucells (cat nnwh1 pnwh1 pnn1) (cat nnwh1 cnwh1 cnn1)), .own vntr1 2 50 nntr1 (ucells pntr1 cntr1), .sem (Frame.rows 3 nntr1 pntr1 lntr1 gntr1)] := hS.comp hS'; clear hS'
  have hrntr1 := fun k (k0 : 0 ≤ k) (k1 : k < nntr1) => hS.slhIn 12 rfl k0 k1
  refine ⟨⟨fun _ => hS.pk [0, 1, 2, 3, 4], hS.pk [0, 1, 2, 3, 4]⟩, ?_⟩
  refine zdv 9 (fun _ => xex) ?_
  refine zdv 10 (fun _ => xex) ?_
  refine zdv 11 (fun _ => xas) ?_
  refine zdv 12 (fun _ => xas) ?_
  refine zdd <| ztn <| zrt <| zf2 ⟨_, rfl, ?_⟩
  exact ⟨_, _, _, _, _, _, _, rfl, .inr ⟨_, _, _, _, _, _, _, _, (by rw [show (0 : Int) = enwh1 by omega]; exact hwhwh1), hn19, hn0n1, (by rw [← hfd9]; exact hnrn1), htrtr1⟩, htctr1, htntr1, hvntr1, hS.pk [11, 12]⟩
set_option maxRecDepth 20000 in
theorem c_swrI {vd : Value} {n : Int} {s : Int → Int} {F : Go.Proofs.Gw.Frame} {gs : Nat} {a b m : Int} (w0 w : World) (hS : Sat w0 w [.own vd 1 3 n (ints s), .sem F]) (hsl : Slh vd n) (hn8 : n ≤ 100000000) (a0 : 0 ≤ a) (m0 : 0 ≤ m) (ab : a + m ≤ b) (bn : b + m ≤ n) :
    Calls Try.prog 128 [vd, .int .i64 a, .int .i64 b, .int .i64 m, .func (.func 58) #[] #[(.pointer (some ⟨gs, 0, none⟩))]].toArray w fun e w => ∃ v, e = .returned v ∧ v = .tuple #[] ∧ Sat w0 w [.own vd 1 3 n (ints (swr s a b m)), .sem F] := by
  refine zenF Try.func128 Try.ntmps128 ?_
  refine zsr ?_
  refine zlv xas ?_
  refine zlt <| zbk <| zlp (fun mm M w => ∃ (t : Int → Int) (i : Int), mm = ((m - i).toNat) ∧ (0 ≤ i) ∧ (i ≤ m) ∧ (t = swr s a b i) ∧ M = [(0, vd), (1, .int .i64 a), (2, .int .i64 b), (3, .int .i64 m), (10, .int .i64 i)] ∧ Sat w0 w [.own vd 1 3 n (ints t), .sem F]) ⟨s, 0, rfl, (by omega), (by omega), ?_, rfl, hS⟩ ?_
  ·
   exact (swr_zero s a b).symm
  clear hS w
  rintro mm M w ⟨t, i, rfl, i0, i1, ht, rfl, hS⟩
  refine zsq <| zsr ?_
  refine zs3 ?_
  refine zlt ?_
  refine zcif ?_ ?_ <;> intro hc
  ·
   refine zsk <| ztn <| zsq <| zbk ?_
   refine zdst [0, 1] [1] 21 mx_ hS ?_; clear hS; intro w hS
   refine zdv 0 (fun _ => xmv) ?_
   refine zdv 1 (fun _ => xmv) ?_
   refine zdv 2 (fun _ => xmv) ?_
   refine zdv 3 (fun _ => (xadd (r := a + i))) ?_
   refine zdv 4 (fun _ => xmv) ?_
   refine zdv 5 (fun _ => xmv) ?_
   refine zdv 6 (fun _ => xmv) ?_
   refine zdv 7 (fun _ => (xadd (r := b + i))) ?_
   refine zdv 8 (fun _ => xmv) ?_
   refine zdv 9 (fun _ => xmv) ?_
   refine zdv 10 (fun _ => xmv) ?_
   refine zdv 11 (fun _ => (xadd (r := b + i))) ?_
   refine zdv 12 (fun _ => (xix (kk := b + i) sl_22 hsl)) ?_
   refine zdl 13 (fun w hS => (xlr (u := .int .i64 (t (b + i))) pl_3 (hS.rowN 0 rfl))) ?_
   refine zdv 14 (fun _ => xmv) ?_
   refine zdv 15 (fun _ => xmv) ?_
   refine zdv 16 (fun _ => xmv) ?_
   refine zdv 17 (fun _ => (xadd (r := a + i))) ?_
   refine zdv 18 (fun _ => (xix (kk := a + i) sl_22 hsl)) ?_
   refine zdl 19 (fun w hS => (xlr (u := .int .i64 (t (a + i))) pl_3 (hS.rowN 0 rfl))) ?_
   refine zdv 20 (fun _ => (xix (kk := a + i) sl_22 hsl)) ?_
   refine zde 21 (xso 0 pl_3 hS rfl) ?_; clear hS; rintro w hS
   replace hS := hS.n2
   refine ⟨⟨fun h => absurd h (by decide), hS.pk [1]⟩, ?_⟩
   refine zdv 22 (fun _ => (xix (kk := b + i) sl_22 hsl)) ?_
   refine zde 23 (xso 0 pl_3 hS (ints_swp t (a + i) (b + i))) ?_; clear hS; rintro w hS
   replace hS := hS.n2
   refine ⟨⟨fun h => absurd h (by decide), hS.pk [1]⟩, ?_⟩
   refine zdd <| zbn <| ztn <| zrg ?_
   refine zlv xmv ?_
   refine zlv (xadd (r := i + 1)) ?_
   refine zlv xas ?_
   refine zln <| zlq ⟨swp t (a + i) (b + i), i + 1, rfl, (by omega), (by omega), ?_, rfl, hS⟩
   ·
    rw [ht]; exact swr_next i0 (by omega) (by omega) (by omega)
  refine zxt <| ztx <| ztx <| zbh <| zfn0 ⟨_, rfl, ?_⟩
  obtain rfl : i = m := by omega
  subst ht
  exact ⟨rfl, hS⟩
set_option maxRecDepth 20000 in
theorem c_rotI {vd : Value} {n : Int} {s : Int → Int} {F : Go.Proofs.Gw.Frame} {gs : Nat} {a m b : Int} (w0 w : World) (hS : Sat w0 w [.own vd 1 3 n (ints s), .sem F]) (hsl : Slh vd n) (hn8 : n ≤ 100000000) (a0 : 0 ≤ a) (am : a < m) (mb : m < b) (bn : b ≤ n) :
    Calls Try.prog 119 [vd, .int .i64 a, .int .i64 m, .int .i64 b, .func (.func 58) #[] #[(.pointer (some ⟨gs, 0, none⟩))]].toArray w fun e w => ∃ v, e = .returned v ∧ v = .tuple #[] ∧ Sat w0 w [.own vd 1 3 n (ints (rot s a m b)), .sem F] := by
  refine zenF Try.func119 Try.ntmps119 ?_
  refine zsr ?_
  refine zs2 ?_
  refine zlv (xsub (r := m - a)) ?_
  refine zlv xas ?_
  refine zlz ?_
  refine zs2 ?_
  refine zlv (xsub (r := b - m)) ?_
  refine zlv xas ?_
  refine zlt <| zsq <| zbk <| zlp (fun mm M w => ∃ (t : Int → Int) (i : Int) (j : Int), mm = ((i + j).toNat) ∧ (1 ≤ i) ∧ (1 ≤ j) ∧ (a ≤ m - i) ∧ (m + j ≤ b) ∧ (rot t (m - i) m (m + j) = rot s a m b) ∧ M = [(0, vd), (2, .int .i64 m), (4, .func (.func 58) #[] #[(.pointer (some ⟨gs, 0, none⟩))]), (10, .int .i64 i), (11, .int .i64 j)] ∧ Sat w0 w [.own vd 1 3 n (ints t), .sem F]) ⟨s, m - a, b - m, rfl, (by omega), (by omega), (by omega), (by omega), ?_, rfl, hS⟩ ?_
  ·
   rw [show m - (m - a) = a by omega, show m + (b - m) = b by omega]
  clear hS w
  rintro mm M w ⟨t, i, j, rfl, i0, j0, ia, jb, hr, rfl, hS⟩
  refine zsq <| zsr ?_
  refine zs3 ?_
  refine zlt ?_
  refine zcif ?_ ?_ <;> intro hc
  ·
   refine zsk <| ztn <| zbk <| zsr ?_
   refine zs3 ?_
   refine zlt ?_
   refine zcif ?_ ?_ <;> intro hc
   ·
    refine zsr ?_
    refine zs3 ?_
    refine zlv (xsub (r := m - i)) ?_
    refine zs3 ?_
    refine zlc (xc0 cl_128) (c_swrI (s := t) (a := m - i) (b := m) (m := j) w0 w hS hsl hn8 (by omega) (by omega) (by omega) (by omega)) ?_; rintro _ w ⟨rfl, hS⟩
    replace hS := hS.n2
    refine zlt <| zrg ?_
    refine zs2 ?_
    refine zlv (xsub (r := i - j)) ?_
    refine zlv xas ?_
    refine zln <| zbn <| zlq ⟨(swr t (m - i) m j), i - j, j, rfl, (by omega), (by omega), (by omega), (by omega), ?_, rfl, hS⟩
    ·
     first | (rw [← hr, show m - (i - j) = m - i + j by omega]; exact rot_left (by omega) (by omega)) | (rw [← hr, show m + (j - i) = m + j - i by omega]; exact rot_right (by omega) (by omega))
   refine zsr ?_
   refine zs3 ?_
   refine zlv (xsub (r := m - i)) ?_
   refine zs2 ?_
   refine zlv (xadd (r := m + j)) ?_
   refine zlv xmv ?_
   refine zlv (xsub (r := m + j - i)) ?_
   refine zs2 ?_
   refine zlc (xc0 cl_128) (c_swrI (s := t) (a := m - i) (b := m + j - i) (m := i) w0 w hS hsl hn8 (by omega) (by omega) (by omega) (by omega)) ?_; rintro _ w ⟨rfl, hS⟩
   replace hS := hS.n2
   refine zlt <| zrg ?_
   refine zs2 ?_
   refine zlv (xsub (r := j - i)) ?_
   refine zlv xas ?_
   refine zln <| zbn <| zlq ⟨(swr t (m - i) (m + j - i) i), i, j - i, rfl, (by omega), (by omega), (by omega), (by omega), ?_, rfl, hS⟩
   ·
    first | (rw [← hr, show m - (i - j) = m - i + j by omega]; exact rot_left (by omega) (by omega)) | (rw [← hr, show m + (j - i) = m + j - i by omega]; exact rot_right (by omega) (by omega))
  refine zxt <| ztx <| ztx <| zbh <| ztn <| zrg ?_
  refine zs3 ?_
  refine zlv (xsub (r := m - i)) ?_
  refine zs3 ?_
  refine zlc (xc0 cl_128) (c_swrI (s := t) (a := m - i) (b := m) (m := i) w0 w hS hsl hn8 (by omega) (by omega) (by omega) (by omega)) ?_; rintro _ w ⟨rfl, hS⟩
  replace hS := hS.n2
  refine zln <| zfn0 ⟨_, rfl, ?_⟩
  have hz : (swr t (m - i) m i) = rot s a m b := by
    rw [← hr, show j = i by omega]; exact rot_even (by omega)
  rw [hz] at hS
  exact ⟨rfl, hS⟩
set_option maxRecDepth 20000 in
theorem c_insI {vd : Value} {n nm : Int} {s : Int → Int} {lt : Int → Int → Prop} {F : Go.Proofs.Gw.Frame} {gs : Nat} {a b : Int} (w0 w : World) (hS : Sat w0 w [.own vd 1 3 n (ints s), .sem F]) (hsl : Slh vd n) (hn8 : n ≤ 100000000) (hcmp : ∀ (w : World) (x y : Int), 0 ≤ x → x < nm → 0 ≤ y → y < nm → Below w0.heap.size w0 w → F.holds w → Calls Try.prog 58 [.int .i64 x, .int .i64 y, (.pointer (some ⟨gs, 0, none⟩))].toArray w fun e w' => ∃ v, e = .returned v ∧ ∃ c : Int, v = .int .i64 c ∧ (c < 0 ↔ lt x y) ∧ Sat w w' []) (hd : ∀ k, 0 ≤ k → k < n → 0 ≤ s k ∧ s k < nm) (hw : Swo lt) (a0 : 0 ≤ a) (ab : a ≤ b) (bn : b ≤ n) (hinc : Incr a b s) :
    Calls Try.prog 108 [vd, .int .i64 a, .int .i64 b, .func (.func 58) #[] #[(.pointer (some ⟨gs, 0, none⟩))]].toArray w fun e w => ∃ v, e = .returned v ∧ v = .tuple #[] ∧ ∃ t : Int → Int, PermOn a b s t ∧ Srt (Tie lt) a b t ∧ Sat w0 w [.own vd 1 3 n (ints t), .sem F] := by
  refine zenF Try.func108 Try.ntmps108 ?_
  refine zsr ?_
  refine zlv xmv ?_
  refine zlv (xadd (r := a + 1)) ?_
  refine zlv xas ?_
  refine zlt <| zbk <| zlp (fun mm M w => ∃ (t : Int → Int) (i : Int), mm = ((b - i).toNat) ∧ (a + 1 ≤ i) ∧ (i ≤ b ∨ i = a + 1) ∧ (PermOn a i s t) ∧ (Srt (Tie lt) a i t) ∧ (∀ k, 0 ≤ k → k < n → 0 ≤ t k ∧ t k < nm) ∧ M = [(0, vd), (1, .int .i64 a), (2, .int .i64 b), (3, .func (.func 58) #[] #[(.pointer (some ⟨gs, 0, none⟩))]), (8, .int .i64 i)] ∧ Sat w0 w [.own vd 1 3 n (ints t), .sem F]) ⟨s, a + 1, rfl, (by omega), (by omega), ?_, ?_, ?_, rfl, hS⟩ ?_
  ·
   exact .refl _ _ _
  ·
   intro p q p0 pq q1; omega
  ·
   exact hd
  clear hS w
  rintro mm M w ⟨t, i, rfl, i0, i1, hp, hs, hd1, rfl, hS⟩
  refine zsq <| zsr ?_
  refine zs3 ?_
  refine zlt ?_
  refine zcif ?_ ?_ <;> intro hc
  ·
   refine zsk <| ztn <| zsq <| zbk <| zsr ?_
   refine zs2 ?_
   refine zlt <| zbk <| zlp (fun mm M w => ∃ (t2 : Int → Int) (j : Int), mm = ((j - a).toNat) ∧ (a ≤ j) ∧ (j ≤ i) ∧ (Ins lt a i j t t2) ∧ (∀ k, 0 ≤ k → k < n → 0 ≤ t2 k ∧ t2 k < nm) ∧ M = [(0, vd), (1, .int .i64 a), (2, .int .i64 b), (3, .func (.func 58) #[] #[(.pointer (some ⟨gs, 0, none⟩))]), (8, .int .i64 i), (9, .int .i64 j)] ∧ Sat w0 w [.own vd 1 3 n (ints t2), .sem F]) ⟨t, i, rfl, (by omega), (by omega), ?_, ?_, rfl, hS⟩ ?_
   ·
    exact Ins.start (by omega) hs (ins_big hp hinc (by omega))
   ·
    exact hd1
   clear hS w
   rintro mm M w ⟨t2, j, rfl, j0, j1, hI, hd2, rfl, hS⟩
   refine zsq <| zsq ?_
   refine zdst [0, 1] [0, 1] 1000 mx_ hS ?_; clear hS; intro w hS
   refine zdv 0 (fun _ => xmv) ?_
   refine zdv 1 (fun _ => xmv) ?_
   refine zdv 2 (fun _ => xgtr) ?_
   refine zdv 3 (fun _ => xmv) ?_
   refine zdb 21 ?_ ?_ <;> intro hc
   ·
    refine zdv 4 (fun _ => xmv) ?_
    refine zdv 5 (fun _ => xmv) ?_
    refine zdv 6 (fun _ => xmv) ?_
    refine zdv 7 (fun _ => (xix (kk := j) sl_22 hsl)) ?_
    refine zdla 8 (fun w hS => (xlr (u := .int .i64 (t2 j)) pl_3 (hS.rowN 0 rfl))) ?_
    refine zdv 9 (fun _ => xmv) ?_
    refine zdv 10 (fun _ => xmv) ?_
    refine zdv 11 (fun _ => (xsub (r := j - 1))) ?_
    refine zdv 12 (fun _ => (xix (kk := j - 1) sl_22 hsl)) ?_
    refine zdla 13 (fun w hS => (xlr (u := .int .i64 (t2 (j - 1))) pl_3 (hS.rowN 0 rfl))) ?_
    refine zdc 14 (xcc (vs := [_, _]) cl_58) (hcmp w (t2 j) (t2 (j - 1)) (hd2 j (by omega) (by omega)).1 (hd2 j (by omega) (by omega)).2 (hd2 (j - 1) (by omega) (by omega)).1 (hd2 (j - 1) (by omega) (by omega)).2 hS.below (hS.holds _ (List.mem_of_getElem? (i := 1) rfl))) ?_; rintro _ w ⟨c1, rfl, hc1, hS'⟩
    replace hS := hS.cmp hS'; clear hS'
    refine ⟨⟨fun _ => hS, hS⟩, ?_⟩
    refine zdv 15 (fun _ => xlss) ?_
    refine zdv 16 (fun _ => xpt) ?_
    refine zdd <| ztn ?_
    refine zcif ?_ ?_ <;> intro hc
    ·
     refine zsk <| ztn <| zsq <| zbk ?_
     refine zdst [0, 1] [1] 15 mx_ hS ?_; clear hS; intro w hS
     refine zdv 0 (fun _ => xmv) ?_
     refine zdv 1 (fun _ => xmv) ?_
     refine zdv 2 (fun _ => xmv) ?_
     refine zdv 3 (fun _ => xmv) ?_
     refine zdv 4 (fun _ => (xsub (r := j - 1))) ?_
     refine zdv 5 (fun _ => xmv) ?_
     refine zdv 6 (fun _ => xmv) ?_
     refine zdv 7 (fun _ => (xsub (r := j - 1))) ?_
     refine zdv 8 (fun _ => (xix (kk := j - 1) sl_22 hsl)) ?_
     refine zdl 9 (fun w hS => (xlr (u := .int .i64 (t2 (j - 1))) pl_3 (hS.rowN 0 rfl))) ?_
     refine zdv 10 (fun _ => xmv) ?_
     refine zdv 11 (fun _ => xmv) ?_
     refine zdv 12 (fun _ => (xix (kk := j) sl_22 hsl)) ?_
     refine zdl 13 (fun w hS => (xlr (u := .int .i64 (t2 j)) pl_3 (hS.rowN 0 rfl))) ?_
     refine zdv 14 (fun _ => (xix (kk := j) sl_22 hsl)) ?_
     refine zde 15 (xso 0 pl_3 hS rfl) ?_; clear hS; rintro w hS
     replace hS := hS.n2
     refine ⟨⟨fun h => absurd h (by decide), hS.pk [1]⟩, ?_⟩
     refine zdv 16 (fun _ => (xix (kk := j - 1) sl_22 hsl)) ?_
     refine zde 17 (xso 0 pl_3 hS (ints_swp t2 j (j - 1))) ?_; clear hS; rintro w hS
     replace hS := hS.n2
     refine ⟨⟨fun h => absurd h (by decide), hS.pk [1]⟩, ?_⟩
     refine zdd <| zbn <| ztn <| zrg ?_
     refine zlv xmv ?_
     refine zlv (xsub (r := j - 1)) ?_
     refine zlv xas ?_
     refine zln <| zlq ⟨swp t2 j (j - 1), j - 1, rfl, (by omega), (by omega), ?_, ?_, rfl, hS⟩
     ·
      exact hI.step (by omega) (by omega) (hc1.1 ‹c1 < 0›)
     ·
      exact (swp_perm (lo := a) (hi := n) (by omega) (by omega) (by omega) (by omega)).dom a0 (.inl (by omega)) hd2
    refine zxt <| ztx <| ztx <| zbh <| zbn <| ztn <| zrg ?_
    refine zlv xmv ?_
    refine zlv (xadd (r := i + 1)) ?_
    refine zlv xas ?_
    refine zln <| zlq ⟨t2, i + 1, rfl, (by omega), (by omega), ?_, ?_, ?_, rfl, hS⟩
    ·
     exact (hp.mono (by omega) (by omega)).trans hI.perm
    ·
     exact hI.fin hw (by omega) (by omega) (by first | exact .inl (by omega) | exact .inr fun h => absurd (hc1.2 h) ‹¬ c1 < 0›)
    ·
     exact hd2
   refine zdof 4 ?_
   refine zdof 5 ?_
   refine zdof 6 ?_
   refine zdof 7 ?_
   refine zdof 8 ?_
   refine zdof 9 ?_
   refine zdof 10 ?_
   refine zdof 11 ?_
   refine zdof 12 ?_
   refine zdof 13 ?_
   refine zdof 14 ?_
   refine zdof 15 ?_
   refine zdv 16 (fun _ => xpf) ?_
   refine zdd <| ztn <| zcf <| zxt <| ztx <| ztx <| zbh <| zbn <| ztn <| zrg ?_
   refine zlv xmv ?_
   refine zlv (xadd (r := i + 1)) ?_
   refine zlv xas ?_
   refine zln <| zlq ⟨t2, i + 1, rfl, (by omega), (by omega), ?_, ?_, ?_, rfl, hS⟩
   ·
    exact (hp.mono (by omega) (by omega)).trans hI.perm
   ·
    exact hI.fin hw (by omega) (by omega) (by first | exact .inl (by omega) | exact .inr fun h => absurd (hc1.2 h) ‹¬ c1 < 0›)
   ·
    exact hd2
  refine zxt <| ztx <| ztx <| zbh <| zfn0 ⟨_, rfl, ?_⟩
  refine ⟨rfl, t, ?_, ?_, hS⟩
  · by_cases hab : i ≤ b
    · exact hp.mono (by omega) (by omega)
    · obtain ⟨p_, q_, e1, e2, e3⟩ := hp
      exact ⟨p_, q_, e1, fun k hk => by
        by_cases hka : k = a
        · subst hka
          apply Classical.byContradiction; intro hne
          have h5 := e2 (p_ k) (by omega)
          have h6 := congrArg q_ h5
          rw [(e1 _).2, (e1 _).2] at h6; exact hne h6
        · exact e2 k (by omega), e3⟩
  · exact hs.mono (by omega) (by omega)
set_option maxHeartbeats 4000000 in
set_option maxRecDepth 20000 in
theorem c_symI {vd : Value} {n nm : Int} {lt : Int → Int → Prop} {F : Go.Proofs.Gw.Frame} {gs : Nat} (hsl : Slh vd n) (hn8 : n ≤ 100000000) (hw : Swo lt) (N : Nat) : ∀ {s : Int → Int} {a m b : Int} (w0 w : World) (hS : Sat w0 w [.own vd 1 3 n (ints s), .sem F]) (hcmp : ∀ (w : World) (x y : Int), 0 ≤ x → x < nm → 0 ≤ y → y < nm → Below w0.heap.size w0 w → F.holds w → Calls Try.prog 58 [.int .i64 x, .int .i64 y, (.pointer (some ⟨gs, 0, none⟩))].toArray w fun e w' => ∃ v, e = .returned v ∧ ∃ c : Int, v = .int .i64 c ∧ (c < 0 ↔ lt x y) ∧ Sat w w' []) (hd : ∀ k, 0 ≤ k → k < n → 0 ≤ s k ∧ s k < nm) (a0 : 0 ≤ a) (am : a < m) (mb : m < b) (bn : b ≤ n) (h1 : Srt (Tie lt) a m s) (h2 : Srt (Tie lt) m b s) (hp : Parted a m b s) (hN : (b - a).toNat < N),
    Calls Try.prog 109 [vd, .int .i64 a, .int .i64 m, .int .i64 b, .func (.func 58) #[] #[(.pointer (some ⟨gs, 0, none⟩))]].toArray w fun e w => ∃ v, e = .returned v ∧ v = .tuple #[] ∧ ∃ t : Int → Int, PermOn a b s t ∧ Srt (Tie lt) a b t ∧ Sat w0 w [.own vd 1 3 n (ints t), .sem F] := by
  induction N with
  | zero => intros; omega
  | succ N ih =>
    intro s a m b w0 w hS hcmp hd a0 am mb bn h1 h2 hp hN
    refine zenF Try.func109 Try.ntmps109 ?_
    refine zsq <| zsr ?_
    refine zs2 ?_
    refine zlv (xsub (r := m - a)) ?_
    refine zlv xeql ?_
    refine zlt ?_
    refine zcif ?_ ?_ <;> intro hc
    ·
     refine zsr ?_
     refine zs2 ?_
     refine zlz ?_
     refine zs2 ?_
     refine zlt <| zsq <| zbk <| zlp (fun mm M w => ∃ (i : Int) (j : Int), mm = ((j - i).toNat) ∧ (m ≤ i) ∧ (i ≤ j) ∧ (j ≤ b) ∧ (i = a + 1 ∨ lt (s (i - 1)) (s a)) ∧ (j = b ∨ ¬ lt (s j) (s a)) ∧ M = [(0, vd), (1, .int .i64 a), (2, .int .i64 m), (3, .int .i64 b), (4, .func (.func 58) #[] #[(.pointer (some ⟨gs, 0, none⟩))]), (10, .int .i64 i), (11, .int .i64 j)] ∧ Sat w0 w [.own vd 1 3 n (ints s), .sem F]) ⟨m, b, rfl, (by omega), (by omega), (by omega), ?_, ?_, rfl, hS⟩ ?_
     ·
      exact .inl (by omega)
     ·
      exact .inl rfl
     clear hS w
     rintro mm M w ⟨i, j, rfl, i0, ij, j1, hi, hj, rfl, hS⟩
     refine zsq <| zsr ?_
     refine zs3 ?_
     refine zlt ?_
     refine zcif ?_ ?_ <;> intro hc
     ·
      refine zsk <| ztn <| zbk <| zsr ?_
      refine zs2 ?_
      refine zlv (xadd (r := i + j)) ?_
      refine zlv (xcv so_3 it_112) ?_
      refine zlv (xshr1 (r := ((i + j) / 2))) ?_
      refine zlv (xcv so_112 it_3) ?_
      refine zlv xas ?_
      refine zlt <| zsq ?_
      refine zdst [0, 1] [0, 1] 1000 mx_ hS ?_; clear hS; intro w hS
      refine zdv 0 (fun _ => xmv) ?_
      refine zdv 1 (fun _ => xmv) ?_
      refine zdv 2 (fun _ => xmv) ?_
      refine zdv 3 (fun _ => (xix (kk := ((i + j) / 2)) sl_22 hsl)) ?_
      refine zdla 4 (fun w hS => (xlr (u := .int .i64 (s ((i + j) / 2))) pl_3 (hS.rowN 0 rfl))) ?_
      refine zdv 5 (fun _ => xmv) ?_
      refine zdv 6 (fun _ => xmv) ?_
      refine zdv 7 (fun _ => (xix (kk := a) sl_22 hsl)) ?_
      refine zdla 8 (fun w hS => (xlr (u := .int .i64 (s a)) pl_3 (hS.rowN 0 rfl))) ?_
      refine zdc 9 (xcc (vs := [_, _]) cl_58) (hcmp w (s ((i + j) / 2)) (s a) (hd ((i + j) / 2) (by omega) (by omega)).1 (hd ((i + j) / 2) (by omega) (by omega)).2 (hd a (by omega) (by omega)).1 (hd a (by omega) (by omega)).2 hS.below (hS.holds _ (List.mem_of_getElem? (i := 1) rfl))) ?_; rintro _ w ⟨c1, rfl, hc1, hS'⟩
      replace hS := hS.cmp hS'; clear hS'
      refine ⟨⟨fun _ => hS, hS⟩, ?_⟩
      refine zdv 10 (fun _ => xlss) ?_
      refine zdd <| ztn ?_
      refine zcif ?_ ?_ <;> intro hc
      ·
       refine zrg ?_
       refine zlv xmv ?_
       refine zlv (xadd (r := ((i + j) / 2) + 1)) ?_
       refine zlv xas ?_
       refine zln <| zbn <| zlq ⟨((i + j) / 2) + 1, j, rfl, (by omega), (by omega), (by omega), ?_, ?_, rfl, hS⟩
       ·
        first | exact hi | (right; rw [show (i + j) / 2 + 1 - 1 = (i + j) / 2 by omega]; exact hc1.1 ‹c1 < 0›)
       ·
        first | exact hj | exact .inr fun h => absurd (hc1.2 h) ‹¬ c1 < 0›
      refine zrg ?_
      refine zs2 ?_
      refine zln <| zbn <| zlq ⟨i, ((i + j) / 2), rfl, (by omega), (by omega), (by omega), ?_, ?_, rfl, hS⟩
      ·
       first | exact hi | (right; rw [show (i + j) / 2 + 1 - 1 = (i + j) / 2 by omega]; exact hc1.1 ‹c1 < 0›)
      ·
       first | exact hj | exact .inr fun h => absurd (hc1.2 h) ‹¬ c1 < 0›
     refine zxt <| ztx <| ztx <| zbh <| ztn <| zsq <| zsr ?_
     refine zs2 ?_
     refine zlt <| zbk <| zlp (fun mm M w => ∃ (t : Int → Int) (k : Int), mm = ((i - 1 - k).toNat) ∧ (a ≤ k) ∧ (k ≤ i - 1) ∧ (t = rot s a (a + 1) (k + 1)) ∧ M = [(0, vd), (1, .int .i64 a), (2, .int .i64 m), (3, .int .i64 b), (4, .func (.func 58) #[] #[(.pointer (some ⟨gs, 0, none⟩))]), (10, .int .i64 i), (13, .int .i64 k)] ∧ Sat w0 w [.own vd 1 3 n (ints t), .sem F]) ⟨s, a, rfl, (by omega), (by omega), ?_, rfl, hS⟩ ?_
     ·
      exact (shl_zero s a).symm
     clear hS w
     rintro mm M w ⟨t, k, rfl, k0, k1, ht, rfl, hS⟩
     refine zsq <| zsr ?_
     refine zs2 ?_
     refine zlv (xsub (r := i - 1)) ?_
     refine zlv xlss ?_
     refine zlt ?_
     refine zcif ?_ ?_ <;> intro hc
     ·
      refine zsk <| ztn <| zsq <| zbk ?_
      refine zdst [0, 1] [1] 15 mx_ hS ?_; clear hS; intro w hS
      refine zdv 0 (fun _ => xmv) ?_
      refine zdv 1 (fun _ => xmv) ?_
      refine zdv 2 (fun _ => xmv) ?_
      refine zdv 3 (fun _ => xmv) ?_
      refine zdv 4 (fun _ => (xadd (r := k + 1))) ?_
      refine zdv 5 (fun _ => xmv) ?_
      refine zdv 6 (fun _ => xmv) ?_
      refine zdv 7 (fun _ => (xadd (r := k + 1))) ?_
      refine zdv 8 (fun _ => (xix (kk := k + 1) sl_22 hsl)) ?_
      refine zdl 9 (fun w hS => (xlr (u := .int .i64 (t (k + 1))) pl_3 (hS.rowN 0 rfl))) ?_
      refine zdv 10 (fun _ => xmv) ?_
      refine zdv 11 (fun _ => xmv) ?_
      refine zdv 12 (fun _ => (xix (kk := k) sl_22 hsl)) ?_
      refine zdl 13 (fun w hS => (xlr (u := .int .i64 (t k)) pl_3 (hS.rowN 0 rfl))) ?_
      refine zdv 14 (fun _ => (xix (kk := k) sl_22 hsl)) ?_
      refine zde 15 (xso 0 pl_3 hS rfl) ?_; clear hS; rintro w hS
      replace hS := hS.n2
      refine ⟨⟨fun h => absurd h (by decide), hS.pk [1]⟩, ?_⟩
      refine zdv 16 (fun _ => (xix (kk := k + 1) sl_22 hsl)) ?_
      refine zde 17 (xso 0 pl_3 hS (ints_swp t k (k + 1))) ?_; clear hS; rintro w hS
      replace hS := hS.n2
      refine ⟨⟨fun h => absurd h (by decide), hS.pk [1]⟩, ?_⟩
      refine zdd <| zbn <| ztn <| zrg ?_
      refine zlv xmv ?_
      refine zlv (xadd (r := k + 1)) ?_
      refine zlv xas ?_
      refine zln <| zlq ⟨swp t k (k + 1), k + 1, rfl, (by omega), (by omega), ?_, rfl, hS⟩
      ·
       rw [ht]; exact shl_next (by omega)
     refine zxt <| ztx <| ztx <| zbh <| ztn <| zrt <| ztr <| zf0 ⟨_, rfl, ?_⟩
     have hki : k + 1 = i := by omega
     rw [hki] at ht
     refine ⟨rfl, t, ?_, ?_, hS⟩
     · rw [ht]; exact (rot_perm (by omega) (by omega)).mono (by omega) (by omega)
     · rw [ht]; obtain rfl : m = a + 1 := by omega
       exact merge_one hw h2 (fun j j0 j1 => hp a j (by omega) (by omega) j0 j1) (by omega) (by omega) hi (by rw [show i = j by omega]; exact hj)
    refine zsk <| ztn <| zsq <| zsr ?_
    refine zs2 ?_
    refine zlv (xsub (r := b - m)) ?_
    refine zlv xeql ?_
    refine zlt ?_
    refine zcif ?_ ?_ <;> intro hc
    ·
     refine zsr ?_
     refine zs2 ?_
     refine zlz ?_
     refine zs2 ?_
     refine zlt <| zsq <| zbk <| zlp (fun mm M w => ∃ (i : Int) (j : Int), mm = ((j - i).toNat) ∧ (a ≤ i) ∧ (i ≤ j) ∧ (j ≤ m) ∧ (i = a ∨ ¬ lt (s m) (s (i - 1))) ∧ (j = m ∨ lt (s m) (s j)) ∧ M = [(0, vd), (1, .int .i64 a), (2, .int .i64 m), (3, .int .i64 b), (4, .func (.func 58) #[] #[(.pointer (some ⟨gs, 0, none⟩))]), (14, .int .i64 i), (15, .int .i64 j)] ∧ Sat w0 w [.own vd 1 3 n (ints s), .sem F]) ⟨a, m, rfl, (by omega), (by omega), (by omega), ?_, ?_, rfl, hS⟩ ?_
     ·
      exact .inl rfl
     ·
      exact .inl rfl
     clear hS w
     rintro mm M w ⟨i, j, rfl, i0, ij, j1, hi, hj, rfl, hS⟩
     refine zsq <| zsr ?_
     refine zs3 ?_
     refine zlt ?_
     refine zcif ?_ ?_ <;> intro hc
     ·
      refine zsk <| ztn <| zbk <| zsr ?_
      refine zs2 ?_
      refine zlv (xadd (r := i + j)) ?_
      refine zlv (xcv so_3 it_112) ?_
      refine zlv (xshr1 (r := ((i + j) / 2))) ?_
      refine zlv (xcv so_112 it_3) ?_
      refine zlv xas ?_
      refine zlt <| zsq ?_
      refine zdst [0, 1] [0, 1] 1000 mx_ hS ?_; clear hS; intro w hS
      refine zdv 0 (fun _ => xmv) ?_
      refine zdv 1 (fun _ => xmv) ?_
      refine zdv 2 (fun _ => xmv) ?_
      refine zdv 3 (fun _ => (xix (kk := m) sl_22 hsl)) ?_
      refine zdla 4 (fun w hS => (xlr (u := .int .i64 (s m)) pl_3 (hS.rowN 0 rfl))) ?_
      refine zdv 5 (fun _ => xmv) ?_
      refine zdv 6 (fun _ => xmv) ?_
      refine zdv 7 (fun _ => (xix (kk := ((i + j) / 2)) sl_22 hsl)) ?_
      refine zdla 8 (fun w hS => (xlr (u := .int .i64 (s ((i + j) / 2))) pl_3 (hS.rowN 0 rfl))) ?_
      refine zdc 9 (xcc (vs := [_, _]) cl_58) (hcmp w (s m) (s ((i + j) / 2)) (hd m (by omega) (by omega)).1 (hd m (by omega) (by omega)).2 (hd ((i + j) / 2) (by omega) (by omega)).1 (hd ((i + j) / 2) (by omega) (by omega)).2 hS.below (hS.holds _ (List.mem_of_getElem? (i := 1) rfl))) ?_; rintro _ w ⟨c1, rfl, hc1, hS'⟩
      replace hS := hS.cmp hS'; clear hS'
      refine ⟨⟨fun _ => hS, hS⟩, ?_⟩
      refine zdv 10 (fun _ => xlss) ?_
      refine zdv 11 (fun _ => xnot) ?_
      refine zdd <| ztn ?_
      refine zcif ?_ ?_ <;> intro hc
      ·
       refine zrg ?_
       refine zlv xmv ?_
       refine zlv (xadd (r := ((i + j) / 2) + 1)) ?_
       refine zlv xas ?_
       refine zln <| zbn <| zlq ⟨((i + j) / 2) + 1, j, rfl, (by omega), (by omega), (by omega), ?_, ?_, rfl, hS⟩
       ·
        first | exact hi | (right; rw [show (i + j) / 2 + 1 - 1 = (i + j) / 2 by omega]; exact fun h => absurd (hc1.2 h) ‹¬ c1 < 0›)
       ·
        first | exact hj | exact .inr (hc1.1 (Classical.not_not.1 ‹_›))
      refine zrg ?_
      refine zs2 ?_
      refine zln <| zbn <| zlq ⟨i, ((i + j) / 2), rfl, (by omega), (by omega), (by omega), ?_, ?_, rfl, hS⟩
      ·
       first | exact hi | (right; rw [show (i + j) / 2 + 1 - 1 = (i + j) / 2 by omega]; exact fun h => absurd (hc1.2 h) ‹¬ c1 < 0›)
      ·
       first | exact hj | exact .inr (hc1.1 (Classical.not_not.1 ‹_›))
     refine zxt <| ztx <| ztx <| zbh <| ztn <| zsq <| zsr ?_
     refine zs2 ?_
     refine zlt <| zbk <| zlp (fun mm M w => ∃ (t : Int → Int) (k : Int), mm = ((k - i).toNat) ∧ (i ≤ k) ∧ (k ≤ m) ∧ (t = rot s k m (m + 1)) ∧ M = [(0, vd), (1, .int .i64 a), (2, .int .i64 m), (3, .int .i64 b), (4, .func (.func 58) #[] #[(.pointer (some ⟨gs, 0, none⟩))]), (14, .int .i64 i), (17, .int .i64 k)] ∧ Sat w0 w [.own vd 1 3 n (ints t), .sem F]) ⟨s, m, rfl, (by omega), (by omega), ?_, rfl, hS⟩ ?_
     ·
      exact (shr_zero s m).symm
     clear hS w
     rintro mm M w ⟨t, k, rfl, k0, k1, ht, rfl, hS⟩
     refine zsq <| zsr ?_
     refine zs3 ?_
     refine zlt ?_
     refine zcif ?_ ?_ <;> intro hc
     ·
      refine zsk <| ztn <| zsq <| zbk ?_
      refine zdst [0, 1] [1] 15 mx_ hS ?_; clear hS; intro w hS
      refine zdv 0 (fun _ => xmv) ?_
      refine zdv 1 (fun _ => xmv) ?_
      refine zdv 2 (fun _ => xmv) ?_
      refine zdv 3 (fun _ => xmv) ?_
      refine zdv 4 (fun _ => (xsub (r := k - 1))) ?_
      refine zdv 5 (fun _ => xmv) ?_
      refine zdv 6 (fun _ => xmv) ?_
      refine zdv 7 (fun _ => (xsub (r := k - 1))) ?_
      refine zdv 8 (fun _ => (xix (kk := k - 1) sl_22 hsl)) ?_
      refine zdl 9 (fun w hS => (xlr (u := .int .i64 (t (k - 1))) pl_3 (hS.rowN 0 rfl))) ?_
      refine zdv 10 (fun _ => xmv) ?_
      refine zdv 11 (fun _ => xmv) ?_
      refine zdv 12 (fun _ => (xix (kk := k) sl_22 hsl)) ?_
      refine zdl 13 (fun w hS => (xlr (u := .int .i64 (t k)) pl_3 (hS.rowN 0 rfl))) ?_
      refine zdv 14 (fun _ => (xix (kk := k) sl_22 hsl)) ?_
      refine zde 15 (xso 0 pl_3 hS rfl) ?_; clear hS; rintro w hS
      replace hS := hS.n2
      refine ⟨⟨fun h => absurd h (by decide), hS.pk [1]⟩, ?_⟩
      refine zdv 16 (fun _ => (xix (kk := k - 1) sl_22 hsl)) ?_
      refine zde 17 (xso 0 pl_3 hS (ints_swp t k (k - 1))) ?_; clear hS; rintro w hS
      replace hS := hS.n2
      refine ⟨⟨fun h => absurd h (by decide), hS.pk [1]⟩, ?_⟩
      refine zdd <| zbn <| ztn <| zrg ?_
      refine zlv xmv ?_
      refine zlv (xsub (r := k - 1)) ?_
      refine zlv xas ?_
      refine zln <| zlq ⟨swp t k (k - 1), k - 1, rfl, (by omega), (by omega), ?_, rfl, hS⟩
      ·
       rw [ht]; exact shr_next (by omega)
     refine zxt <| ztx <| ztx <| zbh <| ztn <| zrt <| ztr <| zf0 ⟨_, rfl, ?_⟩
     have hki : k = i := by omega
     rw [hki] at ht
     refine ⟨rfl, t, ?_, ?_, hS⟩
     · rw [ht]; exact (rot_perm (by omega) (by omega)).mono (by omega) (by omega)
     · rw [ht]; obtain rfl : b = m + 1 := by omega
       exact merge_last hw h1 (fun i i0 i1 => hp i m i0 i1 (by omega) (by omega)) (by omega) (by omega) hi (by rw [show i = j by omega]; exact hj)
    refine zsk <| ztn <| zsr ?_
    refine zs2 ?_
    refine zlv (xadd (r := a + b)) ?_
    refine zlv (xcv so_3 it_112) ?_
    refine zlv (xshr1 (r := ((a + b) / 2))) ?_
    refine zlv (xcv so_112 it_3) ?_
    refine zlv xas ?_
    refine zlz ?_
    refine zs2 ?_
    refine zlv (xadd (r := ((a + b) / 2) + m)) ?_
    refine zlv xas ?_
    refine zlz ?_
    refine zs2 ?_
    refine zlt <| zsq <| ?_
    refine zgcut (fun M w => ∃ (mid : Int) (s0 : Int) (r0 : Int), (mid = ((a + b) / 2)) ∧ ((mid < m ∧ s0 = mid + m - b ∧ r0 = mid) ∨ (m ≤ mid ∧ s0 = a ∧ r0 = m)) ∧ M = [(0, vd), (1, .int .i64 a), (2, .int .i64 m), (3, .int .i64 b), (4, .func (.func 58) #[] #[(.pointer (some ⟨gs, 0, none⟩))]), (25, .int .i64 m), (26, .int .i64 a), (27, .int .i64 (m - a)), (28, B (m - a = 1)), (77, .int .i64 b), (78, .int .i64 m), (79, .int .i64 (b - m)), (80, B (b - m = 1)), (129, .int .i64 a), (130, .int .i64 b), (131, .int .i64 (a + b)), (132, .int .u64 (a + b)), (133, .int .u64 ((a + b) / 2)), (134, .int .i64 ((a + b) / 2)), (18, .int .i64 mid), (135, .int .i64 ((a + b) / 2)), (136, .int .i64 m), (137, .int .i64 (((a + b) / 2) + m)), (19, .int .i64 (mid + m)), (20, .int .i64 s0), (21, .int .i64 r0)] ∧ Sat w0 w [.own vd 1 3 n (ints s), .sem F]) ?_ ?_
    ·
     refine zsr ?_
     refine zs3 ?_
     refine zlt ?_
     refine zcif ?_ ?_ <;> intro hc
     ·
      refine zsr ?_
      refine zs2 ?_
      refine zlv (xsub (r := ((a + b) / 2) + m - b)) ?_
      refine zlv xas ?_
      refine zlt <| zrg ?_
      refine zs2 ?_
      refine zln <| zgj ⟨((a + b) / 2), (((a + b) / 2) + m - b), ((a + b) / 2), rfl, (by omega), rfl, hS⟩
     refine zsr ?_
     refine zs2 ?_
     refine zlt <| zrg ?_
     refine zs2 ?_
     refine zln <| zgj ⟨((a + b) / 2), a, m, rfl, (by omega), rfl, hS⟩
    clear hS w; rintro M w ⟨mid, s0, r0, hmid, hq, rfl, hS⟩
    refine ztn <| zsr ?_
    refine zlv xmv ?_
    refine zlv (xsub (r := mid + m - 1)) ?_
    refine zlv xas ?_
    refine zlt <| zsq <| zbk <| zlp (fun mm M w => ∃ (x : Int) (y : Int), mm = ((y - x).toNat) ∧ (s0 ≤ x) ∧ (x ≤ y) ∧ (y ≤ r0) ∧ (x = s0 ∨ ¬ lt (s (mid + m - x)) (s (x - 1))) ∧ (y = r0 ∨ lt (s (mid + m - y - 1)) (s y)) ∧ M = [(0, vd), (1, .int .i64 a), (2, .int .i64 m), (3, .int .i64 b), (4, .func (.func 58) #[] #[(.pointer (some ⟨gs, 0, none⟩))]), (18, .int .i64 mid), (19, .int .i64 (mid + m)), (20, .int .i64 x), (21, .int .i64 y), (22, .int .i64 (mid + m - 1))] ∧ Sat w0 w [.own vd 1 3 n (ints s), .sem F]) ⟨s0, r0, rfl, (by omega), (by omega), (by omega), ?_, ?_, rfl, hS⟩ ?_
    ·
     exact .inl rfl
    ·
     exact .inl rfl
    clear hS w
    rintro mm M w ⟨x, y, rfl, x0, xy, y1, hx, hy, rfl, hS⟩
    refine zsq <| zsr ?_
    refine zs3 ?_
    refine zlt ?_
    refine zcif ?_ ?_ <;> intro hc
    ·
     refine zsk <| ztn <| zbk <| zsr ?_
     refine zs2 ?_
     refine zlv (xadd (r := x + y)) ?_
     refine zlv (xcv so_3 it_112) ?_
     refine zlv (xshr1 (r := ((x + y) / 2))) ?_
     refine zlv (xcv so_112 it_3) ?_
     refine zlv xas ?_
     refine zlt <| zsq ?_
     refine zdst [0, 1] [0, 1] 1000 mx_ hS ?_; clear hS; intro w hS
     refine zdv 0 (fun _ => xmv) ?_
     refine zdv 1 (fun _ => xmv) ?_
     refine zdv 2 (fun _ => xmv) ?_
     refine zdv 3 (fun _ => xmv) ?_
     refine zdv 4 (fun _ => (xsub (r := mid + m - ((x + y) / 2) - 1))) ?_
     refine zdv 5 (fun _ => (xix (kk := mid + m - ((x + y) / 2) - 1) sl_22 hsl)) ?_
     refine zdla 6 (fun w hS => (xlr (u := .int .i64 (s (mid + m - ((x + y) / 2) - 1))) pl_3 (hS.rowN 0 rfl))) ?_
     refine zdv 7 (fun _ => xmv) ?_
     refine zdv 8 (fun _ => xmv) ?_
     refine zdv 9 (fun _ => (xix (kk := ((x + y) / 2)) sl_22 hsl)) ?_
     refine zdla 10 (fun w hS => (xlr (u := .int .i64 (s ((x + y) / 2))) pl_3 (hS.rowN 0 rfl))) ?_
     refine zdc 11 (xcc (vs := [_, _]) cl_58) (hcmp w (s (mid + m - ((x + y) / 2) - 1)) (s ((x + y) / 2)) (hd (mid + m - ((x + y) / 2) - 1) (by omega) (by omega)).1 (hd (mid + m - ((x + y) / 2) - 1) (by omega) (by omega)).2 (hd ((x + y) / 2) (by omega) (by omega)).1 (hd ((x + y) / 2) (by omega) (by omega)).2 hS.below (hS.holds _ (List.mem_of_getElem? (i := 1) rfl))) ?_; rintro _ w ⟨c1, rfl, hc1, hS'⟩
     replace hS := hS.cmp hS'; clear hS'
     refine ⟨⟨fun _ => hS, hS⟩, ?_⟩
     refine zdv 12 (fun _ => xlss) ?_
     refine zdv 13 (fun _ => xnot) ?_
     refine zdd <| ztn ?_
     refine zcif ?_ ?_ <;> intro hc
     ·
      refine zrg ?_
      refine zlv xmv ?_
      refine zlv (xadd (r := ((x + y) / 2) + 1)) ?_
      refine zlv xas ?_
      refine zln <| zbn <| zlq ⟨((x + y) / 2) + 1, y, rfl, (by omega), (by omega), (by omega), ?_, ?_, rfl, hS⟩
      ·
       first | exact hx | (right; rw [show mid + m - ((x + y) / 2 + 1) = mid + m - (x + y) / 2 - 1 by omega, show (x + y) / 2 + 1 - 1 = (x + y) / 2 by omega]; exact fun h => absurd (hc1.2 h) ‹¬ c1 < 0›)
      ·
       first | exact hy | exact .inr (hc1.1 (Classical.not_not.1 ‹_›))
     refine zrg ?_
     refine zs2 ?_
     refine zln <| zbn <| zlq ⟨x, ((x + y) / 2), rfl, (by omega), (by omega), (by omega), ?_, ?_, rfl, hS⟩
     ·
      first | exact hx | (right; rw [show mid + m - ((x + y) / 2 + 1) = mid + m - (x + y) / 2 - 1 by omega, show (x + y) / 2 + 1 - 1 = (x + y) / 2 by omega]; exact fun h => absurd (hc1.2 h) ‹¬ c1 < 0›)
     ·
      first | exact hy | exact .inr (hc1.1 (Classical.not_not.1 ‹_›))
    refine zxt <| ztx <| ztx <| zbh <| ztn <| zsr ?_
    refine zs2 ?_
    refine zlv (xsub (r := mid + m - x)) ?_
    refine zlv xas ?_
    refine zlt <| zsq <| ?_
    refine zgcut (fun M w => ∃ (t : Int → Int), (t = rot s x m (mid + m - x)) ∧ M = [(0, vd), (1, .int .i64 a), (2, .int .i64 m), (3, .int .i64 b), (4, .func (.func 58) #[] #[(.pointer (some ⟨gs, 0, none⟩))]), (18, .int .i64 mid), (19, .int .i64 (mid + m)), (20, .int .i64 x), (21, .int .i64 y), (22, .int .i64 (mid + m - 1)), (149, .int .i64 x), (150, .int .i64 y), (151, B (x < y)), (175, .int .i64 (mid + m)), (176, .int .i64 x), (177, .int .i64 (mid + m - x)), (24, .int .i64 (mid + m - x))] ∧ Sat w0 w [.own vd 1 3 n (ints t), .sem F]) ?_ ?_
    ·
     refine zsr ?_
     refine zs4 ?_
     refine zlb 181 ?_ ?_ <;> intro hc
     ·
      refine zs4 ?_
      refine zlt ?_
      refine zcif ?_ ?_ <;> intro hc
      ·
       refine zrg ?_
       refine zs5 ?_
       refine zlc (xc0 cl_119) (c_rotI (s := s) (a := x) (m := m) (b := mid + m - x) w0 w hS hsl hn8 (by omega) (by omega) (by omega) (by omega)) ?_; rintro _ w ⟨rfl, hS⟩
       replace hS := hS.n2
       refine zln <| zgj ⟨(rot s x m (mid + m - x)), rfl, rfl, hS⟩
      refine zsk <| zgj ⟨s, (rot_triv (by omega) (by omega) (by omega)).symm, rfl, hS⟩
     iterate 3 refine zlo ?_
     refine zlv xpf ?_
     refine zlt <| zcf <| zsk <| zgj ⟨s, (rot_triv (by omega) (by omega) (by omega)).symm, rfl, hS⟩
    clear hS w; rintro M w ⟨t, ht, rfl, hS⟩
    have hdt := (rot_perm (a := s) (lo := x) (c := m) (hi := mid + m - x) (by omega) (by omega)).dom (n := n) (N := nm) (by omega) (.inl (by omega)) hd
    rw [← ht] at hdt
    have hH := merge_halves hw h1 h2 hp (s := x) (mid := mid) (e := mid + m - x) (by omega) (by omega) (by omega) (by omega) (by omega) (by rcases hq with hq | hq <;> rcases hx with hx | hx <;> first | exact .inl (by omega) | exact .inr (.inl (by omega)) | exact .inr (.inr hx)) (by rcases hq with hq | hq <;> rcases hy with hy | hy <;> first | exact .inl (by omega) | exact .inr (.inl (by omega)) | (refine .inr (.inr ?_); rw [show x = y by omega]; exact hy))
    rw [← ht] at hH
    refine ztn <| zsq <| ?_
    refine zgcut (fun M w => ∃ (t1 : Int → Int), (PermOn a mid t t1) ∧ (Srt (Tie lt) a mid t1) ∧ (∀ k, 0 ≤ k → k < n → 0 ≤ t1 k ∧ t1 k < nm) ∧ M = [(0, vd), (1, .int .i64 a), (2, .int .i64 m), (3, .int .i64 b), (4, .func (.func 58) #[] #[(.pointer (some ⟨gs, 0, none⟩))]), (18, .int .i64 mid), (19, .int .i64 (mid + m)), (20, .int .i64 x), (21, .int .i64 y), (22, .int .i64 (mid + m - 1)), (149, .int .i64 x), (150, .int .i64 y), (151, B (x < y)), (175, .int .i64 (mid + m)), (176, .int .i64 x), (177, .int .i64 (mid + m - x)), (24, .int .i64 (mid + m - x))] ∧ Sat w0 w [.own vd 1 3 n (ints t1), .sem F]) ?_ ?_
    ·
     refine zsr ?_
     refine zs4 ?_
     refine zlb 195 ?_ ?_ <;> intro hc
     ·
      refine zs4 ?_
      refine zlt ?_
      refine zcif ?_ ?_ <;> intro hc
      ·
       refine zrg ?_
       refine zs5 ?_
       refine zlc (xc0 cl_109) (ih (s := t) (a := a) (m := x) (b := mid) w0 w hS hcmp hdt (by omega) (by omega) (by omega) (by omega) (hH.l1) (hH.l2) (hH.pl) (by omega)) ?_; rintro _ w ⟨rfl, u1, hpu1, hsu1, hS⟩
       have hdu1 := hpu1.dom (by omega) (.inl (by omega)) hdt
       replace hS := hS.n2
       refine zln <| zgj ⟨u1, hpu1, hsu1, hdu1, rfl, hS⟩
      refine zsk <| zgj ⟨t, (.refl _ _ _), (hH.left (by first | omega | (rintro ⟨h3, h4⟩; omega)) (by omega) (by omega)), hdt, rfl, hS⟩
     iterate 3 refine zlo ?_
     refine zlv xpf ?_
     refine zlt <| zcf <| zsk <| zgj ⟨t, (.refl _ _ _), (hH.left (by first | omega | (rintro ⟨h3, h4⟩; omega)) (by omega) (by omega)), hdt, rfl, hS⟩
    clear hS w; rintro M w ⟨t1, hq1, hq2, hdt1, rfl, hS⟩
    have hH2 : Halves lt a a mid (mid + m - x) b t1 := Halves.after hH hq1 hq2 (by omega) (by omega)
    refine ztn <| zsr ?_
    refine zs4 ?_
    refine zlb 209 ?_ ?_ <;> intro hc
    ·
     refine zs4 ?_
     refine zlt ?_
     refine zcif ?_ ?_ <;> intro hc
     ·
      refine zrg ?_
      refine zs5 ?_
      refine zlc (xc0 cl_109) (ih (s := t1) (a := mid) (m := mid + m - x) (b := b) w0 w hS hcmp hdt1 (by omega) (by omega) (by omega) (by omega) (hH2.r1) (hH2.r2) (hH2.pr) (by omega)) ?_; rintro _ w ⟨rfl, u1, hpu1, hsu1, hS⟩
      have hdu1 := hpu1.dom (by omega) (.inl (by omega)) hdt1
      replace hS := hS.n2
      refine zln <| zfn0 ⟨_, rfl, ?_⟩
      refine ⟨rfl, u1, ((((rot_perm (a := s) (lo := x) (c := m) (hi := mid + m - x) (by omega) (by omega)).mono (by omega) (by omega) : PermOn a b s _)).trans (ht ▸ hq1.mono (by omega) (by omega))).trans (hpu1.mono (by omega) (by omega)), ?_, hS⟩
      exact hH.join hw (by omega) (by omega) hq1 hq2 hpu1 hsu1
     refine zsk <| zfn0 ⟨_, rfl, ?_⟩
     refine ⟨rfl, t1, (((rot_perm (a := s) (lo := x) (c := m) (hi := mid + m - x) (by omega) (by omega)).mono (by omega) (by omega) : PermOn a b s _)).trans (ht ▸ hq1.mono (by omega) (by omega)), ?_, hS⟩
     exact hH.join hw (by omega) (by omega) hq1 hq2 (.refl _ _ _) (hH2.right (by first | omega | (rintro ⟨h3, h4⟩; omega)) (by omega) (by omega))
    iterate 3 refine zlo ?_
    refine zlv xpf ?_
    refine zlt <| zcf <| zsk <| zfn0 ⟨_, rfl, ?_⟩
    refine ⟨rfl, t1, (((rot_perm (a := s) (lo := x) (c := m) (hi := mid + m - x) (by omega) (by omega)).mono (by omega) (by omega) : PermOn a b s _)).trans (ht ▸ hq1.mono (by omega) (by omega)), ?_, hS⟩
    exact hH.join hw (by omega) (by omega) hq1 hq2 (.refl _ _ _) (hH2.right (by first | omega | (rintro ⟨h3, h4⟩; omega)) (by omega) (by omega))
set_option maxHeartbeats 4000000 in
set_option maxRecDepth 20000 in
theorem c_stableI {vd : Value} {n nm : Int} {s : Int → Int} {lt : Int → Int → Prop} {F : Go.Proofs.Gw.Frame} {gs : Nat} (w0 w : World) (hS : Sat w0 w [.own vd 1 3 n (ints s), .sem F]) (hsl : Slh vd n) (hn8 : n ≤ 100000000) (hcmp : ∀ (w : World) (x y : Int), 0 ≤ x → x < nm → 0 ≤ y → y < nm → Below w0.heap.size w0 w → F.holds w → Calls Try.prog 58 [.int .i64 x, .int .i64 y, (.pointer (some ⟨gs, 0, none⟩))].toArray w fun e w' => ∃ v, e = .returned v ∧ ∃ c : Int, v = .int .i64 c ∧ (c < 0 ↔ lt x y) ∧ Sat w w' []) (hd : ∀ k, 0 ≤ k → k < n → 0 ≤ s k ∧ s k < nm) (hw : Swo lt) (hinc : Incr 0 n s) :
    Calls Try.prog 88 [vd, .int .i64 n, .func (.func 58) #[] #[(.pointer (some ⟨gs, 0, none⟩))]].toArray w fun e w => ∃ v, e = .returned v ∧ v = .tuple #[] ∧ ∃ t : Int → Int, PermOn 0 n s t ∧ Srt (Tie lt) 0 n t ∧ Sat w0 w [.own vd 1 3 n (ints t), .sem F] := by
  have hn0 := hsl.n0
  refine zenF Try.func88 Try.ntmps88 ?_
  refine zsr ?_
  refine zlv xas ?_
  refine zlz ?_
  refine zs3 ?_
  refine zlt <| zsq <| zbk <| zlp (fun mm M w => ∃ (t : Int → Int) (a : Int) (b : Int), mm = ((n - a).toNat) ∧ (0 ≤ a) ∧ (a ≤ n) ∧ (b = a + 20) ∧ ((20 : Int) ∣ a) ∧ (PermOn 0 a s t) ∧ (Runs_ lt 20 n 0 a t) ∧ (∀ k, 0 ≤ k → k < n → 0 ≤ t k ∧ t k < nm) ∧ M = [(0, vd), (1, .int .i64 n), (2, .func (.func 58) #[] #[(.pointer (some ⟨gs, 0, none⟩))]), (6, .int .i64 20), (7, .int .i64 a), (8, .int .i64 b)] ∧ Sat w0 w [.own vd 1 3 n (ints t), .sem F]) ⟨s, 0, 20, rfl, (by omega), (by omega), (by omega), ?_, ?_, ?_, ?_, rfl, hS⟩ ?_
  ·
   exact Int.dvd_zero 20
  ·
   exact .refl _ _ _
  ·
   intro c c0 c1; omega
  ·
   exact hd
  clear hS w
  rintro mm M w ⟨t, a, b, rfl, a0, a1, hb, hda, hp, hr, hd1, rfl, hS⟩
  refine zsq <| zsr ?_
  refine zs3 ?_
  refine zlt ?_
  refine zcif ?_ ?_ <;> intro hc
  ·
   refine zsk <| ztn <| zbk <| zsr ?_
   refine zs4 ?_
   refine zlc (xc0 cl_108) (c_insI (s := t) (a := a) (b := b) w0 w hS hsl hn8 hcmp hd1 hw (by omega) (by omega) (by omega) (incr_keep hp hinc (by omega) (by omega) (by omega))) ?_; rintro _ w ⟨rfl, u1, hpu1, hsu1, hS⟩
   have hdu1 := hpu1.dom (by omega) (.inl (by omega)) hd1
   replace hS := hS.n2
   refine zlz ?_
   refine zs2 ?_
   refine zlt <| zrg ?_
   refine zs2 ?_
   refine zlv (xadd (r := b + 20)) ?_
   refine zlv xas ?_
   refine zln <| zbn <| zlq ⟨u1, b, b + 20, rfl, (by omega), (by omega), (by omega), ?_, ?_, ?_, ?_, rfl, hS⟩
   ·
    rw [hb]; exact Int.dvd_add hda (Int.dvd_refl 20)
   ·
    exact (hp.mono (by omega) (by omega)).trans (hpu1.mono (by omega) (by omega))
   ·
    exact runs_first (by omega) hinc hr a0 hda hp hpu1 hsu1 (.inl ⟨hb, by omega⟩) (by omega)
   ·
    exact hdu1
  refine zxt <| ztx <| ztx <| zbh <| ztn <| zsr ?_
  refine zs4 ?_
  refine zlc (xc0 cl_108) (c_insI (s := t) (a := a) (b := n) w0 w hS hsl hn8 hcmp hd1 hw (by omega) (by omega) (by omega) (incr_keep hp hinc (by omega) (by omega) (by omega))) ?_; rintro _ w ⟨rfl, u1, hpu1, hsu1, hS⟩
  have hdu1 := hpu1.dom (by omega) (.inl (by omega)) hd1
  replace hS := hS.n2
  refine zlt <| zbk <| zlp (fun mm M w => ∃ (t2 : Int → Int) (z : Int), mm = ((n - z).toNat) ∧ (20 ≤ z) ∧ (z ≤ 2 * n + 20) ∧ (PermOn 0 n s t2) ∧ (Runs_ lt z n 0 n t2) ∧ (∀ k, 0 ≤ k → k < n → 0 ≤ t2 k ∧ t2 k < nm) ∧ M = [(0, vd), (1, .int .i64 n), (2, .func (.func 58) #[] #[(.pointer (some ⟨gs, 0, none⟩))]), (6, .int .i64 z)] ∧ Sat w0 w [.own vd 1 3 n (ints t2), .sem F]) ⟨u1, 20, rfl, (by omega), (by omega), ?_, ?_, ?_, rfl, hS⟩ ?_
  ·
   exact (hp.mono (by omega) (by omega)).trans (hpu1.mono (by omega) (by omega))
  ·
   exact runs_first (by omega) hinc hr a0 hda hp hpu1 hsu1 (.inr ⟨rfl, by omega⟩) (by omega)
  ·
   exact hdu1
  clear hS w
  rintro mm M w ⟨t2, z, rfl, z0, z1, hp2, hr2, hd2, rfl, hS⟩
  refine zsq <| zsr ?_
  refine zs3 ?_
  refine zlt ?_
  refine zcif ?_ ?_ <;> intro hc
  ·
   refine zsk <| ztn <| zbk <| zsr ?_
   refine zlv xmv ?_
   refine zlv (xmul (r := 2 * z)) ?_
   refine zs2 ?_
   refine zlt <| zsq <| zbk <| zlp (fun mm M w => ∃ (t3 : Int → Int) (a3 : Int) (b3 : Int), mm = ((n - a3).toNat) ∧ (0 ≤ a3) ∧ (a3 ≤ n) ∧ (b3 = a3 + 2 * z) ∧ (2 * z ∣ a3) ∧ (PermOn 0 n s t3) ∧ (Runs_ lt (2 * z) n 0 a3 t3) ∧ (Runs_ lt z n a3 n t3) ∧ (∀ k, 0 ≤ k → k < n → 0 ≤ t3 k ∧ t3 k < nm) ∧ M = [(0, vd), (1, .int .i64 n), (2, .func (.func 58) #[] #[(.pointer (some ⟨gs, 0, none⟩))]), (6, .int .i64 z), (7, .int .i64 a3), (8, .int .i64 b3)] ∧ Sat w0 w [.own vd 1 3 n (ints t3), .sem F]) ⟨t2, 0, 2 * z, rfl, (by omega), (by omega), (by omega), ?_, ?_, ?_, ?_, ?_, rfl, hS⟩ ?_
   ·
    exact Int.dvd_zero _
   ·
    exact hp2
   ·
    intro c c0 c1; omega
   ·
    exact hr2
   ·
    exact hd2
   clear hS w
   rintro mm M w ⟨t3, a3, b3, rfl, a30, a31, hb3, hda3, hp3, hA, hB, hd3, rfl, hS⟩
   refine zsq <| zsr ?_
   refine zs3 ?_
   refine zlt ?_
   refine zcif ?_ ?_ <;> intro hc
   ·
    refine zsk <| ztn <| zbk <| zsr ?_
    refine zs4 ?_
    refine zlv (xadd (r := a3 + z)) ?_
    refine zs2 ?_
    have hk := runs_pre (lt := lt) (z := z) (n := n) (a := a3) (b := b3) (t := t3) (by omega) a30 (Int.dvd_trans (Int.dvd_mul_left 2 z) hda3) hB (by omega) (by omega) (by omega)
    refine zlc (xc0 cl_109) (c_symI (nm := nm) (lt := lt) hsl hn8 hw _ (s := t3) (a := a3) (m := a3 + z) (b := b3) w0 w hS hcmp hd3 (by omega) (by omega) (by omega) (by omega) hk.1 hk.2.1 hk.2.2 (Nat.lt_succ_self _)) ?_; rintro _ w ⟨rfl, u2, hpu2, hsu2, hS⟩
    have hdu2 := hpu2.dom (by omega) (.inl (by omega)) hd3
    replace hS := hS.n2
    refine zlz ?_
    refine zs2 ?_
    refine zlt <| zrg ?_
    refine zs2 ?_
    refine zlv (xmul (r := 2 * z)) ?_
    refine zlv (xadd (r := b3 + 2 * z)) ?_
    refine zlv xas ?_
    refine zln <| zbn <| zlq ⟨u2, b3, b3 + 2 * z, rfl, (by omega), (by omega), (by omega), ?_, ?_, ?_, ?_, ?_, rfl, hS⟩
    ·
     rw [hb3]; exact Int.dvd_add hda3 (Int.dvd_refl _)
    ·
     exact hp3.trans (hpu2.mono (by omega) (by omega))
    ·
     exact (runs_merge (by omega) a30 hda3 hA hB hpu2 hsu2 (.inl ⟨hb3, by omega⟩) (by omega)).1
    ·
     exact (runs_merge (by omega) a30 hda3 hA hB hpu2 hsu2 (.inl ⟨hb3, by omega⟩) (by omega)).2
    ·
     exact hdu2
   refine zxt <| ztx <| ztx <| zbh <| ztn <| zsq <| zsr ?_
   refine zs2 ?_
   refine zlv (xadd (r := a3 + z)) ?_
   refine zlv xas ?_
   refine zlz ?_
   refine zs3 ?_
   refine zlt ?_
   refine zcif ?_ ?_ <;> intro hc
   ·
    refine zrg ?_
    refine zs5 ?_
    have hk := runs_pre (lt := lt) (z := z) (n := n) (a := a3) (b := n) (t := t3) (by omega) a30 (Int.dvd_trans (Int.dvd_mul_left 2 z) hda3) hB (by omega) (by omega) (by omega)
    refine zlc (xc0 cl_109) (c_symI (nm := nm) (lt := lt) hsl hn8 hw _ (s := t3) (a := a3) (m := a3 + z) (b := n) w0 w hS hcmp hd3 (by omega) (by omega) (by omega) (by omega) hk.1 hk.2.1 hk.2.2 (Nat.lt_succ_self _)) ?_; rintro _ w ⟨rfl, u2, hpu2, hsu2, hS⟩
    have hdu2 := hpu2.dom (by omega) (.inl (by omega)) hd3
    replace hS := hS.n2
    refine zlt <| zrg ?_
    refine zlv xmv ?_
    refine zlv (xmul (r := 2 * z)) ?_
    refine zlv xas ?_
    refine zln <| zbn <| zlq ⟨u2, 2 * z, rfl, (by omega), (by omega), ?_, ?_, ?_, rfl, hS⟩
    ·
     first | exact hp3.trans (hpu2.mono (by omega) (by omega)) | exact hp3
    ·
     first | exact (runs_merge (by omega) a30 hda3 hA hB hpu2 hsu2 (.inr ⟨rfl, by omega⟩) (by omega)).1 | exact runs_end (by omega) a30 hda3 hA hB (by omega) (by omega)
    ·
     first | exact hdu2 | exact hd3
   refine zsk <| ztn <| zrg ?_
   refine zlv xmv ?_
   refine zlv (xmul (r := 2 * z)) ?_
   refine zlv xas ?_
   refine zln <| zbn <| zlq ⟨t3, 2 * z, rfl, (by omega), (by omega), ?_, ?_, ?_, rfl, hS⟩
   ·
    first | exact hp3.trans (hpu2.mono (by omega) (by omega)) | exact hp3
   ·
    first | exact (runs_merge (by omega) a30 hda3 hA hB hpu2 hsu2 (.inr ⟨rfl, by omega⟩) (by omega)).1 | exact runs_end (by omega) a30 hda3 hA hB (by omega) (by omega)
   ·
    first | exact hdu2 | exact hd3
  refine zxt <| ztx <| ztx <| zbh <| zfn0 ⟨_, rfl, ?_⟩
  exact ⟨rfl, t2, hp2, runs_all hr2 (by omega), hS⟩
set_option maxRecDepth 20000 in
theorem c_sortsI {vd : Value} {n nm : Int} {s : Int → Int} {lt : Int → Int → Prop} {F : Go.Proofs.Gw.Frame} {gs : Nat} (w0 w : World) (hS : Sat w0 w [.own vd 1 3 n (ints s), .sem F]) (hsl : Slh vd n) (hn8 : n ≤ 100000000) (hcmp : ∀ (w : World) (x y : Int), 0 ≤ x → x < nm → 0 ≤ y → y < nm → Below w0.heap.size w0 w → F.holds w → Calls Try.prog 58 [.int .i64 x, .int .i64 y, (.pointer (some ⟨gs, 0, none⟩))].toArray w fun e w' => ∃ v, e = .returned v ∧ ∃ c : Int, v = .int .i64 c ∧ (c < 0 ↔ lt x y) ∧ Sat w w' []) (hd : ∀ k, 0 ≤ k → k < n → 0 ≤ s k ∧ s k < nm) (hw : Swo lt) (hinc : Incr 0 n s) :
    Calls Try.prog 57 [vd, .func (.func 58) #[] #[(.pointer (some ⟨gs, 0, none⟩))]].toArray w fun e w => ∃ v, e = .returned v ∧ v = .tuple #[] ∧ ∃ t : Int → Int, PermOn 0 n s t ∧ Srt (Tie lt) 0 n t ∧ Sat w0 w [.own vd 1 3 n (ints t), .sem F] := by
  refine zenF Try.func57 Try.ntmps57 ?_
  refine zrg ?_
  refine zs2 ?_
  refine zlv (xln sl_22 hsl) ?_
  refine zlv xmv ?_
  refine zlc (xc0 cl_88) (c_stableI (s := s) w0 w hS hsl hn8 hcmp hd hw hinc) ?_; rintro _ w ⟨rfl, u1, hpu1, hsu1, hS⟩
  replace hS := hS.n2
  refine zln <| zfn0 ⟨_, rfl, ?_⟩
  exact ⟨rfl, u1, hpu1, hsu1, hS⟩
set_option maxRecDepth 20000 in
theorem c_upcmp {x y : Int} {vX vY : Value} {s : So} {gs : Nat} (w0 : World) (hG : (Ent.blk gs [vX, vY, .int .i64 s.val, .int .i64 s.den]).holds w0) (hX : Row w0 vX 1 s.n (ints s.X)) (hY : Row w0 vY 1 s.m (ints s.Y)) (hsd : SoundS s) (x0 : 0 ≤ x) (x1 : x < s.n) (y0 : 0 ≤ y) (y1 : y < s.n) :
    Calls Try.prog 58 [.int .i64 x, .int .i64 y, .pointer (some ⟨gs, 0, none⟩)].toArray w0 fun e w => ∃ v, e = .returned v ∧ ∃ c : Int, v = .int .i64 c ∧ (c < 0 ↔ (s.X y).tmod s.den < (s.X x).tmod s.den) ∧ Sat w0 w [] := by
  obtain ⟨⟨d1, d2⟩, ⟨d3, d4⟩, d5⟩ := id hsd
  have hxx := d5 x x0 x1; have hxy := d5 y y0 y1
  have hq1 := tmod_rng (a := s.X x) (d := s.den) hxx.1 (by omega); have hq2 := tmod_rng (a := s.X y) (d := s.den) hxy.1 (by omega)
  refine zenG Try.func58 Try.ntmps58 fun w hS => ?_
  refine zsr ?_
  refine zlv xas ?_
  refine zlt <| zsq ?_
  refine zdst [] [] 1000 mx_ hS ?_; clear hS; intro w hS
  refine zdv 0 (fun _ => (xfb 0 fd_36_0)) ?_
  refine zdla 1 (fun w hS => (xlf pl_22 (Ent.holds.cell hG (o := 0) rfl) hS)) ?_
  refine zdv 2 (fun _ => xmv) ?_
  refine zdv 3 (fun _ => (xix (kk := y) sl_22 hX.slh)) ?_
  refine zdla 4 (fun w hS => (xlr (u := .int .i64 (s.X y)) pl_3 (hX.below hS.below))) ?_
  refine zdv 5 (fun _ => (xfb 3 fd_36_3)) ?_
  refine zdla 6 (fun w hS => (xlf pl_3 (Ent.holds.cell hG (o := 3) rfl) hS)) ?_
  refine zdv 7 (fun _ => (xrem (r := (Int.tmod (s.X y) s.den)))) ?_
  refine zdv 8 (fun _ => (xfb 0 fd_36_0)) ?_
  refine zdla 9 (fun w hS => (xlf pl_22 (Ent.holds.cell hG (o := 0) rfl) hS)) ?_
  refine zdv 10 (fun _ => xmv) ?_
  refine zdv 11 (fun _ => (xix (kk := x) sl_22 hX.slh)) ?_
  refine zdla 12 (fun w hS => (xlr (u := .int .i64 (s.X x)) pl_3 (hX.below hS.below))) ?_
  refine zdv 13 (fun _ => (xfb 3 fd_36_3)) ?_
  refine zdla 14 (fun w hS => (xlf pl_3 (Ent.holds.cell hG (o := 3) rfl) hS)) ?_
  refine zdv 15 (fun _ => (xrem (r := (Int.tmod (s.X x) s.den)))) ?_
  refine zdv 16 (fun _ => (xsub (r := (Int.tmod (s.X y) s.den) - (Int.tmod (s.X x) s.den)))) ?_
  refine zdv 17 (fun _ => xas) ?_
  refine zdd <| ztn <| zrt <| zf1 ⟨_, rfl, ?_⟩
  exact ⟨_, rfl, by omega, hS⟩
def frN (s : So) : Nat → Int
  | 0 => 0
  | k + 1 => if (s.X k).tmod s.den = 0 then frN s k else frN s k + 1
def frF (s : So) : Nat → Int → Int
  | 0 => fun _ => 0
  | k + 1 => if (s.X k).tmod s.den = 0 then frF s k else snoc (frF s k) (frN s k) k
theorem frN_next (s : So) {i : Int} (h : 0 ≤ i) : frN s (i + 1).toNat = if (s.X i).tmod s.den = 0 then frN s i.toNat else frN s i.toNat + 1 := by
  obtain ⟨k, rfl⟩ := Int.eq_ofNat_of_zero_le h; rw [show ((k : Int) + 1).toNat = k + 1 by omega, Int.toNat_natCast]; rfl
theorem frF_next (s : So) {i : Int} (h : 0 ≤ i) : frF s (i + 1).toNat = if (s.X i).tmod s.den = 0 then frF s i.toNat else snoc (frF s i.toNat) (frN s i.toNat) i := by
  obtain ⟨k, rfl⟩ := Int.eq_ofNat_of_zero_le h; rw [show ((k : Int) + 1).toNat = k + 1 by omega, Int.toNat_natCast]; rfl
theorem fr_rng (s : So) : ∀ n : Nat, 0 ≤ frN s n ∧ frN s n ≤ n ∧ (∀ k, 0 ≤ k → k < frN s n → 0 ≤ frF s n k ∧ frF s n k < n ∧ (s.X (frF s n k)).tmod s.den ≠ 0) ∧ Incr 0 (frN s n) (frF s n) ∧ ∀ q, 0 ≤ q → q < (n : Int) → (s.X q).tmod s.den ≠ 0 → ∃ k, 0 ≤ k ∧ k < frN s n ∧ frF s n k = q
  | 0 => ⟨by simp [frN], by simp [frN], fun k k0 k1 => by simp [frN] at k1; omega, fun i j i0 ij j1 => by simp [frN] at j1; omega, fun q q0 q1 => by omega⟩
  | n + 1 => by
    obtain ⟨h1, h2, h3, h4, h5⟩ := fr_rng s n
    simp only [frN, frF]
    by_cases h : (s.X n).tmod s.den = 0
    · rw [if_pos h, if_pos h]
      refine ⟨h1, by omega, fun k k0 k1 => ?_, h4, fun q q0 q1 hq => ?_⟩
      · have := h3 k k0 k1; exact ⟨this.1, by omega, this.2.2⟩
      · by_cases e : q = n
        · rw [e] at hq; exact absurd h hq
        · exact h5 q q0 (by omega) hq
    · rw [if_neg h, if_neg h]
      refine ⟨by omega, by omega, fun k k0 k1 => ?_, fun i j i0 ij j1 => ?_, fun q q0 q1 hq => ?_⟩
      · by_cases e : k < frN s n
        · rw [snoc_lt e]; have := h3 k k0 e; exact ⟨this.1, by omega, this.2.2⟩
        · rw [snoc_at e]; exact ⟨by omega, by omega, h⟩
      · by_cases e : j < frN s n
        · rw [snoc_lt e, snoc_lt (show i < frN s n by omega)]; exact h4 i j i0 ij e
        · rw [snoc_at e, snoc_lt (show i < frN s n by omega)]; have := h3 i i0 (by omega); omega
      · by_cases e : q = n
        · exact ⟨frN s n, h1, by omega, by rw [snoc_at (by omega), e]⟩
        · obtain ⟨k, k0, k1, hk⟩ := h5 q q0 (by omega) hq
          exact ⟨k, k0, by omega, by rw [snoc_lt k1]; exact hk⟩
def uNeed (a r : List Int) : Bool := (List.zipWith (fun x y => if 0 < x ∧ 0 < y then (1 : Int) else 0) a r).any fun x => decide (0 < x)
def uStep (m : Int) (mf : Int → Int → Int) (st : List Int × Us) (k : Int) : List Int × Us :=
  if uNeed (lst m (mf k)) st.1 then (List.zipWith (fun x y => max 0 (y - x)) (lst m (mf k)) st.1, st.2 ++ [(lst m (mf k), 1)]) else st
def uRun (m : Int) (mf : Int → Int → Int) (r0 : List Int) (L0 : Us) (h : List Int) : List Int × Us := h.foldl (uStep m mf) (r0, L0)
theorem lst_next {n : Int} {f : Int → Int} (n0 : 0 ≤ n) : lst (n + 1) f = lst n f ++ [f n] := by
  unfold lst
  rw [show (n + 1).toNat = n.toNat + 1 by omega, List.range_succ, List.map_append, List.map_singleton, Int.toNat_of_nonneg n0]
theorem uRun_next (m : Int) (mf : Int → Int → Int) (r0 : List Int) (L0 : Us) {j : Int} {t : Int → Int} (j0 : 0 ≤ j) : uRun m mf r0 L0 (lst (j + 1) t) = uStep m mf (uRun m mf r0 L0 (lst j t)) (t j) := by
  rw [lst_next j0]; simp [uRun]
theorem uNeed_lst {m : Int} {f g : Int → Int} : uNeed (lst m f) (lst m g) = true ↔ ∃ i, 0 ≤ i ∧ i < m ∧ 0 < f i ∧ 0 < g i := by
  unfold uNeed
  rw [zip_lst, any_lst]
  constructor
  · rintro ⟨k, k0, k1, h⟩
    refine ⟨k, k0, k1, ?_⟩
    by_cases hh : 0 < f k ∧ 0 < g k
    · exact hh
    · rw [if_neg hh] at h; omega
  · rintro ⟨k, k0, k1, h⟩
    exact ⟨k, k0, k1, by rw [if_pos h]; omega⟩
theorem uNo {m n j : Int} {mf : Int → Int → Int} {r0 : List Int} {L0 : Us} {t g ln cnt : Int → Int} {pt : Int → Int → Int} (j0 : 0 ≤ j) (h : (lst m g, plL n ln pt cnt) = uRun m mf r0 L0 (lst j t)) (hn : ¬ ∃ i, 0 ≤ i ∧ i < m ∧ 0 < mf (t j) i ∧ 0 < g i) : (lst m g, plL n ln pt cnt) = uRun m mf r0 L0 (lst (j + 1) t) := by
  rw [uRun_next _ _ _ _ j0, ← h]
  unfold uStep
  rw [if_neg fun hh => hn (uNeed_lst.1 hh)]
theorem uYes {m n j : Int} {mf : Int → Int → Int} {r0 : List Int} {L0 : Us} {t g g2 ln cnt ln2 cnt2 : Int → Int} {pt pt2 : Int → Int → Int} (j0 : 0 ≤ j) (n0 : 0 ≤ n) (h : (lst m g, plL n ln pt cnt) = uRun m mf r0 L0 (lst j t)) (hn : ∃ i, 0 ≤ i ∧ i < m ∧ 0 < mf (t j) i ∧ 0 < g i) (hg : ∀ k, 0 ≤ k → k < m → g2 k = max 0 (g k - mf (t j) k))
    (h1 : ∀ k, 0 ≤ k → k < n → ln2 k = ln k ∧ cnt2 k = cnt k ∧ pt2 k = pt k) (h2 : ln2 n = m) (h3 : cnt2 n = 1) (h4 : pt2 n = mf (t j)) : (lst m g2, plL (n + 1) ln2 pt2 cnt2) = uRun m mf r0 L0 (lst (j + 1) t) := by
  rw [uRun_next _ _ _ _ j0, ← h]
  unfold uStep
  dsimp only
  rw [if_pos (uNeed_lst.2 hn), zip_lst, plL_snoc n0 h1 h2 h3 h4, lst_congr (f := g2) (g := fun k => max 0 (g k - mf (t j) k)) hg]
def UpR (p : Prob) (u : Int) (ml : Int → Int) (mf : Int → Int → Int) (s : So) (out : Us) (e : Int) : Prop :=
  (e ≠ 0 ∧ out = [] ∧ ∃ n ln pt cnt, WholeR p u ml mf s n ln pt cnt e) ∨ (∃ n1 ln1 pt1 cnt1 t n ln pt cnt, WholeR p u ml mf s n1 ln1 pt1 cnt1 0 ∧ 0 ≤ n1 ∧ 0 ≤ n ∧ PermOn 0 (frN s u.toNat) (frF s u.toNat) t ∧ Srt (Tie fun x y => (s.X y).tmod s.den < (s.X x).tmod s.den) 0 (frN s u.toNat) t ∧
    plL n ln pt cnt = (uRun p.m mf (lst p.m (leftF p (madeF n1 pt1 cnt1))) (plL n1 ln1 pt1 cnt1) (lst (frN s u.toNat) t)).2 ∧ TrimR p n ln pt cnt out e)
theorem us_next {mf g : Int → Int} {i : Int} {us us2 : Prop} (i0 : 0 ≤ i) (h : us ↔ ∃ q, 0 ≤ q ∧ q < i ∧ 0 < mf q ∧ 0 < g q) (h2 : us2 ↔ (us ∨ (0 < mf i ∧ 0 < g i))) : us2 ↔ ∃ q, 0 ≤ q ∧ q < i + 1 ∧ 0 < mf q ∧ 0 < g q := by
  rw [h2, h]
  constructor
  · rintro (⟨q, q0, q1, q2⟩ | hh)
    · exact ⟨q, q0, by omega, q2⟩
    · exact ⟨i, i0, by omega, hh⟩
  · rintro ⟨q, q0, q1, q2⟩
    by_cases e : q = i
    · subst e; exact .inr q2
    · exact .inl ⟨q, q0, by omega, q2⟩
theorem swo_frac (s : So) : Swo (fun x y => (s.X y).tmod s.den < (s.X x).tmod s.den) :=
  ⟨fun x y h => by omega, fun x y z h k => by omega, fun x y z h k => by omega⟩
set_option maxHeartbeats 4000000 in
set_option maxRecDepth 20000 in
theorem c_up {vL vD : Value} {p : Prob} {vM : Value} {u : Int} {mv : Int → Value} {ml : Int → Int} {mf : Int → Int → Int} {vX vY : Value} {s : So} (w0 : World) (h : PAt w0 vL vD p) (hM : MAt w0 vM u mv ml mf) (hX : Row w0 vX 1 s.n (ints s.X)) (hY : Row w0 vY 1 s.m (ints s.Y)) (hn60 : s.n ≤ 1000) :
    Calls Try.prog 24 [.agg #[vL, vD, .int .i64 p.stock, .int .i64 p.kerf], .agg #[vM, vX, vY, .int .i64 s.val, .int .i64 s.den]].toArray w0 fun e w => ∃ v, e = .returned v ∧ ∃ r n pv ln pt cnt e, v = .tuple #[r, .int .i64 e] ∧ UpR p u ml mf s (plL n ln pt cnt) e ∧ (∀ k, 0 ≤ k → k < n → 1 ≤ cnt k ∧ cnt k ≤ 1000000000) ∧ n ≤ 1000000 ∧ Slh r n ∧ Sat w0 w [.own r 2 50 n (ucells pv cnt), .sem (Frame.rows 3 n pv ln pt)] := by
  have hm := h.L.slh.n0; have hm1 := h.L.slh.n1; have hd := h.D.slh.n0; have hd1 := h.D.slh.n1; have hs := h.is; have hk := h.ik
  have hu := hM.row.slh.n0; have hu1 := hM.row.slh.n1; have hn := hX.slh.n0; have hn1 := hX.slh.n1
  refine zenG Try.func24 Try.ntmps24 fun w hS => ?_
  refine zsr ?_
  refine zla (xbx (cs := [_, _, _, _]) hS) ?_; rintro _ w ⟨g1, rfl, hS⟩
  replace hS := hS.n1
  refine zla (xbx (cs := [_, _, _, _, _]) hS) ?_; rintro _ w ⟨g2, rfl, hS⟩
  replace hS := hS.n2
  refine zs2 ?_
  refine zlz ?_
  refine zlv (xls 0 st_39 hS) ?_
  refine zlv (xls 1 st_58 hS) ?_
  refine zlc (xc0 cl_48) (c_whole (p := p) (u := u) (ml := ml) (mf := mf) (s := s) w (h.below hS.below) (hM.below hS.below) (hX.below hS.below) (hY.below hS.below) hn60) ?_; rintro _ w ⟨vnwh1, nnwh1, pnwh1, lnwh1, gnwh1, cnwh1, enwh1, rfl, hwhwh1, hvnwh1, hS'⟩
  replace hS : Sat w0 w [.blk g1 [vL, vD, .int .i64 p.stock, .int .i64 p.kerf], .blk g2 [vM, vX, vY, .int .i64 s.val, .int .i64 s.den], .own vnwh1 2 50 nnwh1 (ucells pnwh1 cnwh1), .sem (Frame.rows 3 nnwh1 pnwh1 lnwh1 gnwh1)] := hS.comp hS'; clear hS'
  have hrnwh1 := fun k (k0 : 0 ≤ k) (k1 : k < nnwh1) => hS.slhIn 3 rfl k0 k1
  refine zs5 ?_
  refine zlt <| zsq <| zsr ?_
  refine zs2 ?_
  refine zlt ?_
  refine zcif ?_ ?_ <;> intro hc
  ·
   refine zsr ?_
   refine zs3 ?_
   refine zlt <| zrt <| ztr <| zf2 ⟨_, rfl, ?_⟩
   exact ⟨_, 0, fun _ => undef, fun _ => 0, fun _ _ => 0, fun _ => 0, _, rfl, .inl ⟨by omega, rfl, _, _, _, _, hwhwh1⟩, fun k k0 k1 => by omega, by omega, slh_nil, ((hS.sub (.cons _ (.cons _ (.cons _ (.cons _ .slnil))))).addnil 2 50 (ucells (fun _ => undef) (fun _ => 0))).addrows 3 (fun _ => undef) (fun _ => 0) (fun _ _ => 0)⟩
  refine zsk <| ztn <| zsr ?_
  refine zlv (xls 0 st_39 hS) ?_
  obtain ⟨hokp, hfitt, htot, hn60w, hplw, hn19⟩ := hwhwh1.ok (by omega) hu
  have hok9 := hokp
  have hsd := hfitt.1
  obtain ⟨⟨d1, d2⟩, ⟨d3, d4⟩, d5⟩ := id hsd
  have hun := hfitt.2.1
  have hu6 := hfitt.2.2.1
  have hpm1 := hokp.m1; have hpm2 := hokp.m2; have hpd := hokp.d
  refine zlv xmv ?_
  refine zlc (xc0 cl_49) (c_pmade (u := nnwh1) (pv := pnwh1) (ln := lnwh1) (pt := gnwh1) (cnt := cnwh1) (p := p) w (⟨(hS.rowN 2 rfl), fun k k0 k1 => hS.rowIn 3 rfl k0 k1, fun k k0 k1 => hS.roomIn 3 rfl k0 k1⟩ : VAt _ vnwh1 nnwh1 pnwh1 lnwh1 gnwh1 cnwh1) (h.below hS.below)) ?_; rintro _ w ⟨vdmd1, ndmd1, fdmd1, edmd1, rfl, hmdmd1, hvdmd1, hS'⟩
  replace hS : Sat w0 w [.blk g1 [vL, vD, .int .i64 p.stock, .int .i64 p.kerf], .blk g2 [vM, vX, vY, .int .i64 s.val, .int .i64 s.den], .own vnwh1 2 50 nnwh1 (ucells pnwh1 cnwh1), .sem (Frame.rows 3 nnwh1 pnwh1 lnwh1 gnwh1), .own vdmd1 1 3 ndmd1 (ints fdmd1)] := hS.comp hS'; clear hS'
  obtain ⟨hnd9, hfd9⟩ : ndmd1 = p.m ∧ fdmd1 = madeF nnwh1 gnwh1 cnwh1 := by rcases hmdmd1 with ⟨g1, _⟩ | ⟨_, g2, g3, _⟩; exact absurd hplw g1; exact ⟨g2, g3⟩
  have hfbb : ∀ k, 0 ≤ k → k < p.m → 0 ≤ fdmd1 k ∧ fdmd1 k ≤ 2000000000 := fun k k0 k1 => by rw [hfd9]; have h9 := madeF_rng hplw.2.2 hn19 (Int.le_refl _) k0 k1; omega
  have hfb9 := fun k (k0 : 0 ≤ k) (k1 : k < p.m) => (hfbb k k0 k1).1
  have htl := leftP_tot hokp hfb9 p.m.toNat (by have := hokp.m1; omega)
  refine zs5 ?_
  refine zlz ?_
  refine zlv (xls 0 st_39 hS) ?_
  refine zlv xmv ?_
  refine zlc (xc0 cl_52) (c_left (p := p) (f := fdmd1) w (h.below hS.below) hokp (hnd9 ▸ (hS.rowN 4 rfl)) hfbb) ?_; rintro _ w ⟨vllf1, wllf1, rfl, hvllf1, hwllf1, hS'⟩
  replace hS : Sat w0 w [.blk g1 [vL, vD, .int .i64 p.stock, .int .i64 p.kerf], .blk g2 [vM, vX, vY, .int .i64 s.val, .int .i64 s.den], .own vnwh1 2 50 nnwh1 (ucells pnwh1 cnwh1), .sem (Frame.rows 3 nnwh1 pnwh1 lnwh1 gnwh1), .own vdmd1 1 3 ndmd1 (ints fdmd1), .own vllf1 1 3 p.m (ints p.L), .own wllf1 1 3 p.d (ints (leftF p fdmd1))] := hS.comp hS'; clear hS'
  refine zlv (xany (v := wllf1)) ?_
  refine zlv xas ?_
  refine zlz ?_
  refine zlv (xfb 1 fd_58_1) ?_
  refine zlv (xlp 1 (ds := [vX, vY, .int .i64 s.val, .int .i64 s.den]) st_36 hS) ?_
  refine zla (xal (cs := [_, _, _, _]) el_36 hS) ?_; rintro _ w ⟨g3, rfl, hS⟩
  replace hS := hS.n8
  refine zle (xsw 7 st_36 hS (hd := (ones_cons hX.slh.one (ones_cons hY.slh.one (ones_cons rfl (ones_cons rfl ones_nil)))))) ?_; clear hS; rintro w hS
  replace hS := hS.n8
  refine zlz ?_
  refine zlv xas ?_
  refine zlt <| zsq <| zsr ?_
  refine zlv (xfb 0 fd_36_0) ?_
  refine zlv (xlb 7 pl_22 hS) ?_
  refine zlv (xln sl_22 hX.slh) ?_
  refine zlv xmv ?_
  refine zlt <| zbk ?_
  replace hS := hS.addnil 1 3 (ints (fun _ => 0))
  replace hS := hS.n9
  refine zlp (fun mm M w => ∃ (nO : Int) (fO : Int → Int) (i : Int) (vO : Value), mm = ((s.n - i).toNat) ∧ (0 ≤ i) ∧ (i ≤ s.n) ∧ (nO = frN s i.toNat) ∧ (fO = frF s i.toNat) ∧ (0 ≤ nO ∧ nO ≤ i) ∧ (Slh vO nO) ∧ M = [(2, .pointer (some ⟨g1, 0, none⟩)), (3, .pointer (some ⟨g2, 0, none⟩)), (4, .slice none 0 0), (5, .int .i64 0), (6, vnwh1), (10, wllf1), (11, .pointer (some ⟨g3, 0, none⟩)), (12, vO), (45, vX), (46, .int .i64 s.n), (47, .int .i64 i)] ∧ Sat w0 w [.blk g1 [vL, vD, .int .i64 p.stock, .int .i64 p.kerf], .blk g2 [vM, vX, vY, .int .i64 s.val, .int .i64 s.den], .own vnwh1 2 50 nnwh1 (ucells pnwh1 cnwh1), .sem (Frame.rows 3 nnwh1 pnwh1 lnwh1 gnwh1), .own vdmd1 1 3 ndmd1 (ints fdmd1), .own vllf1 1 3 p.m (ints p.L), .own wllf1 1 3 p.d (ints (leftF p fdmd1)), .blk g3 [vX, vY, .int .i64 s.val, .int .i64 s.den], .own vO 1 3 nO (ints fO)]) ⟨0, (fun _ => 0), 0, (.slice none 0 0), rfl, (by omega), (by omega), ?_, ?_, (by omega), ?_, rfl, hS⟩ ?_
  ·
   rfl
  ·
   rfl
  ·
   exact slh_nil
  clear hS w
  rintro mm M w ⟨nO, fO, i, vO, rfl, h0, h1, hfN, hfF, hnO, hvO, rfl, hS⟩
  refine zsr ?_
  refine zlv xlss ?_
  refine zlt <| zsq ?_
  refine zcif ?_ ?_ <;> intro hc
  ·
   refine zsk <| ztn <| zsq <| zbk <| zsr ?_
   refine zlv xmv ?_
   refine zlv (xix (kk := i) sl_22 hX.slh) ?_
   refine zlv (xlr (u := .int .i64 (s.X i)) pl_3 (hX.below hS.below)) ?_
   have hXi := d5 i h0 (by omega)
   have hti := tmod_rng hXi.1 d1
   refine zs2 ?_
   refine zlz ?_
   refine zlv xmv ?_
   refine zlv (xfb 3 fd_36_3) ?_
   refine zlv (xlb 7 pl_3 hS) ?_
   refine zlv (xrem (r := (Int.tmod (s.X i) s.den))) ?_
   refine zlv xneq ?_
   refine zlt ?_
   refine zcif ?_ ?_ <;> intro hc
   ·
    refine zrg ?_
    refine zs2 ?_
    refine zla (xli (n := 1) (len := 1) (pv := [(0, .int .i64 i)]) (cs := [.int .i64 i]) (c := ints (fun _ => i)) sl_22 el_3 hS) ?_; rintro v1 w ⟨hS, hv1⟩
    replace hS := hS.n10
    refine zla (xap 8 (r := nO + 1) sl_22 el_3 hS (hS.rowN 9 rfl) (cat_snoc _ _ _)) ?_; rintro v2 w ⟨hS, hv2⟩
    replace hS := hS.n10
    refine zlv xas ?_
    refine zln <| zbn <| ztn <| zrg ?_
    refine zlv (xadd (r := i + 1)) ?_
    refine zlv xmv ?_
    refine zln <| zlq ⟨nO + 1, (snoc fO nO i), i + 1, v2, rfl, (by omega), (by omega), ?_, ?_, (by omega), ?_, rfl, hS.pk [0, 1, 2, 3, 4, 5, 6, 7, 8]⟩
    ·
     rw [frN_next s h0, ← hfN]; first | rw [if_pos (by omega)] | rw [if_neg (by omega)]
    ·
     rw [frF_next s h0, ← hfN, ← hfF]; first | rw [if_pos (by omega)] | rw [if_neg (by omega)]
    ·
     exact hv2
   refine zsk <| zbn <| ztn <| zrg ?_
   refine zlv (xadd (r := i + 1)) ?_
   refine zlv xmv ?_
   refine zln <| zlq ⟨nO, fO, i + 1, vO, rfl, (by omega), (by omega), ?_, ?_, (by omega), ?_, rfl, hS⟩
   ·
    rw [frN_next s h0, ← hfN]; first | rw [if_pos (by omega)] | rw [if_neg (by omega)]
   ·
    rw [frF_next s h0, ← hfN, ← hfF]; first | rw [if_pos (by omega)] | rw [if_neg (by omega)]
   ·
    exact hvO
  refine zxt <| ztx <| ztx <| zbh <| ztn <| zsr ?_
  refine zlv xmv ?_
  have hiN : i = u := by omega
  rw [hiN] at hfN hfF
  obtain ⟨hr1, hr2, hr3, hr4, hr5⟩ := fr_rng s u.toNat
  have hdO : ∀ k, 0 ≤ k → k < nO → 0 ≤ fO k ∧ fO k < s.n := fun k k0 k1 => by rw [hfF]; have := hr3 k k0 (by omega); omega
  have hIO : Incr 0 nO fO := by rw [hfN, hfF]; exact hr4
  refine zlv xmf ?_
  refine zlc (xc0 cl_57) (c_sortsI (gs := g3) (vd := vO) (n := nO) (nm := s.n) (s := fO) (lt := fun x y => (s.X y).tmod s.den < (s.X x).tmod s.den) (F := Frame.bun [.blk g1 [vL, vD, .int .i64 p.stock, .int .i64 p.kerf], .blk g2 [vM, vX, vY, .int .i64 s.val, .int .i64 s.den], .own vnwh1 2 50 nnwh1 (ucells pnwh1 cnwh1), .sem (Frame.rows 3 nnwh1 pnwh1 lnwh1 gnwh1), .own vdmd1 1 3 ndmd1 (ints fdmd1), .own vllf1 1 3 p.m (ints p.L), .own wllf1 1 3 p.d (ints (leftF p fdmd1)), .blk g3 [vX, vY, .int .i64 s.val, .int .i64 s.den]]) w0 w (Sat.bundle (l1 := [_]) (hS.pk [8, 0, 1, 2, 3, 4, 5, 6, 7])) hvO (by omega) (fun w x y x0 x1 y0 y1 hb hF => c_upcmp w (hF.1 _ (List.mem_of_getElem? (i := 7) rfl)) (hX.below hb) (hY.below hb) hsd x0 x1 y0 y1) hdO (swo_frac s) hIO) ?_; rintro _ w ⟨rfl, t1, hpt1, hst1, hS⟩
  replace hS := Sat.unbundle (l1 := [_]) (l3 := []) hS
  replace hS := hS.n9
  refine zlt <| zsq <| zsr ?_
  refine zlv xmv ?_
  have htd : ∀ k, 0 ≤ k → k < nO → 0 ≤ t1 k ∧ t1 k < s.n := fun k k0 k1 => by obtain ⟨q, q0, q1, q2⟩ := hpt1.fr k0 k1; rw [show t1 k = fO q from q2]; exact hdO q q0 q1
  have hlf : ∀ k, 0 ≤ k → k < p.m → 0 ≤ leftF p fdmd1 k ∧ leftF p fdmd1 k ≤ 1000 := fun k k0 k1 => by have h9 := dnn9 hokp k0 k1; have h8 := hfb9 k k0 k1; unfold leftF; rw [if_pos ⟨k0, k1⟩]; omega
  refine zlv (xln sl_22 hvO) ?_
  refine zlv xmv ?_
  refine zlt <| zbk <| zlp (fun mm M w => ∃ (nC : Int) (wv : Int → Value) (lC : Int → Int) (gC : Int → Int → Int) (cC : Int → Int) (gR : Int → Int) (j : Int) (wC : Value), mm = ((nO - j).toNat) ∧ (0 ≤ j) ∧ (j ≤ nO) ∧ (0 ≤ nC) ∧ (nC ≤ 60 + j) ∧ ((lst p.m gR, plL nC lC gC cC) = uRun p.m mf (lst p.m (leftF p fdmd1)) (plL nnwh1 lnwh1 gnwh1 cnwh1) (lst j t1)) ∧ (∀ k, 0 ≤ k → k < p.m → 0 ≤ gR k ∧ gR k ≤ 1000) ∧ (Slh wC nC) ∧ M = [(2, .pointer (some ⟨g1, 0, none⟩)), (3, .pointer (some ⟨g2, 0, none⟩)), (4, .slice none 0 0), (5, .int .i64 0), (6, wC), (10, wllf1), (65, vO), (66, .int .i64 nO), (67, .int .i64 j)] ∧ Sat w0 w [.own vO 1 3 nO (ints t1), .blk g1 [vL, vD, .int .i64 p.stock, .int .i64 p.kerf], .blk g2 [vM, vX, vY, .int .i64 s.val, .int .i64 s.den], .own wC 2 50 nC (ucells wv cC), .sem (Frame.rows 3 nC wv lC gC), .own vdmd1 1 3 ndmd1 (ints fdmd1), .own vllf1 1 3 p.m (ints p.L), .own wllf1 1 3 p.d (ints gR), .blk g3 [vX, vY, .int .i64 s.val, .int .i64 s.den]]) ⟨nnwh1, pnwh1, lnwh1, gnwh1, cnwh1, (leftF p fdmd1), 0, vnwh1, rfl, (by omega), (by omega), (by omega), (by omega), ?_, ?_, ?_, rfl, hS⟩ ?_
  ·
   rfl
  ·
   exact hlf
  ·
   exact hvnwh1
  clear hS w
  rintro mm M w ⟨nC, wv, lC, gC, cC, gR, j, wC, rfl, j0, j1, hnC0, hnC1, hUr, hGR, hwC, rfl, hS⟩
  have hrs1 := fun k (k0 : 0 ≤ k) (k1 : k < nC) => hS.slhIn 4 rfl k0 k1
  refine zsr ?_
  refine zlv xlss ?_
  refine zlt <| zsq ?_
  refine zcif ?_ ?_ <;> intro hc
  ·
   refine zsk <| ztn <| zsq <| zbk <| zsr ?_
   refine zlv (xix (kk := j) sl_22 hvO) ?_
   refine zlv (xlr (u := .int .i64 (t1 j)) pl_3 (hS.rowN 0 rfl)) ?_
   have htj := htd j j0 (by omega)
   obtain ⟨hmk, hak⟩ := prop_rng (hfitt.2.2.2.1 (t1 j) htj.1 (by omega)).1
   refine zlv xas ?_
   refine zlz ?_
   refine zlv (xfb 0 fd_58_0) ?_
   refine zlv (xlb 2 pl_32 hS) ?_
   refine zlv xmv ?_
   refine zlv (xix (kk := (t1 j)) sl_32 hM.row.slh) ?_
   refine zlv (xlr (u := (mv (t1 j))) pl_22 (hM.row.below hS.below)) ?_
   refine zlv xas ?_
   refine zlz ?_
   refine zlv xas ?_
   refine zlt <| zsq <| zsr ?_
   refine zlv xmv ?_
   refine zlv (xln sl_22 (hM.p (t1 j) (by omega) (by omega)).slh) ?_
   refine zlv xmv ?_
   refine zlt <| zbk <| zlp (fun mm M w => ∃ (useful : Prop) (i2 : Int), mm = ((ml (t1 j) - i2).toNat) ∧ (0 ≤ i2) ∧ (i2 ≤ ml (t1 j)) ∧ (useful ↔ ∃ q, 0 ≤ q ∧ q < i2 ∧ 0 < mf (t1 j) q ∧ 0 < gR q) ∧ M = [(2, .pointer (some ⟨g1, 0, none⟩)), (3, .pointer (some ⟨g2, 0, none⟩)), (4, .slice none 0 0), (5, .int .i64 0), (6, wC), (10, wllf1), (17, (mv (t1 j))), (18, B (useful)), (65, vO), (66, .int .i64 nO), (67, .int .i64 j), (76, (mv (t1 j))), (77, .int .i64 (ml (t1 j))), (78, .int .i64 i2)] ∧ Sat w0 w [.own vO 1 3 nO (ints t1), .blk g1 [vL, vD, .int .i64 p.stock, .int .i64 p.kerf], .blk g2 [vM, vX, vY, .int .i64 s.val, .int .i64 s.den], .own wC 2 50 nC (ucells wv cC), .sem (Frame.rows 3 nC wv lC gC), .own vdmd1 1 3 ndmd1 (ints fdmd1), .own vllf1 1 3 p.m (ints p.L), .own wllf1 1 3 p.d (ints gR), .blk g3 [vX, vY, .int .i64 s.val, .int .i64 s.den]]) ⟨False, 0, rfl, (by omega), (by omega), ?_, rfl, hS⟩ ?_ (hM := by repeat' first | exact zpk0 | refine zpk rfl ?_ | refine zpk (congrArg some (B_false not_false).symm) ?_ | refine zpk (congrArg some (B_true trivial).symm) ?_)
   ·
    exact ⟨fun h => h.elim, fun ⟨q, q0, q1, _⟩ => by omega⟩
   clear hS w
   rintro mm M w ⟨useful, i2, rfl, i20, i21, hus, rfl, hS⟩
   refine zsr ?_
   refine zlv xlss ?_
   refine zlt <| zsq ?_
   refine zcif ?_ ?_ <;> intro hc
   ·
    refine zsk <| ztn <| zsq <| zbk <| zsr ?_
    refine zlv xmv ?_
    refine zlv (xix (kk := i2) sl_22 (hM.p (t1 j) (by omega) (by omega)).slh) ?_
    refine zlv (xlr (u := .int .i64 ((mf (t1 j)) i2)) pl_3 ((hM.p (t1 j) (by omega) (by omega)).below hS.below)) ?_
    have haq := hak i2 i20 (by omega)
    refine zs2 ?_
    refine zlt <| zrg ?_
    refine zs2 ?_
    refine zlb 84 ?_ ?_ <;> intro hc
    ·
     iterate 9 refine zlo ?_
     refine zs2 ?_
     refine zln <| zbn <| ztn <| zrg ?_
     refine zlv (xadd (r := i2 + 1)) ?_
     refine zlv xmv ?_
     refine zln <| zlq ⟨True, i2 + 1, rfl, (by omega), (by omega), ?_, rfl, hS⟩ (hM := by repeat' first | exact zpk0 | refine zpk rfl ?_ | refine zpk (congrArg some (B_false not_false).symm) ?_ | refine zpk (congrArg some (B_true trivial).symm) ?_)
     ·
      refine us_next i20 hus ?_
      first
      | exact ⟨fun _ => .inl ‹useful›, fun _ => trivial⟩
      | exact ⟨fun h9 => .inr ⟨‹0 < mf (t1 j) i2›, h9⟩, fun h9 => h9.elim (fun h8 => absurd h8 ‹¬ useful›) (·.2)⟩
      | exact ⟨fun h9 => h9.elim, fun h9 => h9.elim (fun h8 => absurd h8 ‹¬ useful›) (fun h8 => absurd h8.1 ‹¬ 0 < mf (t1 j) i2›)⟩
    refine zs3 ?_
    refine zlb 87 ?_ ?_ <;> intro hc
    ·
     refine zs2 ?_
     refine zlv (xix (kk := i2) sl_22 hwllf1) ?_
     refine zlv (xlr (u := .int .i64 (gR i2)) pl_3 (hS.rowN 7 rfl)) ?_
     refine zs4 ?_
     refine zln <| zbn <| ztn <| zrg ?_
     refine zlv (xadd (r := i2 + 1)) ?_
     refine zlv xmv ?_
     refine zln <| zlq ⟨0 < gR i2, i2 + 1, rfl, (by omega), (by omega), ?_, rfl, hS⟩
     ·
      refine us_next i20 hus ?_
      first
      | exact ⟨fun _ => .inl ‹useful›, fun _ => trivial⟩
      | exact ⟨fun h9 => .inr ⟨‹0 < mf (t1 j) i2›, h9⟩, fun h9 => h9.elim (fun h8 => absurd h8 ‹¬ useful›) (·.2)⟩
      | exact ⟨fun h9 => h9.elim, fun h9 => h9.elim (fun h8 => absurd h8 ‹¬ useful›) (fun h8 => absurd h8.1 ‹¬ 0 < mf (t1 j) i2›)⟩
    iterate 5 refine zlo ?_
    refine zs3 ?_
    refine zln <| zbn <| ztn <| zrg ?_
    refine zlv (xadd (r := i2 + 1)) ?_
    refine zlv xmv ?_
    refine zln <| zlq ⟨False, i2 + 1, rfl, (by omega), (by omega), ?_, rfl, hS⟩ (hM := by repeat' first | exact zpk0 | refine zpk rfl ?_ | refine zpk (congrArg some (B_false not_false).symm) ?_ | refine zpk (congrArg some (B_true trivial).symm) ?_)
    ·
     refine us_next i20 hus ?_
     first
     | exact ⟨fun _ => .inl ‹useful›, fun _ => trivial⟩
     | exact ⟨fun h9 => .inr ⟨‹0 < mf (t1 j) i2›, h9⟩, fun h9 => h9.elim (fun h8 => absurd h8 ‹¬ useful›) (·.2)⟩
     | exact ⟨fun h9 => h9.elim, fun h9 => h9.elim (fun h8 => absurd h8 ‹¬ useful›) (fun h8 => absurd h8.1 ‹¬ 0 < mf (t1 j) i2›)⟩
   refine zxt <| ztx <| ztx <| zbh <| ztn <| zsq <| zsr ?_
   refine zs2 ?_
   refine zlt ?_
   refine zcif ?_ ?_ <;> intro hc
   ·
    refine zxt <| ztx <| zbh <| ztn <| zrg ?_
    refine zlv (xadd (r := j + 1)) ?_
    refine zlv xmv ?_
    refine zln <| zlq ⟨nC, wv, lC, gC, cC, gR, j + 1, wC, rfl, (by omega), (by omega), (by omega), (by omega), ?_, ?_, ?_, rfl, hS⟩
    ·
     first | exact uNo j0 hUr (fun ⟨q, q0, q1, q2⟩ => absurd (hus.2 ⟨q, q0, by omega, q2⟩) ‹_›) | exact uYes j0 hnC0 hUr (by obtain ⟨q, q0, q1, q2⟩ := hus.1 (by first | assumption | exact Classical.not_not.1 ‹_›); exact ⟨q, q0, by omega, q2⟩) (fun k k0 k1 => (hg4 k k0 k1).trans (if_pos (by omega))) (fun k k0 k1 => ⟨gsn_lt k1, snoc_lt k1, gsn_lt k1⟩) ((gsn_at (by omega)).trans hmk) (snoc_at (by omega)) (gsn_at (by omega))
    ·
     first | exact hGR | (intro k k0 k1; have h9 := hg4 k k0 k1; rw [if_pos (by omega)] at h9; have h8 := hGR k k0 k1; have h7 := hak k k0 k1; omega)
    ·
     exact hwC
   refine zsk <| ztn <| zsr ?_
   refine zs2 ?_
   refine zlc (xc0 cl_42) (c_clone (n := (ml (t1 j))) (f := (mf (t1 j))) w ((hM.p (t1 j) (by omega) (by omega)).below hS.below) (by omega)) ?_; rintro vq1 w ⟨_, rfl, hslq1, hS'⟩
   replace hS : Sat w0 w [.own vO 1 3 nO (ints t1), .blk g1 [vL, vD, .int .i64 p.stock, .int .i64 p.kerf], .blk g2 [vM, vX, vY, .int .i64 s.val, .int .i64 s.den], .own wC 2 50 nC (ucells wv cC), .sem (Frame.rows 3 nC wv lC gC), .own vdmd1 1 3 ndmd1 (ints fdmd1), .own vllf1 1 3 p.m (ints p.L), .own wllf1 1 3 p.d (ints gR), .blk g3 [vX, vY, .int .i64 s.val, .int .i64 s.den], .own vq1 1 3 (ml (t1 j)) (ints (mf (t1 j)))] := hS.comp hS'; clear hS'
   refine zlv (xany (v := .agg #[vq1, .int .i64 1]) (hr := by obtain ⟨_, _, _, _, rfl, _⟩ := hslq1; kernel_rfl)) ?_
   refine zla (xli (n := 1) (len := 1) (pv := [(0, .agg #[vq1, .int .i64 1])]) (cs := [vq1, .int .i64 1]) (c := ucells (fun _ => vq1) (fun _ => 1)) sl_43 el_50 hS (hf := by obtain ⟨_, _, _, _, rfl, _⟩ := hslq1; kernel_rfl)) ?_; rintro v3 w ⟨hS, hv3⟩
   replace hS := hS.n11
   refine zla (xap 3 (r := nC + 1) sl_43 el_50 hS (hS.rowN 10 rfl) (cat_ucells _ _ _ _ _) (h1 := fun k _ _ => ucells_one (fun _ => hslq1.one) k)) ?_; rintro v4 w ⟨hS, hv4⟩
   replace hS := hS.n11
   replace hS := Sat.merge (l1 := [_, _, _, _]) (l2 := [_, _, _, _]) (l3 := [_]) hS (by omega)
   have hrs2 := fun k (k0 : 0 ≤ k) (k1 : k < nC + 1) => hS.slhIn 4 rfl k0 k1
   replace hS := hS.n10
   refine zlv xas ?_
   refine zlz ?_
   refine zlv xmv ?_
   refine zlv (xln sl_22 (hM.p (t1 j) (by omega) (by omega)).slh) ?_
   refine zlv xmv ?_
   refine zlt <| zbk <| zlp (fun mm M w => ∃ (g4 : Int → Int) (i4 : Int), mm = ((ml (t1 j) - i4).toNat) ∧ (0 ≤ i4) ∧ (i4 ≤ ml (t1 j)) ∧ (∀ k, 0 ≤ k → k < p.m → g4 k = if k < i4 then max 0 (gR k - mf (t1 j) k) else gR k) ∧ M = [(2, .pointer (some ⟨g1, 0, none⟩)), (3, .pointer (some ⟨g2, 0, none⟩)), (4, .slice none 0 0), (5, .int .i64 0), (6, v4), (10, wllf1), (65, vO), (66, .int .i64 nO), (67, .int .i64 j), (104, (mv (t1 j))), (105, .int .i64 (ml (t1 j))), (106, .int .i64 i4)] ∧ Sat w0 w [.own vO 1 3 nO (ints t1), .blk g1 [vL, vD, .int .i64 p.stock, .int .i64 p.kerf], .blk g2 [vM, vX, vY, .int .i64 s.val, .int .i64 s.den], .own v4 2 50 (nC + 1) (ucells (gsn wv nC vq1) (snoc cC nC 1)), .sem (Frame.rows 3 (nC + 1) (gsn wv nC vq1) (gsn lC nC (ml (t1 j))) (gsn gC nC (mf (t1 j)))), .own vdmd1 1 3 ndmd1 (ints fdmd1), .own vllf1 1 3 p.m (ints p.L), .own wllf1 1 3 p.d (ints g4), .blk g3 [vX, vY, .int .i64 s.val, .int .i64 s.den], .own v3 2 50 1 (ucells (fun _ => vq1) (fun _ => 1))]) ⟨gR, 0, rfl, (by omega), (by omega), ?_, rfl, hS⟩ ?_
   ·
    intro k k0 k1; rw [if_neg (by omega)]
   clear hS w
   rintro mm M w ⟨g4, i4, rfl, i40, i41, hg4, rfl, hS⟩
   refine zsr ?_
   refine zlv xlss ?_
   refine zlt <| zsq ?_
   refine zcif ?_ ?_ <;> intro hc
   ·
    refine zsk <| ztn <| zsq <| zbk <| zsr ?_
    refine zlv xmv ?_
    refine zlv (xix (kk := i4) sl_22 (hM.p (t1 j) (by omega) (by omega)).slh) ?_
    refine zlv (xlr (u := .int .i64 ((mf (t1 j)) i4)) pl_3 ((hM.p (t1 j) (by omega) (by omega)).below hS.below)) ?_
    have haq := hak i4 i40 (by omega)
    have hgq := hGR i4 i40 (by omega)
    have hgi := hg4 i4 i40 (by omega)
    rw [if_neg (by omega)] at hgi
    refine zs2 ?_
    refine zlt <| zrg ?_
    refine zs4 ?_
    refine zlv (xix (kk := i4) sl_22 hwllf1) ?_
    refine zlv (xlr (u := .int .i64 (g4 i4)) pl_3 (hS.rowN 7 rfl)) ?_
    refine zlv xmv ?_
    refine zlv (xsub (r := g4 i4 - ((mf (t1 j)) i4))) ?_
    refine zlv (xmax (r := (max 0 (g4 i4 - ((mf (t1 j)) i4))))) ?_
    refine zlv (xix (kk := i4) sl_22 hwllf1) ?_
    refine zle (xso 7 pl_3 hS (upd_ints _ _ _)) ?_; clear hS; rintro w hS
    replace hS := hS.n10
    refine zln <| zbn <| ztn <| zrg ?_
    refine zlv (xadd (r := i4 + 1)) ?_
    refine zlv xmv ?_
    refine zln <| zlq ⟨(upd g4 i4 (max 0 (g4 i4 - ((mf (t1 j)) i4)))), i4 + 1, rfl, (by omega), (by omega), ?_, rfl, hS⟩
    ·
     intro k k0 k1; unfold upd; by_cases e : k = i4
     · rw [if_pos e, if_pos (by omega), e]; omega
     · rw [if_neg e, hg4 k k0 k1]; by_cases e2 : k < i4
       · rw [if_pos e2, if_pos (by omega)]
       · rw [if_neg e2, if_neg (by omega)]
   refine zxt <| ztx <| ztx <| zbh <| zbn <| ztn <| zrg ?_
   refine zlv (xadd (r := j + 1)) ?_
   refine zlv xmv ?_
   refine zln <| zlq ⟨nC + 1, gsn wv nC vq1, gsn lC nC (ml (t1 j)), gsn gC nC (mf (t1 j)), (snoc cC nC 1), g4, j + 1, v4, rfl, (by omega), (by omega), (by omega), (by omega), ?_, ?_, ?_, rfl, hS.pk [0, 1, 2, 3, 4, 5, 6, 7, 8]⟩
   ·
    first | exact uNo j0 hUr (fun ⟨q, q0, q1, q2⟩ => absurd (hus.2 ⟨q, q0, by omega, q2⟩) ‹_›) | exact uYes j0 hnC0 hUr (by obtain ⟨q, q0, q1, q2⟩ := hus.1 (by first | assumption | exact Classical.not_not.1 ‹_›); exact ⟨q, q0, by omega, q2⟩) (fun k k0 k1 => (hg4 k k0 k1).trans (if_pos (by omega))) (fun k k0 k1 => ⟨gsn_lt k1, snoc_lt k1, gsn_lt k1⟩) ((gsn_at (by omega)).trans hmk) (snoc_at (by omega)) (gsn_at (by omega))
   ·
    first | exact hGR | (intro k k0 k1; have h9 := hg4 k k0 k1; rw [if_pos (by omega)] at h9; have h8 := hGR k k0 k1; have h7 := hak k k0 k1; omega)
   ·
    exact hv4
  refine zxt <| ztx <| ztx <| zbh <| ztn <| zsr ?_
  refine zlv (xls 1 st_39 hS) ?_
  refine zlv xmv ?_
  refine zlc (xc0 cl_50) (c_trim (u := nC) (pv := wv) (ln := lC) (pt := gC) (cnt := cC) (p := p) w (⟨(hS.rowN 3 rfl), fun k k0 k1 => hS.rowIn 4 rfl k0 k1, fun k k0 k1 => hS.roomIn 4 rfl k0 k1⟩ : VAt _ wC nC wv lC gC cC) (h.below hS.below)) ?_; rintro _ w ⟨vntr1, nntr1, pntr1, lntr1, gntr1, cntr1, entr1, rfl, htrtr1, htctr1, htntr1, hvntr1, hS'⟩
  replace hS : Sat w0 w [.own vO 1 3 nO (ints t1), .blk g1 [vL, vD, .int .i64 p.stock, .int .i64 p.kerf], .blk g2 [vM, vX, vY, .int .i64 s.val, .int .i64 s.den], .own wC 2 50 nC (ucells wv cC), .sem (Frame.rows 3 nC wv lC gC), .own vdmd1 1 3 ndmd1 (ints fdmd1), .own vllf1 1 3 p.m (ints p.L), .own wllf1 1 3 p.d (ints gR), .blk g3 [vX, vY, .int .i64 s.val, .int .i64 s.den], .own vntr1 2 50 nntr1 (ucells pntr1 cntr1), .sem (Frame.rows 3 nntr1 pntr1 lntr1 gntr1)] := hS.comp hS'; clear hS'
  have hrntr1 := fun k (k0 : 0 ≤ k) (k1 : k < nntr1) => hS.slhIn 10 rfl k0 k1
  refine zs4 ?_
  refine zlt <| zrt <| zf2 ⟨_, rfl, ?_⟩
  have hjN : j = frN s u.toNat := by omega
  rw [hjN] at hUr
  exact ⟨_, _, _, _, _, _, _, rfl, .inr ⟨_, _, _, _, _, _, _, _, _, (by rw [show (0 : Int) = enwh1 by omega]; exact hwhwh1), hn19, hnC0, (by rw [← hfN, ← hfF]; exact hpt1), (by rw [← hfN]; exact hst1), (by rw [← hfd9, ← hUr]), htrtr1⟩, htctr1, htntr1, hvntr1, hS.pk [9, 10]⟩
set_option maxHeartbeats 4000000 in
set_option maxRecDepth 20000 in
theorem c_rfit34 {vL vD : Value} {p : Prob} {vM : Value} {u : Int} {mv : Int → Value} {ml : Int → Int} {mf : Int → Int → Int} {vX vY : Value} {s : So} (w0 : World) (h : PAt w0 vL vD p) (hM : MAt w0 vM u mv ml mf) (hX : Row w0 vX 1 s.n (ints s.X)) (hY : Row w0 vY 1 s.m (ints s.Y)) (hn60 : s.n ≤ 1000) :
    Calls Try.prog 27 [.agg #[vL, vD, .int .i64 p.stock, .int .i64 p.kerf], .agg #[vM, vX, vY, .int .i64 s.val, .int .i64 s.den]].toArray w0 fun e w => ∃ v, e = .returned v ∧ v = B (p.Ok ∧ FitR p u ml mf s) ∧ Sat w0 w [] := by
  have hm := h.L.slh.n0; have hm1 := h.L.slh.n1; have hd := h.D.slh.n0; have hd1 := h.D.slh.n1; have hs := h.is; have hk := h.ik
  have hu := hM.row.slh.n0; have hu1 := hM.row.slh.n1; have hn := hX.slh.n0; have hn1 := hX.slh.n1
  refine zenG Try.func27 Try.ntmps27 fun w hS => ?_
  refine zsr ?_
  refine zla (xbx (cs := [_, _, _, _]) hS) ?_; rintro _ w ⟨g1, rfl, hS⟩
  replace hS := hS.n1
  refine zla (xbx (cs := [_, _, _, _, _]) hS) ?_; rintro _ w ⟨g2, rfl, hS⟩
  replace hS := hS.n2
  refine zlv xas ?_
  refine zlz ?_
  refine zlv (xfb 1 fd_54_1) ?_
  refine zlv (xlp 1 (ds := [vX, vY, .int .i64 s.val, .int .i64 s.den]) st_52 hS) ?_
  refine zla (xal (cs := [_, _, _, _]) el_52 hS) ?_; rintro _ w ⟨g3, rfl, hS⟩
  replace hS := hS.n3
  refine zle (xsw 2 st_52 hS (hd := (ones_cons hX.slh.one (ones_cons hY.slh.one (ones_cons rfl (ones_cons rfl ones_nil)))))) ?_; clear hS; rintro w hS
  replace hS := hS.n3
  refine zlt <| zsq <| zsr ?_
  refine zlv (xls 0 st_24 hS) ?_
  refine zlc (xc0 cl_10) (c_rvalid28 (p := p) w (h.below hS.below)) ?_; rintro _ w ⟨rfl, hS'⟩
  replace hS := hS.cmp hS'; clear hS'
  refine zs2 ?_
  refine zlb 15 ?_ ?_ <;> intro hc
  ·
   iterate 3 refine zlo ?_
   refine zs2 ?_
   iterate 7 refine zlo ?_
   refine zs2 ?_
   iterate 4 refine zlo ?_
   refine zlv xpt ?_
   refine zlt <| zct <| zsr ?_
   refine zlv xas ?_
   refine zlt <| zrt <| ztr <| zf1 ⟨_, rfl, ?_⟩
   refine ⟨false_B ?_, hS.nl⟩
   rintro ⟨g0, g1, g2, g3, g4, g5⟩
   first
   | exact absurd g0 ‹¬ p.Ok›
   | exact absurd g1 ‹¬ SoundS s›
   | omega
   | (have h9 := g4 i hi0 (by omega); first | exact absurd h9.1 ‹_› | (have := h9.2; omega))
   | (have h9 := g5 k hk0 (by omega); rw [hn9, show q = u by omega] at *; omega)
  refine zlv (xls 2 st_52 hS) ?_
  refine zlc (xc0 cl_62) (c_rsound30 (s := s) w (hX.below hS.below) (hY.below hS.below)) ?_; rintro _ w ⟨rfl, hS'⟩
  replace hS := hS.cmp hS'; clear hS'
  refine zs3 ?_
  refine zlb 20 ?_ ?_ <;> intro hc
  ·
   iterate 7 refine zlo ?_
   refine zs2 ?_
   iterate 4 refine zlo ?_
   refine zlv xpt ?_
   refine zlt <| zct <| zsr ?_
   refine zlv xas ?_
   refine zlt <| zrt <| ztr <| zf1 ⟨_, rfl, ?_⟩
   refine ⟨false_B ?_, hS.nl⟩
   rintro ⟨g0, g1, g2, g3, g4, g5⟩
   first
   | exact absurd g0 ‹¬ p.Ok›
   | exact absurd g1 ‹¬ SoundS s›
   | omega
   | (have h9 := g4 i hi0 (by omega); first | exact absurd h9.1 ‹_› | (have := h9.2; omega))
   | (have h9 := g5 k hk0 (by omega); rw [hn9, show q = u by omega] at *; omega)
  refine zlv (xfb 0 fd_54_0) ?_
  refine zlv (xlb 1 pl_32 hS) ?_
  refine zlv (xln sl_32 hM.row.slh) ?_
  refine zlv (xfb 0 fd_52_0) ?_
  refine zlv (xlb 2 pl_22 hS) ?_
  refine zlv (xln sl_22 hX.slh) ?_
  refine zs3 ?_
  refine zlb 29 ?_ ?_ <;> intro hc
  ·
   iterate 4 refine zlo ?_
   refine zlv xpt ?_
   refine zlt <| zct <| zsr ?_
   refine zlv xas ?_
   refine zlt <| zrt <| ztr <| zf1 ⟨_, rfl, ?_⟩
   refine ⟨false_B ?_, hS.nl⟩
   rintro ⟨g0, g1, g2, g3, g4, g5⟩
   first
   | exact absurd g0 ‹¬ p.Ok›
   | exact absurd g1 ‹¬ SoundS s›
   | omega
   | (have h9 := g4 i hi0 (by omega); first | exact absurd h9.1 ‹_› | (have := h9.2; omega))
   | (have h9 := g5 k hk0 (by omega); rw [hn9, show q = u by omega] at *; omega)
  refine zlv (xfb 0 fd_52_0) ?_
  refine zlv (xlb 2 pl_22 hS) ?_
  refine zlv (xln sl_22 hX.slh) ?_
  refine zs2 ?_
  refine zlt ?_
  refine zcif ?_ ?_ <;> intro hc
  ·
   refine zsr ?_
   refine zlv xas ?_
   refine zlt <| zrt <| ztr <| zf1 ⟨_, rfl, ?_⟩
   refine ⟨false_B ?_, hS.nl⟩
   rintro ⟨g0, g1, g2, g3, g4, g5⟩
   first
   | exact absurd g0 ‹¬ p.Ok›
   | exact absurd g1 ‹¬ SoundS s›
   | omega
   | (have h9 := g4 i hi0 (by omega); first | exact absurd h9.1 ‹_› | (have := h9.2; omega))
   | (have h9 := g5 k hk0 (by omega); rw [hn9, show q = u by omega] at *; omega)
  refine zsk <| ztn <| zsq <| zsr ?_
  refine zlv xas ?_
  refine zlt <| zbk ?_
  have hp : p.Ok := by first | assumption | exact Classical.not_not.1 ‹_›
  have hsd : SoundS s := by first | assumption | exact Classical.not_not.1 ‹_›
  obtain ⟨⟨d1, d2⟩, ⟨d3, d4⟩, d5⟩ := id hsd
  have hpm1 := hp.m1; have hpm2 := hp.m2; have hpd := hp.d
  refine zlp (fun mm M w => ∃ (i : Int), mm = ((s.n - i).toNat) ∧ (0 ≤ i) ∧ (i ≤ s.n) ∧ (∀ k, 0 ≤ k → k < i → ProperP p (ml k) (mf k) ∧ (s.X k).tdiv s.den ≤ 1000) ∧ M = [(2, .pointer (some ⟨g1, 0, none⟩)), (3, .pointer (some ⟨g2, 0, none⟩)), (5, .pointer (some ⟨g3, 0, none⟩)), (6, .int .i64 i)] ∧ Sat w0 w [.blk g1 [vL, vD, .int .i64 p.stock, .int .i64 p.kerf], .blk g2 [vM, vX, vY, .int .i64 s.val, .int .i64 s.den], .blk g3 [vX, vY, .int .i64 s.val, .int .i64 s.den]]) ⟨0, rfl, (by omega), (by omega), ?_, rfl, hS⟩ ?_
  ·
   intro k k0 k1; omega
  clear hS w
  rintro mm M w ⟨i, rfl, hi0, hi1, hall, rfl, hS⟩
  have hXi9 : i < s.n → -1073741824 ≤ (s.X i).tdiv s.den ∧ (s.X i).tdiv s.den ≤ 1073741824 := fun hh => tdiv_abs (a := s.X i) (d := s.den) (A := 1073741824) (by omega) (by have := d5 i hi0 hh; omega)
  refine zsq <| zsr ?_
  refine zlv xmv ?_
  refine zlv (xfb 0 fd_52_0) ?_
  refine zlv (xlb 2 pl_22 hS) ?_
  refine zlv (xln sl_22 hX.slh) ?_
  refine zlv xlss ?_
  refine zlt ?_
  refine zcif ?_ ?_ <;> intro hc
  ·
   refine zsk <| ztn <| zsq <| zbk <| zsq ?_
   refine zdst [0, 1, 2] [0, 1, 2] 1000 mx_ hS ?_; clear hS; intro w hS
   refine zdla 0 (fun w hS => (xls 0 st_24 hS)) ?_
   refine zdv 1 (fun _ => (xfb 0 fd_54_0)) ?_
   refine zdla 2 (fun w hS => (xlb 1 pl_32 hS)) ?_
   refine zdv 3 (fun _ => xmv) ?_
   refine zdv 4 (fun _ => (xix (kk := i) sl_32 hM.row.slh)) ?_
   refine zdla 5 (fun w hS => (xlr (u := (mv i)) pl_22 (hM.row.below hS.below))) ?_
   refine zdc 6 (xc0 cl_63) (c_rproper28 (p := p) w (h.below hS.below) ((hM.p i (by omega) (by omega)).below hS.below)) ?_; rintro _ w ⟨rfl, hS'⟩
   replace hS := hS.cmp hS'; clear hS'
   refine ⟨⟨fun _ => hS, hS⟩, ?_⟩
   refine zdv 7 (fun _ => xnot) ?_
   refine zdv 8 (fun _ => xmv) ?_
   refine zdb 50 ?_ ?_ <;> intro hc
   ·
    refine zdof 9 ?_
    refine zdof 10 ?_
    refine zdof 11 ?_
    refine zdof 12 ?_
    refine zdof 13 ?_
    refine zdof 14 ?_
    refine zdof 15 ?_
    refine zdof 16 ?_
    refine zdof 17 ?_
    refine zdv 18 (fun _ => xpt) ?_
    refine zdd <| ztn <| zct <| zsr ?_
    refine zlv xas ?_
    refine zlt <| zrt <| zbr <| ztr <| ztr <| zbr <| ztr <| zf1 ⟨_, rfl, ?_⟩
    refine ⟨false_B ?_, hS.nl⟩
    rintro ⟨g0, g1, g2, g3, g4, g5⟩
    first
    | exact absurd g0 ‹¬ p.Ok›
    | exact absurd g1 ‹¬ SoundS s›
    | omega
    | (have h9 := g4 i hi0 (by omega); first | exact absurd h9.1 ‹_› | (have := h9.2; omega))
    | (have h9 := g5 k hk0 (by omega); rw [hn9, show q = u by omega] at *; omega)
   refine zdv 9 (fun _ => (xfb 0 fd_52_0)) ?_
   refine zdla 10 (fun w hS => (xlb 2 pl_22 hS)) ?_
   refine zdv 11 (fun _ => xmv) ?_
   refine zdv 12 (fun _ => (xix (kk := i) sl_22 hX.slh)) ?_
   refine zdla 13 (fun w hS => (xlr (u := .int .i64 (s.X i)) pl_3 (hX.below hS.below))) ?_
   refine zdv 14 (fun _ => (xfb 3 fd_52_3)) ?_
   refine zdla 15 (fun w hS => (xlb 2 pl_3 hS)) ?_
   refine zdv 16 (fun _ => (xquo (r := (Int.tdiv (s.X i) s.den)))) ?_
   refine zdv 17 (fun _ => xgtr) ?_
   refine zdv 18 (fun _ => xpf) ?_
   refine zdd <| ztn ?_
   refine zcif ?_ ?_ <;> intro hc
   ·
    refine zsr ?_
    refine zlv xas ?_
    refine zlt <| zrt <| zbr <| ztr <| ztr <| zbr <| ztr <| zf1 ⟨_, rfl, ?_⟩
    refine ⟨false_B ?_, hS.nl⟩
    rintro ⟨g0, g1, g2, g3, g4, g5⟩
    first
    | exact absurd g0 ‹¬ p.Ok›
    | exact absurd g1 ‹¬ SoundS s›
    | omega
    | (have h9 := g4 i hi0 (by omega); first | exact absurd h9.1 ‹_› | (have := h9.2; omega))
    | (have h9 := g5 k hk0 (by omega); rw [hn9, show q = u by omega] at *; omega)
   refine zsk <| zbn <| ztn <| zrg ?_
   refine zlv xmv ?_
   refine zlv (xadd (r := i + 1)) ?_
   refine zlv xas ?_
   refine zln <| zlq ⟨i + 1, rfl, (by omega), (by omega), ?_, rfl, hS⟩
   ·
    intro k k0 k1; rcases Int.lt_or_eq_of_le (show k ≤ i by omega) with h9 | h9
    · exact hall k k0 h9
    · rw [h9]; exact ⟨by first | assumption | exact Classical.not_not.1 ‹_›, by omega⟩
  refine zxt <| ztx <| ztx <| zbh <| ztn <| zsq <| zsr ?_
  refine zlv xas ?_
  refine zlt <| zbk <| zlp (fun mm M w => ∃ (k : Int), mm = ((p.m - k).toNat) ∧ (0 ≤ k) ∧ (k ≤ p.m) ∧ (∀ j, 0 ≤ j → j < k → p.D j * s.den ≤ madeF u mf s.X j) ∧ M = [(2, .pointer (some ⟨g1, 0, none⟩)), (3, .pointer (some ⟨g2, 0, none⟩)), (5, .pointer (some ⟨g3, 0, none⟩)), (7, .int .i64 k)] ∧ Sat w0 w [.blk g1 [vL, vD, .int .i64 p.stock, .int .i64 p.kerf], .blk g2 [vM, vX, vY, .int .i64 s.val, .int .i64 s.den], .blk g3 [vX, vY, .int .i64 s.val, .int .i64 s.den]]) ⟨0, rfl, (by omega), (by omega), ?_, rfl, hS⟩ ?_
  ·
   intro j j0 j1; omega
  clear hS w
  rintro mm M w ⟨k, rfl, hk0, hk1, hge, rfl, hS⟩
  have hdd9 : k < p.m → 0 ≤ p.D k * s.den ∧ p.D k * s.den ≤ 1000 * 1073741824 := fun hh => mul_rng3 (dnn9 hp hk0 hh).1 (dnn9 hp hk0 hh).2 (show 0 ≤ s.den by omega) d2
  refine zsq <| zsr ?_
  refine zlv xmv ?_
  refine zlv (xfb 0 fd_24_0) ?_
  refine zlv (xlb 0 pl_22 hS) ?_
  refine zlv (xln sl_22 h.L.slh) ?_
  refine zlv xlss ?_
  refine zlt ?_
  refine zcif ?_ ?_ <;> intro hc
  ·
   refine zsk <| ztn <| zsq <| zbk <| zsr ?_
   refine zlv xas ?_
   refine zlt <| zsq <| zsr ?_
   refine zlv xas ?_
   refine zlt <| zbk <| zlp (fun mm M w => ∃ (n : Int) (q : Int), mm = ((s.n - q).toNat) ∧ (0 ≤ q) ∧ (q ≤ s.n) ∧ (n = madeF q mf s.X k) ∧ (0 ≤ n ∧ n ≤ 1073741824000 * q) ∧ M = [(2, .pointer (some ⟨g1, 0, none⟩)), (3, .pointer (some ⟨g2, 0, none⟩)), (5, .pointer (some ⟨g3, 0, none⟩)), (7, .int .i64 k), (8, .int .i64 n), (9, .int .i64 q)] ∧ Sat w0 w [.blk g1 [vL, vD, .int .i64 p.stock, .int .i64 p.kerf], .blk g2 [vM, vX, vY, .int .i64 s.val, .int .i64 s.den], .blk g3 [vX, vY, .int .i64 s.val, .int .i64 s.den]]) ⟨0, 0, rfl, (by omega), (by omega), ?_, (by omega), rfl, hS⟩ ?_
   ·
    rfl
   clear hS w
   rintro mm M w ⟨n, q, rfl, hq0, hq1, hn9, hnb, rfl, hS⟩
   have hxm9 : q < s.n → 0 ≤ s.X q * mf q k ∧ s.X q * mf q k ≤ 1073741824 * 1000 := fun hh => mul_rng3 (d5 q hq0 hh).1 (d5 q hq0 hh).2 ((prop_rng (hall q hq0 (by omega)).1).2 k hk0 (by omega)).1 ((prop_rng (hall q hq0 (by omega)).1).2 k hk0 (by omega)).2
   have hmk9 : q < s.n → ml q = p.m := fun hh => (prop_rng (hall q hq0 (by omega)).1).1
   refine zsq <| zsr ?_
   refine zlv xmv ?_
   refine zlv (xfb 0 fd_52_0) ?_
   refine zlv (xlb 2 pl_22 hS) ?_
   refine zlv (xln sl_22 hX.slh) ?_
   refine zlv xlss ?_
   refine zlt ?_
   refine zcif ?_ ?_ <;> intro hc
   ·
    refine zsk <| ztn <| zsq <| zbk ?_
    refine zdst [0, 1, 2] [0, 1, 2] 1000 mx_ hS ?_; clear hS; intro w hS
    refine zdv 0 (fun _ => xmv) ?_
    refine zdv 1 (fun _ => (xfb 0 fd_52_0)) ?_
    refine zdla 2 (fun w hS => (xlb 2 pl_22 hS)) ?_
    refine zdv 3 (fun _ => xmv) ?_
    refine zdv 4 (fun _ => (xix (kk := q) sl_22 hX.slh)) ?_
    refine zdla 5 (fun w hS => (xlr (u := .int .i64 (s.X q)) pl_3 (hX.below hS.below))) ?_
    refine zdv 6 (fun _ => (xfb 0 fd_54_0)) ?_
    refine zdla 7 (fun w hS => (xlb 1 pl_32 hS)) ?_
    refine zdv 8 (fun _ => xmv) ?_
    refine zdv 9 (fun _ => (xix (kk := q) sl_32 hM.row.slh)) ?_
    refine zdla 10 (fun w hS => (xlr (u := (mv q)) pl_22 (hM.row.below hS.below))) ?_
    refine zdv 11 (fun _ => xmv) ?_
    refine zdv 12 (fun _ => (xix (kk := k) sl_22 (hM.p q (by omega) (by omega)).slh)) ?_
    refine zdla 13 (fun w hS => (xlr (u := .int .i64 ((mf q) k)) pl_3 ((hM.p q (by omega) (by omega)).below hS.below))) ?_
    refine zdv 14 (fun _ => (xmul (r := ((s.X q) * ((mf q) k))) (e := rfl))) ?_
    refine zdv 15 (fun _ => (xadd (r := n + ((s.X q) * ((mf q) k))))) ?_
    refine zdv 16 (fun _ => xas) ?_
    refine zdd <| zbn <| ztn <| zrg ?_
    refine zlv xmv ?_
    refine zlv (xadd (r := q + 1)) ?_
    refine zlv xas ?_
    refine zln <| zlq ⟨n + ((s.X q) * ((mf q) k)), q + 1, rfl, (by omega), (by omega), ?_, (by omega), rfl, hS⟩
    ·
     rw [madeF_next hq0, ← hn9, Int.mul_comm (mf q k)]
   refine zxt <| ztx <| ztx <| zbh <| ztn <| zsq ?_
   refine zdst [0, 1, 2] [0, 1, 2] 1000 mx_ hS ?_; clear hS; intro w hS
   refine zdv 0 (fun _ => xmv) ?_
   refine zdv 1 (fun _ => (xfb 1 fd_24_1)) ?_
   refine zdla 2 (fun w hS => (xlb 0 pl_22 hS)) ?_
   refine zdv 3 (fun _ => xmv) ?_
   refine zdv 4 (fun _ => (xix (kk := k) sl_22 h.D.slh)) ?_
   refine zdla 5 (fun w hS => (xlr (u := .int .i64 (p.D k)) pl_3 (h.D.below hS.below))) ?_
   have hbv := h.iD k
   refine zdv 6 (fun _ => (xfb 3 fd_52_3)) ?_
   refine zdla 7 (fun w hS => (xlb 2 pl_3 hS)) ?_
   refine zdv 8 (fun _ => (xmul (r := ((p.D k) * s.den)) (e := rfl))) ?_
   refine zdv 9 (fun _ => xlss) ?_
   refine zdd <| ztn ?_
   refine zcif ?_ ?_ <;> intro hc
   ·
    refine zsr ?_
    refine zlv xas ?_
    refine zlt <| zrt <| zbr <| ztr <| ztr <| zbr <| ztr <| zf1 ⟨_, rfl, ?_⟩
    refine ⟨false_B ?_, hS.nl⟩
    rintro ⟨g0, g1, g2, g3, g4, g5⟩
    first
    | exact absurd g0 ‹¬ p.Ok›
    | exact absurd g1 ‹¬ SoundS s›
    | omega
    | (have h9 := g4 i hi0 (by omega); first | exact absurd h9.1 ‹_› | (have := h9.2; omega))
    | (have h9 := g5 k hk0 (by omega); rw [hn9, show q = u by omega] at *; omega)
   refine zsk <| zbn <| ztn <| zrg ?_
   refine zlv xmv ?_
   refine zlv (xadd (r := k + 1)) ?_
   refine zlv xas ?_
   refine zln <| zlq ⟨k + 1, rfl, (by omega), (by omega), ?_, rfl, hS⟩
   ·
    intro j j0 j1; rcases Int.lt_or_eq_of_le (show j ≤ k by omega) with h9 | h9
    · exact hge j j0 h9
    · rw [h9]; rw [show q = u by omega] at hn9; omega
  refine zxt <| ztx <| ztx <| zbh <| ztn <| zsr ?_
  refine zlv xas ?_
  refine zlt <| zrt <| zf1 ⟨_, rfl, ?_⟩
  exact ⟨true_B ⟨hp, hsd, by omega, by omega, fun k k0 k1 => hall k k0 (by omega), fun j j0 j1 => hge j j0 (by omega)⟩, hS.nl⟩
theorem psum_congr {F G c d : Int → Int} : ∀ {m : Nat}, (∀ k : Nat, k < m → F k = G k ∧ c k = d k) → psum F c m = psum G d m
  | 0, _ => rfl
  | m + 1, h => by simp only [psum]; rw [psum_congr fun k hk => h k (by omega), (h m (by omega)).1, (h m (by omega)).2]
theorem lst_getD {n : Int} {f : Int → Int} {j : Int} (j0 : 0 ≤ j) (j1 : j < n) : (lst n f).getD j.toNat 0 = f j := by
  rw [List.getD_eq_getElem?_getD, lst_get, Int.toNat_of_nonneg j0, if_pos j1]; rfl
theorem list_lst {m : Int} {l : List Int} (h : l.length = m.toNat) : l = lst m fun k => l.getD k.toNat 0 := by
  apply List.ext_getElem?
  intro k
  rw [lst_get]
  by_cases hk : (k : Int) < m
  · rw [if_pos hk, List.getD_eq_getElem?_getD, Int.toNat_natCast, List.getElem?_eq_getElem (by omega)]; rfl
  · rw [if_neg hk]; simp; omega
def mkU (j : Int) (L : Us) : Int := wsum (fun l => l.getD j.toNat 0) L
theorem mkU_plL {n : Int} {ln cnt : Int → Int} {pt : Int → Int → Int} (n0 : 0 ≤ n) {j : Int} (j0 : 0 ≤ j) (hl : ∀ k, 0 ≤ k → k < n → j < ln k) : madeF n pt cnt j = mkU j (plL n ln pt cnt) := by
  unfold mkU madeF
  rw [wsum_plL' _ n0]
  exact psum_congr fun k hk => ⟨(lst_getD j0 (hl k (by omega) (by omega))).symm, rfl⟩
theorem plan_pos {p : Prob} {u : Int} {ln cnt : Int → Int} {pt : Int → Int → Int} (h : PlanOk p u ln pt cnt) : ∀ x ∈ plL u ln pt cnt, 1 ≤ x.2 := fun x hx => by
  obtain ⟨j, hj⟩ := List.mem_iff_getElem?.1 hx
  rw [plL_get] at hj
  split at hj
  · injection hj with hj; rw [← hj]; exact (h.2.2 j (by omega) (by assumption)).1
  · cases hj
theorem TrimR.ok {p : Prob} {u e : Int} {ln cnt : Int → Int} {pt : Int → Int → Int} {out : Us} (h : TrimR p u ln pt cnt out e) (h1 : PlanOk p u ln pt cnt) (h2 : ∀ j, 0 ≤ j → j < p.m → p.D j ≤ madeF u pt cnt j) : e = 0 := by
  rcases h with ⟨h, _⟩ | ⟨_, h, _⟩ | ⟨_, _, h, _⟩
  · exact absurd h1 h
  · exact absurd h2 h
  · exact h
def FitL (p : Prob) (l : List Int) : Prop := ∃ f, FitsP p p.m f ∧ l = lst p.m f
theorem fitsP_congr {p : Prob} {n m : Int} {f g : Int → Int} (h : FitsP p n f) (hn : n = m) (he : ∀ k, 0 ≤ k → k < p.m → g k = f k) : FitsP p m g := by
  subst hn
  refine ⟨h.ok, h.eq, fun i i0 i1 => by rw [he i i0 i1]; exact h.all i i0 i1, ?_⟩
  have hm := h.ok.m1
  have e : Used p g p.m.toNat = Used p f p.m.toNat := sumTo_congr fun i i0 i1 => by rw [he i i0 (by omega)]
  rw [e]; exact h.used
theorem planOk_list {p : Prob} {n : Int} {ln cnt : Int → Int} {pt : Int → Int → Int} (hok : p.Ok) (hn : n ≤ 1000) (hl : ∀ k, 0 ≤ k → k < n → 0 ≤ ln k) (hL : ∀ x ∈ plL n ln pt cnt, (1 ≤ x.2 ∧ x.2 ≤ 1000) ∧ FitL p x.1) : PlanOk p n ln pt cnt := by
  refine ⟨hok, hn, fun k k0 k1 => ?_⟩
  have hm : (lst (ln k) (pt k), cnt k) ∈ plL n ln pt cnt := List.mem_iff_getElem?.2 ⟨k.toNat, by rw [plL_get, Int.toNat_of_nonneg k0, if_pos k1]⟩
  obtain ⟨⟨h1, h2⟩, f, h3, h4⟩ := hL _ hm
  have hm1 := hok.m1
  obtain ⟨q1, q2⟩ := (lst_eq (hl k k0 k1) (by omega)).1 h4
  exact ⟨h1, h2, fitsP_congr h3 q1.symm fun i i0 i1 => q2 i i0 (by omega)⟩
theorem planOk_mem {p : Prob} {n : Int} {ln cnt : Int → Int} {pt : Int → Int → Int} (h : PlanOk p n ln pt cnt) : ∀ x ∈ plL n ln pt cnt, (1 ≤ x.2 ∧ x.2 ≤ 1000) ∧ FitL p x.1 := fun x hx => by
  obtain ⟨j, hj⟩ := List.mem_iff_getElem?.1 hx
  rw [plL_get] at hj
  split at hj
  · injection hj with hj
    obtain ⟨h1, h2, h3⟩ := h.2.2 j (by omega) (by assumption)
    rw [← hj]
    exact ⟨⟨h1, h2⟩, pt j, fitsP_congr h3 h3.eq fun _ _ _ => rfl, by have := h3.eq; dsimp only; rw [this]⟩
  · cases hj
theorem FFOk_elem {p : Prob} {hist : List Int} {s : Us} (hok : p.Ok) (h : FFOk p.m (p.stock + p.kerf) (szP p) hist s) {b : List Int × Int} (hb : b ∈ s) {j : Int} (j0 : 0 ≤ j) (j1 : j < p.m) : 0 ≤ b.1.getD j.toNat 0 ∧ b.1.getD j.toNat 0 ≤ p.stock + p.kerf := by
  obtain ⟨h2, h3, h4⟩ := h.ok _ hb
  have h5 := h.nn _ hb
  have h6 := puse_ge h5 (sz := szP p) (fun k hk => (szP_ok hok (by omega) (by omega)).1) (j := j.toNat) (by omega)
  refine ⟨?_, by omega⟩
  rw [List.getD_eq_getElem?_getD, List.getElem?_eq_getElem (by omega)]
  exact h5 _ (List.getElem_mem _)
theorem psum_used (p : Prob) (d : Int → Int) : ∀ n : Nat, psum (szP p) d n = Used p d n
  | 0 => rfl
  | n + 1 => by
    have h1 : Used p d (n + 1) = Used p d n + d n * (p.L n + p.kerf) := by
      have := sumTo_next (fun i => d i * (p.L i + p.kerf)) (i := (n : Int)) (by omega)
      rw [show ((n : Int) + 1).toNat = n + 1 by omega, Int.toNat_natCast] at this
      exact this
    rw [h1, psum, psum_used p d n, Int.mul_comm]
theorem mul_rng {a b A B : Int} (a0 : 0 ≤ a) (a1 : a ≤ A) (b0 : 0 ≤ b) (b1 : b ≤ B) : 0 ≤ a * b ∧ a * b ≤ A * B :=
  ⟨Int.mul_nonneg a0 b0, Int.mul_le_mul a1 b1 b0 (by omega)⟩
theorem few_tot {p : Prob} (hok : p.Ok) (hf : Few28 p) : psum (fun _ => 1) p.D p.m.toNat ≤ 180 := by
  obtain ⟨h1, h2, _⟩ := hf.2.2 hok
  have hd := hok.d
  have hm := hok.m1
  have hb : ∀ n : Nat, (n : Int) ≤ p.m → psum (fun _ => 1) p.D n ≤ 30 * n := by
    intro n
    induction n with
    | zero => intro _; simp [psum]
    | succ n ih => intro hn; have := ih (by omega); have := h1 n (by omega) (by omega); simp only [psum]; push_cast; omega
  have := hb p.m.toNat (by omega)
  omega
theorem planOk_list' {p : Prob} {n : Int} {ln cnt : Int → Int} {pt : Int → Int → Int} (hok : p.Ok) (hn : n ≤ 1000) (hL : ∀ x ∈ plL n ln pt cnt, (1 ≤ x.2 ∧ x.2 ≤ 1000) ∧ FitL p x.1) : PlanOk p n ln pt cnt := by
  refine planOk_list hok hn (fun k k0 k1 => ?_) hL
  obtain ⟨_, f, h3, h4⟩ := hL (lst (ln k) (pt k), cnt k) (List.mem_iff_getElem?.2 ⟨k.toNat, by rw [plL_get, Int.toNat_of_nonneg k0, if_pos k1]⟩)
  have h5 := congrArg List.length h4
  dsimp only at h5
  rw [lst_len, lst_len] at h5
  have := hok.m1
  omega
theorem PlanOk.mk {p : Prob} {n : Int} {ln cnt : Int → Int} {pt : Int → Int → Int} (h : PlanOk p n ln pt cnt) (n0 : 0 ≤ n) {j : Int} (j0 : 0 ≤ j) (j1 : j < p.m) : madeF n pt cnt j = mkU j (plL n ln pt cnt) :=
  mkU_plL n0 j0 fun k k0 k1 => by have := (h.2.2 k k0 k1).2.2.eq; omega
theorem wsum_le {f g : List Int → Int} : ∀ {L : Us}, (∀ x ∈ L, 0 ≤ x.2) → (∀ x ∈ L, f x.1 ≤ g x.1) → wsum f L ≤ wsum g L
  | [], _, _ => Int.le_refl _
  | x :: L, h, k => by
    have h1 := wsum_le (f := f) (g := g) (L := L) (fun y hy => h y (by simp [hy])) fun y hy => k y (by simp [hy])
    have h2 := Int.mul_le_mul_of_nonneg_right (k x (by simp)) (h x (by simp))
    simp only [wsum]; omega
theorem cnt_le : ∀ {L : Us}, (∀ x ∈ L, 1 ≤ x.2) → (L.length : Int) ≤ wsum (fun _ => 1) L ∧ ∀ x ∈ L, x.2 ≤ wsum (fun _ => 1) L
  | [], _ => ⟨by simp [wsum], by simp⟩
  | y :: L, h => by
    obtain ⟨h1, h2⟩ := cnt_le (L := L) fun x hx => h x (by simp [hx])
    have h3 := h y (by simp)
    simp only [wsum]
    refine ⟨by rw [List.length_cons]; push_cast; omega, fun x hx => ?_⟩
    rcases List.mem_cons.1 hx with e | e
    · rw [e]; have : (0 : Int) ≤ L.length := by omega
      omega
    · have := h2 x e; omega
theorem plL_cat {n1 n2 : Int} {ln1 ln2 cnt1 cnt2 : Int → Int} {pt1 pt2 : Int → Int → Int} (n10 : 0 ≤ n1) (n20 : 0 ≤ n2) : plL (n1 + n2) (cat n1 ln1 ln2) (cat n1 pt1 pt2) (cat n1 cnt1 cnt2) = plL n1 ln1 pt1 cnt1 ++ plL n2 ln2 pt2 cnt2 := by
  apply List.ext_getElem?
  intro k
  rw [List.getElem?_append, plL_len, plL_get, plL_get, plL_get]
  unfold Gw.cat
  by_cases h : (k : Int) < n1
  · rw [if_pos (by omega : (k : Int) < n1 + n2), if_pos (by omega : k < n1.toNat)]; simp only [if_pos h]
  · rw [if_neg (by omega : ¬ k < n1.toNat)]
    simp only [if_neg h]
    by_cases h2 : (k : Int) < n1 + n2
    · rw [if_pos h2, if_pos (by omega), show ((k - n1.toNat : Nat) : Int) = (k : Int) - n1 by omega]
    · rw [if_neg h2, if_neg (by omega)]
theorem ff_fit {p : Prob} {hist : List Int} {s : Us} (hok : p.Ok) (h : FFOk p.m (p.stock + p.kerf) (szP p) hist s) {b : List Int × Int} (hb : b ∈ s) : FitL p b.1 := by
  obtain ⟨h2, h3, h4⟩ := h.ok _ hb
  have h5 := h.nn _ hb
  have hm := hok.m1
  have hl := list_lst (m := p.m) h2
  have e : puse (szP p) b.1 = Used p (fun k => b.1.getD k.toNat 0) p.m.toNat := by
    rw [hl, puse_lst' _ _ (by omega), psum_used]
    refine sumTo_congr fun i i0 i1 => ?_
    dsimp only
    rw [← hl]
  refine ⟨fun k => b.1.getD k.toNat 0, ⟨hok, rfl, fun i i0 i1 => ?_, by omega⟩, hl⟩
  obtain ⟨g1, g2⟩ := FFOk_elem hok h hb i0 i1
  refine ⟨g1, ?_⟩
  have h6 : (b.1.getD i.toNat 0) * (1 + p.kerf) ≤ p.stock + p.kerf := by
    have hs := hok.all i i0 i1
    unfold Prob.each at hs
    have h7 : (b.1.getD i.toNat 0) * (p.L i + p.kerf) ≤ Used p (fun k => b.1.getD k.toNat 0) p.m.toNat := sumTo_one (f := fun i => b.1.getD i.toNat 0 * (p.L i + p.kerf)) i0 (by omega) fun k k0 k1 => by
      have hk := hok.all k k0 (by omega)
      unfold Prob.each at hk
      exact Int.mul_nonneg (FFOk_elem hok h hb k0 (by omega)).1 (by have := hok.k1; omega)
    have h8 := Int.mul_le_mul_of_nonneg_left (show 1 + p.kerf ≤ p.L i + p.kerf by omega) g1
    omega
  have hk1 := hok.k1
  have hs2 := hok.s2
  refine Classical.byContradiction fun hc => ?_
  have h9 := Int.mul_le_mul_of_nonneg_right (show (2001 : Int) ≤ b.1.getD i.toNat 0 by omega) (show 0 ≤ 1 + p.kerf by omega)
  omega
def indF (j : Int) : Int → Int := fun k => if k = j then 1 else 0
theorem psum_ind {d : Int → Int} {j : Int} (j0 : 0 ≤ j) : ∀ n : Nat, psum (indF j) d n = if j < (n : Int) then d j else 0
  | 0 => by rw [if_neg (by omega)]; rfl
  | n + 1 => by
    simp only [psum]
    rw [psum_ind j0 n]
    unfold indF
    by_cases h : (n : Int) = j
    · rw [if_neg (by omega), if_pos h, if_pos (by omega), h]; omega
    · rw [if_neg h]
      by_cases h2 : j < (n : Int)
      · rw [if_pos h2, if_pos (by omega)]; omega
      · rw [if_neg h2, if_neg (by omega)]; omega
theorem puse_ind {m : Int} {l : List Int} (hl : l.length = m.toNat) {j : Int} (j0 : 0 ≤ j) (j1 : j < m) : puse (indF j) l = l.getD j.toNat 0 := by
  have h := list_lst (m := m) hl
  have h1 : puse (indF j) l = puse (indF j) (lst m fun k => l.getD k.toNat 0) := by rw [← h]
  rw [h1, puse_lst' _ _ (by omega), psum_ind j0, if_pos (by omega)]
theorem fit_rest {p : Prob} {d : Int → Int} (hok : p.Ok) (hd : ∀ k, 0 ≤ k → k < p.m → 0 ≤ d k) {N : Us} (hN : NormR (ones (ffRun p.m (p.stock + p.kerf) (szP p) (pcsTo d p.m 0))) N) :
    (∀ x ∈ N, 1 ≤ x.2 ∧ FitL p x.1) ∧ wsum (fun _ => 1) N ≤ psum (fun _ => 1) d p.m.toNat ∧ ∀ j, 0 ≤ j → j < p.m → mkU j N = d j := by
  have hm := hok.m1
  obtain ⟨hp1, hp2⟩ := pcsTo_ok (d := d) (m := p.m) (i := p.m) (c := 0) hd (by omega) (by omega) (by omega) (fun h => by omega) fun _ => rfl
  have hF := ffRun_p hok hp1
  have hone : ∀ x ∈ ones (ffRun p.m (p.stock + p.kerf) (szP p) (pcsTo d p.m 0)), ∃ b ∈ ffRun p.m (p.stock + p.kerf) (szP p) (pcsTo d p.m 0), x = (b.1, 1) := fun x hx => by
    unfold ones at hx
    obtain ⟨b, hb, rfl⟩ := List.mem_map.1 hx
    exact ⟨b, hb, rfl⟩
  refine ⟨fun x hx => ⟨hN.pos (fun y hy => by obtain ⟨b, _, rfl⟩ := hone y hy; exact Int.le_refl _) x hx, ?_⟩, ?_, fun j j0 j1 => ?_⟩
  · obtain ⟨y, hy, e⟩ := hN.keys x hx
    obtain ⟨b, hb, rfl⟩ := hone y hy
    rw [← e]; exact ff_fit (b := b) hok hF hb
  · rw [hN.wsum, wsum_ones]
    have h1 := hF.ln
    have h2 : ((ffRun p.m (p.stock + p.kerf) (szP p) (pcsTo d p.m 0)).map fun _ => (1 : Int)).sum = (ffRun p.m (p.stock + p.kerf) (szP p) (pcsTo d p.m 0)).length := by
      generalize ffRun p.m (p.stock + p.kerf) (szP p) (pcsTo d p.m 0) = l
      induction l with
      | nil => rfl
      | cons a l ih => rw [List.map_cons, List.sum_cons, ih, List.length_cons]; push_cast; omega
    omega
  · unfold mkU
    rw [hN.wsum, wsum_ones]
    have h1 := hF.ct (indF j)
    rw [pcsTo_sum _ _ (by omega) (by omega) hd, psum_ind j0, if_pos (by omega)] at h1
    have h2 : ((ffRun p.m (p.stock + p.kerf) (szP p) (pcsTo d p.m 0)).map fun b => b.1.getD j.toNat 0) = (ffRun p.m (p.stock + p.kerf) (szP p) (pcsTo d p.m 0)).map fun b => puse (indF j) b.1 :=
      List.map_congr_left fun b hb => (puse_ind (hF.ok b hb).1 j0 j1).symm
    rw [h2, h1]; omega
theorem plan_cnt {n : Int} {ln cnt : Int → Int} {pt : Int → Int → Int} {B : Int} (h : ∀ k, 0 ≤ k → k < n → 1 ≤ cnt k) (hw : wsum (fun _ => 1) (plL n ln pt cnt) ≤ B) : n ≤ B ∧ ∀ k, 0 ≤ k → k < n → cnt k ≤ B := by
  obtain ⟨h1, h2⟩ := cnt_le (L := plL n ln pt cnt) fun x hx => by
    obtain ⟨j, hj⟩ := List.mem_iff_getElem?.1 hx
    rw [plL_get] at hj
    split at hj
    · injection hj with hj; rw [← hj]; exact h j (by omega) (by assumption)
    · cases hj
  rw [plL_len] at h1
  refine ⟨by omega, fun k k0 k1 => ?_⟩
  have := h2 (lst (ln k) (pt k), cnt k) (List.mem_iff_getElem?.2 ⟨k.toNat, by rw [plL_get, Int.toNat_of_nonneg k0, if_pos k1]⟩)
  dsimp only at this
  omega
end Go.Proofs.Ytopmifmfecfaaaa
namespace Go.Proofs.Ytopmifmfecfaaaa
open Go Go.RowKit Go.Proofs.Gw
theorem cl_17 : calledT Try.prog 17 = true := by kernel_rfl
theorem cl_18 : calledT Try.prog 18 = true := by kernel_rfl
theorem cl_20 : calledT Try.prog 20 = true := by kernel_rfl
theorem cl_21 : calledT Try.prog 21 = true := by kernel_rfl
theorem cl_22 : calledT Try.prog 22 = true := by kernel_rfl
theorem cl_24 : calledT Try.prog 24 = true := by kernel_rfl
theorem cl_26 : calledT Try.prog 26 = true := by kernel_rfl
theorem cl_27 : calledT Try.prog 27 = true := by kernel_rfl
theorem cl_47 : calledT Try.prog 47 = true := by kernel_rfl
theorem cl_60 : calledT Try.prog 60 = true := by kernel_rfl
theorem cl_61 : calledT Try.prog 61 = true := by kernel_rfl
theorem cl_8 : calledT Try.prog 8 = true := by kernel_rfl
theorem el_58 : elemT Try.prog 58 = some (.agg #[.slice none 0 0, .slice none 0 0, .slice none 0 0, .int .i64 0, .int .i64 0], 5, 88) := by kernel_rfl
theorem fd_52_1 : fieldT Try.prog 52 1 = some 1 := by kernel_rfl
theorem st_54 : structT Try.prog 54 = some 5 := by kernel_rfl
set_option maxRecDepth 20000 in
theorem c_same34 {vV : Value} {n : Int} {pv : Int → Value} {ln : Int → Int} {pt : Int → Int → Int} {cnt : Int → Int} {vV2 : Value} {n2 : Int} {pv2 : Int → Value} {ln2 : Int → Int} {pt2 : Int → Int → Int} {cnt2 : Int → Int} (w0 : World) (hV : VAt w0 vV n pv ln pt cnt) (hV2 : VAt w0 vV2 n2 pv2 ln2 pt2 cnt2) (hnn : n ≤ 100000) :
    Calls Try.prog 26 [vV, vV2].toArray w0 fun e w => ∃ v, e = .returned v ∧ v = B (SameP n n2 ln ln2 pt pt2 cnt cnt2) ∧ Sat w0 w [] := by
  have hn5 := hnn
  refine zenG Try.func26 Try.ntmps26 fun w hS => ?_
  refine zsr ?_
  refine zlv xas ?_
  refine zlz ?_
  refine zlv xmv ?_
  refine zlc (xc0 cl_61) (c_theirs (n := n) (pv := pv) (ln := ln) (pt := pt) (cnt := cnt) w (hV.below hS.below) (by omega)) ?_; rintro vtth1 w ⟨_, rfl, hvtth1, hS'⟩
  replace hS : Sat w0 w [.own vtth1 2 34 n (ucells pv cnt)] := hS.comp hS'; clear hS'
  refine zlv xmv ?_
  refine zlc (xc0 cl_60) (c_splan (n := n) (pv := pv) (ln := ln) (pt := pt) (cnt := cnt) (n2 := n2) (pv2 := pv2) (ln2 := ln2) (pt2 := pt2) (cnt2 := cnt2) w (⟨(hS.rowN 0 rfl), fun k k0 k1 => (hV.p k k0 k1).below hS.below, hV.room⟩ : VAt _ vtth1 n pv ln pt cnt) (hV2.below hS.below)) ?_; rintro _ w ⟨rfl, hS'⟩
  replace hS := hS.cmp hS'; clear hS'
  refine zlv xas ?_
  refine zlt <| zrt <| zf1 ⟨_, rfl, ?_⟩
  exact ⟨rfl, hS.nl⟩
theorem planEx {w : World} {v a b c : Value} {f g h : Int → Int} (hr : Row w v 2 3 (fun k => ([a, .int .i64 1, b, .int .i64 1, c, .int .i64 1] : List Value).getD k.toNat undef)) (ha : Row w a 1 2 (ints f)) (hb : Row w b 1 2 (ints g)) (hc : Row w c 1 2 (ints h)) (ra : Gw.Roomy a) (rb : Gw.Roomy b) (rc : Gw.Roomy c) :
    VAt w v 3 (fun k => [a, b, c].getD k.toNat undef) (fun _ => 2) (fun k => [f, g, h].getD k.toNat (fun _ => 0)) (fun _ => 1) := by
  have e : ∀ k : Int, 0 ≤ k → k < 3 → k = 0 ∨ k = 1 ∨ k = 2 := fun k k0 k1 => by omega
  refine ⟨⟨hr.1, fun k hk => ?_⟩, fun i i0 i1 => ?_, fun i i0 i1 => ?_⟩
  · have := hr.2 k hk
    rcases k with _ | _ | _ | _ | _ | _ | k
    · exact this
    · exact this
    · exact this
    · exact this
    · exact this
    · exact this
    · simp at hk; omega
  · rcases e i i0 i1 with rfl | rfl | rfl
    · exact ha
    · exact hb
    · exact hc
  · rcases e i i0 i1 with rfl | rfl | rfl
    · exact ra
    · exact rb
    · exact rc
set_option maxRecDepth 20000 in
theorem c_awake34  (w0 : World) :
    Calls Try.prog 17 [].toArray w0 fun e w => ∃ v, e = .returned v ∧ v = .bool true ∧ Sat w0 w [] := by
  refine zenG Try.func17 Try.ntmps17 fun w hS => ?_
  refine zsr ?_
  refine zlv xas ?_
  refine zlz ?_
  refine zla (xli (n := 2) (len := 2) (pv := [(0, .int .i64 5), (1, .int .i64 3)]) (cs := [.int .i64 5, .int .i64 3]) (c := ints (fun k => [5, 3].getD k.toNat 0)) sl_22 el_3 hS) ?_; rintro v1 w ⟨hS, hv1⟩
  replace hS := hS.n1
  refine zla (xli (n := 2) (len := 2) (pv := [(0, .int .i64 3), (1, .int .i64 4)]) (cs := [.int .i64 3, .int .i64 4]) (c := ints (fun k => [3, 4].getD k.toNat 0)) sl_22 el_3 hS) ?_; rintro v2 w ⟨hS, hv2⟩
  replace hS := hS.n2
  refine zlv (xany (v := .agg #[v1, v2, .int .i64 11, .int .i64 1]) (hr := by obtain ⟨_, _, _, _, rfl, _⟩ := hv1; obtain ⟨_, _, _, _, rfl, _⟩ := hv2; kernel_rfl)) ?_
  refine zlc (xc0 cl_18) (c_ffit (p := (⟨2, (fun k => [5, 3].getD k.toNat 0), 2, (fun k => [3, 4].getD k.toNat 0), 11, 1⟩ : Prob)) w (⟨(hS.rowN 0 rfl), (hS.rowN 1 rfl), (litb _ (by decide)), (litb _ (by decide)), (by (try dsimp only); omega), (by (try dsimp only); omega)⟩ : PAt _ _ _ (⟨2, (fun k => [5, 3].getD k.toNat 0), 2, (fun k => [3, 4].getD k.toNat 0), 11, 1⟩ : Prob))) ?_; rintro _ w ⟨vnff1, nnff1, pnff1, lnff1, gnff1, cnff1, enff1, rfl, hffff1, hfcff1, hfnff1, hvnff1, hS'⟩
  replace hS : Sat w0 w [.own v1 1 3 2 (ints (fun k => [5, 3].getD k.toNat 0)), .own v2 1 3 2 (ints (fun k => [3, 4].getD k.toNat 0)), .own vnff1 2 50 nnff1 (ucells pnff1 cnff1), .sem (Frame.rows 3 nnff1 pnff1 lnff1 gnff1)] := hS.comp hS'; clear hS'
  have hrnff1 := fun k (k0 : 0 ≤ k) (k1 : k < nnff1) => hS.slhIn 3 rfl k0 k1
  obtain ⟨he0, hl0⟩ := ffitEx hffff1
  refine zs5 ?_
  refine zlz ?_
  refine zs3 ?_
  refine zlb 12 ?_ ?_ <;> intro hc
  ·
   refine zlv xmv ?_
   refine zla (xli (n := 2) (len := 2) (pv := [(0, .int .i64 2), (1, .int .i64 0)]) (cs := [.int .i64 2, .int .i64 0]) (c := ints (fun k => [2, 0].getD k.toNat 0)) sl_22 el_3 hS) ?_; rintro v3 w ⟨hS, hv3⟩
   replace hS := hS.n5
   refine zlv (xany (v := .agg #[v3, .int .i64 1]) (hr := by obtain ⟨_, _, _, _, rfl, _⟩ := hv3; kernel_rfl)) ?_
   refine zla (xli (n := 2) (len := 2) (pv := [(0, .int .i64 1), (1, .int .i64 1)]) (cs := [.int .i64 1, .int .i64 1]) (c := ints (fun k => [1, 1].getD k.toNat 0)) sl_22 el_3 hS) ?_; rintro v4 w ⟨hS, hv4⟩
   replace hS := hS.n6
   refine zlv (xany (v := .agg #[v4, .int .i64 1]) (hr := by obtain ⟨_, _, _, _, rfl, _⟩ := hv4; kernel_rfl)) ?_
   refine zla (xli (n := 2) (len := 2) (pv := [(0, .int .i64 0), (1, .int .i64 3)]) (cs := [.int .i64 0, .int .i64 3]) (c := ints (fun k => [0, 3].getD k.toNat 0)) sl_22 el_3 hS) ?_; rintro v5 w ⟨hS, hv5⟩
   replace hS := hS.n7
   refine zlv (xany (v := .agg #[v5, .int .i64 1]) (hr := by obtain ⟨_, _, _, _, rfl, _⟩ := hv5; kernel_rfl)) ?_
   refine zla (xli (n := 3) (len := 3) (pv := [(0, .agg #[v3, .int .i64 1]), (1, .agg #[v4, .int .i64 1]), (2, .agg #[v5, .int .i64 1])]) (cs := [v3, .int .i64 1, v4, .int .i64 1, v5, .int .i64 1]) (c := fun k => ([(v3 : Value), (.int .i64 1 : Value), (v4 : Value), (.int .i64 1 : Value), (v5 : Value), (.int .i64 1 : Value)]).getD k.toNat undef) sl_25 el_34 hS (hf := by obtain ⟨_, _, _, _, rfl, _⟩ := hv3; obtain ⟨_, _, _, _, rfl, _⟩ := hv4; obtain ⟨_, _, _, _, rfl, _⟩ := hv5; kernel_rfl)) ?_; rintro v6 w ⟨hS, hv6⟩
   replace hS := hS.n8
   have hsm : SameP nnff1 3 lnff1 (fun _ => 2) gnff1 (fun k => [(fun k => [2, 0].getD k.toNat 0), (fun k => [1, 1].getD k.toNat 0), (fun k => [0, 3].getD k.toNat 0)].getD k.toNat (fun _ => 0)) cnff1 (fun _ => 1) := SameP.of_plL hvnff1.n0 (by omega) (fun k k0 k1 => (hrnff1 k k0 k1).n0) (fun _ _ _ => by omega) (hl0.trans (by decide +kernel))
   refine zlc (xc0 cl_26) (c_same34 (n := nnff1) (pv := pnff1) (ln := lnff1) (pt := gnff1) (cnt := cnff1) (n2 := 3) (ln2 := fun _ => 2) (pt2 := (fun k => [(fun k => [2, 0].getD k.toNat 0), (fun k => [1, 1].getD k.toNat 0), (fun k => [0, 3].getD k.toNat 0)].getD k.toNat (fun _ => 0))) (cnt2 := fun _ => 1) w (⟨(hS.rowN 2 rfl), fun k k0 k1 => hS.rowIn 3 rfl k0 k1, fun k k0 k1 => hS.roomIn 3 rfl k0 k1⟩ : VAt _ vnff1 nnff1 pnff1 lnff1 gnff1 cnff1) (planEx (hS.rowN 7 rfl) (hS.rowN 4 rfl) (hS.rowN 5 rfl) (hS.rowN 6 rfl) (Ent.holds.roomy (hS.holds _ (List.mem_of_getElem? (i := 4) rfl))) (Ent.holds.roomy (hS.holds _ (List.mem_of_getElem? (i := 5) rfl))) (Ent.holds.roomy (hS.holds _ (List.mem_of_getElem? (i := 6) rfl)))) (by omega)) ?_; rintro _ w ⟨rfl, hS'⟩
   replace hS := hS.cmp hS'; clear hS'
   refine zs2 ?_
   refine zlt <| zrt <| zf1 ⟨_, rfl, ?_⟩
   exact ⟨(true_B hsm).symm, hS.nl⟩
  iterate 9 refine zlo ?_
  refine zs2 ?_
  refine zlt <| zrt <| zf1 ⟨_, rfl, ?_⟩
  exfalso
  first | omega | exact absurd hsm ‹_›
set_option maxRecDepth 20000 in
theorem c_few34 {vL vD : Value} {p : Prob} {vM : Value} {u : Int} {mv : Int → Value} {ml : Int → Int} {mf : Int → Int → Int} {vX vY : Value} {s : So} (w0 : World) (h : PAt w0 vL vD p) (hM : MAt w0 vM u mv ml mf) (hX : Row w0 vX 1 s.n (ints s.X)) (hY : Row w0 vY 1 s.m (ints s.Y)) :
    Calls Try.prog 20 [.agg #[vL, vD, .int .i64 p.stock, .int .i64 p.kerf], .agg #[vM, vX, vY, .int .i64 s.val, .int .i64 s.den]].toArray w0 fun e w => ∃ v, e = .returned v ∧ v = B (Few28 p ∧ ((∀ k, 0 ≤ k → k < u → ml k ≤ 25) ∧ u ≤ 30) ∧ s.n ≤ 30 ∧ s.m ≤ 30) ∧ Sat w0 w [] := by
  have hm := h.L.slh.n0; have hm1 := h.L.slh.n1; have hd := h.D.slh.n0; have hd1 := h.D.slh.n1; have hs := h.is; have hk := h.ik
  have hu := hM.row.slh.n0; have hu1 := hM.row.slh.n1; have hn := hX.slh.n0; have hn1 := hX.slh.n1
  refine zenG Try.func20 Try.ntmps20 fun w hS => ?_
  refine zsr ?_
  refine zla (xbx (cs := [_, _, _, _]) hS) ?_; rintro _ w ⟨g1, rfl, hS⟩
  replace hS := hS.n1
  refine zla (xbx (cs := [_, _, _, _, _]) hS) ?_; rintro _ w ⟨g2, rfl, hS⟩
  replace hS := hS.n2
  refine zlv xas ?_
  refine zlz ?_
  refine zlv (xls 0 st_24 hS) ?_
  refine zlc (xc0 cl_8) (c_few28 (p := p) w (h.below hS.below)) ?_; rintro _ w ⟨rfl, hS'⟩
  replace hS := hS.cmp hS'; clear hS'
  refine zlv xmv ?_
  refine zlb 7 ?_ ?_ <;> intro hc
  ·
   refine zlv (xfb 0 fd_54_0) ?_
   refine zlv (xlb 1 pl_32 hS) ?_
   refine zlc (xc0 cl_47) (c_few30 (u := u) (ml := ml) w (hM.below hS.below)) ?_; rintro _ w ⟨rfl, hS'⟩
   replace hS := hS.cmp hS'; clear hS'
   refine zs2 ?_
   refine zlb 12 ?_ ?_ <;> intro hc
   ·
    refine zlv (xfb 1 fd_54_1) ?_
    refine zlv (xfb 1 fd_52_0) ?_
    refine zlv (xlb 1 pl_22 hS) ?_
    refine zlv (xln sl_22 hX.slh) ?_
    refine zs3 ?_
    refine zlb 19 ?_ ?_ <;> intro hc
    ·
     refine zlv (xfb 1 fd_54_1) ?_
     refine zlv (xfb 2 fd_52_1) ?_
     refine zlv (xlb 1 pl_22 hS) ?_
     refine zlv (xln sl_22 hY.slh) ?_
     refine zs3 ?_
     refine zlt <| zrt <| zf1 ⟨_, rfl, ?_⟩
     exact ⟨B_congr (by exact ⟨fun hx => ⟨by first | assumption | exact Classical.not_not.1 ‹_›, by first | assumption | exact Classical.not_not.1 ‹_›, by omega, hx⟩, fun hx => hx.2.2.2⟩), hS.nl⟩
    iterate 5 refine zlo ?_
    refine zs2 ?_
    refine zlt <| zrt <| zf1 ⟨_, rfl, ?_⟩
    exact ⟨false_B (by rintro ⟨q1, q2, q3, q4⟩; first | exact absurd q1 ‹_› | exact absurd q2 ‹_› | omega), hS.nl⟩
   iterate 5 refine zlo ?_
   refine zs2 ?_
   iterate 5 refine zlo ?_
   refine zs2 ?_
   refine zlt <| zrt <| zf1 ⟨_, rfl, ?_⟩
   exact ⟨false_B (by rintro ⟨q1, q2, q3, q4⟩; first | exact absurd q1 ‹_› | exact absurd q2 ‹_› | omega), hS.nl⟩
  iterate 3 refine zlo ?_
  refine zs2 ?_
  iterate 5 refine zlo ?_
  refine zs2 ?_
  iterate 5 refine zlo ?_
  refine zs2 ?_
  refine zlt <| zrt <| zf1 ⟨_, rfl, ?_⟩
  exact ⟨false_B (by rintro ⟨q1, q2, q3, q4⟩; first | exact absurd q1 ‹_› | exact absurd q2 ‹_› | omega), hS.nl⟩
set_option maxRecDepth 20000 in
theorem c_own34  {vM : Value} {u : Int} {mv : Int → Value} {ml : Int → Int} {mf : Int → Int → Int} {vX vY : Value} {s : So} (w0 : World)  (hM : MAt w0 vM u mv ml mf) (hX : Row w0 vX 1 s.n (ints s.X)) (hY : Row w0 vY 1 s.m (ints s.Y)) :
    Calls Try.prog 22 [.agg #[vM, vX, vY, .int .i64 s.val, .int .i64 s.den]].toArray w0 fun e w => ∃ v, e = .returned v ∧ v = .agg #[vM, vX, vY, .int .i64 s.val, .int .i64 s.den] ∧ Sat w0 w [] := by
  refine zenG Try.func22 Try.ntmps22 fun w hS => ?_
  refine zsr ?_
  refine zla (xbx (cs := [_, _, _, _, _]) hS) ?_; rintro _ w ⟨g1, rfl, hS⟩
  replace hS := hS.n1
  refine zla (xal (cs := [_, _, _, _, _]) el_58 hS) ?_; rintro _ w ⟨g2, rfl, hS⟩
  replace hS := hS.n2
  refine zlz ?_
  refine zlv (xfb 0 fd_54_0) ?_
  refine zlv (xlb 0 pl_32 hS) ?_
  refine zlv (xfb 1 fd_54_1) ?_
  refine zlv (xlp 0 (ds := [vX, vY, .int .i64 s.val, .int .i64 s.den]) st_52 hS) ?_
  refine zlv (xany (v := .agg #[vM, vX, vY, .int .i64 s.val, .int .i64 s.den]) (hr := by obtain ⟨_, _, _, _, rfl, _⟩ := hM.row.slh; obtain ⟨_, _, _, _, rfl, _⟩ := hX.slh; obtain ⟨_, _, _, _, rfl, _⟩ := hY.slh; kernel_rfl)) ?_
  refine zle (xsw 1 st_58 hS (hd := (ones_cons hM.row.slh.one (ones_cons hX.slh.one (ones_cons hY.slh.one (ones_cons rfl (ones_cons rfl ones_nil))))))) ?_; clear hS; rintro w hS
  replace hS := hS.n2
  refine zlt <| zrt <| zfc 1 st_58 hS ⟨_, rfl, ?_⟩
  exact ⟨rfl, hS.nl⟩
end Go.Proofs.Ytopmifmfecfaaaa
namespace Go.Proofs.Gw
open Go Go.RowKit
def Flat (v : Value) : Prop := ∀ a l c, v = .slice a l c → a = none ∨ ∃ b off, a = some ⟨b, off, none⟩
def capV (v : Value) (q : Nat) : Value := match v with
  | .slice a _ _ => .slice a q q
  | u => u
def sufW (v : Value) (q s : Nat) : Value := match v with
  | .slice a len cap => .slice (if cap = q then a else a.map fun x => ⟨x.block, x.off + q * s, none⟩) (len - q) (cap - q)
  | u => u
section
variable {P : Program} {L : List (Nat × Value)} {w w0 : World} {o : Oper} {x y z : Operand} {T T' : TypeId} {l : List Ent} {E : TypeId}
theorem Ent.holds.flat {v : Value} {s : Nat} {n : Int} {c : Int → Value} (h : (Ent.own v s E n c).holds w) : Flat v := fun a len cap e => by
  obtain ⟨_, _, ⟨rfl, _⟩ | ⟨g, cap', cur, rfl, _, h2, _⟩⟩ := h
  · cases e; exact .inl rfl
  · cases e; exact .inr ⟨_, _, rfl⟩
theorem cap_slh {v : Value} {n i : Int} {q : Nat} (h : Slh v n) (hq : (q : Int) = i) (hi : i ≤ n) : Slh (capV v q) i := by
  subst hq
  obtain ⟨h0, h1, a, cap, rfl, hz⟩ := h
  refine ⟨by omega, by omega, a, q, by simp [capV], ?_⟩
  rcases hz with hz | hz
  · left; omega
  · exact .inr hz
theorem cap_row {v : Value} {s : Nat} {n i : Int} {q : Nat} {c : Int → Value} (h : Row w v s n c) (hq : (q : Int) = i) (hi : i ≤ n) : Row w (capV v q) s i c := by
  refine ⟨cap_slh h.slh hq hi, fun k hk => ?_⟩
  have h2 := h.2 k (Int.lt_of_lt_of_le hk (Int.mul_le_mul_of_nonneg_right hi (by omega)))
  obtain ⟨_, _, a, cap, rfl, _⟩ := h.slh
  cases a <;> exact h2
theorem sufw_slh {v : Value} {n i m : Int} {q s : Nat} (h : Slh v n) (hr : Roomy v) (hq : (q : Int) = i) (hi : i ≤ n) (hm : m = n - i) : Slh (sufW v q s) m := by
  subst hq hm
  obtain ⟨h0, h1, a, cap, rfl, hz⟩ := h
  have hc := hr _ _ _ rfl
  refine ⟨by omega, by omega, (if cap = q then a else a.map fun x => ⟨x.block, x.off + q * s, none⟩), cap - q, ?_, ?_⟩
  · unfold sufW; dsimp only; congr 1; omega
  · rcases hz with hz | ⟨b, off, rfl⟩
    · left; omega
    · right; by_cases hcq : cap = q
      · exact ⟨b, off, by rw [if_pos hcq]⟩
      · exact ⟨b, off + q * s, by rw [if_neg hcq]; rfl⟩
theorem sufw_row {v : Value} {s : Nat} {n i m : Int} {q : Nat} {c d : Int → Value} (h : Row w v s n c) (hr : Roomy v) (hq : (q : Int) = i) (hi : i ≤ n) (hm : m = n - i) (hd : ∀ k, 0 ≤ k → d k = c (k + i * s)) : Row w (sufW v q s) s m d := by
  refine ⟨sufw_slh h.slh hr hq hi hm, fun k hk => ?_⟩
  subst hq hm
  have h1 : (k : Int) + (q : Int) * s < n * s := by have := Int.sub_mul n q s; omega
  have e : (k : Int) + (q : Int) * s = ((k + q * s : Nat) : Int) := by push_cast; rfl
  have h2 := h.2 (k + q * s) (by rw [← e]; exact h1)
  rw [hd k (by omega), e, ← h2]
  obtain ⟨h0, _, a, cap, rfl, hz⟩ := h.slh
  have hc := hr _ _ _ rfl
  rcases hz with hz | ⟨b, off, rfl⟩
  · subst hz; rw [Int.zero_mul] at h1; have : (0 : Int) ≤ (q : Int) * s := Int.mul_nonneg (by omega) (by omega); omega
  · have hcq : cap ≠ q := by
      intro e2
      have : n - (q : Int) ≤ 0 := by omega
      have := Int.mul_le_mul_of_nonneg_right this (show (0 : Int) ≤ s by omega)
      rw [Int.zero_mul] at this
      omega
    unfold sufW cad; dsimp only
    rw [if_neg hcq]
    congr 1
    show (⟨b, off + q * s + (k : Int).toNat, none⟩ : Addr) = ⟨b, off + ((k + q * s : Nat) : Int).toNat, none⟩
    congr 1
    omega
theorem xsl_cap {v : Value} {n i : Int} {s : Nat} (q : Nat) (ht : sliceT P T = some (E, s)) (hv : Slh v n) (hr : Roomy v) (hf : Flat v) (hq : (q : Int) = i := by omega) (h1 : i ≤ n := by omega) (ho : o.op = .slice T x none (some y) (some z) := by exact rfl) (hx : evL L x = some v := by exact rfl) (hy : evL L y = some (.int .i64 i) := by exact rfl) (hz : evL L z = some (.int .i64 i) := by exact rfl) :
    Runs P L w o (.value (capV v q)) w := fun ρ h => by
  obtain ⟨hu, inf, hin, hsz⟩ := slice_of ht
  obtain ⟨_, _, a, cap, rfl, _⟩ := hv
  have hc := hr _ _ _ rfl
  have ha := hf _ _ _ rfl
  subst hq
  have hb : (Instr.sliceBounds true n.toNat cap none (some (.int .i64 (q : Int))) (some (.int .i64 (q : Int)))).run P w = .ok (0, q, q) w := by
    have hcq : (q : Int) ≤ (cap : Int) := by omega
    simp [Instr.sliceBounds, Instr.sliceBound, asIntOf, hcq]
  have e : (Instr.sliceAt T (.slice a n.toNat cap) none (some (.int .i64 (q : Int))) (some (.int .i64 (q : Int)))).run P w = .ok (capV (.slice a n.toNat cap) q) w := by
    unfold Instr.sliceAt
    simp only [Sem.run_bind, run_underlying hu, Result.andThen_ok, Instr.slice, hb]
    rcases ha with rfl | ⟨b, off, rfl⟩
    · simp [sizeOf, typeInfo, hin, hsz, capV]
    · simp [sizeOf, typeInfo, hin, hsz, capV, Addr.add]
  simp [execOp, ho, h _ _ hx, h _ _ hy, h _ _ hz, e]
theorem xsl_los {v : Value} {n i : Int} {s : Nat} (q : Nat) (ht : sliceT P T = some (E, s)) (hv : Slh v n) (hf : Flat v) (hq : (q : Int) = i := by omega) (h1 : i ≤ n := by omega) (ho : o.op = .slice T x (some y) none none := by exact rfl) (hx : evL L x = some v := by exact rfl) (hy : evL L y = some (.int .i64 i) := by exact rfl) :
    Runs P L w o (.value (sufW v q s)) w := fun ρ h => by
  obtain ⟨hu, inf, hin, hsz⟩ := slice_of ht
  obtain ⟨_, _, a, cap, rfl, _⟩ := hv
  have ha := hf _ _ _ rfl
  subst hq
  have hb : (Instr.sliceBounds true n.toNat cap (some (.int .i64 (q : Int))) none none).run P w = .ok (q, n.toNat, cap) w := by
    simp [Instr.sliceBounds, Instr.sliceBound, asIntOf]
    omega
  have e : (Instr.sliceAt T (.slice a n.toNat cap) (some (.int .i64 (q : Int))) none none).run P w = .ok (sufW (.slice a n.toNat cap) q s) w := by
    unfold Instr.sliceAt
    simp only [Sem.run_bind, run_underlying hu, Result.andThen_ok, Instr.slice, hb]
    rcases ha with rfl | ⟨b, off, rfl⟩
    · simp [sizeOf, typeInfo, hin, hsz, sufW]
    · by_cases hc : cap = q
      · simp [sizeOf, typeInfo, hin, hsz, sufW, hc]
      · simp [sizeOf, typeInfo, hin, hsz, sufW, hc, Addr.add_eq]
  simp [execOp, ho, h _ _ hx, h _ _ hy, e]
theorem ex_appendF {v u : Value} {s b : Nat} {n m : Int} {c d f : Int → Value} {zv : Value} (ho : o.op = .call { callee := .builtin .append, args := #[x, y], argTypes := #[T, T] }) (ht : sliceT P T = some (E, s)) (he : elemT P E = some (zv, s, b)) (hz : zv.cells.size = s) (hs : 0 < s)
    (hS : Sat w0 w l) (hx : evL L x = some v) (hy : evL L y = some u) (hv : Row w v s n c) (hcap : ∀ a len cp, v = .slice a len cp → cp = len) (hu : Row w u s m d) (hm : 0 < m) (h1c : ∀ k, 0 ≤ k → k < n * s → (c k).oneCell' = true) (h1 : ∀ k, 0 ≤ k → k < m * s → (d k).oneCell' = true)
    (hb : b * (n + m) ≤ 140737488355328) (hnm : n + m ≤ 140737488355328) (e : ∀ k, 0 ≤ k → k < (n + m) * s → cat (n * s) c d k = f k) :
    ∃ r w', Runs P L w o (.value r) w' ∧ Sat w0 w' (l ++ [.own r s E (n + m) f]) ∧ Slh r (n + m) := by
  obtain ⟨hn0, hn1, a, cap, rfl, hza⟩ := hv.slh
  have hcp := hcap _ _ _ rfl
  subst hcp
  cases a with
  | none =>
    have hn : n = 0 := by rcases hza with h | ⟨_, _, h⟩; exact h; cases h
    subst hn
    have hS1 := hS.addnil s E c
    obtain ⟨r, w', h2, h3, h4⟩ := ex_append (l1 := l) (l2 := []) ho ht he hz hs (v := .slice none 0 0) hS1 (by simpa using hx) hy hu h1 hb hnm
    refine ⟨r, w', h2, ?_, h4⟩
    have hi : (l ++ Ent.own r s E (0 + m) (cat (0 * s) c d) :: [])[l.length]? = some (.own r s E (0 + m) (cat (0 * s) c d)) := by rw [List.getElem?_append_right (Nat.le_refl _), Nat.sub_self]; rfl
    have := h3.recont l.length hi e
    have e2 : (l ++ [Ent.own r s E (0 + m) (cat (0 * s) c d)]).set l.length (Ent.own r s E (0 + m) f) = l ++ [.own r s E (0 + m) f] := by
      apply List.ext_getElem?
      intro k
      rw [List.getElem?_set, List.getElem?_append, List.getElem?_append]
      by_cases h5 : l.length = k
      · subst h5; simp
      · rw [if_neg h5]
        by_cases h6 : k < l.length
        · rw [if_pos h6, if_pos h6]
        · rw [if_neg h6, if_neg h6, List.getElem?_eq_none (by simp; omega), List.getElem?_eq_none (by simp; omega)]
    rw [e2] at this
    exact this
  | some ad =>
    obtain ⟨hut, _⟩ := slice_of ht
    obtain ⟨i, hi, hzz, hsz, hby⟩ := elem_of he
    obtain ⟨hm0, hm1, a2, cap2, rfl, hz2⟩ := hu.slh
    obtain ⟨b2, off2, rfl⟩ : ∃ b off, a2 = some ⟨b, off, none⟩ := by rcases hz2 with h | h; omega; exact h
    have eb : (n.toNat + m.toNat) * b ≤ 140737488355328 := by
      have : (((n.toNat + m.toNat) * b : Nat) : Int) = b * (n + m) := by rw [Int.natCast_mul, Int.natCast_add, Int.toNat_of_nonneg hn0, Int.toNat_of_nonneg hm0, Int.mul_comm]
      omega
    have en : n.toNat + m.toNat = (n + m).toNat := by omega
    have cellsR : ∀ {v : Value} {n : Int} {c : Int → Value} {ad : Addr} {cap : Nat}, v = .slice (some ad) n.toNat cap → (n = 0 ∨ ∃ b off, some ad = some (⟨b, off, none⟩ : Addr)) → 0 ≤ n → Row w v s n c → ∀ j t, (cellsOf c (n.toNat * s))[j]? = some t → w.cell? (ad.add j) = some t := fun {v n c ad cap} hv hz h0 hR j t hj => by
      rw [cellsOf_get] at hj
      split at hj
      · rename_i hlt
        have e' : ((n.toNat * s : Nat) : Int) = n * s := by rw [Int.natCast_mul, Int.toNat_of_nonneg h0]
        have := hR.2 j (by omega)
        cases hj
        rw [← this, hv]
        rcases hz with h | ⟨b', off, h⟩
        · subst h; simp at hlt
        · cases h; rw [Addr.add_eq _ rfl]; simp [cad]
      · cases hj
    have hr := run_append_grow (P := P) w T 0 E i zv hut hi hzz ad n.toNat n.toNat (cellsOf c (n.toNat * s)) (by rw [cellsOf_length, hsz]) (cellsR rfl hza hn0 hv)
      ⟨b2, off2, none⟩ m.toNat cap2 (cellsOf d (m.toNat * s)) (by rw [cellsOf_length, hsz]) (cellsR rfl (.inr ⟨_, _, rfl⟩) hm0 hu) (by omega) (by omega) (by rw [hby]; exact growslice_fits (by omega) eb)
    have hr' : ∀ ty, (Builtin.append_ #[T, T] ty #[.slice (some ad) n.toNat n.toNat, .slice (some ⟨b2, off2, none⟩) m.toNat cap2]) = Builtin.append_ #[T, T] 0 #[.slice (some ad) n.toNat n.toNat, .slice (some ⟨b2, off2, none⟩) m.toNat cap2] := fun _ => rfl
    have hge := grownCap_ge w (n.toNat + m.toNat) n.toNat E
    have hle := grownCap_le_maxLen w (n.toNat + m.toNat) n.toNat E (by unfold maxLen; omega)
    have hE : (Ent.own (.slice (some ⟨w.heap.size, 0, none⟩) (n.toNat + m.toNat) (grownCap w (n.toNat + m.toNat) n.toNat E)) s E (n + m) f).holds (w.drew.alloc (.cells ((cellsOf c (n.toNat * s)).toArray ++ (cellsOf d (m.toNat * s)).toArray ++ Builtin.zeroCells zv.cells (grownCap w (n.toNat + m.toNat) n.toNat E - (n.toNat + m.toNat))) E)) := by
      have hh := heap_alloc_new w.drew (.cells ((cellsOf c (n.toNat * s)).toArray ++ (cellsOf d (m.toNat * s)).toArray ++ Builtin.zeroCells zv.cells (grownCap w (n.toNat + m.toNat) n.toNat E - (n.toNat + m.toNat))) E)
      refine ⟨by omega, hnm, .inr ⟨w.heap.size, _, _, by rw [en], hh, by omega, hle, ?_, fun k hk => ?_⟩⟩
      · simp only [Array.size_append, List.size_toArray, cellsOf_length]
        rw [size_zeroCells, hz, ← Nat.add_mul, ← Nat.add_mul]; congr 1; omega
      · have e1 : ((n.toNat * s : Nat) : Int) = n * s := by rw [Int.natCast_mul, Int.toNat_of_nonneg hn0]
        have e2 : ((m.toNat * s : Nat) : Int) = m * s := by rw [Int.natCast_mul, Int.toNat_of_nonneg hm0]
        have e3 := Int.add_mul n m s
        rw [← e k (by omega) hk]
        have hlt : k < n.toNat * s + m.toNat * s := by omega
        rw [Array.getElem?_append_left (by simp only [Array.size_append, List.size_toArray, cellsOf_length]; exact hlt), Array.getElem?_append, List.size_toArray, cellsOf_length, List.getElem?_toArray, List.getElem?_toArray]
        unfold cat
        by_cases hk2 : k < n.toNat * s
        · rw [if_pos hk2, cellsOf_get, if_pos hk2, if_pos (by omega)]
        · rw [if_neg hk2, cellsOf_get, if_pos (by omega), if_neg (by omega)]; congr 2; omega
    refine ⟨_, _, fun ρ h => ?_, hS.draw.alloc _ hE (fun g hg => ?_), hE.row.slh⟩
    · simp [execOp, ho, resolve, invoke, builtin, h _ _ hx, h _ _ hy, hr', hr]
    · simp [Ent.has, Value.ownBlock] at hg; rw [← hg]; rfl
theorem capV_full (v : Value) (q : Nat) : ∀ a len cp, capV v q = .slice a len cp → cp = len := fun a len cp e => by
  unfold capV at e
  split at e
  · cases e; rfl
  · rename_i h; exact absurd e (h _ _ _)
theorem xapF {v u : Value} {s b : Nat} {n m r : Int} {c d f : Int → Value} {zv : Value} {q : Nat} (ht : sliceT P T = some (E, s)) (he : elemT P E = some (zv, s, b)) (hS : Sat w0 w l) (hv : Row w (capV v q) s n c) (hu : Row w u s m d) (h1c : ∀ k, 0 ≤ k → k < n * s → (c k).oneCell' = true) (h1 : ∀ k, 0 ≤ k → k < m * s → (d k).oneCell' = true)
    (e : ∀ k, 0 ≤ k → k < (n + m) * s → cat (n * s) c d k = f k) (hr : r = n + m) (hm : 0 < m := by omega) (hb : b * (n + m) ≤ 140737488355328 := by omega) (hnm : n + m ≤ 140737488355328 := by omega)
    (ho : o.op = .call { callee := .builtin .append, args := #[x, y], argTypes := #[T, T] } := by exact rfl) (hz : zv.cells.size = s := by exact rfl) (hs : 0 < s := by decide) (hx : evL L x = some (capV v q) := by exact rfl) (hy : evL L y = some u := by exact rfl) :
    ∃ q w', Runs P L w o (.value q) w' ∧ Sat w0 w' (l ++ [.own q s E r f]) ∧ Slh q r := by
  subst hr; exact ex_appendF ho ht he hz hs hS hx hy hv (capV_full v q) hu hm h1c h1 hb hnm e
theorem Sat.pmrowsJ (h : Sat w0 w l) (i : Nat) {n m : Int} {vv : Int → Value} {ln : Int → Int} {f : Int → Int → Int} {t : Int → Int} (ht : ∀ k, 0 ≤ k → k < m → 0 ≤ t k ∧ t k < n) (hj : ∀ j k, 0 ≤ j → j < m → 0 ≤ k → k < m → t j = t k → j = k) (hi : l[i]? = some (.sem (Frame.rows E n vv ln f)) := by exact rfl) :
    Sat w0 w (l.set i (.sem (Frame.rows E m (fun k => vv (t k)) (fun k => ln (t k)) (fun k => f (t k))))) :=
  h.resem i hi (fun ⟨h1, h2⟩ => ⟨fun k k0 k1 => h1 (t k) (ht k k0 k1).1 (ht k k0 k1).2, fun a b a0 a1 b0 b1 hab g hg hg' => h2 (t a) (t b) (ht a a0 a1).1 (ht a a0 a1).2 (ht b b0 b1).1 (ht b b0 b1).2 (fun e => hab (hj a b a0 a1 b0 b1 e)) g hg hg'⟩)
    (fun g ⟨a, a0, a1, hg⟩ => ⟨t a, (ht a a0 a1).1, (ht a a0 a1).2, hg⟩)
end
end Go.Proofs.Gw
namespace Go.Proofs.Ytopmifmfecfaaaa
open Go Go.RowKit Go.Proofs.Gw
set_option maxRecDepth 20000 in
theorem c_ahead {vA vB : Value} {n m : Int} {f g : Int → Int} (w0 : World) (hA : Row w0 vA 1 n (ints f)) (hB : Row w0 vB 1 m (ints g)) :
    Calls Try.prog 68 [vA, vB].toArray w0 fun e w => ∃ v, e = .returned v ∧ v = B (ahd (lst n f) (lst m g)) ∧ Sat w0 w [] := by
  have hn := hA.slh.n0; have hn1 := hA.slh.n1; have hm := hB.slh.n0; have hm1 := hB.slh.n1
  refine zenG Try.func68 Try.ntmps68 fun w hS => ?_
  refine zsr ?_
  refine zlv xas ?_
  refine zlt <| zsq <| zsr ?_
  refine zlv xas ?_
  refine zlt <| zbk <| zlp (fun mm M w => ∃ (i : Int), mm = ((n - i).toNat) ∧ (0 ≤ i) ∧ (i ≤ n) ∧ (i ≤ m) ∧ (∀ k, 0 ≤ k → k < i → f k = g k) ∧ M = [(0, vA), (1, vB), (5, .int .i64 i)] ∧ Sat w0 w []) ⟨0, rfl, (by omega), (by omega), (by omega), ?_, rfl, hS⟩ ?_
  ·
   intro k h0 h1; omega
  clear hS w
  rintro mm M w ⟨i, rfl, h0, h1, h2, hall, rfl, hS⟩
  refine zsq <| zsr ?_
  refine zs2 ?_
  refine zlv (xln sl_22 hA.slh) ?_
  refine zs2 ?_
  refine zlb 10 ?_ ?_ <;> intro hc
  ·
   refine zs2 ?_
   refine zlv (xln sl_22 hB.slh) ?_
   refine zs2 ?_
   refine zlt ?_
   refine zcif ?_ ?_ <;> intro hc
   ·
    refine zsk <| ztn <| zsq <| zbk <| zsq ?_
    refine zdst [] [] 1000 mx_ hS ?_; clear hS; intro w hS
    refine zdv 0 (fun _ => xmv) ?_
    refine zdv 1 (fun _ => xmv) ?_
    refine zdv 2 (fun _ => (xix (kk := i) sl_22 hA.slh)) ?_
    refine zdla 3 (fun w hS => (xlr (u := .int .i64 (f i)) pl_3 (hA.below hS.below))) ?_
    refine zdv 4 (fun _ => xmv) ?_
    refine zdv 5 (fun _ => xmv) ?_
    refine zdv 6 (fun _ => (xix (kk := i) sl_22 hB.slh)) ?_
    refine zdla 7 (fun w hS => (xlr (u := .int .i64 (g i)) pl_3 (hB.below hS.below))) ?_
    refine zdv 8 (fun _ => xneq) ?_
    refine zdd <| ztn ?_
    refine zcif ?_ ?_ <;> intro hc
    ·
     refine zsq ?_
     refine zdst [] [] 1000 mx_ hS ?_; clear hS; intro w hS
     refine zdv 0 (fun _ => xmv) ?_
     refine zdv 1 (fun _ => xmv) ?_
     refine zdv 2 (fun _ => (xix (kk := i) sl_22 hA.slh)) ?_
     refine zdla 3 (fun w hS => (xlr (u := .int .i64 (f i)) pl_3 (hA.below hS.below))) ?_
     refine zdv 4 (fun _ => xmv) ?_
     refine zdv 5 (fun _ => xmv) ?_
     refine zdv 6 (fun _ => (xix (kk := i) sl_22 hB.slh)) ?_
     refine zdla 7 (fun w hS => (xlr (u := .int .i64 (g i)) pl_3 (hB.below hS.below))) ?_
     refine zdv 8 (fun _ => xgtr) ?_
     refine zdv 9 (fun _ => xas) ?_
     refine zdd <| ztn <| zrt <| zbr <| ztr <| ztr <| zbr <| ztr <| zf1 ⟨_, rfl, ?_⟩
     exact ⟨B_congr ⟨fun hh => ahd_gt h0 (by omega) (by omega) hall hh, fun hh => by
         apply Classical.byContradiction; intro h9
         exact ahd_asym hh (ahd_gt (n := m) (m := n) (f := g) (g := f) h0 (by omega) (by omega) (fun k k0 k1 => (hall k k0 k1).symm) (by omega))⟩, hS⟩
    refine zsk <| zbn <| ztn <| zrg ?_
    refine zlv xmv ?_
    refine zlv (xadd (r := i + 1)) ?_
    refine zlv xas ?_
    refine zln <| zlq ⟨i + 1, rfl, (by omega), (by omega), (by omega), ?_, rfl, hS⟩
    ·
     intro k h0' h1'; rcases Int.lt_or_eq_of_le (show k ≤ i by omega) with hk | hk; exact hall k h0' hk; rw [hk]; omega
   refine zxt <| ztx <| ztx <| zbh <| ztn <| zsr ?_
   refine zlv xmv ?_
   refine zlv (xln sl_22 hA.slh) ?_
   refine zlv xmv ?_
   refine zlv (xln sl_22 hB.slh) ?_
   refine zlv (xkt xgtr) ?_
   refine zlv xas ?_
   refine zlt <| zrt <| zf1 ⟨_, rfl, ?_⟩
   exact ⟨true_B (ahd_long (by omega) (by omega) (fun k k0 k1 => hall k k0 (by omega))), hS⟩
  iterate 4 refine zlo ?_
  refine zlv xpf ?_
  refine zlt <| zcf <| zxt <| ztx <| ztx <| zbh <| ztn <| zsr ?_
  refine zlv xmv ?_
  refine zlv (xln sl_22 hA.slh) ?_
  refine zlv xmv ?_
  refine zlv (xln sl_22 hB.slh) ?_
  refine zs2 ?_
  refine zlt <| zrt <| zf1 ⟨_, rfl, ?_⟩
  exact ⟨B_congr ⟨fun hh => ahd_long (by omega) hh (fun k k0 k1 => hall k k0 (by omega)), fun hh => by
      apply Classical.byContradiction; intro h9
      by_cases e : n = m
      · subst e; exact ahd_same (fun k k0 k1 => hall k k0 (by omega)) hh
      · exact ahd_asym hh (ahd_long (n := m) (m := n) (f := g) (g := f) (by omega) (by omega) (fun k k0 k1 => (hall k k0 (by omega)).symm))⟩, hS⟩
def insN (s : Int → Int) (a i : Int) : Int → Int := fun k => if k < a then s k else if k = a then i else s (k - 1)
theorem insN_lt {s : Int → Int} {a i k : Int} (h : k < a) : insN s a i k = s k := if_pos h
theorem insN_at (s : Int → Int) (a i : Int) : insN s a i a = i := by unfold insN; rw [if_neg (by omega), if_pos rfl]
theorem insN_gt {s : Int → Int} {a i k : Int} (h : a < k) : insN s a i k = s (k - 1) := by unfold insN; rw [if_neg (by omega), if_neg (by omega)]
theorem insN_cases (s : Int → Int) (a i k : Int) : (k < a ∧ insN s a i k = s k) ∨ (k = a ∧ insN s a i k = i) ∨ (a < k ∧ insN s a i k = s (k - 1)) := by
  rcases Int.lt_trichotomy k a with h | h | h
  · exact .inl ⟨h, insN_lt h⟩
  · exact .inr (.inl ⟨h, by rw [h]; exact insN_at s a i⟩)
  · exact .inr (.inr ⟨h, insN_gt h⟩)
theorem insN_rng {s : Int → Int} {a i : Int} (a0 : 0 ≤ a) (a1 : a ≤ i) (h : ∀ k, 0 ≤ k → k < i → 0 ≤ s k ∧ s k < i) : ∀ k, 0 ≤ k → k < i + 1 → 0 ≤ insN s a i k ∧ insN s a i k < i + 1 := fun k k0 k1 => by
  rcases insN_cases s a i k with ⟨h1, e⟩ | ⟨h1, e⟩ | ⟨h1, e⟩ <;> rw [e]
  · have := h k k0 (by omega); omega
  · omega
  · have := h (k - 1) (by omega) (by omega); omega
theorem insN_inj {s : Int → Int} {a i : Int} (a0 : 0 ≤ a) (a1 : a ≤ i) (h : ∀ k, 0 ≤ k → k < i → 0 ≤ s k ∧ s k < i) (hj : ∀ j k, 0 ≤ j → j < i → 0 ≤ k → k < i → s j = s k → j = k) : ∀ j k, 0 ≤ j → j < i + 1 → 0 ≤ k → k < i + 1 → insN s a i j = insN s a i k → j = k := fun j k j0 j1 k0 k1 e => by
  rcases insN_cases s a i j with ⟨h1, e1⟩ | ⟨h1, e1⟩ | ⟨h1, e1⟩ <;> rcases insN_cases s a i k with ⟨h2, e2⟩ | ⟨h2, e2⟩ | ⟨h2, e2⟩ <;> rw [e1, e2] at e
  · exact hj j k j0 (by omega) k0 (by omega) e
  · have := h j j0 (by omega); omega
  · have := hj j (k - 1) j0 (by omega) (by omega) (by omega) e; omega
  · have := h k k0 (by omega); omega
  · omega
  · have := h (k - 1) (by omega) (by omega); omega
  · have := hj (j - 1) k (by omega) (by omega) k0 (by omega) e; omega
  · have := h (j - 1) (by omega) (by omega); omega
  · have := hj (j - 1) (k - 1) (by omega) (by omega) (by omega) (by omega) e; omega
theorem insN_srt {R : Int → Int → Prop} {s : Int → Int} {a i : Int} (a0 : 0 ≤ a) (a1 : a ≤ i) (hs : Srt R 0 i s) (hl : ∀ k, 0 ≤ k → k < a → R (s k) i) (hg : ∀ k, a ≤ k → k < i → R i (s k)) : Srt R 0 (i + 1) (insN s a i) := fun j k j0 jk k1 => by
  rcases insN_cases s a i j with ⟨h1, e1⟩ | ⟨h1, e1⟩ | ⟨h1, e1⟩ <;> rcases insN_cases s a i k with ⟨h2, e2⟩ | ⟨h2, e2⟩ | ⟨h2, e2⟩ <;> rw [e1, e2]
  · exact hs j k j0 jk (by omega)
  · exact hl j j0 h1
  · exact hs j (k - 1) j0 (by omega) (by omega)
  · omega
  · omega
  · exact hg (k - 1) (by omega) (by omega)
  · omega
  · omega
  · exact hs (j - 1) (k - 1) (by omega) (by omega) (by omega)
theorem plL_ins {ln cnt s : Int → Int} {pt : Int → Int → Int} {a i : Int} (a0 : 0 ≤ a) (a1 : a ≤ i) : plL (i + 1) (fun k => ln (insN s a i k)) (fun k => pt (insN s a i k)) (fun k => cnt (insN s a i k)) =
    (plL i (fun k => ln (s k)) (fun k => pt (s k)) (fun k => cnt (s k))).take a.toNat ++ (lst (ln i) (pt i), cnt i) :: (plL i (fun k => ln (s k)) (fun k => pt (s k)) (fun k => cnt (s k))).drop a.toNat := by
  have hlen : ((plL i (fun k => ln (s k)) (fun k => pt (s k)) (fun k => cnt (s k))).take a.toNat).length = a.toNat := by rw [List.length_take, plL_len]; omega
  apply List.ext_getElem?
  intro k
  rw [plL_get, List.getElem?_append, hlen]
  rcases insN_cases s a i k with ⟨h, e⟩ | ⟨h, e⟩ | ⟨h, e⟩
  · rw [if_pos (by omega), if_pos (by omega), List.getElem?_take, if_pos (by omega), plL_get, if_pos (by omega), e]
  · rw [if_pos (by omega), if_neg (by omega), show k - a.toNat = 0 by omega, List.getElem?_cons_zero, e]
  · rw [if_neg (show ¬ k < a.toNat by omega)]
    obtain ⟨q, hq⟩ : ∃ q, k - a.toNat = q + 1 := ⟨k - a.toNat - 1, by omega⟩
    rw [hq, List.getElem?_cons_succ, List.getElem?_drop, plL_get, e, show ((a.toNat + q : Nat) : Int) = (k : Int) - 1 by omega]
    by_cases hk : (k : Int) < i + 1
    · rw [if_pos hk, if_pos (by omega)]
    · rw [if_neg hk, if_neg (by omega)]
theorem plL_insp {ln cnt s : Int → Int} {pt : Int → Int → Int} {a i : Int} (a0 : 0 ≤ a) (a1 : a ≤ i) (h : (plL i (fun k => ln (s k)) (fun k => pt (s k)) (fun k => cnt (s k))).Perm (plL i ln pt cnt)) :
    (plL (i + 1) (fun k => ln (insN s a i k)) (fun k => pt (insN s a i k)) (fun k => cnt (insN s a i k))).Perm (plL (i + 1) ln pt cnt) := by
  rw [plL_ins a0 a1, plL_next (by omega)]
  refine List.perm_middle.trans ?_
  rw [List.take_append_drop]
  exact (List.Perm.cons _ h).trans (List.perm_append_singleton _ _).symm
theorem sums_ne {l : Us} {n : Int} {ln cnt : Int → Int} {pt : Int → Int → Int} (hs : plL n ln pt cnt = sums l) {x y : Int} (x0 : 0 ≤ x) (x1 : x < n) (y0 : 0 ≤ y) (y1 : y < n) (h : x ≠ y) : lst (ln x) (pt x) ≠ lst (ln y) (pt y) := by
  have hd := sums_dist l
  rw [← hs, List.pairwise_iff_getElem] at hd
  have gg : ∀ (k : Int) (k0 : 0 ≤ k) (hk : k < n), ∃ h : k.toNat < (plL n ln pt cnt).length, (plL n ln pt cnt)[k.toNat] = (lst (ln k) (pt k), cnt k) := fun k k0 hk => by
    have h1 := plL_get n ln pt cnt k.toNat
    have h3 : k.toNat < (plL n ln pt cnt).length := by rw [plL_len]; omega
    rw [Int.toNat_of_nonneg k0, if_pos hk, List.getElem?_eq_getElem h3] at h1
    exact ⟨h3, by injection h1⟩
  obtain ⟨ha, ea⟩ := gg x x0 x1
  obtain ⟨hb, eb⟩ := gg y y0 y1
  rcases Int.lt_or_gt_of_ne h with h3 | h3
  · have := hd x.toNat y.toNat ha hb (by omega); rw [ea, eb] at this; exact this
  · have := hd y.toNat x.toNat hb ha (by omega); rw [ea, eb] at this; exact fun e => this e.symm
abbrev KeyR (ln : Int → Int) (pt : Int → Int → Int) : Int → Int → Prop := fun x y => ahd (lst (ln x) (pt x)) (lst (ln y) (pt y))
theorem ins_step {l : Us} {n i a : Int} {ln cnt s : Int → Int} {pt : Int → Int → Int} (hs : plL n ln pt cnt = sums l) (i1 : i < n) (a0 : 0 ≤ a) (a1 : a ≤ i) (hr : ∀ k, 0 ≤ k → k < i → 0 ≤ s k ∧ s k < i) (ho : Srt (KeyR ln pt) 0 i s)
    (h1 : a = 0 ∨ ¬ KeyR ln pt i (s (a - 1))) (h2 : ∀ k, a ≤ k → k < i → KeyR ln pt i (s k)) : Srt (KeyR ln pt) 0 (i + 1) (insN s a i) := by
  refine insN_srt a0 a1 ho (fun k k0 k1 => ?_) h2
  have hr1 := hr (a - 1) (by omega) (by omega)
  have h3 : KeyR ln pt (s (a - 1)) i := by
    rcases h1 with h1 | h1
    · omega
    · rcases ahd_tri (sums_ne hs (x := i) (y := s (a - 1)) (by omega) i1 hr1.1 (by omega) (by omega)) with h | h
      · exact absurd h h1
      · exact h
  by_cases e : k = a - 1
  · rw [e]; exact h3
  · exact ahd_trans (ho k (a - 1) k0 (by omega) (by omega)) h3
theorem NormR.of_ins {l : Us} {n : Int} {ln cnt s : Int → Int} {pt : Int → Int → Int} (hs : plL n ln pt cnt = sums l) (hp : (plL n (fun k => ln (s k)) (fun k => pt (s k)) (fun k => cnt (s k))).Perm (plL n ln pt cnt)) (ho : Srt (KeyR ln pt) 0 n s) :
    NormR l (plL n (fun k => ln (s k)) (fun k => pt (s k)) (fun k => cnt (s k))) := by
  refine ⟨by rw [← hs]; exact hp, ?_⟩
  rw [List.pairwise_iff_getElem]
  intro i j hi hj hij
  rw [plL_len] at hi hj
  have g : ∀ (k : Nat) (hk : k < (plL n (fun k => ln (s k)) (fun k => pt (s k)) (fun k => cnt (s k))).length), (plL n (fun k => ln (s k)) (fun k => pt (s k)) (fun k => cnt (s k)))[k] = (lst (ln (s k)) (pt (s k)), cnt (s k)) := fun k hk => by
    have h1 := plL_get n (fun k => ln (s k)) (fun k => pt (s k)) (fun k => cnt (s k)) k
    rw [plL_len] at hk
    rw [if_pos (by omega), List.getElem?_eq_getElem (by rw [plL_len]; exact hk)] at h1
    injection h1
  rw [g, g]
  exact ho i j (by omega) (by omega) (by omega)
theorem ins_cells {pv : Int → Value} {cnt s : Int → Int} {a i : Int} (a0 : 0 ≤ a) (a1 : a ≤ i) : ∀ k, 0 ≤ k → k < (i + 1) * 2 → cat (a * 2) (ucells (fun q => pv (s q)) (fun q => cnt (s q))) (cat (1 * 2) (ucells (fun _ => pv i) (fun _ => cnt i)) (fun k => ucells (fun q => pv (s q)) (fun q => cnt (s q)) (k + a * 2))) k = ucells (fun q => pv (insN s a i q)) (fun q => cnt (insN s a i q)) k := fun k k0 k1 => by
  unfold cat ucells
  dsimp only
  by_cases h1 : k < a * 2
  · rw [if_pos h1, insN_lt (show k / 2 < a by omega)]
  · rw [if_neg h1]
    by_cases h2 : k - a * 2 < 1 * 2
    · rw [if_pos h2, show k / 2 = a by omega, insN_at]
      by_cases h3 : k % 2 = 0
      · rw [if_pos h3, if_pos (show (k - a * 2) % 2 = 0 by omega)]
      · rw [if_neg h3, if_neg (show ¬ (k - a * 2) % 2 = 0 by omega)]
    · rw [if_neg h2, insN_gt (show a < k / 2 by omega), show (k - a * 2 - 1 * 2 + a * 2) / 2 = k / 2 - 1 by omega, show (k - a * 2 - 1 * 2 + a * 2) % 2 = k % 2 by omega]
theorem only_one {l : Us} {n i r : Int} {ln lO : Int → Int} {pt gO : Int → Int → Int} {cO : Int → Int} (hs : plL n lO gO cO = sums l) (r0 : 0 ≤ r) (r1 : r < n) (e : lst (ln i) (pt i) = lst (lO r) (gO r)) : ∀ k, 0 ≤ k → k < r → ¬ (lst (ln i) (pt i) = lst (lO k) (gO k)) := fun k k0 k1 h =>
  sums_ne hs k0 (by omega) r0 r1 (by omega) (h.symm.trans e)
theorem cat_one {n : Int} {f g : Int → Value} (hf : ∀ k, (f k).oneCell' = true) (hg : ∀ k, (g k).oneCell' = true) : ∀ k, (cat n f g k).oneCell' = true := fun k => by
  unfold cat; split
  · exact hf k
  · exact hg _
end Go.Proofs.Ytopmifmfecfaaaa
namespace Go.Proofs.Ytopmifmfecfaaaa
open Go Go.RowKit Go.Proofs.Gw
theorem cl_68 : calledT Try.prog 68 = true := by kernel_rfl
theorem st_34 : structT Try.prog 34 = some 2 := by kernel_rfl
theorem lst_same {n m : Int} {f g : Int → Int} (n0 : 0 ≤ n) (m0 : 0 ≤ m) : (n = m ∧ ∀ k, 0 ≤ k → k < n → f k = g k) ↔ lst m g = lst n f := by
  rw [eq_comm (a := lst m g)]; exact (lst_eq n0 m0).symm
theorem norm_new2 {nO i q : Int} {lO ln cO cnt : Int → Int} {gO pt : Int → Int → Int} (n0 : 0 ≤ nO) (i0 : 0 ≤ i) (hs : plL nO lO gO cO = sums (plL i ln pt cnt)) (hq : q = nO) (hne : ∀ k, 0 ≤ k → k < nO → ¬ (lst (ln i) (pt i) = lst (lO k) (gO k))) :
    plL (nO + 1) (gsn lO nO (ln i)) (gsn gO nO (pt i)) (upd (snoc cO nO 0) q (snoc cO nO 0 q + cnt i)) = sums (plL (i + 1) ln pt cnt) := by
  subst hq
  rw [← norm_new n0 i0 hs hne]
  refine plL_congr fun k k0 k1 => ⟨rfl, ?_, fun _ _ _ => rfl⟩
  unfold upd
  by_cases e : k = q
  · rw [if_pos e, snoc_at (by omega), e, snoc_at (by omega)]; omega
  · rw [if_neg e, snoc_lt (by omega), snoc_lt (by omega)]
theorem nb_new2 {cC : Int → Int} {nC B C x q : Int} (h : ∀ k, 0 ≤ k → k < nC → 1 ≤ cC k ∧ cC k ≤ B) (hq : q = nC) (hB : B ≤ C) (x1 : 1 ≤ x) (x2 : x ≤ C) : ∀ k, 0 ≤ k → k < nC + 1 → 1 ≤ upd (snoc cC nC 0) q (snoc cC nC 0 q + x) k ∧ upd (snoc cC nC 0) q (snoc cC nC 0 q + x) k ≤ C := fun k k0 k1 => by
  subst hq
  unfold upd
  by_cases e : k = q
  · rw [if_pos e, snoc_at (by omega)]; omega
  · rw [if_neg e, snoc_lt (by omega)]; have := h k k0 (by omega); omega
set_option maxHeartbeats 4000000 in
set_option maxRecDepth 20000 in
theorem c_rnorm {vV : Value} {u : Int} {pv : Int → Value} {ln : Int → Int} {pt : Int → Int → Int} {cnt : Int → Int} (w0 : World) (hV : VAt w0 vV u pv ln pt cnt) (hn5 : u ≤ 1000000) (hlc : ∀ k, 0 ≤ k → k < u → ln k ≤ 100000) (hpc : ∀ k, 0 ≤ k → k < u → 1 ≤ cnt k ∧ cnt k ≤ 1000) :
    Calls Try.prog 33 [vV].toArray w0 fun e w => ∃ v, e = .returned v ∧ ∃ r n2 pv2 ln2 pt2 cnt2, v = r ∧ NormR (plL u ln pt cnt) (plL n2 ln2 pt2 cnt2) ∧ 0 ≤ n2 ∧ n2 ≤ u ∧ (∀ k, 0 ≤ k → k < n2 → 1 ≤ cnt2 k ∧ cnt2 k ≤ 1000 * u) ∧ Slh r n2 ∧ Sat w0 w [.own r 2 34 n2 (ucells pv2 cnt2), .sem (Frame.rows 3 n2 pv2 ln2 pt2)] := by
  have hn := hV.row.slh.n0; have hn1 := hV.row.slh.n1
  refine zenG Try.func33 Try.ntmps33 fun w hS => ?_
  refine zsr ?_
  refine zlv xas ?_
  refine zlz ?_
  refine zs2 ?_
  refine zlt <| zsq <| zsr ?_
  refine zlv xas ?_
  refine zlt <| zbk ?_
  replace hS := hS.addnil 2 34 (ucells (fun _ => Value.slice none 0 0) (fun _ => 0))
  replace hS := hS.n1
  replace hS := hS.addrows 3 (fun _ => Value.slice none 0 0) (fun _ => 0) (fun _ _ => 0)
  replace hS := hS.n2
  replace hS := hS.n2
  have hrs0 := fun k (k0 : 0 ≤ k) (k1 : k < 0) => hS.slhIn 1 rfl k0 k1
  refine zlp (fun mm M w => ∃ (nC : Int) (wv : Int → Value) (lC : Int → Int) (gC : Int → Int → Int) (cC : Int → Int) (i : Int) (wcS : Value), mm = ((u - i).toNat) ∧ (0 ≤ i) ∧ (i ≤ u) ∧ (0 ≤ nC ∧ nC ≤ i) ∧ (plL nC lC gC cC = sums (plL i ln pt cnt)) ∧ (∀ k, 0 ≤ k → k < nC → 1 ≤ cC k ∧ cC k ≤ 1000 * i) ∧ (∀ x, (wv x).oneCell' = true) ∧ (Slh wcS nC) ∧ M = [(0, vV), (2, .slice none 0 0), (3, wcS), (4, .slice none 0 0), (5, .int .i64 i)] ∧ Sat w0 w [.own wcS 2 34 nC (ucells wv cC), .sem (Frame.rows 3 nC wv lC gC)]) ⟨0, (fun _ => Value.slice none 0 0), (fun _ => 0), (fun _ _ => 0), (fun _ => 0), 0, (.slice none 0 0), rfl, (by omega), (by omega), (by omega), ?_, ?_, ?_, ?_, rfl, hS⟩ ?_
  ·
   rfl
  ·
   intro k k0 k1; omega
  ·
   intro x; rfl
  ·
   exact slh_nil
  clear hS w
  rintro mm M w ⟨nC, wv, lC, gC, cC, i, wcS, rfl, h0, h1, hnC, hs, hbc, hone, hwcS, rfl, hS⟩
  have hrs1 := fun k (k0 : 0 ≤ k) (k1 : k < nC) => hS.slhIn 1 rfl k0 k1
  have hnC0 := hnC.1
  refine zsq <| zsr ?_
  refine zs2 ?_
  refine zlv (xln sl_25 hV.row.slh) ?_
  refine zlv xlss ?_
  refine zlt ?_
  refine zcif ?_ ?_ <;> intro hc
  ·
   refine zsk <| ztn <| zsq <| zbk <| zsr ?_
   refine zlv xmv ?_
   refine zlv (xln sl_25 hwcS) ?_
   have hci := hpc i h0 (by omega)
   have hli := hlc i h0 (by omega)
   have hli0 := (hV.p i h0 (by omega)).slh.n0
   refine zlv xas ?_
   refine zlt <| zsq <| zsr ?_
   refine zlv xas ?_
   refine zlt <| zbk <| zlp (fun mm M w => ∃ (at6 : Int) (k : Int), mm = ((nC - k).toNat) ∧ (0 ≤ k) ∧ (k ≤ nC) ∧ ((at6 = nC ∧ ∀ j, 0 ≤ j → j < k → ¬ (lst (ln i) (pt i) = lst (lC j) (gC j))) ∨ (0 ≤ at6 ∧ at6 < nC ∧ lst (ln i) (pt i) = lst (lC at6) (gC at6))) ∧ M = [(0, vV), (2, .slice none 0 0), (3, wcS), (4, .slice none 0 0), (5, .int .i64 i), (6, .int .i64 at6), (7, .int .i64 k)] ∧ Sat w0 w [.own wcS 2 34 nC (ucells wv cC), .sem (Frame.rows 3 nC wv lC gC)]) ⟨nC, 0, rfl, (by omega), (by omega), ?_, rfl, hS⟩ ?_
   ·
    exact .inl ⟨rfl, fun j j0 j1 => by omega⟩
   clear hS w
   rintro mm M w ⟨at6, k, rfl, k0, k1, hat, rfl, hS⟩
   refine zsq <| zsr ?_
   refine zs2 ?_
   refine zlv (xln sl_25 hwcS) ?_
   refine zlv xlss ?_
   refine zlt ?_
   refine zcif ?_ ?_ <;> intro hc
   ·
    refine zsk <| ztn <| zsq <| zbk <| zsq ?_
    refine zdst [0, 1] [0, 1] 1000 mx_ hS ?_; clear hS; intro w hS
    refine zdv 0 (fun _ => xmv) ?_
    refine zdv 1 (fun _ => xmv) ?_
    refine zdv 2 (fun _ => (xix (kk := 2 * k) sl_25 hwcS)) ?_
    have hsk := (hrs1 k k0 (by omega)).n0
    refine zdv 3 (fun _ => (xfc (kk := 2 * k) fd_34_0 hwcS)) ?_
    refine zdla 4 (fun w hS => (xlr (u := (wv k)) pl_22 (hS.rowN 0 rfl) (e := (ucells0 wv cC (by omega))))) ?_
    refine zdv 5 (fun _ => xmv) ?_
    refine zdv 6 (fun _ => xmv) ?_
    refine zdv 7 (fun _ => (xix (kk := 2 * i) sl_25 hV.row.slh)) ?_
    refine zdv 8 (fun _ => (xfc (kk := 2 * i) fd_34_0 hV.row.slh)) ?_
    refine zdla 9 (fun w hS => (xlr (u := (pv i)) pl_22 (hV.row.below hS.below) (e := (ucells0 pv cnt (by omega))))) ?_
    refine zdc 10 (xc0 cl_66) (c_same28 (n := (lC k)) (m := (ln i)) (f := (gC k)) (g := (pt i)) w (hS.rowIn (k := k) 1 rfl (by omega) (by omega)) ((hV.p i (by omega) (by omega)).below hS.below)) ?_; rintro _ w ⟨rfl, hS'⟩
    replace hS := hS.cmp hS'; clear hS'
    refine ⟨⟨fun _ => hS, hS⟩, ?_⟩
    refine zdd <| ztn ?_
    refine zcif ?_ ?_ <;> intro hc
    ·
     refine zrg ?_
     refine zs2 ?_
     refine zln <| zbn <| ztn <| zrg ?_
     refine zlv xmv ?_
     refine zlv (xadd (r := k + 1)) ?_
     refine zlv xas ?_
     refine zln <| zlq ⟨k, k + 1, rfl, (by omega), (by omega), ?_, rfl, hS⟩
     ·
      first | exact .inr ⟨k0, by omega, (lst_same hsk hli0).1 ‹_›⟩ | (rcases hat with ⟨q1, q2⟩ | q; exact .inl ⟨q1, fun j j0 j1 => by
        rcases Int.lt_or_eq_of_le (show j ≤ k by omega) with h9 | h9
        · exact q2 j j0 h9
        · rw [h9]; exact fun hh => absurd ((lst_same hsk hli0).2 hh) ‹_›⟩; exact .inr q)
    refine zsk <| zbn <| ztn <| zrg ?_
    refine zlv xmv ?_
    refine zlv (xadd (r := k + 1)) ?_
    refine zlv xas ?_
    refine zln <| zlq ⟨at6, k + 1, rfl, (by omega), (by omega), ?_, rfl, hS⟩
    ·
     first | exact .inr ⟨k0, by omega, (lst_same hsk hli0).1 ‹_›⟩ | (rcases hat with ⟨q1, q2⟩ | q; exact .inl ⟨q1, fun j j0 j1 => by
       rcases Int.lt_or_eq_of_le (show j ≤ k by omega) with h9 | h9
       · exact q2 j j0 h9
       · rw [h9]; exact fun hh => absurd ((lst_same hsk hli0).2 hh) ‹_›⟩; exact .inr q)
   refine zxt <| ztx <| ztx <| zbh <| ztn <| zsq <| zsr ?_
   refine zs2 ?_
   refine zlv (xln sl_25 hwcS) ?_
   refine zlv xeql ?_
   refine zlt ?_
   refine zcif ?_ ?_ <;> intro hc
   ·
    refine zrg ?_
    refine zlv xmv ?_
    refine zla (xl0 (c := ints (pt i)) sl_22 hS) ?_; rintro v1 w ⟨hS, hv1⟩
    replace hS := hS.n3
    refine zs2 ?_
    refine zlv (xix (kk := 2 * i) sl_25 hV.row.slh) ?_
    refine zlv (xfc (kk := 2 * i) fd_34_0 hV.row.slh) ?_
    refine zlv (xlr (u := (pv i)) pl_22 (hV.row.below hS.below) (e := (ucells0 pv cnt (by omega)))) ?_
    refine zla (xap 2 (r := (ln i)) (f := ints (pt i)) sl_22 el_3 hS ((hV.p i (by omega) (by omega)).below hS.below) (by exact cat_self _ _)) ?_; rintro v2 w ⟨hS, hv2⟩
    replace hS := hS.n3
    refine zlv (xany (v := .agg #[v2, .int .i64 0]) (hr := by obtain ⟨_, _, _, _, rfl, _⟩ := hv2; kernel_rfl)) ?_
    refine zla (xli (n := 1) (len := 1) (pv := [(0, .agg #[v2, .int .i64 0])]) (cs := [v2, .int .i64 0]) (c := ucells (fun _ => v2) (fun _ => 0)) sl_25 el_34 hS (hf := by obtain ⟨_, _, _, _, rfl, _⟩ := hv2; kernel_rfl)) ?_; rintro v3 w ⟨hS, hv3⟩
    replace hS := hS.n4
    refine zla (xap 0 (r := nC + 1) sl_25 el_34 hS (hS.rowN 3 rfl) (cat_ucells _ _ _ _ _) (h1 := fun k _ _ => ucells_one (fun _ => hv2.one) k)) ?_; rintro v4 w ⟨hS, hv4⟩
    replace hS := hS.n4
    replace hS := Sat.merge (l1 := [_]) (l2 := []) (l3 := [_]) hS (by omega)
    have hrs2 := fun k (k0 : 0 ≤ k) (k1 : k < nC + 1) => hS.slhIn 1 rfl k0 k1
    replace hS := hS.n3
    refine zlv xas ?_
    refine zlt ?_
    refine zdst [0, 1, 2] [1, 2] 13 mx_ hS ?_; clear hS; intro w hS
    refine zdv 0 (fun _ => xmv) ?_
    refine zdv 1 (fun _ => xmv) ?_
    refine zdv 2 (fun _ => (xix (kk := 2 * at6) sl_25 hv4)) ?_
    have hbr : at6 < nC → 1 ≤ cC at6 ∧ cC at6 ≤ 1000 * i := fun h => hbc at6 (by omega) h
    have hbr2 : at6 = nC → snoc cC nC 0 at6 = 0 := fun h => snoc_at (by omega)
    refine zdv 3 (fun _ => (xfc (kk := 2 * at6 + 1) fd_34_1 hv4)) ?_
    refine zdl 4 (fun w hS => (xlr (u := .int .i64 ((snoc cC nC 0) at6)) pl_3 (hS.rowN 0 rfl) (e := (ucells1 (gsn wv nC v2) (snoc cC nC 0) (by omega))))) ?_
    refine zdv 5 (fun _ => xmv) ?_
    refine zdv 6 (fun _ => xmv) ?_
    refine zdv 7 (fun _ => (xix (kk := 2 * i) sl_25 hV.row.slh)) ?_
    refine zdv 8 (fun _ => (xfc (kk := 2 * i + 1) fd_34_1 hV.row.slh)) ?_
    refine zdla 9 (fun w hS => (xlr (u := .int .i64 (cnt i)) pl_3 (hV.row.below hS.below) (e := (ucells1 pv cnt (by omega))))) ?_
    refine zdv 10 (fun _ => (xadd (r := ((snoc cC nC 0) at6) + (cnt i)))) ?_
    refine zdv 11 (fun _ => (xix (kk := 2 * at6) sl_25 hv4)) ?_
    refine zdv 12 (fun _ => (xfc (kk := 2 * at6 + 1) fd_34_1 hv4)) ?_
    refine zde 13 (xso 0 pl_3 hS (upd_ucells1 (k := 2 * at6 + 1) (i := at6) _ _ (by omega))) ?_; clear hS; rintro w hS
    replace hS := hS.n3
    refine ⟨⟨fun h => absurd h (by decide), hS.pk [1, 2]⟩, ?_⟩
    refine zdd <| zbn <| ztn <| zrg ?_
    refine zlv xmv ?_
    refine zlv (xadd (r := i + 1)) ?_
    refine zlv xas ?_
    refine zln <| zlq ⟨nC + 1, gsn wv nC v2, gsn lC nC (ln i), gsn gC nC (pt i), (upd (snoc cC nC 0) at6 (((snoc cC nC 0) at6) + (cnt i))), i + 1, v4, rfl, (by omega), (by omega), (by omega), ?_, ?_, ?_, ?_, rfl, hS.pk [0, 1]⟩
    ·
     first | exact norm_new2 hnC0 h0 hs (by omega) (fun j j0 j1 => (hat.resolve_right (fun h => absurd h.2.1 (by omega))).2 j j0 (by omega)) | (have hr9 := hat.resolve_left (fun h => absurd h.1 (by omega)); exact norm_at h0 hs hr9.1 hr9.2.1 hr9.2.2 (only_one hs hr9.1 hr9.2.1 hr9.2.2))
    ·
     first | exact nb_new2 hbc (by omega) (by omega) (by omega) (by omega) | exact nb_at hbc (by omega) (by omega) (by omega)
    ·
     first | exact hone | exact gsn_one hone ‹Slh _ _›.one
    ·
     exact hv4
   refine zsk <| ztn ?_
   refine zdst [0, 1] [1] 13 mx_ hS ?_; clear hS; intro w hS
   refine zdv 0 (fun _ => xmv) ?_
   refine zdv 1 (fun _ => xmv) ?_
   refine zdv 2 (fun _ => (xix (kk := 2 * at6) sl_25 hwcS)) ?_
   have hbr : at6 < nC → 1 ≤ cC at6 ∧ cC at6 ≤ 1000 * i := fun h => hbc at6 (by omega) h
   have hbr2 : at6 = nC → snoc cC nC 0 at6 = 0 := fun h => snoc_at (by omega)
   refine zdv 3 (fun _ => (xfc (kk := 2 * at6 + 1) fd_34_1 hwcS)) ?_
   refine zdl 4 (fun w hS => (xlr (u := .int .i64 (cC at6)) pl_3 (hS.rowN 0 rfl) (e := (ucells1 wv cC (by omega))))) ?_
   refine zdv 5 (fun _ => xmv) ?_
   refine zdv 6 (fun _ => xmv) ?_
   refine zdv 7 (fun _ => (xix (kk := 2 * i) sl_25 hV.row.slh)) ?_
   refine zdv 8 (fun _ => (xfc (kk := 2 * i + 1) fd_34_1 hV.row.slh)) ?_
   refine zdla 9 (fun w hS => (xlr (u := .int .i64 (cnt i)) pl_3 (hV.row.below hS.below) (e := (ucells1 pv cnt (by omega))))) ?_
   refine zdv 10 (fun _ => (xadd (r := (cC at6) + (cnt i)))) ?_
   refine zdv 11 (fun _ => (xix (kk := 2 * at6) sl_25 hwcS)) ?_
   refine zdv 12 (fun _ => (xfc (kk := 2 * at6 + 1) fd_34_1 hwcS)) ?_
   refine zde 13 (xso 0 pl_3 hS (upd_ucells1 (k := 2 * at6 + 1) (i := at6) _ _ (by omega))) ?_; clear hS; rintro w hS
   replace hS := hS.n2
   refine ⟨⟨fun h => absurd h (by decide), hS.pk [1]⟩, ?_⟩
   refine zdd <| zbn <| ztn <| zrg ?_
   refine zlv xmv ?_
   refine zlv (xadd (r := i + 1)) ?_
   refine zlv xas ?_
   refine zln <| zlq ⟨nC, wv, lC, gC, (upd cC at6 ((cC at6) + (cnt i))), i + 1, wcS, rfl, (by omega), (by omega), (by omega), ?_, ?_, ?_, ?_, rfl, hS⟩
   ·
    first | exact norm_new2 hnC0 h0 hs (by omega) (fun j j0 j1 => (hat.resolve_right (fun h => absurd h.2.1 (by omega))).2 j j0 (by omega)) | (have hr9 := hat.resolve_left (fun h => absurd h.1 (by omega)); exact norm_at h0 hs hr9.1 hr9.2.1 hr9.2.2 (only_one hs hr9.1 hr9.2.1 hr9.2.2))
   ·
    first | exact nb_new2 hbc (by omega) (by omega) (by omega) (by omega) | exact nb_at hbc (by omega) (by omega) (by omega)
   ·
    first | exact hone | exact gsn_one hone ‹Slh _ _›.one
   ·
    exact hwcS
  refine zxt <| ztx <| ztx <| zbh <| ztn <| zsq <| zsr ?_
  refine zlv xas ?_
  refine zlt <| zbk ?_
  have hiu : i = u := by omega
  rw [hiu] at hs hbc
  replace hS := hS.addnil 2 34 (ucells (fun q => wv ((fun _ => (0 : Int)) q)) (fun q => cC ((fun _ => (0 : Int)) q)))
  replace hS := hS.n3
  refine zlp (fun mm M w => ∃ (s3 : Int → Int) (i3 : Int) (wO : Value), mm = ((nC - i3).toNat) ∧ (0 ≤ i3) ∧ (i3 ≤ nC) ∧ (∀ k, 0 ≤ k → k < i3 → 0 ≤ s3 k ∧ s3 k < i3) ∧ (∀ j k, 0 ≤ j → j < i3 → 0 ≤ k → k < i3 → s3 j = s3 k → j = k) ∧ (Srt (KeyR lC gC) 0 i3 s3) ∧ ((plL i3 (fun k => lC (s3 k)) (fun k => gC (s3 k)) (fun k => cC (s3 k))).Perm (plL i3 lC gC cC)) ∧ (Slh wO i3) ∧ M = [(2, .slice none 0 0), (3, wcS), (4, wO), (8, .int .i64 i3)] ∧ Sat w0 w [.own wcS 2 34 nC (ucells wv cC), .sem (Frame.rows 3 nC wv lC gC), .own wO 2 34 i3 (ucells (fun q => wv (s3 q)) (fun q => cC (s3 q)))]) ⟨(fun _ => (0 : Int)), 0, (.slice none 0 0), rfl, (by omega), (by omega), ?_, ?_, ?_, ?_, ?_, rfl, hS⟩ ?_
  ·
   intro k k0 k1; omega
  ·
   intro j k j0 j1; omega
  ·
   intro i j i0 ij j1; omega
  ·
   exact List.Perm.refl _
  ·
   exact slh_nil
  clear hS w
  rintro mm M w ⟨s3, i3, wO, rfl, i30, i31, hr3, hj3, ho3, hp3, hwO, rfl, hS⟩
  refine zsq <| zsr ?_
  refine zs2 ?_
  refine zlv (xln sl_25 hwcS) ?_
  refine zlv xlss ?_
  refine zlt ?_
  refine zcif ?_ ?_ <;> intro hc
  ·
   refine zsk <| ztn <| zsq <| zbk <| zsq <| zsr ?_
   refine zs2 ?_
   refine zlv (xix (kk := 2 * i3) sl_25 hwcS) ?_
   have hb3 := hbc i3 i30 (by omega)
   refine zlv (xfc (kk := 2 * i3 + 1) fd_34_1 hwcS) ?_
   refine zlv (xlr (u := .int .i64 (cC i3)) pl_3 (hS.rowN 0 rfl) (e := (ucells1 wv cC (by omega)))) ?_
   refine zlv (xkf xlss) ?_
   refine zlt <| zcf <| zsk <| ztn <| zsr ?_
   refine zlv xmv ?_
   refine zlv (xln sl_25 hwO) ?_
   refine zlv xas ?_
   refine zlt <| zsq <| zbk <| zlp (fun mm M w => ∃ (a4 : Int), mm = ((a4).toNat) ∧ (0 ≤ a4) ∧ (a4 ≤ i3) ∧ (∀ k, a4 ≤ k → k < i3 → KeyR lC gC i3 (s3 k)) ∧ M = [(2, .slice none 0 0), (3, wcS), (4, wO), (8, .int .i64 i3), (9, .int .i64 a4)] ∧ Sat w0 w [.own wcS 2 34 nC (ucells wv cC), .sem (Frame.rows 3 nC wv lC gC), .own wO 2 34 i3 (ucells (fun q => wv (s3 q)) (fun q => cC (s3 q)))]) ⟨i3, rfl, (by omega), (by omega), ?_, rfl, hS⟩ ?_
   ·
    intro k k0 k1; omega
   clear hS w
   rintro mm M w ⟨a4, rfl, a40, a41, ha4, rfl, hS⟩
   refine zsq <| zsq ?_
   refine zdst [0, 1, 2] [0, 1, 2] 1000 mx_ hS ?_; clear hS; intro w hS
   refine zdv 0 (fun _ => xmv) ?_
   refine zdv 1 (fun _ => xgtr) ?_
   refine zdv 2 (fun _ => xmv) ?_
   refine zdb 80 ?_ ?_ <;> intro hc
   ·
    refine zdv 3 (fun _ => xmv) ?_
    refine zdv 4 (fun _ => xmv) ?_
    refine zdv 5 (fun _ => (xix (kk := 2 * i3) sl_25 hwcS)) ?_
    refine zdv 6 (fun _ => (xfc (kk := 2 * i3) fd_34_0 hwcS)) ?_
    refine zdla 7 (fun w hS => (xlr (u := (wv i3)) pl_22 (hS.rowN 0 rfl) (e := (ucells0 wv cC (by omega))))) ?_
    refine zdv 8 (fun _ => xmv) ?_
    refine zdv 9 (fun _ => xmv) ?_
    refine zdv 10 (fun _ => (xsub (r := a4 - 1))) ?_
    have hr4 := hr3 (a4 - 1) (by omega) (by omega)
    refine zdv 11 (fun _ => (xix (kk := 2 * a4 - 2) sl_25 hwO)) ?_
    refine zdv 12 (fun _ => (xfc (kk := 2 * a4 - 2) fd_34_0 hwO)) ?_
    refine zdla 13 (fun w hS => (xlr (u := (wv (s3 (a4 - 1)))) pl_22 (hS.rowN 2 rfl) (e := (ucells0 (fun q => wv (s3 q)) (fun q => cC (s3 q)) (by omega))))) ?_
    refine zdc 14 (xc0 cl_68) (c_ahead (n := (lC i3)) (f := (gC i3)) (m := (lC (s3 (a4 - 1)))) (g := (gC (s3 (a4 - 1)))) w (hS.rowIn (k := i3) 1 rfl (by omega) (by omega)) (hS.rowIn (k := (s3 (a4 - 1))) 1 rfl (by omega) (by omega))) ?_; rintro _ w ⟨rfl, hS'⟩
    replace hS := hS.cmp hS'; clear hS'
    refine ⟨⟨fun _ => hS, hS⟩, ?_⟩
    refine zdv 15 (fun _ => xpt) ?_
    refine zdd <| ztn ?_
    refine zcif ?_ ?_ <;> intro hc
    ·
     refine zsk <| ztn <| zbk <| zrg ?_
     refine zlv xmv ?_
     refine zlv (xsub (r := a4 - 1)) ?_
     refine zlv xas ?_
     refine zln <| zbn <| zlq ⟨a4 - 1, rfl, (by omega), (by omega), ?_, rfl, hS⟩
     ·
      intro k k0 k1; rcases Int.lt_or_eq_of_le (show a4 - 1 ≤ k by omega) with h9 | h9
      · exact ha4 k (by omega) k1
      · rw [← h9]; assumption
    refine zxt <| ztx <| ztx <| zbh <| ztn ?_
    refine zdst [0, 1, 2] [0, 1, 2] 1000 mx_ hS ?_; clear hS; intro w hS
    refine zdv 0 (fun _ => xmv) ?_
    refine zdv 1 (fun _ => xmv) ?_
    refine zdv 2 (fun _ => xmv) ?_
    refine zdv 3 (fun _ => (xsl_cap (i := a4) (a4).toNat sl_25 hwO (hS.holds _ (List.mem_of_getElem? (i := 2) rfl)).roomy (hS.holds _ (List.mem_of_getElem? (i := 2) rfl)).flat)) ?_
    refine zdv 4 (fun _ => xmv) ?_
    refine zdv 5 (fun _ => xmv) ?_
    refine zdv 6 (fun _ => (xix (kk := 2 * i3) sl_25 hwcS)) ?_
    refine zdla 7 (fun w hS => (xlw (cs := [(wv i3), .int .i64 (cC i3)]) st_34 (hS.rowN 0 rfl) (ucells_at (k := 2 * i3) (i := i3) wv cC (by omega)))) ?_
    refine zdv 9 (fun _ => xmv) ?_
    refine zdv 10 (fun _ => xmv) ?_
    refine zdv 11 (fun _ => (xsl_los (i := a4) (a4).toNat sl_25 hwO (hS.holds _ (List.mem_of_getElem? (i := 2) rfl)).flat)) ?_
    refine zda 8 (xli (n := 1) (len := 1) (pv := [(0, .agg #[(wv i3), .int .i64 (cC i3)])]) (cs := [(wv i3), .int .i64 (cC i3)]) (c := ucells (fun _ => (wv i3)) (fun _ => (cC i3))) sl_25 el_34 hS (hf := by have hz := (hrs1 i3 (by omega) (by omega)); revert hz; generalize (wv i3) = z; rintro ⟨_, _, _, _, rfl, _⟩; show _ = _; kernel_rfl)) ?_; rintro v5 w ⟨hS, hv5⟩
    replace hS := hS.n4
    refine ⟨⟨fun _ => hS.pk [0, 1, 2], hS.pk [0, 1, 2]⟩, ?_⟩
    refine zda 12 (xap 3 (r := i3 - a4 + 1) (f := cat (1 * 2) (ucells (fun _ => (wv i3)) (fun _ => (cC i3))) (fun k => (ucells (fun q => wv (s3 q)) (fun q => cC (s3 q))) (k + a4 * 2))) sl_25 el_34 hS (sufw_row (q := (a4).toNat) (i := a4) (m := i3 - a4) (hS.rowN 2 rfl) (hS.holds _ (List.mem_of_getElem? (i := 2) rfl)).roomy (by omega) (by omega) (by omega) (fun _ _ => rfl)) rfl (h1 := (fun k _ _ => ucells_one (fun q => hone (s3 q)) _))) ?_; rintro v6 w ⟨hS, hv6⟩
    replace hS := hS.n4
    refine ⟨⟨fun _ => hS.pk [0, 1, 2], hS.pk [0, 1, 2]⟩, ?_⟩
    refine zda 13 (xapF (q := (a4).toNat) (r := i3 + 1) (f := ucells (fun q => wv (insN s3 a4 i3 q)) (fun q => cC (insN s3 a4 i3 q))) sl_25 el_34 hS (cap_row (q := (a4).toNat) (i := a4) (hS.rowN 2 rfl) (by omega) (by omega)) (hS.rowN 3 rfl) (fun k _ _ => ucells_one (fun q => hone (s3 q)) k) (fun k _ _ => cat_one (fun k => ucells_one (fun _ => hone i3) k) (fun k => ucells_one (fun q => hone (s3 q)) _) k) (by rw [show a4 + (i3 - a4 + 1) = i3 + 1 by omega]; exact ins_cells (by omega) (by omega)) (by omega)) ?_; rintro v7 w ⟨hS, hv7⟩
    replace hS := hS.n5
    refine ⟨⟨fun _ => hS.pk [0, 1, 2], hS.pk [0, 1, 2]⟩, ?_⟩
    refine zdv 14 (fun _ => xas) ?_
    refine zdd <| zbn <| ztn <| zrg ?_
    refine zlv xmv ?_
    refine zlv (xadd (r := i3 + 1)) ?_
    refine zlv xas ?_
    refine zln <| zlq ⟨(insN s3 a4 i3), i3 + 1, v7, rfl, (by omega), (by omega), ?_, ?_, ?_, ?_, ?_, rfl, hS.pk [0, 1, 4]⟩
    ·
     exact insN_rng (by omega) (by omega) hr3
    ·
     exact insN_inj (by omega) (by omega) hr3 hj3
    ·
     exact ins_step hs (by omega) (by omega) (by omega) hr3 ho3 (by first | exact .inl (by omega) | exact .inr ‹_›) ha4
    ·
     exact plL_insp (by omega) (by omega) hp3
    ·
     exact hv7
   refine zdof 3 ?_
   refine zdof 4 ?_
   refine zdof 5 ?_
   refine zdof 6 ?_
   refine zdof 7 ?_
   refine zdof 8 ?_
   refine zdof 9 ?_
   refine zdof 10 ?_
   refine zdof 11 ?_
   refine zdof 12 ?_
   refine zdof 13 ?_
   refine zdof 14 ?_
   refine zdv 15 (fun _ => xpf) ?_
   refine zdd <| ztn <| zcf <| zxt <| ztx <| ztx <| zbh <| ztn ?_
   refine zdst [0, 1, 2] [0, 1, 2] 1000 mx_ hS ?_; clear hS; intro w hS
   refine zdv 0 (fun _ => xmv) ?_
   refine zdv 1 (fun _ => xmv) ?_
   refine zdv 2 (fun _ => xmv) ?_
   refine zdv 3 (fun _ => (xsl_cap (i := a4) (a4).toNat sl_25 hwO (hS.holds _ (List.mem_of_getElem? (i := 2) rfl)).roomy (hS.holds _ (List.mem_of_getElem? (i := 2) rfl)).flat)) ?_
   refine zdv 4 (fun _ => xmv) ?_
   refine zdv 5 (fun _ => xmv) ?_
   refine zdv 6 (fun _ => (xix (kk := 2 * i3) sl_25 hwcS)) ?_
   refine zdla 7 (fun w hS => (xlw (cs := [(wv i3), .int .i64 (cC i3)]) st_34 (hS.rowN 0 rfl) (ucells_at (k := 2 * i3) (i := i3) wv cC (by omega)))) ?_
   refine zdv 9 (fun _ => xmv) ?_
   refine zdv 10 (fun _ => xmv) ?_
   refine zdv 11 (fun _ => (xsl_los (i := a4) (a4).toNat sl_25 hwO (hS.holds _ (List.mem_of_getElem? (i := 2) rfl)).flat)) ?_
   refine zda 8 (xli (n := 1) (len := 1) (pv := [(0, .agg #[(wv i3), .int .i64 (cC i3)])]) (cs := [(wv i3), .int .i64 (cC i3)]) (c := ucells (fun _ => (wv i3)) (fun _ => (cC i3))) sl_25 el_34 hS (hf := by have hz := (hrs1 i3 (by omega) (by omega)); revert hz; generalize (wv i3) = z; rintro ⟨_, _, _, _, rfl, _⟩; show _ = _; kernel_rfl)) ?_; rintro v8 w ⟨hS, hv8⟩
   replace hS := hS.n4
   refine ⟨⟨fun _ => hS.pk [0, 1, 2], hS.pk [0, 1, 2]⟩, ?_⟩
   refine zda 12 (xap 3 (r := i3 - a4 + 1) (f := cat (1 * 2) (ucells (fun _ => (wv i3)) (fun _ => (cC i3))) (fun k => (ucells (fun q => wv (s3 q)) (fun q => cC (s3 q))) (k + a4 * 2))) sl_25 el_34 hS (sufw_row (q := (a4).toNat) (i := a4) (m := i3 - a4) (hS.rowN 2 rfl) (hS.holds _ (List.mem_of_getElem? (i := 2) rfl)).roomy (by omega) (by omega) (by omega) (fun _ _ => rfl)) rfl (h1 := (fun k _ _ => ucells_one (fun q => hone (s3 q)) _))) ?_; rintro v9 w ⟨hS, hv9⟩
   replace hS := hS.n4
   refine ⟨⟨fun _ => hS.pk [0, 1, 2], hS.pk [0, 1, 2]⟩, ?_⟩
   refine zda 13 (xapF (q := (a4).toNat) (r := i3 + 1) (f := ucells (fun q => wv (insN s3 a4 i3 q)) (fun q => cC (insN s3 a4 i3 q))) sl_25 el_34 hS (cap_row (q := (a4).toNat) (i := a4) (hS.rowN 2 rfl) (by omega) (by omega)) (hS.rowN 3 rfl) (fun k _ _ => ucells_one (fun q => hone (s3 q)) k) (fun k _ _ => cat_one (fun k => ucells_one (fun _ => hone i3) k) (fun k => ucells_one (fun q => hone (s3 q)) _) k) (by rw [show a4 + (i3 - a4 + 1) = i3 + 1 by omega]; exact ins_cells (by omega) (by omega)) (by omega)) ?_; rintro v10 w ⟨hS, hv10⟩
   replace hS := hS.n5
   refine ⟨⟨fun _ => hS.pk [0, 1, 2], hS.pk [0, 1, 2]⟩, ?_⟩
   refine zdv 14 (fun _ => xas) ?_
   refine zdd <| zbn <| ztn <| zrg ?_
   refine zlv xmv ?_
   refine zlv (xadd (r := i3 + 1)) ?_
   refine zlv xas ?_
   refine zln <| zlq ⟨(insN s3 a4 i3), i3 + 1, v10, rfl, (by omega), (by omega), ?_, ?_, ?_, ?_, ?_, rfl, hS.pk [0, 1, 4]⟩
   ·
    exact insN_rng (by omega) (by omega) hr3
   ·
    exact insN_inj (by omega) (by omega) hr3 hj3
   ·
    exact ins_step hs (by omega) (by omega) (by omega) hr3 ho3 (by first | exact .inl (by omega) | exact .inr ‹_›) ha4
   ·
    exact plL_insp (by omega) (by omega) hp3
   ·
    exact hv10
  refine zxt <| ztx <| ztx <| zbh <| ztn <| zsr ?_
  refine zs2 ?_
  refine zlt <| zrt <| zf1 ⟨_, rfl, ?_⟩
  have hiN : i3 = nC := by omega
  rw [hiN] at hr3 hj3 ho3 hp3
  replace hS := hS.pmrowsJ 1 hr3 hj3
  exact ⟨_, nC, _, _, _, _, rfl, NormR.of_ins hs hp3 ho3, by omega, by omega, fun k k0 k1 => hbc (s3 k) (hr3 k k0 k1).1 (hr3 k k0 k1).2, (by rw [← hiN]; exact hwO), (by rw [← hiN] at hS ⊢; exact hS.pk [2, 1])⟩
end Go.Proofs.Ytopmifmfecfaaaa
namespace Go.Proofs.Ytopmifmfecfaaaa
open Go Go.RowKit Go.Proofs.Gw
set_option maxRecDepth 20000 in
theorem c_vsound {vV : Value} {u : Int} {pv : Int → Value} {ln : Int → Int} {pt : Int → Int → Int} {cnt : Int → Int} {vL vD : Value} {p : Prob} (w0 : World) (hV : VAt w0 vV u pv ln pt cnt) (h : PAt w0 vL vD p) :
    Calls Try.prog 67 [.agg #[vL, vD, .int .i64 p.stock, .int .i64 p.kerf], vV].toArray w0 fun e w => ∃ v, e = .returned v ∧ v = B (PlanOk p u ln pt cnt) ∧ Sat w0 w [] := by
  have hm := h.L.slh.n0; have hm1 := h.L.slh.n1; have hd := h.D.slh.n0; have hd1 := h.D.slh.n1; have hs := h.is; have hk := h.ik
  have hu := hV.row.slh.n0; have hu1 := hV.row.slh.n1
  refine zenG Try.func67 Try.ntmps67 fun w hS => ?_
  refine zsr ?_
  refine zla (xbx (cs := [_, _, _, _]) hS) ?_; rintro _ w ⟨g1, rfl, hS⟩
  replace hS := hS.n1
  refine zlv xas ?_
  refine zlt <| zsq <| zsr ?_
  refine zlv (xls 0 st_24 hS) ?_
  refine zlc (xc0 cl_10) (c_rvalid28 (p := p) w (h.below hS.below)) ?_; rintro _ w ⟨rfl, hS'⟩
  replace hS := hS.cmp hS'; clear hS'
  refine zs2 ?_
  refine zlb 9 ?_ ?_ <;> intro hc
  ·
   iterate 3 refine zlo ?_
   refine zlv xpt ?_
   refine zlt <| zct <| zsr ?_
   refine zlv xas ?_
   refine zlt <| zrt <| ztr <| zf1 ⟨_, rfl, ?_⟩
   refine ⟨false_B (fun hh => ?_), hS.nl⟩
   first
   | exact absurd hh.1 ‹¬ p.Ok›
   | (have := hh.2.1; omega)
   | (have h9 := hh.2.2 i h0 (by omega); first | exact absurd h9.2.2 ‹_› | omega)
  refine zlv xmv ?_
  refine zlv (xln sl_25 hV.row.slh) ?_
  refine zs2 ?_
  refine zlt ?_
  refine zcif ?_ ?_ <;> intro hc
  ·
   refine zsr ?_
   refine zlv xas ?_
   refine zlt <| zrt <| ztr <| zf1 ⟨_, rfl, ?_⟩
   refine ⟨false_B (fun hh => ?_), hS.nl⟩
   first
   | exact absurd hh.1 ‹¬ p.Ok›
   | (have := hh.2.1; omega)
   | (have h9 := hh.2.2 i h0 (by omega); first | exact absurd h9.2.2 ‹_› | omega)
  refine zsk <| ztn <| zsq <| zsr ?_
  refine zlv xas ?_
  refine zlt <| zbk ?_
  have hok9 : p.Ok := by first | assumption | exact Classical.not_not.1 ‹_›
  refine zlp (fun mm M w => ∃ (i : Int), mm = ((u - i).toNat) ∧ (0 ≤ i) ∧ (i ≤ u) ∧ (∀ k, 0 ≤ k → k < i → 1 ≤ cnt k ∧ cnt k ≤ 1000 ∧ FitsP p (ln k) (pt k)) ∧ M = [(1, vV), (2, .pointer (some ⟨g1, 0, none⟩)), (5, .int .i64 i)] ∧ Sat w0 w [.blk g1 [vL, vD, .int .i64 p.stock, .int .i64 p.kerf]]) ⟨0, rfl, (by omega), (by omega), ?_, rfl, hS⟩ ?_
  ·
   intro k h0 h1; omega
  clear hS w
  rintro mm M w ⟨i, rfl, h0, h1, hall, rfl, hS⟩
  refine zsq <| zsr ?_
  refine zs2 ?_
  refine zlv (xln sl_25 hV.row.slh) ?_
  refine zlv xlss ?_
  refine zlt ?_
  refine zcif ?_ ?_ <;> intro hc
  ·
   refine zsk <| ztn <| zsq <| zbk <| zsq ?_
   refine zdst [0] [0] 1000 mx_ hS ?_; clear hS; intro w hS
   refine zdla 0 (fun w hS => (xls 0 st_24 hS)) ?_
   refine zdv 1 (fun _ => xmv) ?_
   refine zdv 2 (fun _ => xmv) ?_
   refine zdv 3 (fun _ => (xix (kk := 2 * i) sl_25 hV.row.slh)) ?_
   refine zdv 4 (fun _ => (xfc (kk := 2 * i) fd_34_0 hV.row.slh)) ?_
   refine zdla 5 (fun w hS => (xlr (u := (pv i)) pl_22 (hV.row.below hS.below) (e := (ucells0 pv cnt (by omega))))) ?_
   refine zdc 6 (xc0 cl_87) (c_fits (p := p) w (h.below hS.below) ((hV.p i (by omega) (by omega)).below hS.below)) ?_; rintro _ w ⟨rfl, hS'⟩
   replace hS := hS.cmp hS'; clear hS'
   refine ⟨⟨fun _ => hS, hS⟩, ?_⟩
   refine zdv 7 (fun _ => xnot) ?_
   refine zdv 8 (fun _ => xmv) ?_
   refine zdb 28 ?_ ?_ <;> intro hc
   ·
    refine zdof 9 ?_
    refine zdof 10 ?_
    refine zdof 11 ?_
    refine zdof 12 ?_
    refine zdof 13 ?_
    refine zdof 14 ?_
    refine zdv 15 (fun _ => xpt) ?_
    refine zdv 16 (fun _ => xmv) ?_
    refine zdof 17 ?_
    refine zdof 18 ?_
    refine zdof 19 ?_
    refine zdof 20 ?_
    refine zdof 21 ?_
    refine zdof 22 ?_
    refine zdv 23 (fun _ => xpt) ?_
    refine zdd <| ztn <| zct <| zsr ?_
    refine zlv xas ?_
    refine zlt <| zrt <| zbr <| ztr <| ztr <| zbr <| ztr <| zf1 ⟨_, rfl, ?_⟩
    refine ⟨false_B (fun hh => ?_), hS.nl⟩
    first
    | exact absurd hh.1 ‹¬ p.Ok›
    | (have := hh.2.1; omega)
    | (have h9 := hh.2.2 i h0 (by omega); first | exact absurd h9.2.2 ‹_› | omega)
   refine zdv 9 (fun _ => xmv) ?_
   refine zdv 10 (fun _ => xmv) ?_
   refine zdv 11 (fun _ => (xix (kk := 2 * i) sl_25 hV.row.slh)) ?_
   refine zdv 12 (fun _ => (xfc (kk := 2 * i + 1) fd_34_1 hV.row.slh)) ?_
   refine zdla 13 (fun w hS => (xlr (u := .int .i64 (cnt i)) pl_3 (hV.row.below hS.below) (e := (ucells1 pv cnt (by omega))))) ?_
   refine zdv 14 (fun _ => xlss) ?_
   refine zdv 15 (fun _ => xpf) ?_
   refine zdv 16 (fun _ => xmv) ?_
   refine zdb 36 ?_ ?_ <;> intro hc
   ·
    refine zdof 17 ?_
    refine zdof 18 ?_
    refine zdof 19 ?_
    refine zdof 20 ?_
    refine zdof 21 ?_
    refine zdof 22 ?_
    refine zdv 23 (fun _ => xpt) ?_
    refine zdd <| ztn <| zct <| zsr ?_
    refine zlv xas ?_
    refine zlt <| zrt <| zbr <| ztr <| ztr <| zbr <| ztr <| zf1 ⟨_, rfl, ?_⟩
    refine ⟨false_B (fun hh => ?_), hS.nl⟩
    first
    | exact absurd hh.1 ‹¬ p.Ok›
    | (have := hh.2.1; omega)
    | (have h9 := hh.2.2 i h0 (by omega); first | exact absurd h9.2.2 ‹_› | omega)
   refine zdv 17 (fun _ => xmv) ?_
   refine zdv 18 (fun _ => xmv) ?_
   refine zdv 19 (fun _ => (xix (kk := 2 * i) sl_25 hV.row.slh)) ?_
   refine zdv 20 (fun _ => (xfc (kk := 2 * i + 1) fd_34_1 hV.row.slh)) ?_
   refine zdla 21 (fun w hS => (xlr (u := .int .i64 (cnt i)) pl_3 (hV.row.below hS.below) (e := (ucells1 pv cnt (by omega))))) ?_
   refine zdv 22 (fun _ => xgtr) ?_
   refine zdv 23 (fun _ => xpf) ?_
   refine zdd <| ztn ?_
   refine zcif ?_ ?_ <;> intro hc
   ·
    refine zsr ?_
    refine zlv xas ?_
    refine zlt <| zrt <| zbr <| ztr <| ztr <| zbr <| ztr <| zf1 ⟨_, rfl, ?_⟩
    refine ⟨false_B (fun hh => ?_), hS.nl⟩
    first
    | exact absurd hh.1 ‹¬ p.Ok›
    | (have := hh.2.1; omega)
    | (have h9 := hh.2.2 i h0 (by omega); first | exact absurd h9.2.2 ‹_› | omega)
   refine zsk <| zbn <| ztn <| zrg ?_
   refine zlv xmv ?_
   refine zlv (xadd (r := i + 1)) ?_
   refine zlv xas ?_
   refine zln <| zlq ⟨i + 1, rfl, (by omega), (by omega), ?_, rfl, hS⟩
   ·
    intro k h0' h1'; rcases Int.lt_or_eq_of_le (show k ≤ i by omega) with hk | hk; exact hall k h0' hk; rw [hk]; exact ⟨by omega, by omega, by first | assumption | exact Classical.not_not.1 ‹_›⟩
  refine zxt <| ztx <| ztx <| zbh <| ztn <| zsr ?_
  refine zlv xas ?_
  refine zlt <| zrt <| zf1 ⟨_, rfl, ?_⟩
  exact ⟨true_B ⟨hok9, by omega, fun k k0 k1 => hall k k0 (by omega)⟩, hS.nl⟩
set_option maxHeartbeats 4000000 in
set_option maxRecDepth 20000 in
theorem c_vmade {vV : Value} {u : Int} {pv : Int → Value} {ln : Int → Int} {pt : Int → Int → Int} {cnt : Int → Int} {vL vD : Value} {p : Prob} (w0 : World) (hV : VAt w0 vV u pv ln pt cnt) (h : PAt w0 vL vD p) :
    Calls Try.prog 31 [.agg #[vL, vD, .int .i64 p.stock, .int .i64 p.kerf], vV].toArray w0 fun e w => ∃ v, e = .returned v ∧ ∃ r n f e, v = .tuple #[r, .int .i64 e] ∧ ((¬ PlanOk p u ln pt cnt ∧ n = 0 ∧ e = 1) ∨ (PlanOk p u ln pt cnt ∧ n = p.m ∧ f = madeF u pt cnt ∧ e = 0)) ∧ Slh r n ∧ Sat w0 w [.own r 1 3 n (ints f)] := by
  have hm := h.L.slh.n0; have hm1 := h.L.slh.n1; have hd := h.D.slh.n0; have hd1 := h.D.slh.n1; have hs := h.is; have hk := h.ik
  have hu := hV.row.slh.n0; have hu1 := hV.row.slh.n1
  refine zenG Try.func31 Try.ntmps31 fun w hS => ?_
  refine zsr ?_
  refine zla (xbx (cs := [_, _, _, _]) hS) ?_; rintro _ w ⟨g1, rfl, hS⟩
  replace hS := hS.n1
  refine zs2 ?_
  refine zlt <| zsq <| zsr ?_
  refine zlv (xls 0 st_24 hS) ?_
  refine zlv xmv ?_
  refine zlc (xc0 cl_67) (c_vsound (u := u) (pv := pv) (ln := ln) (pt := pt) (cnt := cnt) (p := p) w (hV.below hS.below) (h.below hS.below)) ?_; rintro _ w ⟨rfl, hS'⟩
  replace hS := hS.cmp hS'; clear hS'
  refine zlv xnot ?_
  refine zlt ?_
  refine zcif ?_ ?_ <;> intro hc
  ·
   refine zsr ?_
   refine zs2 ?_
   refine zlt <| zrt <| ztr <| zf2 ⟨_, rfl, ?_⟩
   exact ⟨_, 0, fun _ => 0, 1, rfl, .inl ⟨‹¬ PlanOk p u ln pt cnt›, rfl, rfl⟩, slh_nil, (hS.sub (.cons _ .slnil)).addnil 1 3 (ints fun _ => 0)⟩
  refine zsk <| ztn <| zsr ?_
  refine zlv (xfb 0 fd_24_0) ?_
  have hplo : PlanOk p u ln pt cnt := by first | assumption | exact Classical.not_not.1 ‹_›
  have hpm1 := hplo.1.m1; have hpm2 := hplo.1.m2; have hu3 := hplo.2.1
  refine zlv (xlb 0 pl_22 hS) ?_
  refine zlv (xln sl_22 h.L.slh) ?_
  refine zla (xmk sl_22 el_3 hS) ?_; rintro v1 w ⟨hS, hv1⟩
  replace hS := hS.n2
  refine zlv xas ?_
  refine zlt <| zsq <| zsr ?_
  refine zlv xas ?_
  refine zlt <| zbk <| zlp (fun mm M w => ∃ (f : Int → Int) (i : Int), mm = ((u - i).toNat) ∧ (0 ≤ i) ∧ (i ≤ u) ∧ (∀ k, 0 ≤ k → k < p.m → f k = madeF i pt cnt k) ∧ M = [(1, vV), (4, .slice none 0 0), (5, .int .i64 0), (6, v1), (7, .int .i64 i)] ∧ Sat w0 w [.blk g1 [vL, vD, .int .i64 p.stock, .int .i64 p.kerf], .own v1 1 3 p.m (ints f)]) ⟨(fun _ => 0), 0, rfl, (by omega), (by omega), ?_, rfl, hS⟩ ?_
  ·
   intro k _ _; rfl
  clear hS w
  rintro mm M w ⟨f, i, rfl, h0, h1, hf, rfl, hS⟩
  refine zsq <| zsr ?_
  refine zs2 ?_
  refine zlv (xln sl_25 hV.row.slh) ?_
  refine zlv xlss ?_
  refine zlt ?_
  refine zcif ?_ ?_ <;> intro hc
  ·
   refine zsk <| ztn <| zsq <| zbk <| zsr ?_
   refine zlv xas ?_
   refine zlt <| zbk <| zlp (fun mm M w => ∃ (f2 : Int → Int) (j : Int), mm = ((p.m - j).toNat) ∧ (0 ≤ j) ∧ (j ≤ p.m) ∧ (∀ k, 0 ≤ k → k < p.m → f2 k = (if k < j then madeF (i + 1) pt cnt k else madeF i pt cnt k)) ∧ M = [(1, vV), (4, .slice none 0 0), (5, .int .i64 0), (6, v1), (7, .int .i64 i), (8, .int .i64 j)] ∧ Sat w0 w [.blk g1 [vL, vD, .int .i64 p.stock, .int .i64 p.kerf], .own v1 1 3 p.m (ints f2)]) ⟨f, 0, rfl, (by omega), (by omega), ?_, rfl, hS⟩ ?_
   ·
    intro k k0 k1; rw [if_neg (by omega)]; exact hf k k0 k1
   clear hS w
   rintro mm M w ⟨f2, j, rfl, j0, j1, hf2, rfl, hS⟩
   refine zsq <| zsr ?_
   refine zs2 ?_
   refine zlv (xln sl_22 hv1) ?_
   refine zlv xlss ?_
   refine zlt ?_
   refine zcif ?_ ?_ <;> intro hc
   ·
    refine zsk <| ztn <| zsq <| zbk ?_
    refine zdst [0, 1] [0] 20 mx_ hS ?_; clear hS; intro w hS
    refine zdv 0 (fun _ => xmv) ?_
    refine zdv 1 (fun _ => xmv) ?_
    refine zdv 2 (fun _ => (xix (kk := j) sl_22 hv1)) ?_
    refine zdl 3 (fun w hS => (xlr (u := .int .i64 (f2 j)) pl_3 (hS.rowN 1 rfl))) ?_
    obtain ⟨hq1, hq2, hq3⟩ := hplo.2.2 i h0 (by omega)
    have hq4 := hq3.eq
    have hpj := hq3.all j j0 (by omega)
    have hmr := madeF_rng hplo.2.2 h0 (by omega) (j := j) j0 (by omega)
    have hfj := hf2 j j0 (by omega)
    rw [if_neg (by omega)] at hfj
    have hmj := mul_rng3 hpj.1 hpj.2 (show 0 ≤ cnt i by omega) hq2
    refine zdv 4 (fun _ => xmv) ?_
    refine zdv 5 (fun _ => xmv) ?_
    refine zdv 6 (fun _ => (xix (kk := 2 * i) sl_25 hV.row.slh)) ?_
    refine zdv 7 (fun _ => (xfc (kk := 2 * i) fd_34_0 hV.row.slh)) ?_
    refine zdla 8 (fun w hS => (xlr (u := (pv i)) pl_22 (hV.row.below hS.below) (e := (ucells0 pv cnt (by omega))))) ?_
    refine zdv 9 (fun _ => xmv) ?_
    refine zdv 10 (fun _ => (xix (kk := j) sl_22 (hV.p i (by omega) (by omega)).slh)) ?_
    refine zdla 11 (fun w hS => (xlr (u := .int .i64 ((pt i) j)) pl_3 ((hV.p i (by omega) (by omega)).below hS.below))) ?_
    refine zdv 12 (fun _ => xmv) ?_
    refine zdv 13 (fun _ => xmv) ?_
    refine zdv 14 (fun _ => (xix (kk := 2 * i) sl_25 hV.row.slh)) ?_
    refine zdv 15 (fun _ => (xfc (kk := 2 * i + 1) fd_34_1 hV.row.slh)) ?_
    refine zdla 16 (fun w hS => (xlr (u := .int .i64 (cnt i)) pl_3 (hV.row.below hS.below) (e := (ucells1 pv cnt (by omega))))) ?_
    refine zdv 17 (fun _ => (xmul (r := (((pt i) j) * (cnt i))) (e := rfl))) ?_
    refine zdv 18 (fun _ => (xadd (r := f2 j + (((pt i) j) * (cnt i))))) ?_
    refine zdv 19 (fun _ => (xix (kk := j) sl_22 hv1)) ?_
    refine zde 20 (xso 1 pl_3 hS (upd_ints _ _ _)) ?_; clear hS; rintro w hS
    replace hS := hS.n2
    refine ⟨⟨fun h => absurd h (by decide), hS.pk [0]⟩, ?_⟩
    refine zdd <| zbn <| ztn <| zrg ?_
    refine zlv xmv ?_
    refine zlv (xadd (r := j + 1)) ?_
    refine zlv xas ?_
    refine zln <| zlq ⟨(upd f2 j (f2 j + (((pt i) j) * (cnt i)))), j + 1, rfl, (by omega), (by omega), ?_, rfl, hS⟩
    ·
     intro k k0 k1; unfold upd; by_cases e : k = j
     · rw [if_pos e, if_pos (by omega), e, madeF_next h0]; omega
     · rw [if_neg e, hf2 k k0 k1]; by_cases e2 : k < j
       · rw [if_pos e2, if_pos (by omega)]
       · rw [if_neg e2, if_neg (by omega)]
   refine zxt <| ztx <| ztx <| zbh <| zbn <| ztn <| zrg ?_
   refine zlv xmv ?_
   refine zlv (xadd (r := i + 1)) ?_
   refine zlv xas ?_
   refine zln <| zlq ⟨f2, i + 1, rfl, (by omega), (by omega), ?_, rfl, hS⟩
   ·
    intro k k0 k1; rw [hf2 k k0 k1, if_pos (by omega)]
  refine zxt <| ztx <| ztx <| zbh <| ztn <| zsr ?_
  refine zs3 ?_
  refine zlt <| zrt <| zf2 ⟨_, rfl, ?_⟩
  have hiu : i = u := by omega
  rw [hiu] at hf
  replace hS := hS.recont 1 rfl (d := ints (madeF u pt cnt)) (fun k k0 k1 => congrArg (Value.int .i64) (hf k k0 (by omega)))
  exact ⟨_, _, _, 0, rfl, .inr ⟨hplo, rfl, rfl, rfl⟩, hv1, hS.pk [1]⟩
set_option maxHeartbeats 4000000 in
set_option maxRecDepth 20000 in
theorem c_vmeets {vV : Value} {u : Int} {pv : Int → Value} {ln : Int → Int} {pt : Int → Int → Int} {cnt : Int → Int} {vL vD : Value} {p : Prob} (w0 : World) (hV : VAt w0 vV u pv ln pt cnt) (h : PAt w0 vL vD p) :
    Calls Try.prog 32 [.agg #[vL, vD, .int .i64 p.stock, .int .i64 p.kerf], vV].toArray w0 fun e w => ∃ v, e = .returned v ∧ v = B (PlanOk p u ln pt cnt ∧ ∀ j, 0 ≤ j → j < p.m → p.D j ≤ madeF u pt cnt j) ∧ Sat w0 w [] := by
  have hm := h.L.slh.n0; have hm1 := h.L.slh.n1; have hd := h.D.slh.n0; have hd1 := h.D.slh.n1; have hs := h.is; have hk := h.ik
  refine zenG Try.func32 Try.ntmps32 fun w hS => ?_
  refine zsr ?_
  refine zla (xbx (cs := [_, _, _, _]) hS) ?_; rintro _ w ⟨g1, rfl, hS⟩
  replace hS := hS.n1
  refine zlv xas ?_
  refine zlz ?_
  refine zlv (xls 0 st_24 hS) ?_
  refine zlv xmv ?_
  refine zlc (xc0 cl_31) (c_vmade (u := u) (pv := pv) (ln := ln) (pt := pt) (cnt := cnt) (p := p) w (hV.below hS.below) (h.below hS.below)) ?_; rintro _ w ⟨vdmd1, ndmd1, fdmd1, edmd1, rfl, hmdmd1, hvdmd1, hS'⟩
  replace hS : Sat w0 w [.blk g1 [vL, vD, .int .i64 p.stock, .int .i64 p.kerf], .own vdmd1 1 3 ndmd1 (ints fdmd1)] := hS.comp hS'; clear hS'
  refine zs5 ?_
  refine zlt <| zsq <| zsr ?_
  refine zs2 ?_
  refine zlt ?_
  refine zcif ?_ ?_ <;> intro hc
  ·
   refine zsr ?_
   refine zlv xas ?_
   refine zlt <| zrt <| ztr <| zf1 ⟨_, rfl, ?_⟩
   refine ⟨false_B ?_, hS.nl⟩
   first
   | (intro hh; have h9 := hh.2 i h0 (by omega); rw [← hA3] at h9; omega)
   | (rcases hmdmd1 with ⟨q1, _⟩ | ⟨_, _, _, q4⟩; exact fun hh => q1 hh.1; omega)
  refine zsk <| ztn <| zsq <| zsr ?_
  refine zlv xas ?_
  refine zlt <| zbk ?_
  obtain ⟨hA1, hA2, hA3⟩ : PlanOk p u ln pt cnt ∧ ndmd1 = p.m ∧ fdmd1 = madeF u pt cnt := by rcases hmdmd1 with ⟨_, _, q3⟩ | ⟨q1, q2, q3, _⟩; omega; exact ⟨q1, q2, q3⟩
  have hpd := hA1.1.d
  refine zlp (fun mm M w => ∃ (i : Int), mm = ((ndmd1 - i).toNat) ∧ (0 ≤ i) ∧ (i ≤ ndmd1) ∧ (∀ k, 0 ≤ k → k < i → p.D k ≤ fdmd1 k) ∧ M = [(2, .pointer (some ⟨g1, 0, none⟩)), (5, vdmd1), (7, .int .i64 i)] ∧ Sat w0 w [.blk g1 [vL, vD, .int .i64 p.stock, .int .i64 p.kerf], .own vdmd1 1 3 ndmd1 (ints fdmd1)]) ⟨0, rfl, (by omega), (by omega), ?_, rfl, hS⟩ ?_
  ·
   intro k h0 h1; omega
  clear hS w
  rintro mm M w ⟨i, rfl, h0, h1, hall, rfl, hS⟩
  refine zsq <| zsr ?_
  refine zs2 ?_
  refine zlv (xln sl_22 hvdmd1) ?_
  refine zlv xlss ?_
  refine zlt ?_
  refine zcif ?_ ?_ <;> intro hc
  ·
   refine zsk <| ztn <| zsq <| zbk <| zsq ?_
   refine zdst [0, 1] [0, 1] 1000 mx_ hS ?_; clear hS; intro w hS
   refine zdv 0 (fun _ => xmv) ?_
   refine zdv 1 (fun _ => xmv) ?_
   refine zdv 2 (fun _ => (xix (kk := i) sl_22 hvdmd1)) ?_
   refine zdla 3 (fun w hS => (xlr (u := .int .i64 (fdmd1 i)) pl_3 (hS.rowN 1 rfl))) ?_
   refine zdv 4 (fun _ => (xfb 1 fd_24_1)) ?_
   refine zdla 5 (fun w hS => (xlb 0 pl_22 hS)) ?_
   refine zdv 6 (fun _ => xmv) ?_
   refine zdv 7 (fun _ => (xix (kk := i) sl_22 h.D.slh)) ?_
   refine zdla 8 (fun w hS => (xlr (u := .int .i64 (p.D i)) pl_3 (h.D.below hS.below))) ?_
   have hbv := h.iD i
   refine zdv 9 (fun _ => xlss) ?_
   refine zdd <| ztn ?_
   refine zcif ?_ ?_ <;> intro hc
   ·
    refine zsr ?_
    refine zlv xas ?_
    refine zlt <| zrt <| zbr <| ztr <| ztr <| zbr <| ztr <| zf1 ⟨_, rfl, ?_⟩
    refine ⟨false_B ?_, hS.nl⟩
    first
    | (intro hh; have h9 := hh.2 i h0 (by omega); rw [← hA3] at h9; omega)
    | (rcases hmdmd1 with ⟨q1, _⟩ | ⟨_, _, _, q4⟩; exact fun hh => q1 hh.1; omega)
   refine zsk <| zbn <| ztn <| zrg ?_
   refine zlv xmv ?_
   refine zlv (xadd (r := i + 1)) ?_
   refine zlv xas ?_
   refine zln <| zlq ⟨i + 1, rfl, (by omega), (by omega), ?_, rfl, hS⟩
   ·
    intro k h0' h1'; rcases Int.lt_or_eq_of_le (show k ≤ i by omega) with hk | hk; exact hall k h0' hk; rw [hk]; omega
  refine zxt <| ztx <| ztx <| zbh <| ztn <| zsr ?_
  refine zlv xas ?_
  refine zlt <| zrt <| zf1 ⟨_, rfl, ?_⟩
  refine ⟨true_B ⟨hA1, fun j j0 j1 => ?_⟩, hS.nl⟩
  have := hall j j0 (by omega); rw [hA3] at this; exact this
end Go.Proofs.Ytopmifmfecfaaaa
namespace Go.Proofs.Ytopmifmfecfaaaa
open Go Go.RowKit Go.Proofs.Gw
theorem cl_32 : calledT Try.prog 32 = true := by kernel_rfl
theorem cl_33 : calledT Try.prog 33 = true := by kernel_rfl
theorem tr_yes {m nO l : Int} {m0 : List Int} {h : List (List Int)} {M M2 a a2 lO cO : Int → Int} {gO : Int → Int → Int} (hs : (lst m M, plL nO lO gO cO) = tRun m0 h) (n0 : 0 ≤ nO) (hl : l = m) (ha : ∀ k, 0 ≤ k → k < m → a2 k = a k - min (a k) (M k)) (hM : ∀ k, 0 ≤ k → k < m → M2 k = M k - min (a k) (M k)) (hx : ∃ k, 0 ≤ k ∧ k < l ∧ 0 < a2 k) :
    (lst m M2, plL (nO + 1) (gsn lO nO l) (gsn gO nO a2) (snoc cO nO 1)) = tRun m0 (h ++ [lst l a]) := by
  subst hl
  rw [tRun_snoc, ← hs]
  unfold tStep tM tA
  dsimp only
  rw [zip_lst, zip_lst, lst_congr (f := fun k => a k - min (a k) (M k)) (g := a2) fun k k0 k1 => (ha k k0 k1).symm, if_pos (any_lst.2 hx), lst_congr (f := fun k => M k - min (a k) (M k)) (g := M2) fun k k0 k1 => (hM k k0 k1).symm,
    plL_snoc n0 (fun k k0 k1 => ⟨gsn_lt k1, snoc_lt k1, gsn_lt k1⟩) (gsn_at (by omega)) (snoc_at (by omega)) (gsn_at (by omega))]
theorem tr_no {m nO l : Int} {m0 : List Int} {h : List (List Int)} {M M2 a a2 lO cO : Int → Int} {gO : Int → Int → Int} (hs : (lst m M, plL nO lO gO cO) = tRun m0 h) (hl : l = m) (ha : ∀ k, 0 ≤ k → k < m → a2 k = a k - min (a k) (M k)) (hM : ∀ k, 0 ≤ k → k < m → M2 k = M k - min (a k) (M k)) (hx : ¬ ∃ k, 0 ≤ k ∧ k < l ∧ 0 < a2 k) :
    (lst m M2, plL nO lO gO cO) = tRun m0 (h ++ [lst l a]) := by
  subst hl
  rw [tRun_snoc, ← hs]
  unfold tStep tM tA
  dsimp only
  rw [zip_lst, zip_lst, lst_congr (f := fun k => a k - min (a k) (M k)) (g := a2) fun k k0 k1 => (ha k k0 k1).symm, if_neg (fun hh => hx (any_lst.1 hh)), lst_congr (f := fun k => M k - min (a k) (M k)) (g := M2) fun k k0 k1 => (hM k k0 k1).symm]
theorem any_next {fa fa2 : Int → Int} {j : Int} {p p2 : Prop} (j0 : 0 ≤ j) (h : p ↔ ∃ q, 0 ≤ q ∧ q < j ∧ 0 < fa q) (he : ∀ q, q < j → fa2 q = fa q) (h2 : p2 ↔ (p ∨ 0 < fa2 j)) : p2 ↔ ∃ q, 0 ≤ q ∧ q < j + 1 ∧ 0 < fa2 q := by
  rw [h2, h]
  constructor
  · rintro (⟨q, q0, q1, q2⟩ | h)
    · exact ⟨q, q0, by omega, by rw [he q q1]; exact q2⟩
    · exact ⟨j, j0, by omega, h⟩
  · rintro ⟨q, q0, q1, q2⟩
    by_cases e : q = j
    · rw [e] at q2; exact .inr q2
    · rw [he q (by omega)] at q2; exact .inl ⟨q, q0, by omega, q2⟩
theorem rep_next {α : Type} (l : List α) (x : α) {n : Int} (n0 : 0 ≤ n) : l ++ List.replicate (n + 1).toNat x = (l ++ List.replicate n.toNat x) ++ [x] := by
  rw [show (n + 1).toNat = n.toNat + 1 by omega, List.replicate_succ', List.append_assoc]
set_option maxHeartbeats 4000000 in
set_option maxRecDepth 20000 in
theorem c_rtrim {vV : Value} {u : Int} {pv : Int → Value} {ln : Int → Int} {pt : Int → Int → Int} {cnt : Int → Int} {vL vD : Value} {p : Prob} (w0 : World) (hV : VAt w0 vV u pv ln pt cnt) (h : PAt w0 vL vD p) :
    Calls Try.prog 11 [.agg #[vL, vD, .int .i64 p.stock, .int .i64 p.kerf], vV].toArray w0 fun e w => ∃ v, e = .returned v ∧ ∃ r n2 pv2 ln2 pt2 cnt2 e, v = .tuple #[r, .int .i64 e] ∧ TrimR p u ln pt cnt (plL n2 ln2 pt2 cnt2) e ∧ (∀ k, 0 ≤ k → k < n2 → 1 ≤ cnt2 k ∧ cnt2 k ≤ 1000000000) ∧ n2 ≤ 1000000 ∧ Slh r n2 ∧ Sat w0 w [.own r 2 34 n2 (ucells pv2 cnt2), .sem (Frame.rows 3 n2 pv2 ln2 pt2)] := by
  have hm := h.L.slh.n0; have hm1 := h.L.slh.n1; have hd := h.D.slh.n0; have hd1 := h.D.slh.n1; have hs := h.is; have hk := h.ik
  have hu := hV.row.slh.n0; have hu1 := hV.row.slh.n1
  refine zenG Try.func11 Try.ntmps11 fun w hS => ?_
  refine zsr ?_
  refine zla (xbx (cs := [_, _, _, _]) hS) ?_; rintro _ w ⟨g1, rfl, hS⟩
  replace hS := hS.n1
  refine zs2 ?_
  refine zlz ?_
  refine zlv (xls 0 st_24 hS) ?_
  refine zlv xmv ?_
  refine zlc (xc0 cl_31) (c_vmade (u := u) (pv := pv) (ln := ln) (pt := pt) (cnt := cnt) (p := p) w (hV.below hS.below) (h.below hS.below)) ?_; rintro _ w ⟨vdmd1, ndmd1, fdmd1, edmd1, rfl, hmdmd1, hvdmd1, hS'⟩
  replace hS : Sat w0 w [.blk g1 [vL, vD, .int .i64 p.stock, .int .i64 p.kerf], .own vdmd1 1 3 ndmd1 (ints fdmd1)] := hS.comp hS'; clear hS'
  refine zs5 ?_
  refine zlt <| zsq <| zbk <| zsr ?_
  refine zs3 ?_
  refine zlt ?_
  refine zcif ?_ ?_ <;> intro hc
  ·
   refine zsr ?_
   refine zs3 ?_
   refine zlt <| zrt <| zbr <| ztr <| zf2 ⟨_, rfl, ?_⟩
   have hmd : ¬ PlanOk p u ln pt cnt ∧ edmd1 = 1 := by rcases hmdmd1 with ⟨g1, _, g3⟩ | ⟨_, _, _, g4⟩; exact ⟨g1, g3⟩; omega
   exact ⟨_, 0, fun _ => undef, fun _ => 0, fun _ _ => 0, fun _ => 0, _, rfl, .inl ⟨hmd.1, rfl, by omega⟩, fun k k0 k1 => by omega, by omega, slh_nil, ((hS.sub (.cons _ (.cons _ .slnil))).addnil 2 34 (ucells (fun _ => undef) (fun _ => 0))).addrows 3 (fun _ => undef) (fun _ => 0) (fun _ _ => 0)⟩
  refine zsr ?_
  refine zlv (xls 0 st_24 hS) ?_
  refine zlv xmv ?_
  refine zlc (xc0 cl_32) (c_vmeets (u := u) (pv := pv) (ln := ln) (pt := pt) (cnt := cnt) (p := p) w (hV.below hS.below) (h.below hS.below)) ?_; rintro _ w ⟨rfl, hS'⟩
  replace hS := hS.cmp hS'; clear hS'
  refine zs2 ?_
  refine zlt ?_
  refine zcif ?_ ?_ <;> intro hc
  ·
   refine zsr ?_
   refine zs2 ?_
   refine zlt <| zrt <| zbr <| ztr <| zf2 ⟨_, rfl, ?_⟩
   have hplo : PlanOk p u ln pt cnt := by rcases hmdmd1 with ⟨_, _, g3⟩ | ⟨g1, _⟩; omega; exact g1
   exact ⟨_, 0, fun _ => undef, fun _ => 0, fun _ _ => 0, fun _ => 0, _, rfl, .inr (.inl ⟨hplo, fun hh => ‹¬ (_ ∧ _)› ⟨hplo, hh⟩, rfl, rfl⟩), fun k k0 k1 => by omega, by omega, slh_nil, ((hS.sub (.cons _ (.cons _ .slnil))).addnil 2 34 (ucells (fun _ => undef) (fun _ => 0))).addrows 3 (fun _ => undef) (fun _ => 0) (fun _ _ => 0)⟩
  refine zsk <| zbn <| ztn <| zsr ?_
  refine zlv xmv ?_
  obtain ⟨hplo, hnd9, hfd9⟩ : PlanOk p u ln pt cnt ∧ ndmd1 = p.m ∧ fdmd1 = madeF u pt cnt := by rcases hmdmd1 with ⟨_, _, g3⟩ | ⟨g1, g2, g3, _⟩; omega; exact ⟨g1, g2, g3⟩
  have hpm1 := hplo.1.m1; have hpm2 := hplo.1.m2; have hpd := hplo.1.d; have hu3 := hplo.2.1
  have hmeet : ∀ j, 0 ≤ j → j < p.m → p.D j ≤ madeF u pt cnt j := (Classical.not_not.1 ‹¬ ¬ (_ ∧ _)›).2
  refine zlc (xc0 cl_33) (c_rnorm (u := u) (pv := pv) (ln := ln) (pt := pt) (cnt := cnt) w (hV.below hS.below) (by omega) (fun k k0 k1 => by have h9 := (hplo.2.2 k k0 k1).2.2.eq; omega) (fun k k0 k1 => by have h9 := hplo.2.2 k k0 k1; exact ⟨h9.1, h9.2.1⟩)) ?_; rintro vnn1 w ⟨_, nnn1, pnn1, lnn1, gnn1, cnn1, rfl, hnrn1, hn0n1, hn1n1, hncn1, hvnn1, hS'⟩
  replace hS : Sat w0 w [.blk g1 [vL, vD, .int .i64 p.stock, .int .i64 p.kerf], .own vdmd1 1 3 ndmd1 (ints fdmd1), .own vnn1 2 34 nnn1 (ucells pnn1 cnn1), .sem (Frame.rows 3 nnn1 pnn1 lnn1 gnn1)] := hS.comp hS'; clear hS'
  have hrnn1 := fun k (k0 : 0 ≤ k) (k1 : k < nnn1) => hS.slhIn 3 rfl k0 k1
  have hln0 := fun k k0 k1 => (hrnn1 k k0 k1).n0
  have hfit := norm_fits hplo hnrn1 hln0
  have hbr9 := norm_bars hu hn0n1 hplo hnrn1
  refine zlv xas ?_
  refine zlz ?_
  refine zlv xas ?_
  refine zlt <| zsq <| zsr ?_
  refine zlv xmv ?_
  refine zlv (xln sl_25 hvnn1) ?_
  refine zlv (xsub (r := nnn1 - 1)) ?_
  refine zlv xas ?_
  refine zlt <| zbk ?_
  replace hS := hS.addnil 2 34 (ucells (fun _ => Value.slice none 0 0) (fun _ => 0))
  replace hS := hS.n5
  replace hS := hS.addrows 3 (fun _ => Value.slice none 0 0) (fun _ => 0) (fun _ _ => 0)
  replace hS := hS.n6
  replace hS := hS.n6
  have hrs0 := fun k (k0 : 0 ≤ k) (k1 : k < 0) => hS.slhIn 5 rfl k0 k1
  refine zlp (fun mm M w => ∃ (nO : Int) (wO : Int → Value) (lO : Int → Int) (gO : Int → Int → Int) (cO : Int → Int) (fM : Int → Int) (i : Int) (xO : Value), mm = ((i + 1).toNat) ∧ (-1 ≤ i) ∧ (i < nnn1) ∧ (0 ≤ nO ∧ nO ≤ ((brsOf lnn1 gnn1 cnn1 (dwn nnn1 i)).length : Int)) ∧ ((lst p.m (fun k => fM k - p.D k), plL nO lO gO cO) = tRun (lst p.m fun j => madeF u pt cnt j - p.D j) (brsOf lnn1 gnn1 cnn1 (dwn nnn1 i))) ∧ (∀ k, 0 ≤ k → k < p.m → p.D k ≤ fM k ∧ fM k ≤ 2000000000) ∧ (∀ k, 0 ≤ k → k < nO → lO k = p.m ∧ cO k = 1) ∧ (∀ x, (wO x).oneCell' = true) ∧ (Slh xO nO) ∧ M = [(2, .pointer (some ⟨g1, 0, none⟩)), (4, .slice none 0 0), (5, .int .i64 0), (6, vdmd1), (8, vnn1), (9, xO), (10, .int .i64 i)] ∧ Sat w0 w [.blk g1 [vL, vD, .int .i64 p.stock, .int .i64 p.kerf], .own vdmd1 1 3 ndmd1 (ints fM), .own vnn1 2 34 nnn1 (ucells pnn1 cnn1), .sem (Frame.rows 3 nnn1 pnn1 lnn1 gnn1), .own xO 2 34 nO (ucells wO cO), .sem (Frame.rows 3 nO wO lO gO)]) ⟨0, (fun _ => Value.slice none 0 0), (fun _ => 0), (fun _ _ => 0), (fun _ => 0), fdmd1, nnn1 - 1, (.slice none 0 0), rfl, (by omega), (by omega), ?_, ?_, ?_, ?_, ?_, ?_, rfl, hS⟩ ?_
  ·
   rw [dwn_start]; exact ⟨Int.le_refl _, by simp [brsOf]⟩
  ·
   rw [dwn_start, hfd9]; rfl
  ·
   intro k k0 k1; rw [hfd9]; have h9 := hmeet k k0 k1; have h7 := madeF_rng hplo.2.2 hu (Int.le_refl _) k0 k1; omega
  ·
   intro k k0 k1; omega
  ·
   intro x; rfl
  ·
   exact slh_nil
  clear hS w
  rintro mm M w ⟨nO, wO, lO, gO, cO, fM, i, xO, rfl, i0, i1, hnO, hT, hMr, hlO, hone, hxO, rfl, hS⟩
  have hrs1 := fun k (k0 : 0 ≤ k) (k1 : k < nO) => hS.slhIn 5 rfl k0 k1
  refine zsq <| zsr ?_
  refine zs2 ?_
  refine zlt ?_
  refine zcif ?_ ?_ <;> intro hc
  ·
   refine zsk <| ztn <| zsq <| zbk <| zsr ?_
   refine zlv xas ?_
   refine zlt <| zbk ?_
   have hcni := hncn1 i (by omega) (by omega)
   have hlni := hfit i (by omega) (by omega)
   have hlni1 := hlni.1
   refine zlp (fun mm M w => ∃ (nO2 : Int) (wO2 : Int → Value) (lO2 : Int → Int) (gO2 : Int → Int → Int) (cO2 : Int → Int) (fM2 : Int → Int) (n : Int) (xO2 : Value), mm = ((cnn1 i - n).toNat) ∧ (0 ≤ n) ∧ (n ≤ cnn1 i) ∧ (0 ≤ nO2 ∧ nO2 ≤ ((brsOf lnn1 gnn1 cnn1 (dwn nnn1 i) ++ List.replicate n.toNat (lst (lnn1 i) (gnn1 i))).length : Int)) ∧ ((lst p.m (fun k => fM2 k - p.D k), plL nO2 lO2 gO2 cO2) = tRun (lst p.m fun j => madeF u pt cnt j - p.D j) (brsOf lnn1 gnn1 cnn1 (dwn nnn1 i) ++ List.replicate n.toNat (lst (lnn1 i) (gnn1 i)))) ∧ (∀ k, 0 ≤ k → k < p.m → p.D k ≤ fM2 k ∧ fM2 k ≤ 2000000000) ∧ (∀ k, 0 ≤ k → k < nO2 → lO2 k = p.m ∧ cO2 k = 1) ∧ (∀ x, (wO2 x).oneCell' = true) ∧ (Slh xO2 nO2) ∧ M = [(2, .pointer (some ⟨g1, 0, none⟩)), (4, .slice none 0 0), (5, .int .i64 0), (6, vdmd1), (8, vnn1), (9, xO2), (10, .int .i64 i), (11, .int .i64 n)] ∧ Sat w0 w [.blk g1 [vL, vD, .int .i64 p.stock, .int .i64 p.kerf], .own vdmd1 1 3 ndmd1 (ints fM2), .own vnn1 2 34 nnn1 (ucells pnn1 cnn1), .sem (Frame.rows 3 nnn1 pnn1 lnn1 gnn1), .own xO2 2 34 nO2 (ucells wO2 cO2), .sem (Frame.rows 3 nO2 wO2 lO2 gO2)]) ⟨nO, wO, lO, gO, cO, fM, 0, xO, rfl, (by omega), (by omega), ?_, ?_, ?_, ?_, ?_, ?_, rfl, hS⟩ ?_
   ·
    simpa using hnO
   ·
    simpa using hT
   ·
    exact hMr
   ·
    exact hlO
   ·
    exact hone
   ·
    exact hxO
   clear hS w
   rintro mm M w ⟨nO2, wO2, lO2, gO2, cO2, fM2, n, xO2, rfl, n0, n1, hnO2, hT2, hMr2, hlO2, hone2, hxO2, rfl, hS⟩
   have hrs2 := fun k (k0 : 0 ≤ k) (k1 : k < nO2) => hS.slhIn 5 rfl k0 k1
   refine zsq <| zsr ?_
   refine zs3 ?_
   refine zlv (xix (kk := 2 * i) sl_25 hvnn1) ?_
   refine zlv (xfc (kk := 2 * i + 1) fd_34_1 hvnn1) ?_
   refine zlv (xlr (u := .int .i64 (cnn1 i)) pl_3 (hS.rowN 2 rfl) (e := (ucells1 pnn1 cnn1 (by omega)))) ?_
   refine zlv xlss ?_
   refine zlt ?_
   refine zcif ?_ ?_ <;> intro hc
   ·
    refine zsk <| ztn <| zsq <| zbk <| zsr ?_
    refine zla (xl0 (c := ints (gnn1 i)) sl_22 hS) ?_; rintro v1 w ⟨hS, hv1⟩
    replace hS := hS.n7
    refine zs2 ?_
    refine zlv (xix (kk := 2 * i) sl_25 hvnn1) ?_
    refine zlv (xfc (kk := 2 * i) fd_34_0 hvnn1) ?_
    refine zlv (xlr (u := (pnn1 i)) pl_22 (hS.rowN 2 rfl) (e := (ucells0 pnn1 cnn1 (by omega)))) ?_
    have hbp := brs_pos (ln := lnn1) (pt := gnn1) (cnt := cnn1) (u := nnn1) (x := i) (c := n) (fun k k0 k1 => by have := hncn1 k k0 k1; omega) (by omega) (by omega) n0 (by omega)
    refine zla (xap 6 (r := (lnn1 i)) (f := ints (gnn1 i)) sl_22 el_3 hS (hS.rowIn (k := i) 3 rfl (by omega) (by omega)) (by exact cat_self _ _)) ?_; rintro v2 w ⟨hS, hv2⟩
    replace hS := hS.n7
    refine zlv xas ?_
    refine zlz ?_
    refine zlv xas ?_
    refine zlt <| zsq <| zsr ?_
    refine zlv xas ?_
    refine zlt <| zbk <| zlp (fun mm M w => ∃ (any : Prop) (fa3 : Int → Int) (fm3 : Int → Int) (j : Int), mm = ((lnn1 i - j).toNat) ∧ (0 ≤ j) ∧ (j ≤ lnn1 i) ∧ (∀ k, 0 ≤ k → k < p.m → fa3 k = (if k < j then gnn1 i k - min (gnn1 i k) (fM2 k - p.D k) else gnn1 i k)) ∧ (∀ k, 0 ≤ k → k < p.m → fm3 k = (if k < j then fM2 k - min (gnn1 i k) (fM2 k - p.D k) else fM2 k)) ∧ (any ↔ ∃ q, 0 ≤ q ∧ q < j ∧ 0 < fa3 q) ∧ M = [(2, .pointer (some ⟨g1, 0, none⟩)), (4, .slice none 0 0), (5, .int .i64 0), (6, vdmd1), (8, vnn1), (9, xO2), (10, .int .i64 i), (11, .int .i64 n), (12, v2), (13, B (any)), (14, .int .i64 j)] ∧ Sat w0 w [.blk g1 [vL, vD, .int .i64 p.stock, .int .i64 p.kerf], .own vdmd1 1 3 ndmd1 (ints fm3), .own vnn1 2 34 nnn1 (ucells pnn1 cnn1), .sem (Frame.rows 3 nnn1 pnn1 lnn1 gnn1), .own xO2 2 34 nO2 (ucells wO2 cO2), .sem (Frame.rows 3 nO2 wO2 lO2 gO2), .own v2 1 3 (lnn1 i) (ints fa3)]) ⟨False, gnn1 i, fM2, 0, rfl, (by omega), (by omega), ?_, ?_, ?_, rfl, hS⟩ ?_ (hM := by repeat' first | exact zpk0 | refine zpk rfl ?_ | refine zpk (congrArg some (B_false not_false).symm) ?_ | refine zpk (congrArg some (B_true trivial).symm) ?_)
    ·
     intro k k0 k1; rw [if_neg (by omega)]
    ·
     intro k k0 k1; rw [if_neg (by omega)]
    ·
     exact ⟨fun h => h.elim, fun ⟨q, q0, q1, _⟩ => by omega⟩
    clear hS w
    rintro mm M w ⟨any, fa3, fm3, j, rfl, j0, j1, hfa3, hfm3, hany, rfl, hS⟩
    refine zsq <| zsr ?_
    refine zs2 ?_
    refine zlv (xln sl_22 hv2) ?_
    refine zlv xlss ?_
    refine zlt ?_
    refine zcif ?_ ?_ <;> intro hc
    ·
     refine zsk <| ztn <| zsq <| zbk <| zsq ?_
     refine zdst [0, 1, 2, 3, 4, 5, 6] [0, 1, 2, 3, 4, 5, 6] 1000 mx_ hS ?_; clear hS; intro w hS
     refine zdv 0 (fun _ => xmv) ?_
     refine zdv 1 (fun _ => xmv) ?_
     have haj := hlni.2 j j0 (by omega)
     have hfaj := hfa3 j j0 (by omega)
     have hfmj := hfm3 j j0 (by omega)
     have hMj := hMr2 j j0 (by omega)
     have hdj := dnn9 hplo.1 j0 (by omega : j < p.m)
     rw [if_neg (by omega)] at hfaj hfmj
     refine zdv 2 (fun _ => (xix (kk := j) sl_22 hv2)) ?_
     refine zdla 3 (fun w hS => (xlr (u := .int .i64 (fa3 j)) pl_3 (hS.rowN 6 rfl))) ?_
     refine zdv 4 (fun _ => xmv) ?_
     refine zdv 5 (fun _ => xmv) ?_
     refine zdv 6 (fun _ => (xix (kk := j) sl_22 hvdmd1)) ?_
     refine zdla 7 (fun w hS => (xlr (u := .int .i64 (fm3 j)) pl_3 (hS.rowN 1 rfl))) ?_
     refine zdv 8 (fun _ => (xfb 1 fd_24_1)) ?_
     refine zdla 9 (fun w hS => (xlb 0 pl_22 hS)) ?_
     refine zdv 10 (fun _ => xmv) ?_
     refine zdv 11 (fun _ => (xix (kk := j) sl_22 h.D.slh)) ?_
     refine zdla 12 (fun w hS => (xlr (u := .int .i64 (p.D j)) pl_3 (h.D.below hS.below))) ?_
     have hbv := h.iD j
     refine zdv 13 (fun _ => (xsub (r := fm3 j - p.D j))) ?_
     refine zdv 14 (fun _ => (xmin (r := (min (fa3 j) (fm3 j - p.D j))))) ?_
     refine zdv 15 (fun _ => xas) ?_
     refine zdd <| ztn <| zsr ?_
     refine zs2 ?_
     refine zlv (xix (kk := j) sl_22 hv2) ?_
     refine zlv (xlr (u := .int .i64 (fa3 j)) pl_3 (hS.rowN 6 rfl)) ?_
     refine zlv xmv ?_
     refine zlv (xsub (r := fa3 j - (min (fa3 j) (fm3 j - p.D j)))) ?_
     refine zlv (xix (kk := j) sl_22 hv2) ?_
     refine zle (xso 6 pl_3 hS (upd_ints _ _ _)) ?_; clear hS; rintro w hS
     replace hS := hS.n7
     refine zlz ?_
     refine zs2 ?_
     refine zlv (xix (kk := j) sl_22 hvdmd1) ?_
     refine zlv (xlr (u := .int .i64 (fm3 j)) pl_3 (hS.rowN 1 rfl)) ?_
     refine zlv xmv ?_
     refine zlv (xsub (r := fm3 j - (min (fa3 j) (fm3 j - p.D j)))) ?_
     refine zlv (xix (kk := j) sl_22 hvdmd1) ?_
     refine zle (xso 1 pl_3 hS (upd_ints _ _ _)) ?_; clear hS; rintro w hS
     replace hS := hS.n7
     refine zlt <| zrg ?_
     refine zs2 ?_
     refine zlb 92 ?_ ?_ <;> intro hc
     ·
      iterate 5 refine zlo ?_
      refine zs2 ?_
      refine zln <| zbn <| ztn <| zrg ?_
      refine zlv xmv ?_
      refine zlv (xadd (r := j + 1)) ?_
      refine zlv xas ?_
      refine zln <| zlq ⟨True, (upd fa3 j (fa3 j - (min (fa3 j) (fm3 j - p.D j)))), (upd fm3 j (fm3 j - (min (fa3 j) (fm3 j - p.D j)))), j + 1, rfl, (by omega), (by omega), ?_, ?_, ?_, rfl, hS⟩ (hM := by repeat' first | exact zpk0 | refine zpk rfl ?_ | refine zpk (congrArg some (B_false not_false).symm) ?_ | refine zpk (congrArg some (B_true trivial).symm) ?_)
      ·
       intro k k0 k1; unfold upd; by_cases e : k = j
       · rw [if_pos e, if_pos (by omega), e]; omega
       · rw [if_neg e, hfa3 k k0 k1]; by_cases e2 : k < j
         · rw [if_pos e2, if_pos (by omega)]
         · rw [if_neg e2, if_neg (by omega)]
      ·
       intro k k0 k1; unfold upd; by_cases e : k = j
       · rw [if_pos e, if_pos (by omega), e]; omega
       · rw [if_neg e, hfm3 k k0 k1]; by_cases e2 : k < j
         · rw [if_pos e2, if_pos (by omega)]
         · rw [if_neg e2, if_neg (by omega)]
      ·
       refine any_next j0 hany (fun q hq => by unfold upd; rw [if_neg (by omega)]) ?_
       first
       | exact ⟨fun _ => .inl ‹any›, fun _ => trivial⟩
       | exact ⟨fun h9 => .inr h9, fun h9 => h9.elim (fun h8 => absurd h8 ‹¬ any›) id⟩
     refine zs2 ?_
     refine zlv (xix (kk := j) sl_22 hv2) ?_
     refine zlv (xlr (u := .int .i64 ((upd fa3 j (fa3 j - (min (fa3 j) (fm3 j - p.D j)))) j)) pl_3 (hS.rowN 6 rfl)) ?_
     refine zs3 ?_
     refine zln <| zbn <| ztn <| zrg ?_
     refine zlv xmv ?_
     refine zlv (xadd (r := j + 1)) ?_
     refine zlv xas ?_
     refine zln <| zlq ⟨0 < (upd fa3 j (fa3 j - (min (fa3 j) (fm3 j - p.D j)))) j, (upd fa3 j (fa3 j - (min (fa3 j) (fm3 j - p.D j)))), (upd fm3 j (fm3 j - (min (fa3 j) (fm3 j - p.D j)))), j + 1, rfl, (by omega), (by omega), ?_, ?_, ?_, rfl, hS⟩
     ·
      intro k k0 k1; unfold upd; by_cases e : k = j
      · rw [if_pos e, if_pos (by omega), e]; omega
      · rw [if_neg e, hfa3 k k0 k1]; by_cases e2 : k < j
        · rw [if_pos e2, if_pos (by omega)]
        · rw [if_neg e2, if_neg (by omega)]
     ·
      intro k k0 k1; unfold upd; by_cases e : k = j
      · rw [if_pos e, if_pos (by omega), e]; omega
      · rw [if_neg e, hfm3 k k0 k1]; by_cases e2 : k < j
        · rw [if_pos e2, if_pos (by omega)]
        · rw [if_neg e2, if_neg (by omega)]
     ·
      refine any_next j0 hany (fun q hq => by unfold upd; rw [if_neg (by omega)]) ?_
      first
      | exact ⟨fun _ => .inl ‹any›, fun _ => trivial⟩
      | exact ⟨fun h9 => .inr h9, fun h9 => h9.elim (fun h8 => absurd h8 ‹¬ any›) id⟩
    refine zxt <| ztx <| ztx <| zbh <| ztn <| zsr ?_
    refine zlv xmv ?_
    refine zlt ?_
    refine zcif ?_ ?_ <;> intro hc
    ·
     refine zrg ?_
     refine zs2 ?_
     refine zlv (xany (v := .agg #[v2, .int .i64 1]) (hr := by obtain ⟨_, _, _, _, rfl, _⟩ := hv2; kernel_rfl)) ?_
     refine zla (xli (n := 1) (len := 1) (pv := [(0, .agg #[v2, .int .i64 1])]) (cs := [v2, .int .i64 1]) (c := ucells (fun _ => v2) (fun _ => 1)) sl_25 el_34 hS (hf := by obtain ⟨_, _, _, _, rfl, _⟩ := hv2; kernel_rfl)) ?_; rintro v3 w ⟨hS, hv3⟩
     replace hS := hS.n8
     refine zla (xap 4 (r := nO2 + 1) sl_25 el_34 hS (hS.rowN 7 rfl) (cat_ucells _ _ _ _ _) (h1 := fun k _ _ => ucells_one (fun _ => hv2.one) k)) ?_; rintro v4 w ⟨hS, hv4⟩
     replace hS := hS.n8
     replace hS := Sat.merge (l1 := [_, _, _, _, _]) (l2 := []) (l3 := [_]) hS (by omega)
     have hrs3 := fun k (k0 : 0 ≤ k) (k1 : k < nO2 + 1) => hS.slhIn 5 rfl k0 k1
     replace hS := hS.n7
     refine zlv xas ?_
     refine zln <| zbn <| ztn <| zrg ?_
     refine zlv xmv ?_
     refine zlv (xadd (r := n + 1)) ?_
     refine zlv xas ?_
     refine zln <| zlq ⟨nO2 + 1, gsn wO2 nO2 v2, gsn lO2 nO2 (lnn1 i), gsn gO2 nO2 fa3, (snoc cO2 nO2 1), fm3, n + 1, v4, rfl, (by omega), (by omega), ?_, ?_, ?_, ?_, ?_, ?_, rfl, hS.pk [0, 1, 2, 3, 4, 5]⟩
     ·
      rw [rep_next _ _ n0, List.length_append]; simp only [List.length_singleton]; push_cast; omega
     ·
      rw [rep_next _ _ n0]
      first
      | exact tr_yes hT2 hnO2.1 hlni.1 (fun k k0 k1 => by have h9 := hfm3 k k0 k1; have h8 := hfa3 k k0 k1; have h7 := (hfit i (by omega) (by omega)).2 k k0 k1; have h6 := hMr2 k k0 k1; rw [if_pos (by omega)] at h9 h8; omega) (fun k k0 k1 => by have h9 := hfm3 k k0 k1; have h8 := hfa3 k k0 k1; have h7 := (hfit i (by omega) (by omega)).2 k k0 k1; have h6 := hMr2 k k0 k1; rw [if_pos (by omega)] at h9 h8; omega) (by first | exact hany.1 ‹any› | (obtain ⟨q, q0, q1, q2⟩ := hany.1 ‹any›; exact ⟨q, q0, by omega, q2⟩))
      | exact tr_no hT2 hlni.1 (fun k k0 k1 => by have h9 := hfm3 k k0 k1; have h8 := hfa3 k k0 k1; have h7 := (hfit i (by omega) (by omega)).2 k k0 k1; have h6 := hMr2 k k0 k1; rw [if_pos (by omega)] at h9 h8; omega) (fun k k0 k1 => by have h9 := hfm3 k k0 k1; have h8 := hfa3 k k0 k1; have h7 := (hfit i (by omega) (by omega)).2 k k0 k1; have h6 := hMr2 k k0 k1; rw [if_pos (by omega)] at h9 h8; omega) (fun ⟨q, q0, q1, q2⟩ => absurd (hany.2 ⟨q, q0, by omega, q2⟩) ‹¬ any›)
     ·
      exact fun k k0 k1 => by have h9 := hfm3 k k0 k1; have h8 := hfa3 k k0 k1; have h7 := (hfit i (by omega) (by omega)).2 k k0 k1; have h6 := hMr2 k k0 k1; rw [if_pos (by omega)] at h9 h8; omega
     ·
      first | exact hlO2 | (intro k k0 k1; by_cases e : k < nO2; (rw [gsn_lt e, snoc_lt e]; exact hlO2 k k0 e); (rw [gsn_at e, snoc_at e]; exact ⟨by omega, rfl⟩))
     ·
      first | exact hone2 | exact gsn_one hone2 ‹Slh _ _›.one
     ·
      exact hv4
    refine zsk <| zbn <| ztn <| zrg ?_
    refine zlv xmv ?_
    refine zlv (xadd (r := n + 1)) ?_
    refine zlv xas ?_
    refine zln <| zlq ⟨nO2, wO2, lO2, gO2, cO2, fm3, n + 1, xO2, rfl, (by omega), (by omega), ?_, ?_, ?_, ?_, ?_, ?_, rfl, hS.pk [0, 1, 2, 3, 4, 5]⟩
    ·
     rw [rep_next _ _ n0, List.length_append]; simp only [List.length_singleton]; push_cast; omega
    ·
     rw [rep_next _ _ n0]
     first
     | exact tr_yes hT2 hnO2.1 hlni.1 (fun k k0 k1 => by have h9 := hfm3 k k0 k1; have h8 := hfa3 k k0 k1; have h7 := (hfit i (by omega) (by omega)).2 k k0 k1; have h6 := hMr2 k k0 k1; rw [if_pos (by omega)] at h9 h8; omega) (fun k k0 k1 => by have h9 := hfm3 k k0 k1; have h8 := hfa3 k k0 k1; have h7 := (hfit i (by omega) (by omega)).2 k k0 k1; have h6 := hMr2 k k0 k1; rw [if_pos (by omega)] at h9 h8; omega) (by first | exact hany.1 ‹any› | (obtain ⟨q, q0, q1, q2⟩ := hany.1 ‹any›; exact ⟨q, q0, by omega, q2⟩))
     | exact tr_no hT2 hlni.1 (fun k k0 k1 => by have h9 := hfm3 k k0 k1; have h8 := hfa3 k k0 k1; have h7 := (hfit i (by omega) (by omega)).2 k k0 k1; have h6 := hMr2 k k0 k1; rw [if_pos (by omega)] at h9 h8; omega) (fun k k0 k1 => by have h9 := hfm3 k k0 k1; have h8 := hfa3 k k0 k1; have h7 := (hfit i (by omega) (by omega)).2 k k0 k1; have h6 := hMr2 k k0 k1; rw [if_pos (by omega)] at h9 h8; omega) (fun ⟨q, q0, q1, q2⟩ => absurd (hany.2 ⟨q, q0, by omega, q2⟩) ‹¬ any›)
    ·
     exact fun k k0 k1 => by have h9 := hfm3 k k0 k1; have h8 := hfa3 k k0 k1; have h7 := (hfit i (by omega) (by omega)).2 k k0 k1; have h6 := hMr2 k k0 k1; rw [if_pos (by omega)] at h9 h8; omega
    ·
     first | exact hlO2 | (intro k k0 k1; by_cases e : k < nO2; (rw [gsn_lt e, snoc_lt e]; exact hlO2 k k0 e); (rw [gsn_at e, snoc_at e]; exact ⟨by omega, rfl⟩))
    ·
     first | exact hone2 | exact gsn_one hone2 ‹Slh _ _›.one
    ·
     exact hxO2
   refine zxt <| ztx <| ztx <| zbh <| zbn <| ztn <| zrg ?_
   refine zlv xmv ?_
   refine zlv (xsub (r := i - 1)) ?_
   refine zlv xas ?_
   refine zln <| zlq ⟨nO2, wO2, lO2, gO2, cO2, fM2, i - 1, xO2, rfl, (by omega), (by omega), ?_, ?_, ?_, ?_, ?_, ?_, rfl, hS⟩
   ·
    rw [dwn_next (by omega), brsOf_snoc, show cnn1 i = n by omega]; exact hnO2
   ·
    rw [dwn_next (by omega), brsOf_snoc, show cnn1 i = n by omega]; exact hT2
   ·
    exact hMr2
   ·
    exact hlO2
   ·
    exact hone2
   ·
    exact hxO2
  refine zxt <| ztx <| ztx <| zbh <| ztn <| zsr ?_
  refine zlv xmv ?_
  have hlen9 : nO ≤ 1000000 := by
    have h9 := brs_len (ln := lnn1) (pt := gnn1) (u := nnn1) (cnt := cnn1) hn0n1 (fun k k0 k1 => by have := hncn1 k k0 k1; omega) (nnn1 - 1 - i).toNat (by omega)
    unfold dwn at hnO
    have h8 := psum_mono (d := cnn1) (f := fun _ => 1) (i := 0) (n := (nnn1 - ((nnn1 - 1 - i).toNat : Int)).toNat) (by omega) (fun k hk => by have := hncn1 k (by omega) (by omega); omega)
    simp only [psum] at h8
    omega
  refine zlc (xc0 cl_33) (c_rnorm (u := nO) (pv := wO) (ln := lO) (pt := gO) (cnt := cO) w (⟨(hS.rowN 4 rfl), fun k k0 k1 => hS.rowIn 5 rfl k0 k1, fun k k0 k1 => hS.roomIn 5 rfl k0 k1⟩ : VAt _ xO nO wO lO gO cO) (by omega) (fun k k0 k1 => by have h9 := (hlO k k0 k1).1; omega) (fun k k0 k1 => by have h9 := (hlO k k0 k1).2; omega)) ?_; rintro vnn2 w ⟨_, nnn2, pnn2, lnn2, gnn2, cnn2, rfl, hnrn2, hn0n2, hn1n2, hncn2, hvnn2, hS'⟩
  replace hS : Sat w0 w [.blk g1 [vL, vD, .int .i64 p.stock, .int .i64 p.kerf], .own vdmd1 1 3 ndmd1 (ints fM), .own vnn1 2 34 nnn1 (ucells pnn1 cnn1), .sem (Frame.rows 3 nnn1 pnn1 lnn1 gnn1), .own xO 2 34 nO (ucells wO cO), .sem (Frame.rows 3 nO wO lO gO), .own vnn2 2 34 nnn2 (ucells pnn2 cnn2), .sem (Frame.rows 3 nnn2 pnn2 lnn2 gnn2)] := hS.comp hS'; clear hS'
  have hrnn2 := fun k (k0 : 0 ≤ k) (k1 : k < nnn2) => hS.slhIn 7 rfl k0 k1
  refine zs2 ?_
  refine zlt <| zrt <| zf2 ⟨_, rfl, ?_⟩
  rw [show i = -1 by omega, brsOf_plL _ _ _ hn0n1] at hT
  have hTR : NormR (tRun (lst p.m fun j => madeF u pt cnt j - p.D j) (brsU (plL nnn1 lnn1 gnn1 cnn1))).2 (plL nnn2 lnn2 gnn2 cnn2) := by
    rw [← hT]; exact hnrn2
  exact ⟨_, _, _, _, _, _, 0, rfl, .inr (.inr ⟨hplo, hmeet, rfl, _, hnrn1, hTR⟩), fun k k0 k1 => by have := hncn2 k k0 k1; omega, by omega, hvnn2, hS.pk [6, 7]⟩
end Go.Proofs.Ytopmifmfecfaaaa
namespace Go.Proofs.Ytopmifmfecfaaaa
open Go Go.RowKit Go.Proofs.Gw
theorem cl_53 : calledT Try.prog 53 = true := by kernel_rfl
theorem used_le1 {p : Prob} (hok : p.Ok) {f : Int → Int} (h0 : ∀ j, 0 ≤ j → j < p.m → 0 ≤ f j) (hu : Used p f p.m.toNat ≤ p.stock + p.kerf) : ∀ j, 0 ≤ j → j < p.m → 0 ≤ f j ∧ f j ≤ 2000 := fun j j0 j1 => by
  have h1 := sumTo_one (f := fun i => f i * (p.L i + p.kerf)) (n := p.m.toNat) j0 (by omega) fun i i0 i1 => by
    have he := hok.all i i0 (by omega)
    unfold Prob.each at he
    have hk := hok.k1
    exact Int.mul_nonneg (h0 i i0 (by omega)) (by omega)
  have h2 : f j * (p.L j + p.kerf) ≤ p.stock + p.kerf := Int.le_trans h1 hu
  have he := hok.all j j0 j1
  unfold Prob.each at he
  have hk := hok.k1; have hs := hok.s2
  refine ⟨h0 j j0 j1, ?_⟩
  by_cases hx : f j ≤ 2000
  · exact hx
  · exfalso
    have h3 := Int.mul_le_mul_of_nonneg_left (show 1 + p.kerf ≤ p.L j + p.kerf by omega) (h0 j j0 j1)
    have h4 := Int.mul_le_mul_of_nonneg_right (show 1 ≤ f j by omega) hk
    have h5 : f j * (1 + p.kerf) = f j + f j * p.kerf := by rw [Int.mul_add, Int.mul_one]
    omega
theorem fits_of_used {p : Prob} (hok : p.Ok) {f : Int → Int} (h0 : ∀ j, 0 ≤ j → j < p.m → 0 ≤ f j) (hu : Used p f p.m.toNat ≤ p.stock + p.kerf) : FitsP p p.m f := ⟨hok, rfl, used_le1 hok h0 hu, hu⟩
theorem used_incr {p : Prob} {f g : Int → Int} {x : Int} (x0 : 0 ≤ x) : ∀ n : Nat, (∀ b, 0 ≤ b → b < (n : Int) → g b = if b = x then f b + 1 else f b) → Used p g n = Used p f n + if x < (n : Int) then szP p x else 0
  | 0, _ => by rw [if_neg (by omega)]; rfl
  | n + 1, h => by
    have ih := used_incr (p := p) (f := f) (g := g) x0 n fun b b0 b1 => h b b0 (by omega)
    have h1 : Used p g (n + 1) = Used p g n + g n * (p.L n + p.kerf) := by
      have := sumTo_next (fun i => g i * (p.L i + p.kerf)) (i := (n : Int)) (by omega)
      rw [show ((n : Int) + 1).toNat = n + 1 by omega, Int.toNat_natCast] at this; exact this
    have h2 : Used p f (n + 1) = Used p f n + f n * (p.L n + p.kerf) := by
      have := sumTo_next (fun i => f i * (p.L i + p.kerf)) (i := (n : Int)) (by omega)
      rw [show ((n : Int) + 1).toNat = n + 1 by omega, Int.toNat_natCast] at this; exact this
    rw [h1, h2, ih, h n (by omega) (by omega)]
    by_cases e : (n : Int) = x
    · rw [if_pos e, if_neg (by omega), if_pos (by omega), Int.add_mul, Int.one_mul, e]; unfold szP; omega
    · rw [if_neg e]
      by_cases e2 : x < (n : Int)
      · rw [if_pos e2, if_pos (by omega)]; omega
      · rw [if_neg e2, if_neg (by omega)]; omega
theorem used_cong {p : Prob} {f g : Int → Int} {n : Nat} (h : ∀ b, 0 ≤ b → b < (n : Int) → g b = f b) : Used p g n = Used p f n := sumTo_congr fun b b0 b1 => by rw [h b b0 b1]
abbrev LftP (p : Prob) (g : Int → Int → Int) : Int → Int := fun k => p.stock + p.kerf - Used p (g k) p.m.toNat
theorem upd2 {g g3 : Int → Int → Int} {n m r x : Int} (hg : ∀ k, 0 ≤ k → k < n → ∀ j, 0 ≤ j → j < m → g3 k j = g k j) (r0 : 0 ≤ r) (r1 : r < n) (x0 : 0 ≤ x) (x1 : x < m) : ∀ a, 0 ≤ a → a < n → ∀ b, 0 ≤ b → b < m → upd g3 r (upd (g3 r) x (g3 r x + 1)) a b = if a = r ∧ b = x then g a b + 1 else g a b := fun a a0 a1 b b0 b1 => by
  unfold upd
  by_cases e : a = r
  · subst e
    rw [if_pos rfl]
    by_cases e2 : b = x
    · subst e2; rw [if_pos rfl, if_pos ⟨rfl, rfl⟩, hg a a0 a1 b b0 b1]
    · rw [if_neg e2, if_neg (fun h => e2 h.2), hg a a0 a1 b b0 b1]
  · rw [if_neg e, if_neg (fun h => e h.1), hg a a0 a1 b b0 b1]
theorem upd3 {g g3 : Int → Int → Int} {n m r x y : Int} (hg : ∀ k, 0 ≤ k → k < n → ∀ j, 0 ≤ j → j < m → g3 k j = g k j) (hy : y = g3 r x) : ∀ k, 0 ≤ k → k < n → ∀ j, 0 ≤ j → j < m → upd (upd g3 r (upd (g3 r) x (g3 r x + 1))) r (upd (upd g3 r (upd (g3 r) x (g3 r x + 1)) r) x y) k j = g k j := fun k k0 k1 j j0 j1 => by
  subst hy
  rw [← hg k k0 k1 j j0 j1]
  unfold upd
  by_cases e : k = r
  · subst e
    rw [if_pos rfl, if_pos rfl]
    by_cases e2 : j = x
    · subst e2; rw [if_pos rfl]
    · rw [if_neg e2, if_neg e2]
  · rw [if_neg e, if_neg e]
theorem fits_iff {p : Prob} (hok : p.Ok) {g g4 : Int → Int → Int} {n r x l : Int} (hl : l = p.m) (h0 : ∀ k, 0 ≤ k → k < n → ∀ j, 0 ≤ j → j < p.m → 0 ≤ g k j) (r0 : 0 ≤ r) (r1 : r < n) (x0 : 0 ≤ x) (x1 : x < p.m) (h4 : ∀ a, 0 ≤ a → a < n → ∀ b, 0 ≤ b → b < p.m → g4 a b = if a = r ∧ b = x then g a b + 1 else g a b) : FitsP p l (g4 r) ↔ szP p x ≤ LftP p g r := by
  subst hl
  have hm := hok.m1
  have hu := used_incr (p := p) (f := g r) (g := g4 r) x0 p.m.toNat fun b b0 b1 => by
    rw [h4 r r0 r1 b b0 (by omega)]
    by_cases e : b = x
    · rw [if_pos ⟨rfl, e⟩, if_pos e]
    · rw [if_neg (fun h => e h.2), if_neg e]
  rw [if_pos (by omega)] at hu
  unfold LftP
  constructor
  · intro h; have := h.used; omega
  · intro h
    refine fits_of_used hok (fun j j0 j1 => ?_) (by omega)
    rw [h4 r r0 r1 j j0 j1]
    have := h0 r r0 r1 j j0 j1
    split <;> omega
theorem ffr_at {p : Prob} (hok : p.Ok) {g g4 : Int → Int → Int} {n r x : Int} {hist : List Int} (hF : plL n (fun _ => p.m) g (LftP p g) = ffRun p.m (p.stock + p.kerf) (szP p) hist) (n0 : 0 ≤ n) (r0 : 0 ≤ r) (r1 : r < n) (x0 : 0 ≤ x) (x1 : x < p.m) (h4 : ∀ a, 0 ≤ a → a < n → ∀ b, 0 ≤ b → b < p.m → g4 a b = if a = r ∧ b = x then g a b + 1 else g a b) (hs : szP p x ≤ LftP p g r) (hno : ∀ k, 0 ≤ k → k < r → ¬ szP p x ≤ LftP p g k) :
    plL n (fun _ => p.m) g4 (LftP p g4) = ffRun p.m (p.stock + p.kerf) (szP p) (hist ++ [x]) := by
  have hm := hok.m1
  rw [ffRun_snoc, ← hF]
  refine ff_at n0 x0 r0 r1 hs (fun j j0 j1 => by have := hno j j0 j1; omega) h4 fun a a0 a1 => ?_
  unfold LftP
  by_cases e : a = r
  · subst e
    have hu := used_incr (p := p) (f := g a) (g := g4 a) x0 p.m.toNat fun b b0 b1 => by
      rw [h4 a a0 a1 b b0 (by omega)]
      by_cases e : b = x
      · rw [if_pos ⟨rfl, e⟩, if_pos e]
      · rw [if_neg (fun h => e h.2), if_neg e]
    rw [if_pos (by omega)] at hu
    rw [if_pos rfl, hu]; omega
  · rw [if_neg e, used_cong (p := p) (f := g a) (g := g4 a) fun b b0 b1 => by rw [h4 a a0 a1 b b0 (by omega), if_neg fun h => e h.1]]
theorem ffr_new {p : Prob} (hok : p.Ok) {g g3 : Int → Int → Int} {n x : Int} {hist : List Int} (hF : plL n (fun _ => p.m) g (LftP p g) = ffRun p.m (p.stock + p.kerf) (szP p) hist) (n0 : 0 ≤ n) (x0 : 0 ≤ x) (x1 : x < p.m) (hg : ∀ k, 0 ≤ k → k < n → ∀ j, 0 ≤ j → j < p.m → g3 k j = g k j) (hno : ∀ k, 0 ≤ k → k < n → ¬ szP p x ≤ LftP p g k) :
    plL (n + 1) (fun _ => p.m) (gsn g3 n (upd (fun _ => 0) x 1)) (LftP p (gsn g3 n (upd (fun _ => 0) x 1))) = ffRun p.m (p.stock + p.kerf) (szP p) (hist ++ [x]) := by
  have hm := hok.m1
  rw [ffRun_snoc, ← hF]
  refine ff_new n0 x0 (fun j j0 j1 => by have := hno j j0 j1; omega) (fun a a0 a1 b b0 b1 => by rw [gsn_lt a1]; exact hg a a0 a1 b b0 b1) (fun b b0 b1 => by rw [gsn_at (by omega)]; rfl) (fun a a0 a1 => ?_) ?_
  · unfold LftP
    rw [gsn_lt a1, used_cong (p := p) (f := g a) (g := g3 a) fun b b0 b1 => hg a a0 a1 b b0 (by omega)]
  · unfold LftP
    have hu := used_incr (p := p) (f := fun _ => 0) (g := upd (fun _ => (0 : Int)) x 1) x0 p.m.toNat fun b b0 b1 => by
      unfold upd
      by_cases e : b = x
      · rw [if_pos e, if_pos e]; rfl
      · rw [if_neg e, if_neg e]
    have hz : Used p (fun _ => 0) p.m.toNat = 0 := by
      unfold Used
      have : ∀ n : Nat, sumTo (fun i => 0 * (p.L i + p.kerf)) n = 0 := fun n => by
        induction n with
        | zero => rfl
        | succ n ih => simp only [sumTo] at ih ⊢; rw [ih]; omega
      exact this _
    rw [if_pos (by omega)] at hu
    rw [gsn_at (by omega), hu, hz]; omega
theorem ffr_rng {p : Prob} (hok : p.Ok) {v : Value} {n i c : Int} {g : Int → Int → Int} (hv : Slh v n) (hF : plL n (fun _ => p.m) g (LftP p g) = ffRun p.m (p.stock + p.kerf) (szP p) (pcsTo p.D i c)) (i0 : 0 ≤ i) (i1 : i ≤ p.m) (c0 : 0 ≤ c) (c1 : i < p.m → c ≤ p.D i) (c2 : i = p.m → c = 0) (ht : psum (fun _ => 1) p.D p.m.toNat ≤ 1000) :
    n ≤ 1000 ∧ ∀ k, 0 ≤ k → k < n → ∀ j, 0 ≤ j → j < p.m → 0 ≤ g k j ∧ g k j ≤ 2100 := by
  obtain ⟨h1, h2⟩ := pcsTo_ok (d := p.D) (fun k k0 k1 => (dnn9 hok k0 k1).1) i0 i1 c0 c1 c2
  have h3 : FInv p ⟨pcsTo p.D i c, v, n, fun _ => undef, g, v, LftP p g⟩ := ⟨hF, hv, hv⟩
  obtain ⟨h4, h5⟩ := h3.rng hok h1 (by show ((pcsTo p.D i c).length : Int) ≤ 1000; omega)
  have hs := hok.s2; have hk := hok.k2
  exact ⟨h4, fun k k0 k1 j j0 j1 => by have := (h5 k k0 k1).2 j j0 j1; dsimp only at this; omega⟩
set_option maxRecDepth 20000 in
theorem c_many {vL vD : Value} {p : Prob} (w0 : World) (h : PAt w0 vL vD p) (hok : p.Ok) :
    Calls Try.prog 53 [.agg #[vL, vD, .int .i64 p.stock, .int .i64 p.kerf]].toArray w0 fun e w => ∃ v, e = .returned v ∧ v = B (1000 < psum (fun _ => 1) p.D p.m.toNat) ∧ Sat w0 w [] := by
  have hm := h.L.slh.n0; have hm1 := h.L.slh.n1; have hd := h.D.slh.n0; have hd1 := h.D.slh.n1; have hs := h.is; have hk := h.ik
  have hpd := hok.d; have hpm2 := hok.m2
  refine zenG Try.func53 Try.ntmps53 fun w hS => ?_
  refine zsr ?_
  refine zla (xbx (cs := [_, _, _, _]) hS) ?_; rintro _ w ⟨g1, rfl, hS⟩
  replace hS := hS.n1
  refine zlv xas ?_
  refine zlz ?_
  refine zlv xas ?_
  refine zlt <| zsq <| zsr ?_
  refine zlv xas ?_
  refine zlt <| zbk <| zlp (fun mm M w => ∃ (s : Int) (i : Int), mm = ((p.d - i).toNat) ∧ (0 ≤ i) ∧ (i ≤ p.d) ∧ (s = psum (fun _ => 1) p.D i.toNat) ∧ (0 ≤ s ∧ s ≤ 1000000 * i) ∧ M = [(1, .pointer (some ⟨g1, 0, none⟩)), (2, .bool false), (3, .int .i64 s), (4, .int .i64 i)] ∧ Sat w0 w [.blk g1 [vL, vD, .int .i64 p.stock, .int .i64 p.kerf]]) ⟨0, 0, rfl, (by omega), (by omega), ?_, (by omega), rfl, hS⟩ ?_
  ·
   rfl
  clear hS w
  rintro mm M w ⟨s, i, rfl, h0, h1, hs9, hsb, rfl, hS⟩
  refine zsq <| zsr ?_
  refine zlv xmv ?_
  refine zlv (xfb 1 fd_24_1) ?_
  refine zlv (xlb 0 pl_22 hS) ?_
  refine zlv (xln sl_22 h.D.slh) ?_
  refine zlv xlss ?_
  refine zlt ?_
  refine zcif ?_ ?_ <;> intro hc
  ·
   refine zsk <| ztn <| zsq <| zbk <| zrg ?_
   refine zlv xmv ?_
   refine zlv (xfb 1 fd_24_1) ?_
   refine zlv (xlb 0 pl_22 hS) ?_
   refine zlv xmv ?_
   refine zlv (xix (kk := i) sl_22 h.D.slh) ?_
   refine zlv (xlr (u := .int .i64 (p.D i)) pl_3 (h.D.below hS.below)) ?_
   have hbv := h.iD i
   have he := hok.all i h0 (by omega); unfold Prob.each at he
   refine zlv (xadd (r := s + p.D i)) ?_
   refine zlv xas ?_
   refine zln <| zbn <| ztn <| zrg ?_
   refine zlv xmv ?_
   refine zlv (xadd (r := i + 1)) ?_
   refine zlv xas ?_
   refine zln <| zlq ⟨s + p.D i, i + 1, rfl, (by omega), (by omega), ?_, (by omega), rfl, hS⟩
   ·
    rw [psum_next _ _ h0, ← hs9]; omega
  refine zxt <| ztx <| ztx <| zbh <| ztn <| zsr ?_
  refine zs3 ?_
  refine zlt <| zrt <| zf1 ⟨_, rfl, ?_⟩
  have hiN : i = p.m := by omega
  rw [hiN] at hs9
  rw [← hs9]
  exact ⟨rfl, hS.nl⟩
set_option maxHeartbeats 4000000 in
set_option maxRecDepth 20000 in
theorem c_rffit {vL vD : Value} {p : Prob} (w0 : World) (h : PAt w0 vL vD p) :
    Calls Try.prog 56 [.agg #[vL, vD, .int .i64 p.stock, .int .i64 p.kerf]].toArray w0 fun e w => ∃ v, e = .returned v ∧ ∃ r n pv ln pt cnt e, v = .tuple #[r, .int .i64 e] ∧ FFitR p (plL n ln pt cnt) e ∧ (∀ k, 0 ≤ k → k < n → 1 ≤ cnt k ∧ cnt k ≤ 1000000) ∧ n ≤ 1000 ∧ Slh r n ∧ Sat w0 w [.own r 2 34 n (ucells pv cnt), .sem (Frame.rows 3 n pv ln pt)] := by
  have hm := h.L.slh.n0; have hm1 := h.L.slh.n1; have hd := h.D.slh.n0; have hd1 := h.D.slh.n1; have hs := h.is; have hk := h.ik
  refine zenG Try.func56 Try.ntmps56 fun w hS => ?_
  refine zsr ?_
  refine zla (xbx (cs := [_, _, _, _]) hS) ?_; rintro _ w ⟨g1, rfl, hS⟩
  replace hS := hS.n1
  refine zs2 ?_
  refine zlt <| zsq <| zbk <| zsr ?_
  refine zlv (xls 0 st_24 hS) ?_
  refine zlc (xc0 cl_10) (c_rvalid28 (p := p) w (h.below hS.below)) ?_; rintro _ w ⟨rfl, hS'⟩
  replace hS := hS.cmp hS'; clear hS'
  refine zs2 ?_
  refine zlt ?_
  refine zcif ?_ ?_ <;> intro hc
  ·
   refine zsr ?_
   refine zs2 ?_
   refine zlt <| zrt <| zbr <| ztr <| zf2 ⟨_, rfl, ?_⟩
   exact ⟨_, 0, fun _ => undef, fun _ => 0, fun _ _ => 0, fun _ => 0, _, rfl, ⟨.inl ⟨‹¬ p.Ok›, rfl⟩, fun h => by omega, fun _ => rfl⟩, fun k k0 k1 => by omega, by omega, slh_nil, ((hS.sub (.cons _ .slnil)).addnil 2 34 (ucells (fun _ => undef) (fun _ => 0))).addrows 3 (fun _ => undef) (fun _ => 0) (fun _ _ => 0)⟩
  refine zsr ?_
  refine zlv (xls 0 st_24 hS) ?_
  have hok9 : p.Ok := by first | assumption | exact Classical.not_not.1 ‹_›
  refine zlc (xc0 cl_53) (c_many (p := p) w (h.below hS.below) hok9) ?_; rintro _ w ⟨rfl, hS'⟩
  replace hS := hS.cmp hS'; clear hS'
  refine zlv xas ?_
  refine zlt ?_
  refine zcif ?_ ?_ <;> intro hc
  ·
   refine zsr ?_
   refine zs2 ?_
   refine zlt <| zrt <| zbr <| ztr <| zf2 ⟨_, rfl, ?_⟩
   exact ⟨_, 0, fun _ => undef, fun _ => 0, fun _ _ => 0, fun _ => 0, _, rfl, ⟨.inr (.inl ⟨hok9, by omega, rfl⟩), fun h => by omega, fun _ => rfl⟩, fun k k0 k1 => by omega, by omega, slh_nil, ((hS.sub (.cons _ .slnil)).addnil 2 34 (ucells (fun _ => undef) (fun _ => 0))).addrows 3 (fun _ => undef) (fun _ => 0) (fun _ _ => 0)⟩
  refine zsk <| zbn <| ztn <| zsr ?_
  refine zlv xas ?_
  refine zlt <| zsq <| zsr ?_
  refine zlv xas ?_
  refine zlt <| zbk ?_
  have hpm1 := hok9.m1; have hpm2 := hok9.m2; have hpd := hok9.d; have hs1 := hok9.s1; have hs2 := hok9.s2; have hk1 := hok9.k1; have hk2 := hok9.k2
  have htot : psum (fun _ => 1) p.D p.m.toNat ≤ 1000 := by omega
  replace hS := hS.addnil 2 34 (ucells (fun _ => Value.slice none 0 0) (fun _ => 0))
  replace hS := hS.n2
  replace hS := hS.addrows 3 (fun _ => Value.slice none 0 0) (fun _ => 0) (fun _ _ => 0)
  replace hS := hS.n3
  replace hS := hS.n3
  have hrs0 := fun k (k0 : 0 ≤ k) (k1 : k < 0) => hS.slhIn 2 rfl k0 k1
  refine zlp (fun mm M w => ∃ (nB : Int) (wB : Int → Value) (lB : Int → Int) (gB : Int → Int → Int) (cB : Int → Int) (i : Int) (xB : Value), mm = ((p.m - i).toNat) ∧ (0 ≤ i) ∧ (i ≤ p.m) ∧ (0 ≤ nB) ∧ (plL nB (fun _ => p.m) gB (LftP p gB) = ffRun p.m (p.stock + p.kerf) (szP p) (pcsTo p.D i 0)) ∧ (∀ k, 0 ≤ k → k < nB → lB k = p.m ∧ cB k = 1) ∧ (∀ x, (wB x).oneCell' = true) ∧ (Slh xB nB) ∧ M = [(1, .pointer (some ⟨g1, 0, none⟩)), (2, .slice none 0 0), (3, .int .i64 0), (4, xB), (5, .int .i64 i)] ∧ Sat w0 w [.blk g1 [vL, vD, .int .i64 p.stock, .int .i64 p.kerf], .own xB 2 34 nB (ucells wB cB), .sem (Frame.rows 3 nB wB lB gB)]) ⟨0, (fun _ => Value.slice none 0 0), (fun _ => 0), (fun _ _ => 0), (fun _ => 0), 0, (.slice none 0 0), rfl, (by omega), (by omega), ?_, ?_, ?_, ?_, ?_, rfl, hS⟩ ?_
  ·
   omega
  ·
   rfl
  ·
   intro k k0 k1; omega
  ·
   intro x; rfl
  ·
   exact slh_nil
  clear hS w
  rintro mm M w ⟨nB, wB, lB, gB, cB, i, xB, rfl, h0, h1, hnB, hF, hlB, hone, hxB, rfl, hS⟩
  have hrs1 := fun k (k0 : 0 ≤ k) (k1 : k < nB) => hS.slhIn 2 rfl k0 k1
  refine zsq <| zsr ?_
  refine zlv xmv ?_
  refine zlv (xfb 0 fd_24_0) ?_
  refine zlv (xlb 0 pl_22 hS) ?_
  refine zlv (xln sl_22 h.L.slh) ?_
  refine zlv xlss ?_
  refine zlt ?_
  refine zcif ?_ ?_ <;> intro hc
  ·
   refine zsk <| ztn <| zsq <| zbk <| zsr ?_
   refine zlv xas ?_
   refine zlt <| zbk ?_
   have hdi := dnn9 hok9 h0 (by omega : i < p.m)
   refine zlp (fun mm M w => ∃ (nB2 : Int) (wB2 : Int → Value) (lB2 : Int → Int) (gB2 : Int → Int → Int) (cB2 : Int → Int) (n : Int) (xB2 : Value), mm = ((p.D i - n).toNat) ∧ (0 ≤ n) ∧ (n ≤ p.D i) ∧ (0 ≤ nB2) ∧ (plL nB2 (fun _ => p.m) gB2 (LftP p gB2) = ffRun p.m (p.stock + p.kerf) (szP p) (pcsTo p.D i n)) ∧ (∀ k, 0 ≤ k → k < nB2 → lB2 k = p.m ∧ cB2 k = 1) ∧ (∀ x, (wB2 x).oneCell' = true) ∧ (Slh xB2 nB2) ∧ M = [(1, .pointer (some ⟨g1, 0, none⟩)), (2, .slice none 0 0), (3, .int .i64 0), (4, xB2), (5, .int .i64 i), (6, .int .i64 n)] ∧ Sat w0 w [.blk g1 [vL, vD, .int .i64 p.stock, .int .i64 p.kerf], .own xB2 2 34 nB2 (ucells wB2 cB2), .sem (Frame.rows 3 nB2 wB2 lB2 gB2)]) ⟨nB, wB, lB, gB, cB, 0, xB, rfl, (by omega), (by omega), ?_, ?_, ?_, ?_, ?_, rfl, hS⟩ ?_
   ·
    exact hnB
   ·
    exact hF
   ·
    exact hlB
   ·
    exact hone
   ·
    exact hxB
   clear hS w
   rintro mm M w ⟨nB2, wB2, lB2, gB2, cB2, n, xB2, rfl, n0, n1, hnB2, hF2, hlB2, hone2, hxB2, rfl, hS⟩
   have hrs2 := fun k (k0 : 0 ≤ k) (k1 : k < nB2) => hS.slhIn 2 rfl k0 k1
   refine zsq <| zsr ?_
   refine zlv xmv ?_
   refine zlv (xfb 1 fd_24_1) ?_
   refine zlv (xlb 0 pl_22 hS) ?_
   refine zlv xmv ?_
   refine zlv (xix (kk := i) sl_22 h.D.slh) ?_
   refine zlv (xlr (u := .int .i64 (p.D i)) pl_3 (h.D.below hS.below)) ?_
   have hbv := h.iD i
   refine zlv xlss ?_
   refine zlt ?_
   refine zcif ?_ ?_ <;> intro hc
   ·
    refine zsk <| ztn <| zsq <| zbk <| zsr ?_
    refine zlv xas ?_
    refine zlt <| zsq <| zbk ?_
    obtain ⟨hnb9, hrg⟩ := ffr_rng hok9 hxB2 hF2 h0 (by omega) n0 (fun _ => by omega) (fun _ => by omega) htot
    refine zlp (fun mm M w => ∃ (g3 : Int → Int → Int) (at7 : Int), mm = ((nB2 - at7).toNat) ∧ (0 ≤ at7) ∧ (at7 ≤ nB2) ∧ (∀ k, 0 ≤ k → k < nB2 → ∀ j, 0 ≤ j → j < p.m → g3 k j = gB2 k j) ∧ (∀ k, 0 ≤ k → k < at7 → ¬ szP p i ≤ LftP p gB2 k) ∧ M = [(1, .pointer (some ⟨g1, 0, none⟩)), (2, .slice none 0 0), (3, .int .i64 0), (4, xB2), (5, .int .i64 i), (6, .int .i64 n), (7, .int .i64 at7)] ∧ Sat w0 w [.blk g1 [vL, vD, .int .i64 p.stock, .int .i64 p.kerf], .own xB2 2 34 nB2 (ucells wB2 cB2), .sem (Frame.rows 3 nB2 wB2 lB2 g3)]) ⟨gB2, 0, rfl, (by omega), (by omega), ?_, ?_, rfl, hS⟩ ?_
    ·
     exact fun _ _ _ _ _ _ => rfl
    ·
     intro k k0 k1; omega
    clear hS w
    rintro mm M w ⟨g3, at7, rfl, at0, at1, hg3, hno, rfl, hS⟩
    refine zsq <| zsr ?_
    refine zs2 ?_
    refine zlv (xln sl_25 hxB2) ?_
    refine zlv xlss ?_
    refine zlt ?_
    refine zcif ?_ ?_ <;> intro hc
    ·
     refine zsk <| ztn <| zsq <| zbk <| zsr ?_
     refine zs2 ?_
     refine zlv (xix (kk := 2 * at7) sl_25 hxB2) ?_
     refine zlv (xfc (kk := 2 * at7) fd_34_0 hxB2) ?_
     refine zlv (xlr (u := (wB2 at7)) pl_22 (hS.rowN 1 rfl) (e := (ucells0 wB2 cB2 (by omega)))) ?_
     have hl7 := (hlB2 at7 at0 (by omega)).1
     have hg7 := hg3 at7 at0 (by omega) i h0 (by omega)
     have hr7 := hrg at7 at0 (by omega) i h0 (by omega)
     have hu4 := upd2 hg3 at0 (by omega) h0 (by omega)
     have he7 := (hu4 at7 at0 (by omega) i h0 (by omega)).trans (if_pos ⟨rfl, rfl⟩)
     refine zlv xmv ?_
     refine zlv (xix (kk := i) sl_22 (hrs2 at7 (by omega) (by omega))) ?_
     refine zlv (xlr (u := .int .i64 (g3 at7 i)) pl_3 (hS.rowIn (k := at7) 2 rfl (by omega) (by omega))) ?_
     refine zlv (xadd (r := (g3 at7 i) + 1)) ?_
     refine zlv (xix (kk := i) sl_22 (hrs2 at7 (by omega) (by omega))) ?_
     refine zle (xsr 2 pl_3 hS rfl) ?_; clear hS; rintro w hS
     replace hS := hS.n3
     refine zlt <| zsq <| zsq ?_
     refine zdst [0, 1, 2] [0, 1, 2] 1000 mx_ hS ?_; clear hS; intro w hS
     refine zdla 0 (fun w hS => (xls 0 st_24 hS)) ?_
     refine zdv 1 (fun _ => xmv) ?_
     refine zdv 2 (fun _ => xmv) ?_
     refine zdv 3 (fun _ => (xix (kk := 2 * at7) sl_25 hxB2)) ?_
     refine zdv 4 (fun _ => (xfc (kk := 2 * at7) fd_34_0 hxB2)) ?_
     refine zdla 5 (fun w hS => (xlr (u := (wB2 at7)) pl_22 (hS.rowN 1 rfl) (e := (ucells0 wB2 cB2 (by omega))))) ?_
     refine zdc 6 (xc0 cl_87) (c_fits (p := p) w (h.below hS.below) (hS.rowIn (k := at7) 2 rfl (by omega) (by omega))) ?_; rintro _ w ⟨rfl, hS'⟩
     replace hS := hS.cmp hS'; clear hS'
     refine ⟨⟨fun _ => hS, hS⟩, ?_⟩
     refine zdd <| ztn ?_
     refine zcif ?_ ?_ <;> intro hc
     ·
      refine zxt <| ztx <| zbm <| ztx <| ztx <| zbh <| ztn <| zsr ?_
      refine zs2 ?_
      refine zlv (xln sl_25 hxB2) ?_
      refine zlv (xkf xeql) ?_
      refine zlt <| zcf <| zsk <| zbn <| ztn <| zrg ?_
      refine zlv xmv ?_
      refine zlv (xadd (r := n + 1)) ?_
      refine zlv xas ?_
      refine zln <| zlq ⟨nB2, wB2, lB2, upd g3 at7 (upd (g3 at7) i ((g3 at7 i) + 1)), cB2, n + 1, xB2, rfl, (by omega), (by omega), ?_, ?_, ?_, ?_, ?_, rfl, hS⟩
      ·
       omega
      ·
       rw [pcsTo_next _ n0]
       first
       | exact ffr_at hok9 hF2 hnB2 at0 (by omega) h0 (by omega) hu4 ((fits_iff hok9 (hlB2 at7 at0 (by omega)).1 (fun k k0 k1 j j0 j1 => (hrg k k0 k1 j j0 j1).1) at0 (by omega) h0 (by omega) hu4).1 ‹FitsP p _ _›) hno
       | exact ffr_new hok9 hF2 hnB2 h0 (by omega) hg3 (fun k k0 k1 => hno k k0 (by omega))
      ·
       first | exact hlB2 | (intro k k0 k1; by_cases e : k < nB2; (rw [gsn_lt e, snoc_lt e]; exact hlB2 k k0 e); (rw [gsn_at e, snoc_at e]; exact ⟨rfl, rfl⟩))
      ·
       first | exact hone2 | exact gsn_one hone2 ‹Slh _ _›.one
      ·
       exact hxB2
     refine zsk <| ztn <| zrg ?_
     refine zs2 ?_
     refine zlv (xix (kk := 2 * at7) sl_25 hxB2) ?_
     refine zlv (xfc (kk := 2 * at7) fd_34_0 hxB2) ?_
     refine zlv (xlr (u := (wB2 at7)) pl_22 (hS.rowN 1 rfl) (e := (ucells0 wB2 cB2 (by omega)))) ?_
     refine zlv xmv ?_
     refine zlv (xix (kk := i) sl_22 (hrs2 at7 (by omega) (by omega))) ?_
     refine zlv (xlr (u := .int .i64 ((upd g3 at7 (upd (g3 at7) i ((g3 at7 i) + 1))) at7 i)) pl_3 (hS.rowIn (k := at7) 2 rfl (by omega) (by omega))) ?_
     refine zlv (xsub (r := ((upd g3 at7 (upd (g3 at7) i ((g3 at7 i) + 1))) at7 i) - 1)) ?_
     refine zlv (xix (kk := i) sl_22 (hrs2 at7 (by omega) (by omega))) ?_
     refine zle (xsr 2 pl_3 hS rfl) ?_; clear hS; rintro w hS
     replace hS := hS.n3
     refine zln <| zbn <| ztn <| zrg ?_
     refine zlv xmv ?_
     refine zlv (xadd (r := at7 + 1)) ?_
     refine zlv xas ?_
     refine zln <| zlq ⟨upd (upd g3 at7 (upd (g3 at7) i ((g3 at7 i) + 1))) at7 (upd ((upd g3 at7 (upd (g3 at7) i ((g3 at7 i) + 1))) at7) i (((upd g3 at7 (upd (g3 at7) i ((g3 at7 i) + 1))) at7 i) - 1)), at7 + 1, rfl, (by omega), (by omega), ?_, ?_, rfl, hS⟩
     ·
      exact upd3 hg3 (by omega)
     ·
      intro k k0 k1; rcases Int.lt_or_eq_of_le (show k ≤ at7 by omega) with h9 | h9
      · exact hno k k0 h9
      · rw [h9]; exact fun hh => absurd ((fits_iff hok9 (hlB2 at7 at0 (by omega)).1 (fun k k0 k1 j j0 j1 => (hrg k k0 k1 j j0 j1).1) at0 (by omega) h0 (by omega) hu4).2 hh) ‹_›
    refine zxt <| ztx <| ztx <| zbh <| ztn <| zsr ?_
    refine zs2 ?_
    refine zlv (xln sl_25 hxB2) ?_
    refine zlv (xkt xeql) ?_
    refine zlt <| zct <| zsr ?_
    refine zlv (xfb 0 fd_24_0) ?_
    refine zlv (xlb 0 pl_22 hS) ?_
    refine zlv (xln sl_22 h.L.slh) ?_
    refine zla (xmk sl_22 el_3 hS) ?_; rintro v1 w ⟨hS, hv1⟩
    replace hS := hS.n4
    refine zlv xas ?_
    refine zlz ?_
    refine zs2 ?_
    refine zlv (xix (kk := i) sl_22 hv1) ?_
    refine zle (xso 3 pl_3 hS (upd_ints _ _ _)) ?_; clear hS; rintro w hS
    replace hS := hS.n4
    refine zlt <| zrg ?_
    refine zs2 ?_
    refine zlv (xany (v := .agg #[v1, .int .i64 1]) (hr := by obtain ⟨_, _, _, _, rfl, _⟩ := hv1; kernel_rfl)) ?_
    refine zla (xli (n := 1) (len := 1) (pv := [(0, .agg #[v1, .int .i64 1])]) (cs := [v1, .int .i64 1]) (c := ucells (fun _ => v1) (fun _ => 1)) sl_25 el_34 hS (hf := by obtain ⟨_, _, _, _, rfl, _⟩ := hv1; kernel_rfl)) ?_; rintro v2 w ⟨hS, hv2⟩
    replace hS := hS.n5
    refine zla (xap 1 (r := nB2 + 1) sl_25 el_34 hS (hS.rowN 4 rfl) (cat_ucells _ _ _ _ _) (h1 := fun k _ _ => ucells_one (fun _ => hv1.one) k)) ?_; rintro v3 w ⟨hS, hv3⟩
    replace hS := hS.n5
    replace hS := Sat.merge (l1 := [_, _]) (l2 := []) (l3 := [_]) hS (by omega)
    have hrs3 := fun k (k0 : 0 ≤ k) (k1 : k < nB2 + 1) => hS.slhIn 2 rfl k0 k1
    replace hS := hS.n4
    refine zlv xas ?_
    refine zln <| zbn <| ztn <| zrg ?_
    refine zlv xmv ?_
    refine zlv (xadd (r := n + 1)) ?_
    refine zlv xas ?_
    refine zln <| zlq ⟨nB2 + 1, gsn wB2 nB2 v1, gsn lB2 nB2 p.m, gsn g3 nB2 (upd (fun _ => 0) i 1), (snoc cB2 nB2 1), n + 1, v3, rfl, (by omega), (by omega), ?_, ?_, ?_, ?_, ?_, rfl, hS.pk [0, 1, 2]⟩
    ·
     omega
    ·
     rw [pcsTo_next _ n0]
     first
     | exact ffr_at hok9 hF2 hnB2 at0 (by omega) h0 (by omega) hu4 ((fits_iff hok9 (hlB2 at7 at0 (by omega)).1 (fun k k0 k1 j j0 j1 => (hrg k k0 k1 j j0 j1).1) at0 (by omega) h0 (by omega) hu4).1 ‹FitsP p _ _›) hno
     | exact ffr_new hok9 hF2 hnB2 h0 (by omega) hg3 (fun k k0 k1 => hno k k0 (by omega))
    ·
     first | exact hlB2 | (intro k k0 k1; by_cases e : k < nB2; (rw [gsn_lt e, snoc_lt e]; exact hlB2 k k0 e); (rw [gsn_at e, snoc_at e]; exact ⟨rfl, rfl⟩))
    ·
     first | exact hone2 | exact gsn_one hone2 ‹Slh _ _›.one
    ·
     exact hv3
   refine zxt <| ztx <| ztx <| zbh <| zbn <| ztn <| zrg ?_
   refine zlv xmv ?_
   refine zlv (xadd (r := i + 1)) ?_
   refine zlv xas ?_
   refine zln <| zlq ⟨nB2, wB2, lB2, gB2, cB2, i + 1, xB2, rfl, (by omega), (by omega), ?_, ?_, ?_, ?_, ?_, rfl, hS⟩
   ·
    exact hnB2
   ·
    rw [pcsTo_kind p.D h0 (by rw [show p.D i = n by omega])]; exact hF2
   ·
    exact hlB2
   ·
    exact hone2
   ·
    exact hxB2
  refine zxt <| ztx <| ztx <| zbh <| ztn <| zsr ?_
  refine zlv xmv ?_
  have hnb8 := (ffr_rng hok9 hxB hF h0 (by omega) (by omega) (fun _ => by have := dnn9 hok9 h0 (by omega : i < p.m); omega) (fun _ => rfl) htot).1
  refine zlc (xc0 cl_33) (c_rnorm (u := nB) (pv := wB) (ln := lB) (pt := gB) (cnt := cB) w (⟨(hS.rowN 1 rfl), fun k k0 k1 => hS.rowIn 2 rfl k0 k1, fun k k0 k1 => hS.roomIn 2 rfl k0 k1⟩ : VAt _ xB nB wB lB gB cB) (by omega) (fun k k0 k1 => by have h9 := (hlB k k0 k1).1; omega) (fun k k0 k1 => by have h9 := (hlB k k0 k1).2; omega)) ?_; rintro vnn1 w ⟨_, nnn1, pnn1, lnn1, gnn1, cnn1, rfl, hnrn1, hn0n1, hn1n1, hncn1, hvnn1, hS'⟩
  replace hS : Sat w0 w [.blk g1 [vL, vD, .int .i64 p.stock, .int .i64 p.kerf], .own xB 2 34 nB (ucells wB cB), .sem (Frame.rows 3 nB wB lB gB), .own vnn1 2 34 nnn1 (ucells pnn1 cnn1), .sem (Frame.rows 3 nnn1 pnn1 lnn1 gnn1)] := hS.comp hS'; clear hS'
  have hrnn1 := fun k (k0 : 0 ≤ k) (k1 : k < nnn1) => hS.slhIn 4 rfl k0 k1
  refine zs2 ?_
  refine zlt <| zrt <| zf2 ⟨_, rfl, ?_⟩
  have hiM : i = p.m := by omega
  rw [hiM] at hF
  have hLL : plL nB lB gB cB = ones (ffRun p.m (p.stock + p.kerf) (szP p) (pcsTo p.D p.m 0)) := by
    rw [← hF, ones_plL]; exact plL_congr fun k k0 k1 => ⟨(hlB k k0 k1).1, (hlB k k0 k1).2, fun _ _ _ => rfl⟩
  rw [hLL] at hnrn1
  exact ⟨_, _, _, _, _, _, 0, rfl, ⟨.inr (.inr ⟨hok9, htot, rfl⟩), fun _ => hnrn1, fun h => absurd rfl h⟩, fun k k0 k1 => by have := hncn1 k k0 k1; omega, by omega, hvnn1, hS.pk [3, 4]⟩
end Go.Proofs.Ytopmifmfecfaaaa
