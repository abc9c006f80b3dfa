/- The walks of SamePlan, Theirs. -/
import Derived.Test.YtdlojjhknmmmlaaGv
import Derived.Test.YtdlojjhknmmmlaaM13
import Derived.Test.YtdlojjhknmmmlaaGu
namespace Go.Proofs.Ytdlojjhknmmmlaa
open Go Go.RowKit Go.Proofs.Gw
set_option linter.unusedVariables false

theorem el_104 : elemT Try.prog 104 = some (.agg #[.slice none 0 0, .int .i64 0], 2, 32) := by kernel_rfl
theorem sl_70 : sliceT Try.prog 70 = some (104, 2) := by kernel_rfl
/-- The plan of the whole uses. -/
def flN (s : So) : Nat → Int
  | 0 => 0
  | k + 1 => if s.den ≤ s.X k then flN s k + 1 else flN s k
def flL (s : So) (ml : Int → Int) : Nat → Int → Int
  | 0 => fun _ => 0
  | k + 1 => if s.den ≤ s.X k then gsn (flL s ml k) (flN s k) (ml k) else flL s ml k
def flG (s : So) (mf : Int → Int → Int) : Nat → Int → Int → Int
  | 0 => fun _ _ => 0
  | k + 1 => if s.den ≤ s.X k then gsn (flG s mf k) (flN s k) (mf k) else flG s mf k
def flC (s : So) : Nat → Int → Int
  | 0 => fun _ => 0
  | k + 1 => if s.den ≤ s.X k then snoc (flC s k) (flN s k) ((s.X k).tdiv s.den) else flC s k
theorem flN_next (s : So) {i : Int} (h : 0 ≤ i) : flN s (i + 1).toNat = if s.den ≤ s.X i then flN s i.toNat + 1 else flN s i.toNat := by
  obtain ⟨k, rfl⟩ := Int.eq_ofNat_of_zero_le h; rw [show ((k : Int) + 1).toNat = k + 1 by omega, Int.toNat_natCast]; rfl
theorem flL_next (s : So) (ml : Int → Int) {i : Int} (h : 0 ≤ i) : flL s ml (i + 1).toNat = if s.den ≤ s.X i then gsn (flL s ml i.toNat) (flN s i.toNat) (ml i) else flL s ml i.toNat := by
  obtain ⟨k, rfl⟩ := Int.eq_ofNat_of_zero_le h; rw [show ((k : Int) + 1).toNat = k + 1 by omega, Int.toNat_natCast]; rfl
theorem flG_next (s : So) (mf : Int → Int → Int) {i : Int} (h : 0 ≤ i) : flG s mf (i + 1).toNat = if s.den ≤ s.X i then gsn (flG s mf i.toNat) (flN s i.toNat) (mf i) else flG s mf i.toNat := by
  obtain ⟨k, rfl⟩ := Int.eq_ofNat_of_zero_le h; rw [show ((k : Int) + 1).toNat = k + 1 by omega, Int.toNat_natCast]; rfl
theorem flC_next (s : So) {i : Int} (h : 0 ≤ i) : flC s (i + 1).toNat = if s.den ≤ s.X i then snoc (flC s i.toNat) (flN s i.toNat) ((s.X i).tdiv s.den) else flC s i.toNat := by
  obtain ⟨k, rfl⟩ := Int.eq_ofNat_of_zero_le h; rw [show ((k : Int) + 1).toNat = k + 1 by omega, Int.toNat_natCast]; rfl
theorem flN_rng (s : So) : ∀ k : Nat, 0 ≤ flN s k ∧ flN s k ≤ k
  | 0 => by simp [flN]
  | k + 1 => by
    have := flN_rng s k
    simp only [flN]; split <;> omega
def FloorR (s : So) (u : Int) (ml : Int → Int) (mf : Int → Int → Int) (n : Int) (ln : Int → Int) (pt : Int → Int → Int) (cnt : Int → Int) (e : Int) : Prop :=
  (¬ (SoundS s ∧ u = s.n) ∧ n = 0 ∧ e = 1) ∨ (SoundS s ∧ u = s.n ∧ n = flN s u.toNat ∧ ln = flL s ml u.toNat ∧ pt = flG s mf u.toNat ∧ cnt = flC s u.toNat ∧ e = 0)
theorem FloorR.rng {s : So} {u : Int} {ml : Int → Int} {mf : Int → Int → Int} {n e : Int} {ln cnt : Int → Int} {pt : Int → Int → Int} (hu : 0 ≤ u) (h : FloorR s u ml mf n ln pt cnt e) : 0 ≤ n ∧ n ≤ u := by
  rcases h with ⟨_, h, _⟩ | ⟨_, _, h, _⟩
  · omega
  · have := flN_rng s u.toNat; omega
theorem FloorR.same {s : So} {u : Int} {ml : Int → Int} {mf : Int → Int → Int} {n n2 e e2 : Int} {ln ln2 cnt cnt2 : Int → Int} {pt pt2 : Int → Int → Int} (h : FloorR s u ml mf n ln pt cnt e) (h' : FloorR s u ml mf n2 ln2 pt2 cnt2 e2) : SameP n n2 ln ln2 pt pt2 cnt cnt2 ∧ e = e2 := by
  rcases h with ⟨h1, h2, h3⟩ | ⟨h1, h2, h3, h4, h5, h6, h7⟩ <;> rcases h' with ⟨g1, g2, g3⟩ | ⟨g1, g2, g3, g4, g5, g6, g7⟩
  · exact ⟨⟨by omega, fun k k0 k1 => by omega⟩, by omega⟩
  · exact absurd ⟨g1, g2⟩ h1
  · exact absurd ⟨h1, h2⟩ g1
  · rw [h3, h4, h5, h6, h7, g3, g4, g5, g6, g7]; exact ⟨⟨rfl, fun _ _ _ => ⟨rfl, rfl, fun _ _ _ => rfl⟩⟩, rfl⟩

set_option maxRecDepth 20000 in
theorem c_floor30 {vM : Value} {u : Int} {mv : Int → Value} {ml : Int → Int} {mf : Int → Int → Int} {vX vY : Value} {s : So} (w0 : World) (hM : MAt w0 vM u mv ml mf) (hX : Row w0 vX 1 s.n (ints s.X)) (hY : Row w0 vY 1 s.m (ints s.Y)) (hn60 : s.n ≤ 1000) (hml : ∀ k, 0 ≤ k → k < u → ml k ≤ 100000) :
    Calls Try.prog 30 [vM, .agg #[vX, vY, .int .i64 s.val, .int .i64 s.den]].toArray w0 fun e w => ∃ v, e = .returned v ∧ ∃ r n pv ln pt cnt e, v = .tuple #[r, .int .i64 e] ∧ FloorR s u ml mf n ln pt cnt e ∧ Slh r n ∧ Sat w0 w [.own r 2 104 n (ucells pv cnt), .sem (Frame.rows 3 n pv ln pt)] := by
  have hn := hX.slh.n0; have hn1 := hX.slh.n1
  have hu := hM.row.slh.n0; have hu1 := hM.row.slh.n1
  refine zenG Try.func30 Try.ntmps30 fun w hS => ?_
  refine zsr ?_
  refine zla (xbx (cs := [_, _, _, _]) hS) ?_; rintro _ w ⟨g1, rfl, hS⟩
  replace hS := hS.n1
  refine zs2 ?_
  refine zlt <| zsq <| zsr ?_
  refine zlv (xls 0 st_30 hS) ?_
  refine zlc (xc0 cl_51) (c_sound30 (s := s) w (hX.below hS.below) (hY.below hS.below) (by omega)) ?_; rintro _ w ⟨rfl, hS'⟩
  replace hS := hS.cmp hS'; clear hS'
  refine zs2 ?_
  refine zlb 12 ?_ ?_ <;> intro hc
  ·
   iterate 6 refine zlo ?_
   refine zlv xpt ?_
   refine zlt <| zct <| zsr ?_
   refine zs2 ?_
   refine zlt <| zrt <| ztr <| zf2 ⟨_, rfl, ?_⟩
   exact ⟨_, 0, fun _ => undef, fun _ => 0, fun _ _ => 0, fun _ => 0, 1, rfl, .inl ⟨by first | exact fun hh => absurd hh.1 ‹¬ SoundS s› | (rintro ⟨_, hh⟩; omega), rfl, rfl⟩, slh_nil, ((hS.sub (.cons _ .slnil)).addnil 2 104 (ucells (fun _ => undef) (fun _ => 0))).addrows 3 (fun _ => undef) (fun _ => 0) (fun _ _ => 0)⟩
  refine zlv xmv ?_
  refine zlv (xln sl_28 hM.row.slh) ?_
  refine zlv (xfb 0 fd_30_0) ?_
  refine zlv (xlb 0 pl_22 hS) ?_
  refine zlv (xln sl_22 hX.slh) ?_
  refine zs2 ?_
  refine zlt ?_
  refine zcif ?_ ?_ <;> intro hc
  ·
   refine zsr ?_
   refine zs2 ?_
   refine zlt <| zrt <| ztr <| zf2 ⟨_, rfl, ?_⟩
   exact ⟨_, 0, fun _ => undef, fun _ => 0, fun _ _ => 0, fun _ => 0, 1, rfl, .inl ⟨by first | exact fun hh => absurd hh.1 ‹¬ SoundS s› | (rintro ⟨_, hh⟩; omega), rfl, rfl⟩, slh_nil, ((hS.sub (.cons _ .slnil)).addnil 2 104 (ucells (fun _ => undef) (fun _ => 0))).addrows 3 (fun _ => undef) (fun _ => 0) (fun _ _ => 0)⟩
  refine zsk <| ztn <| zsr ?_
  refine zlv xas ?_
  refine zlt <| zsq <| zsr ?_
  refine zlv (xfb 0 fd_30_0) ?_
  refine zlv (xlb 0 pl_22 hS) ?_
  refine zlv (xln sl_22 hX.slh) ?_
  refine zlv xmv ?_
  refine zlt <| zbk ?_
  have hsd : SoundS s := by first | assumption | exact Classical.not_not.1 ‹_›
  obtain ⟨⟨d1, d2⟩, ⟨d3, d4⟩, d5⟩ := id hsd
  have hun : u = s.n := by omega
  replace hS := hS.addnil 2 104 (ucells (fun _ => Value.slice none 0 0) (fun _ => 0))
  replace hS := hS.n2
  replace hS := hS.addrows 3 (fun _ => Value.slice none 0 0) (fun _ => 0) (fun _ _ => 0)
  replace hS := hS.n3
  replace hS := hS.n3
  have hrs0 := fun k (k0 : 0 ≤ k) (k1 : k < 0) => hS.slhIn 2 rfl k0 k1
  refine zlp (fun mm M w => ∃ (nC : Int) (wv : Int → Value) (lC : Int → Int) (gC : Int → Int → Int) (cC : Int → Int) (i : Int) (wC : Value), mm = ((s.n - i).toNat) ∧ (0 ≤ i) ∧ (i ≤ s.n) ∧ (nC = flN s i.toNat) ∧ (lC = flL s ml i.toNat) ∧ (gC = flG s mf i.toNat) ∧ (cC = flC s i.toNat) ∧ (Slh wC nC) ∧ M = [(0, vM), (3, .pointer (some ⟨g1, 0, none⟩)), (4, .slice none 0 0), (5, .int .i64 0), (6, wC), (21, vX), (22, .int .i64 s.n), (23, .int .i64 i)] ∧ Sat w0 w [.blk g1 [vX, vY, .int .i64 s.val, .int .i64 s.den], .own wC 2 104 nC (ucells wv cC), .sem (Frame.rows 3 nC wv lC gC)]) ⟨0, (fun _ => Value.slice none 0 0), (fun _ => 0), (fun _ _ => 0), (fun _ => 0), 0, (.slice none 0 0), rfl, (by omega), (by omega), ?_, ?_, ?_, ?_, ?_, rfl, hS⟩ ?_
  ·
   rfl
  ·
   rfl
  ·
   rfl
  ·
   rfl
  ·
   exact slh_nil
  clear hS w
  rintro mm M w ⟨nC, wv, lC, gC, cC, i, wC, rfl, h0, h1, hnC, hlC, hgC, hcC, hwC, rfl, hS⟩
  have hrs1 := fun k (k0 : 0 ≤ k) (k1 : k < nC) => hS.slhIn 2 rfl k0 k1
  have hnr := flN_rng s i.toNat
  refine zsr ?_
  refine zlv xlss ?_
  refine zlt <| zsq ?_
  refine zcif ?_ ?_ <;> intro hc
  ·
   refine zsk <| ztn <| zsq <| zbk <| zsr ?_
   refine zlv xmv ?_
   refine zlv (xix (kk := i) sl_22 hX.slh) ?_
   refine zlv (xlr (u := .int .i64 (s.X i)) pl_3 (hX.below hS.below)) ?_
   refine zs2 ?_
   refine zlz ?_
   refine zlv xmv ?_
   refine zlv (xfb 3 fd_30_3) ?_
   refine zlv (xlb 0 pl_3 hS) ?_
   refine zlv xgeq ?_
   refine zlt ?_
   refine zcif ?_ ?_ <;> intro hc
   ·
    refine zdst [0] [0] 1000 mx_ hS ?_; clear hS; intro w hS
    refine zdv 0 (fun _ => xmv) ?_
    refine zdv 1 (fun _ => xmv) ?_
    refine zdv 2 (fun _ => xmv) ?_
    refine zdv 3 (fun _ => (xix (kk := i) sl_28 hM.row.slh)) ?_
    refine zdla 4 (fun w hS => (xlr (u := (mv i)) pl_22 (hM.row.below hS.below))) ?_
    have hmli := hml i h0 (by omega)
    refine zdv 6 (fun _ => xmv) ?_
    refine zdv 7 (fun _ => (xfb 3 fd_30_3)) ?_
    refine zdla 8 (fun w hS => (xlb 0 pl_3 hS)) ?_
    have hqd := tdiv_abs (a := s.X i) (d := s.den) (A := 1073741824) (by omega) (by have := d5 i h0 (by omega); omega)
    refine zdv 9 (fun _ => (xquo (r := (Int.tdiv (s.X i) s.den)))) ?_
    refine zdc 5 (xc0 cl_50) (c_clone (n := (ml i)) (f := (mf i)) w ((hM.p i (by omega) (by omega)).below hS.below) (by omega)) ?_; rintro vq1 w ⟨_, rfl, hslq1, hS'⟩
    replace hS : Sat w0 w [.blk g1 [vX, vY, .int .i64 s.val, .int .i64 s.den], .own wC 2 104 nC (ucells wv cC), .sem (Frame.rows 3 nC wv lC gC), .own vq1 1 3 (ml i) (ints (mf i))] := hS.comp hS'; clear hS'
    refine ⟨⟨fun _ => hS.pk [0], hS.pk [0]⟩, ?_⟩
    refine zdv 10 (fun _ => (xany (v := .agg #[vq1, .int .i64 (Int.tdiv (s.X i) s.den)]) (hr := by obtain ⟨_, _, _, _, rfl, _⟩ := hslq1; kernel_rfl))) ?_
    refine zda 11 (xli (n := 1) (len := 1) (pv := [(0, .agg #[vq1, .int .i64 (Int.tdiv (s.X i) s.den)])]) (cs := [vq1, .int .i64 (Int.tdiv (s.X i) s.den)]) (c := ucells (fun _ => vq1) (fun _ => (Int.tdiv (s.X i) s.den))) sl_70 el_104 hS (hf := by obtain ⟨_, _, _, _, rfl, _⟩ := hslq1; kernel_rfl)) ?_; rintro v1 w ⟨hS, hv1⟩
    replace hS := hS.n5
    refine ⟨⟨fun _ => hS.pk [0], hS.pk [0]⟩, ?_⟩
    refine zda 12 (xap 1 (r := nC + 1) sl_70 el_104 hS (hS.rowN 4 rfl) (cat_ucells _ _ _ _ _) (h1 := fun k _ _ => ucells_one (fun _ => hslq1.one) k)) ?_; rintro v2 w ⟨hS, hv2⟩
    replace hS := hS.n5
    replace hS := Sat.merge (l1 := [_, _]) (l2 := []) (l3 := [_]) hS (by omega)
    have hrs2 := fun k (k0 : 0 ≤ k) (k1 : k < nC + 1) => hS.slhIn 2 rfl k0 k1
    replace hS := hS.n4
    refine ⟨⟨fun _ => hS.pk [0], hS.pk [0]⟩, ?_⟩
    refine zdv 13 (fun _ => xas) ?_
    refine zdd <| zbn <| ztn <| zrg ?_
    refine zlv (xadd (r := i + 1)) ?_
    refine zlv xmv ?_
    refine zln <| zlq ⟨nC + 1, gsn wv nC vq1, gsn lC nC (ml i), gsn gC nC (mf i), (snoc cC nC (Int.tdiv (s.X i) s.den)), i + 1, v2, rfl, (by omega), (by omega), ?_, ?_, ?_, ?_, ?_, rfl, hS.pk [0, 1, 2]⟩
    ·
     rw [flN_next s h0, ← hnC]; first | rw [if_pos (by omega)] | rw [if_neg (by omega)]
    ·
     rw [flL_next s ml h0, ← hlC, ← hnC]; first | rw [if_pos (by omega)] | rw [if_neg (by omega)]
    ·
     rw [flG_next s mf h0, ← hgC, ← hnC]; first | rw [if_pos (by omega)] | rw [if_neg (by omega)]
    ·
     rw [flC_next s h0, ← hcC, ← hnC]; first | rw [if_pos (by omega)] | rw [if_neg (by omega)]
    ·
     exact hv2
   refine zsk <| zbn <| ztn <| zrg ?_
   refine zlv (xadd (r := i + 1)) ?_
   refine zlv xmv ?_
   refine zln <| zlq ⟨nC, wv, lC, gC, cC, i + 1, wC, rfl, (by omega), (by omega), ?_, ?_, ?_, ?_, ?_, rfl, hS⟩
   ·
    rw [flN_next s h0, ← hnC]; first | rw [if_pos (by omega)] | rw [if_neg (by omega)]
   ·
    rw [flL_next s ml h0, ← hlC, ← hnC]; first | rw [if_pos (by omega)] | rw [if_neg (by omega)]
   ·
    rw [flG_next s mf h0, ← hgC, ← hnC]; first | rw [if_pos (by omega)] | rw [if_neg (by omega)]
   ·
    rw [flC_next s h0, ← hcC, ← hnC]; first | rw [if_pos (by omega)] | rw [if_neg (by omega)]
   ·
    exact hwC
  refine zxt <| ztx <| ztx <| zbh <| ztn <| zsr ?_
  refine zs3 ?_
  refine zlt <| zrt <| zf2 ⟨_, rfl, ?_⟩
  have him : i = u := by omega
  rw [him] at hnC hlC hgC hcC
  exact ⟨_, _, _, _, _, _, 0, rfl, .inr ⟨hsd, hun, hnC, hlC, hgC, hcC, rfl⟩, hwC, hS.pk [1, 2]⟩

def FracR (s : So) (k : Int) (ok : Prop) : Prop := (¬ SoundS s ∧ k = 0 ∧ ¬ ok) ∨ (SoundS s ∧ (∀ j, 0 ≤ j → j < s.n → (s.X j).tmod s.den = 0) ∧ k = 0 ∧ ¬ ok) ∨ (SoundS s ∧ 0 ≤ k ∧ k < s.n ∧ (s.X k).tmod s.den ≠ 0 ∧ (∀ j, 0 ≤ j → j < k → (s.X j).tmod s.den = 0) ∧ ok)
theorem FracR.same {s : So} {k k2 : Int} {ok ok2 : Prop} (h : FracR s k ok) (h' : FracR s k2 ok2) : k = k2 ∧ (ok ↔ ok2) := by
  rcases h with ⟨h1, h2, h3⟩ | ⟨h1, h2, h3, h4⟩ | ⟨h1, h2, h3, h4, h5, h6⟩ <;> rcases h' with ⟨g1, g2, g3⟩ | ⟨g1, g2, g3, g4⟩ | ⟨g1, g2, g3, g4, g5, g6⟩ <;>
    first
    | exact absurd ‹SoundS s› ‹¬ SoundS s›
    | exact ⟨by omega, fun h => absurd h ‹¬ ok›, fun h => absurd h ‹¬ ok2›⟩
    | exact absurd (g2 k (by omega) (by omega)) (by assumption)
    | exact absurd (h2 k2 (by omega) (by omega)) (by assumption)
    | (refine ⟨?_, fun _ => g6, fun _ => h6⟩
       rcases Int.lt_trichotomy k k2 with h | h | h
       · exact absurd (g5 k (by omega) h) h4
       · exact h
       · exact absurd (h5 k2 (by omega) h) g4)

theorem fracR_ix {s : So} {r : Int} (h : SoundS s) (hr : (r = -1 ∧ ∀ k, 0 ≤ k → k < s.n → ¬ ((s.X k).tmod s.den ≠ 0)) ∨ (0 ≤ r ∧ r < s.n ∧ (s.X r).tmod s.den ≠ 0 ∧ ∀ k, 0 ≤ k → k < r → ¬ ((s.X k).tmod s.den ≠ 0))) : FracR s (max r 0) (0 ≤ r) := by
  rcases hr with ⟨h1, h2⟩ | ⟨h1, h2, h3, h4⟩
  · exact .inr (.inl ⟨h, fun j j0 j1 => Classical.not_not.1 (h2 j j0 j1), by omega, by omega⟩)
  · rw [show max r 0 = r by omega]
    exact .inr (.inr ⟨h, h1, h2, h3, fun j j0 j1 => Classical.not_not.1 (h4 j j0 j1), h1⟩)

end Go.Proofs.Ytdlojjhknmmmlaa
