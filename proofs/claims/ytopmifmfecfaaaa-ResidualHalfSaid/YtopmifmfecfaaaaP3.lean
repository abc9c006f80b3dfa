/- The walk of Normal, of pattern. -/
import Derived.Test.YtopmifmfecfaaaaGv
import Derived.Test.YtopmifmfecfaaaaP2
namespace Go.Proofs.Ytopmifmfecfaaaa
open Go Go.RowKit Go.Proofs.Gw
set_option linter.unusedVariables false

theorem cl_101 : calledT Try.prog 101 = true := by kernel_rfl
theorem cl_42 : calledT Try.prog 42 = true := by kernel_rfl
theorem cl_99 : calledT Try.prog 99 = true := by kernel_rfl
theorem el_50 : elemT Try.prog 50 = some (.agg #[.slice none 0 0, .int .i64 0], 2, 32) := by kernel_rfl
theorem c_clone {v : Value} {n : Int} {f : Int → Int} (w0 : World) (hR : Row w0 v 1 n (ints f)) (hn : n ≤ 1000000) : Calls Try.prog 42 [v].toArray w0 fun e w => ∃ u, e = .returned u ∧ ∃ r, u = r ∧ Slh r n ∧ Sat w0 w [.own r 1 3 n (ints f)] := by
  have hn0 := hR.slh.n0
  have hl := listOf_length f n
  have fin : ∀ {r : Value} {w : World} {xs : List Value}, w.ownsRow w0.heap.size 3 1 r n.toNat xs → xs = cellsOf (ints f) n.toNat → Below w0.heap.size w0 w → Slh r n ∧ Sat w0 w [.own r 1 3 n (ints f)] := fun {r w xs} hrow hxs hB => by
    subst hxs
    have hE : (Ent.own r 1 3 n (ints f)).holds w := Ent.holds.of_owns hn0 (by omega) (by rw [Nat.mul_one]; exact hrow)
    exact ⟨hE.row.slh, hB, fun e he => by obtain rfl := List.mem_singleton.1 he; exact hE, fun e he g hg => by obtain rfl := List.mem_singleton.1 he; exact (hrow.lt g hg).1, List.pairwise_singleton _ _⟩
  obtain ⟨_, _, a, cap, rfl, h⟩ := hR.slh
  cases a with
  | none =>
    have h0 : n = 0 := by rcases h with h | ⟨_, _, h⟩; exact h; cases h
    subst h0
    refine (slices_Clone_int_nil 0 cap w0).mono fun e w ⟨he, hw⟩ => ⟨_, he, _, rfl, slh_nil, ?_⟩
    rw [hw]
    exact (Sat.start w0).addnil 1 3 (ints f)
  | some ad =>
    rcases h with h | ⟨b, off, h⟩
    · subst h
      refine (slices_Clone_int_zero ad cap w0).mono fun e w ⟨r, he, hrow, _, hB⟩ => ⟨r, he, r, rfl, ?_⟩
      exact fin hrow rfl hB
    · cases h
      refine (slices_Clone_int b off n.toNat cap (listOf f n) w0 (by omega) (by omega) (fun j hj => ?_)).mono fun e w ⟨r, he, hrow, _, hB⟩ => ⟨r, he, r, rfl, fin hrow ?_ hB⟩
      · have := hR.2 j (by omega)
        simp only [cad, Int.toNat_natCast] at this
        rw [this]
        rw [hl] at hj
        simp [ints, listOf, hj]
      · rw [List.take_of_length_le (by omega), ints_list]; rfl

theorem norm_new {nO i : Int} {lO ln cO cnt : Int → Int} {gO pt : Int → Int → Int} (n0 : 0 ≤ nO) (i0 : 0 ≤ i) (hs : plL nO lO gO cO = sums (plL i ln pt cnt)) (hne : ∀ k, 0 ≤ k → k < nO → ¬ (lst (ln i) (pt i) = lst (lO k) (gO k))) :
    plL (nO + 1) (gsn lO nO (ln i)) (gsn gO nO (pt i)) (snoc cO nO (cnt i)) = sums (plL (i + 1) ln pt cnt) := by
  rw [plL_next i0, sums_snoc, ← hs, addU_new fun v hv e => by
    obtain ⟨j, hj⟩ := List.mem_iff_getElem?.1 hv
    rw [plL_get] at hj
    split at hj
    · injection hj with hj
      rw [← hj] at e
      exact hne j (by omega) (by assumption) e.symm
    · cases hj]
  exact plL_snoc n0 (fun k k0 k1 => ⟨gsn_lt k1, snoc_lt k1, gsn_lt k1⟩) (gsn_at (by omega)) (snoc_at (by omega)) (gsn_at (by omega))
theorem norm_at {nO i r : Int} {lO ln cO cnt : Int → Int} {gO pt : Int → Int → Int} (i0 : 0 ≤ i) (hs : plL nO lO gO cO = sums (plL i ln pt cnt)) (r0 : 0 ≤ r) (r1 : r < nO) (e : lst (ln i) (pt i) = lst (lO r) (gO r)) (hne : ∀ k, 0 ≤ k → k < r → ¬ (lst (ln i) (pt i) = lst (lO k) (gO k))) :
    plL nO lO gO (upd cO r (cO r + cnt i)) = sums (plL (i + 1) ln pt cnt) := by
  rw [plL_next i0, sums_snoc, ← hs, addU_at (j := r.toNat) (v := (lst (lO r) (gO r), cO r)) (by rw [plL_get, Int.toNat_of_nonneg r0, if_pos r1]) e.symm fun k hk w hw h => by
    rw [plL_get, if_pos (by omega)] at hw
    injection hw with hw
    rw [← hw] at h
    exact hne k (by omega) (by omega) h.symm]
  apply List.ext_getElem?
  intro k
  rw [List.getElem?_set, plL_get, plL_get, plL_len]
  unfold upd
  by_cases hk : (k : Int) < nO
  · rw [if_pos hk, if_pos hk]
    by_cases hr : r.toNat = k
    · have hr' : (k : Int) = r := by omega
      rw [if_pos hr', if_pos hr, if_pos (by omega), hr']
    · have hr' : ¬ (k : Int) = r := by omega
      rw [if_neg hr', if_neg hr]
  · rw [if_neg hk, if_neg hk, if_neg (by omega)]
theorem nb_new {cC : Int → Int} {nC B C x : Int} (h : ∀ k, 0 ≤ k → k < nC → 1 ≤ cC k ∧ cC k ≤ B) (hB : B ≤ C) (x1 : 1 ≤ x) (x2 : x ≤ C) : ∀ k, 0 ≤ k → k < nC + 1 → 1 ≤ snoc cC nC x k ∧ snoc cC nC x k ≤ C := fun k k0 k1 => by
  by_cases e : k < nC
  · rw [snoc_lt e]; have := h k k0 e; omega
  · rw [snoc_at e]; omega
theorem nb_at {cC : Int → Int} {nC B C x r : Int} (h : ∀ k, 0 ≤ k → k < nC → 1 ≤ cC k ∧ cC k ≤ B) (hB : B ≤ C) (x1 : 1 ≤ x) (x2 : x ≤ C) : ∀ k, 0 ≤ k → k < nC → 1 ≤ upd cC r x k ∧ upd cC r x k ≤ C := fun k k0 k1 => by
  unfold upd
  by_cases e : k = r
  · rw [if_pos e]; omega
  · rw [if_neg e]; have := h k k0 k1; omega

set_option maxHeartbeats 4000000 in
set_option maxRecDepth 20000 in
theorem c_norm {vV : Value} {u : Int} {pv : Int → Value} {ln : Int → Int} {pt : Int → Int → Int} {cnt : Int → Int} (w0 : World) (hV : VAt w0 vV u pv ln pt cnt) (hn5 : u ≤ 20000) (hlc : ∀ k, 0 ≤ k → k < u → ln k ≤ 100000) (hpc : ∀ k, 0 ≤ k → k < u → 1 ≤ cnt k ∧ cnt k ≤ 1000) :
    Calls Try.prog 80 [vV].toArray w0 fun e w => ∃ v, e = .returned v ∧ ∃ r n2 pv2 ln2 pt2 cnt2, v = r ∧ NormR (plL u ln pt cnt) (plL n2 ln2 pt2 cnt2) ∧ 0 ≤ n2 ∧ n2 ≤ u ∧ (∀ k, 0 ≤ k → k < n2 → 1 ≤ cnt2 k ∧ cnt2 k ≤ 1000 * u) ∧ Slh r n2 ∧ Sat w0 w [.own r 2 50 n2 (ucells pv2 cnt2), .sem (Frame.rows 3 n2 pv2 ln2 pt2)] := by
  have hn := hV.row.slh.n0; have hn1 := hV.row.slh.n1
  refine zenG Try.func80 Try.ntmps80 fun w hS => ?_
  refine zsr ?_
  refine zlv xas ?_
  refine zlz ?_
  refine zlv xas ?_
  refine zlt <| zsq <| zsr ?_
  refine zlv xmv ?_
  refine zlv (xln sl_43 hV.row.slh) ?_
  refine zlv xmv ?_
  refine zlt <| zbk ?_
  replace hS := hS.addnil 2 50 (ucells (fun _ => Value.slice none 0 0) (fun _ => 0))
  replace hS := hS.n1
  replace hS := hS.addrows 3 (fun _ => Value.slice none 0 0) (fun _ => 0) (fun _ _ => 0)
  replace hS := hS.n2
  replace hS := hS.n2
  have hrs0 := fun k (k0 : 0 ≤ k) (k1 : k < 0) => hS.slhIn 1 rfl k0 k1
  refine zlp (fun mm M w => ∃ (nC : Int) (wv : Int → Value) (lC : Int → Int) (gC : Int → Int → Int) (cC : Int → Int) (i : Int) (wC : Value), mm = ((u - i).toNat) ∧ (0 ≤ i) ∧ (i ≤ u) ∧ (0 ≤ nC ∧ nC ≤ i) ∧ (plL nC lC gC cC = sums (plL i ln pt cnt)) ∧ (∀ k, 0 ≤ k → k < nC → 1 ≤ cC k ∧ cC k ≤ 1000 * i) ∧ (∀ x, (wv x).oneCell' = true) ∧ (Slh wC nC) ∧ M = [(2, .slice none 0 0), (3, wC), (7, vV), (8, .int .i64 u), (9, .int .i64 i)] ∧ Sat w0 w [.own wC 2 50 nC (ucells wv cC), .sem (Frame.rows 3 nC wv lC gC)]) ⟨0, (fun _ => Value.slice none 0 0), (fun _ => 0), (fun _ _ => 0), (fun _ => 0), 0, (.slice none 0 0), rfl, (by omega), (by omega), (by omega), ?_, ?_, ?_, ?_, rfl, hS⟩ ?_
  ·
   rfl
  ·
   intro k k0 k1; omega
  ·
   intro x; rfl
  ·
   exact slh_nil
  clear hS w
  rintro mm M w ⟨nC, wv, lC, gC, cC, i, wC, rfl, h0, h1, hnC, hs, hbc, hone, hwC, rfl, hS⟩
  have hrs1 := fun k (k0 : 0 ≤ k) (k1 : k < nC) => hS.slhIn 1 rfl k0 k1
  refine zsr ?_
  refine zlv xlss ?_
  refine zlt <| zsq ?_
  refine zcif ?_ ?_ <;> intro hc
  ·
   refine zsk <| ztn <| zsq <| zbk <| zsr ?_
   refine zlv (xix (kk := 2 * i) sl_43 hV.row.slh) ?_
   refine zlv (xlw (cs := [(pv i), .int .i64 (cnt i)]) st_50 (hV.row.below hS.below) (ucells_at (k := 2 * i) (i := i) pv cnt (by omega))) ?_
   have hci := hpc i h0 (by omega)
   have hli := hlc i h0 (by omega)
   refine zla (xal (cs := [_, _]) el_50 hS) ?_; rintro _ w ⟨g1, rfl, hS⟩
   replace hS := hS.n3
   refine zle (xsw 2 st_50 hS (hd := (ones_cons (hV.p i (by omega) (by omega)).slh.one (ones_cons rfl ones_nil)))) ?_; clear hS; rintro w hS
   replace hS := hS.n3
   refine zlz ?_
   refine zlv xmv ?_
   refine zlv xmf ?_
   refine zlc (xc0 cl_96) (c_ixn1 (u := nC) (pv := wv) (ln := lC) (pt := gC) (cnt := cC) (n := (ln i)) (f := (pt i)) w (⟨(hS.rowN 0 rfl), fun k k0 k1 => hS.rowIn 1 rfl k0 k1, fun k k0 k1 => hS.roomIn 1 rfl k0 k1⟩ : VAt _ wC nC wv lC gC cC) (hS.holds _ (List.mem_of_getElem? (i := 2) rfl)) ((hV.p i (by omega) (by omega)).below hS.below)) ?_; rintro _ w ⟨r1, rfl, hr1, hS'⟩
   replace hS := hS.cmp hS'; clear hS'
   have hbr : 0 ≤ r1 → 1 ≤ cC r1 ∧ cC r1 ≤ 1000 * i := fun h => hbc r1 h (by rcases hr1 with ⟨h2, _⟩ | ⟨_, h2, _⟩ <;> omega)
   have hrr : r1 = -1 ∨ (0 ≤ r1 ∧ r1 < nC) := by rcases hr1 with ⟨h2, _⟩ | ⟨h2, h3, _⟩ <;> omega
   refine zlv xas ?_
   refine zlz ?_
   refine zs2 ?_
   refine zlt ?_
   refine zcif ?_ ?_ <;> intro hc
   ·
    refine zdst [0, 1, 2] [1, 2] 10 mx_ hS ?_; clear hS; intro w hS
    refine zdv 0 (fun _ => xmv) ?_
    refine zdv 1 (fun _ => xmv) ?_
    refine zdv 2 (fun _ => (xix (kk := 2 * r1) sl_43 hwC)) ?_
    refine zdv 3 (fun _ => (xfc (kk := 2 * r1 + 1) fd_50_1 hwC)) ?_
    refine zdl 4 (fun w hS => (xlr (u := .int .i64 (cC r1)) pl_3 (hS.rowN 0 rfl) (e := (ucells1 wv cC (by omega))))) ?_
    refine zdv 5 (fun _ => (xfb 1 fd_50_1)) ?_
    refine zdla 6 (fun w hS => (xlb 1 pl_3 hS)) ?_
    refine zdv 7 (fun _ => (xadd (r := (cC r1) + (cnt i)))) ?_
    refine zdv 8 (fun _ => (xix (kk := 2 * r1) sl_43 hwC)) ?_
    refine zdv 9 (fun _ => (xfc (kk := 2 * r1 + 1) fd_50_1 hwC)) ?_
    refine zde 10 (xso 0 pl_3 hS (upd_ucells1 (k := 2 * r1 + 1) (i := r1) _ _ (by omega))) ?_; clear hS; rintro w hS
    replace hS := hS.n3
    refine ⟨⟨fun h => absurd h (by decide), hS.pk [1, 2]⟩, ?_⟩
    refine zdd <| zbn <| ztn <| zrg ?_
    refine zlv (xadd (r := i + 1)) ?_
    refine zlv xmv ?_
    refine zln <| zlq ⟨nC, wv, lC, gC, (upd cC r1 ((cC r1) + (cnt i))), i + 1, wC, rfl, (by omega), (by omega), (by omega), ?_, ?_, ?_, ?_, rfl, hS.pk [0, 1]⟩
    ·
     first | exact norm_new (by omega) h0 hs (hr1.resolve_right (fun h => by omega)).2 | (have hr9 := hr1.resolve_left (fun h => by omega); exact norm_at h0 hs hr9.1 hr9.2.1 hr9.2.2.1 hr9.2.2.2)
    ·
     first | exact nb_new hbc (by omega) (by omega) (by omega) | exact nb_at hbc (by omega) (by omega) (by omega)
    ·
     first | exact hone | exact gsn_one hone ‹Slh _ _›.one
    ·
     exact hwC
   refine zdst [2] [2] 1000 mx_ hS ?_; clear hS; intro w hS
   refine zdv 0 (fun _ => xmv) ?_
   refine zdv 1 (fun _ => (xfb 0 fd_50_0)) ?_
   refine zdla 2 (fun w hS => (xlb 0 pl_22 hS)) ?_
   refine zdv 4 (fun _ => (xfb 1 fd_50_1)) ?_
   refine zdla 5 (fun w hS => (xlb 0 pl_3 hS)) ?_
   refine zdc 3 (xc0 cl_42) (c_clone (n := (ln i)) (f := (pt i)) w ((hV.p i (by omega) (by omega)).below hS.below) (by omega)) ?_; rintro vq1 w ⟨_, rfl, hslq1, hS'⟩
   replace hS : Sat w0 w [.own wC 2 50 nC (ucells wv cC), .sem (Frame.rows 3 nC wv lC gC), .blk g1 [(pv i), .int .i64 (cnt i)], .own vq1 1 3 (ln i) (ints (pt i))] := hS.comp hS'; clear hS'
   refine ⟨⟨fun _ => hS.pk [2], hS.pk [2]⟩, ?_⟩
   refine zdv 6 (fun _ => (xany (v := .agg #[vq1, .int .i64 (cnt i)]) (hr := by obtain ⟨_, _, _, _, rfl, _⟩ := hslq1; kernel_rfl))) ?_
   refine zda 7 (xli (n := 1) (len := 1) (pv := [(0, .agg #[vq1, .int .i64 (cnt i)])]) (cs := [vq1, .int .i64 (cnt i)]) (c := ucells (fun _ => vq1) (fun _ => (cnt i))) sl_43 el_50 hS (hf := by obtain ⟨_, _, _, _, rfl, _⟩ := hslq1; kernel_rfl)) ?_; rintro v1 w ⟨hS, hv1⟩
   replace hS := hS.n5
   refine ⟨⟨fun _ => hS.pk [2], hS.pk [2]⟩, ?_⟩
   refine zda 8 (xap 0 (r := nC + 1) sl_43 el_50 hS (hS.rowN 4 rfl) (cat_ucells _ _ _ _ _) (h1 := fun k _ _ => ucells_one (fun _ => hslq1.one) k)) ?_; rintro v2 w ⟨hS, hv2⟩
   replace hS := hS.n5
   replace hS := Sat.merge (l1 := [_]) (l2 := [_]) (l3 := [_]) hS (by omega)
   have hrs2 := fun k (k0 : 0 ≤ k) (k1 : k < nC + 1) => hS.slhIn 1 rfl k0 k1
   replace hS := hS.n4
   refine ⟨⟨fun _ => hS.pk [2], hS.pk [2]⟩, ?_⟩
   refine zdv 9 (fun _ => xas) ?_
   refine zdd <| zbn <| ztn <| zrg ?_
   refine zlv (xadd (r := i + 1)) ?_
   refine zlv xmv ?_
   refine zln <| zlq ⟨nC + 1, gsn wv nC vq1, gsn lC nC (ln i), gsn gC nC (pt i), (snoc cC nC (cnt i)), i + 1, v2, rfl, (by omega), (by omega), (by omega), ?_, ?_, ?_, ?_, rfl, hS.pk [0, 1]⟩
   ·
    first | exact norm_new (by omega) h0 hs (hr1.resolve_right (fun h => by omega)).2 | (have hr9 := hr1.resolve_left (fun h => by omega); exact norm_at h0 hs hr9.1 hr9.2.1 hr9.2.2.1 hr9.2.2.2)
   ·
    first | exact nb_new hbc (by omega) (by omega) (by omega) | exact nb_at hbc (by omega) (by omega) (by omega)
   ·
    first | exact hone | exact gsn_one hone ‹Slh _ _›.one
   ·
    exact hv2
  refine zxt <| ztx <| ztx <| zbh <| ztn <| zsr ?_
  refine zlv xmv ?_
  refine zlc (xc0 cl_99) (c_delu (u := nC) (pv := wv) (ln := lC) (pt := gC) (cnt := cC) w (⟨(hS.rowN 0 rfl), fun k k0 k1 => hS.rowIn 1 rfl k0 k1, fun k k0 k1 => hS.roomIn 1 rfl k0 k1⟩ : VAt _ wC nC wv lC gC cC) (fun k k0 k1 => (hbc k k0 k1).1)) ?_; rintro _ w ⟨rfl, hS'⟩
  replace hS := hS.cmp hS'; clear hS'
  refine zlv xas ?_
  refine zlz ?_
  refine zlv xmv ?_
  refine zlc (xc0 cl_101) (c_sortsU (vd := wC) (n := nC) (nm := nC) (s := fun k => k) (pv := wv) (cnt := cC) (lt := fun x y => ahd (lst (lC x) (gC x)) (lst (lC y) (gC y))) (F := Frame.rows 3 nC wv lC gC) w0 w (hS.pk [0, 1]) hwC (by omega) hone (fun w x y x0 x1 y0 y1 hF => c_ncmp w (hF.1 x x0 x1).row (hF.1 y y0 y1).row) (fun k k0 k1 => ⟨k0, k1⟩) (swo_ahd fun x => lst (lC x) (gC x)) (fun i j _ h _ => h)) ?_; rintro _ w ⟨rfl, t1, hpt1, hst1, hS⟩
  replace hS := hS.pmrows 1 hpt1
  replace hS : Sat w0 w [.own wC 2 50 nC (ucells (fun k => wv (t1 k)) (fun k => cC (t1 k))), .sem (Frame.rows 3 nC (fun k => wv (t1 k)) (fun k => lC (t1 k)) (fun k => gC (t1 k)))] := hS
  refine zlz ?_
  refine zs2 ?_
  refine zlt <| zrt <| zf1 ⟨_, rfl, ?_⟩
  obtain rfl : i = u := by omega
  exact ⟨_, _, _, _, _, _, rfl, .of_names hnC.1 hs hpt1 hst1, hnC.1, hnC.2, fun k k0 k1 => (by obtain ⟨q, q0, q1, q2⟩ := hpt1.fr k0 k1; rw [show t1 k = q from q2]; exact hbc q q0 q1), hwC, hS⟩

end Go.Proofs.Ytopmifmfecfaaaa
