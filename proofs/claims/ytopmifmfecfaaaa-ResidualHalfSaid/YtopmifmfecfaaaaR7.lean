/- The walks of SamePlan, Theirs, same. -/
import Derived.Test.YtopmifmfecfaaaaGv
import Derived.Test.YtopmifmfecfaaaaR6
namespace Go.Proofs.Ytopmifmfecfaaaa
open Go Go.RowKit Go.Proofs.Gw
set_option linter.unusedVariables false

theorem cl_60 : calledT Try.prog 60 = true := by kernel_rfl
theorem cl_61 : calledT Try.prog 61 = true := by kernel_rfl
theorem cl_66 : calledT Try.prog 66 = true := by kernel_rfl
theorem el_34 : elemT Try.prog 34 = some (.agg #[.slice none 0 0, .int .i64 0], 2, 32) := by kernel_rfl
theorem FFOk_elem {p : Prob} {hist : List Int} {s : Us} (hok : p.Ok) (h : FFOk p.m (p.stock + p.kerf) (szP p) hist s) {b : List Int × Int} (hb : b ∈ s) {j : Int} (j0 : 0 ≤ j) (j1 : j < p.m) : 0 ≤ b.1.getD j.toNat 0 ∧ b.1.getD j.toNat 0 ≤ p.stock + p.kerf := by
  obtain ⟨h2, h3, h4⟩ := h.ok _ hb
  have h5 := h.nn _ hb
  have h6 := puse_ge h5 (sz := szP p) (fun k hk => (szP_ok hok (by omega) (by omega)).1) (j := j.toNat) (by omega)
  refine ⟨?_, by omega⟩
  rw [List.getD_eq_getElem?_getD, List.getElem?_eq_getElem (by omega)]
  exact h5 _ (List.getElem_mem _)
theorem pcs_p {p : Prob} (hok : p.Ok) : ∀ x ∈ pcsTo p.D p.m 0, 0 ≤ x ∧ x < p.m :=
  (pcsTo_ok (d := p.D) (i := p.m) (c := 0) (fun k k0 k1 => by have he := hok.all k k0 k1; unfold Prob.each at he; omega) (by have := hok.m1; omega) (by omega) (by omega) (fun h => by omega) (fun _ => rfl)).1
theorem FFitR.shape {p : Prob} {n : Int} {ln cnt : Int → Int} {pt : Int → Int → Int} {e : Int} (hok : p.Ok) (h : FFitR p (plL n ln pt cnt) e) (he : e = 0) (hl : ∀ k, 0 ≤ k → k < n → 0 ≤ ln k) : ∀ k, 0 ≤ k → k < n → ln k = p.m ∧ ∀ j, 0 ≤ j → j < p.m → 0 ≤ pt k j ∧ pt k j ≤ p.stock + p.kerf := by
  intro k k0 k1
  have hm : (lst (ln k) (pt k), cnt k) ∈ plL n ln pt cnt := List.mem_iff_getElem?.2 ⟨k.toNat, by rw [plL_get, Int.toNat_of_nonneg k0, if_pos k1]⟩
  obtain ⟨y, hy, e1⟩ := (h.2.1 he).keys _ hm
  unfold ones at hy
  obtain ⟨b, hb, rfl⟩ := List.mem_map.1 hy
  dsimp only at e1
  have hF := ffRun_p hok (pcs_p hok)
  obtain ⟨h2, _, _⟩ := hF.ok _ hb
  have hm1 := hok.m1
  rw [e1, lst_len] at h2
  have h0 := hl k k0 k1
  refine ⟨by omega, fun j j0 j1 => ?_⟩
  have h3 := FFOk_elem hok hF hb j0 j1
  rw [e1, List.getD_eq_getElem?_getD, lst_get, if_pos (by omega), Int.toNat_of_nonneg j0] at h3
  exact h3
theorem psum_used (p : Prob) (d : Int → Int) : ∀ n : Nat, psum (szP p) d n = Used p d n
  | 0 => rfl
  | n + 1 => by
    have h1 : Used p d (n + 1) = Used p d n + d n * (p.L n + p.kerf) := by
      have := sumTo_next (fun i => d i * (p.L i + p.kerf)) (i := (n : Int)) (by omega)
      rw [show ((n : Int) + 1).toNat = n + 1 by omega, Int.toNat_natCast] at this
      exact this
    rw [h1, psum, psum_used p d n, Int.mul_comm]
theorem half_law {p : Prob} {n : Int} {ln cnt : Int → Int} {pt : Int → Int → Int} {e : Int} (hok : p.Ok) (h : FFitR p (plL n ln pt cnt) e) (he : e = 0) (n0 : 0 ≤ n) :
    psum (fun k => if 2 * puse (szP p) (lst (ln k) (pt k)) ≤ p.stock + p.kerf then 1 else 0) cnt n.toNat ≤ 1 ∧ psum (fun _ => 1) cnt n.toNat ≤ 2 * ((Used p p.D p.m.toNat + (p.stock + p.kerf) - 1).tdiv (p.stock + p.kerf)) + 1 := by
  have hN := h.2.1 he
  have hF := ffRun_p hok (pcs_p hok)
  have h1 := hN.wsum fun l => if 2 * puse (szP p) l ≤ p.stock + p.kerf then 1 else 0
  have h2 := hN.wsum fun _ => 1
  rw [wsum_plL' _ n0, wsum_ones] at h1 h2
  rw [h1, h2]
  refine ⟨ff_half hF.ok hF.pr, ?_⟩
  have h3 := ff_mat (room := p.stock + p.kerf) (fun b hb => by
    obtain ⟨q1, q2, q3⟩ := hF.ok b hb
    have hm1 := hok.m1
    have := puse_ge (hF.nn b hb) (sz := szP p) (fun k hk => (szP_ok hok (by omega) (by omega)).1) (j := 0) (by omega)
    have := (FFOk_elem hok hF hb (j := 0) (by omega) (by omega)).1
    rw [show (0 : Int).toNat = 0 from rfl] at this
    omega) hF.pr
  rw [hF.mt, pcsTo_sum _ _ (by have := hok.m1; omega) (by omega) (fun k k0 k1 => by have he := hok.all k k0 k1; unfold Prob.each at he; omega), psum_used] at h3
  have h4 : ∀ l : Us, (l.map fun _ => (1 : Int)).sum = l.length := fun l => by
    induction l with
    | nil => rfl
    | cons a l ih => rw [List.map_cons, List.sum_cons, ih, List.length_cons]; push_cast; omega
  rw [h4]
  have hs := hok.s1; have hk := hok.k1
  have hM0 := Int.natCast_nonneg (ffRun p.m (p.stock + p.kerf) (szP p) (pcsTo p.D p.m 0)).length
  generalize Used p p.D p.m.toNat = U at h3 ⊢
  generalize ((ffRun p.m (p.stock + p.kerf) (szP p) (pcsTo p.D p.m 0)).length : Int) = M at h3 hM0 ⊢
  by_cases hM : 0 ≤ M / 2
  · have hU : 0 ≤ U := by
      have := Int.mul_nonneg hM (show 0 ≤ p.stock + p.kerf by omega)
      omega
    rw [Int.tdiv_eq_ediv_of_nonneg (by omega)]
    have := (Int.le_ediv_iff_mul_le (show 0 < p.stock + p.kerf by omega)).2 (show M / 2 * (p.stock + p.kerf) ≤ U + (p.stock + p.kerf) - 1 by omega)
    omega
  · omega
theorem ffit_ok {p : Prob} {l : Us} {e : Int} (hok : p.Ok) (hd : ∀ k, 0 ≤ k → k < p.m → p.D k ≤ 30) (h : FFitR p l e) : e = 0 := by
  have hb : ∀ n : Nat, (n : Int) ≤ p.m → psum (fun _ => 1) p.D n ≤ 30 * n := by
    intro n
    induction n with
    | zero => intro _; simp [psum]
    | succ n ih => intro hn; have := ih (by omega); have := hd n (by omega) (by omega); simp only [psum]; push_cast; omega
  have h1 := hb p.m.toNat (by have := hok.m1; omega)
  have h2 := hok.m2
  rcases h.1 with ⟨h3, _⟩ | ⟨_, h3, _⟩ | ⟨_, _, h3⟩
  · exact absurd hok h3
  · omega
  · exact h3
theorem mul_rng {a b A B : Int} (a0 : 0 ≤ a) (a1 : a ≤ A) (b0 : 0 ≤ b) (b1 : b ≤ B) : 0 ≤ a * b ∧ a * b ≤ A * B :=
  ⟨Int.mul_nonneg a0 b0, Int.mul_le_mul a1 b1 b0 (by omega)⟩

set_option maxRecDepth 20000 in
theorem c_same28 {va vb : Value} {n m : Int} {f g : Int → Int} (w0 : World) (hA : Row w0 va 1 n (ints f)) (hB2 : Row w0 vb 1 m (ints g)) :
    Calls Try.prog 66 [va, vb].toArray w0 fun e w => ∃ v, e = .returned v ∧ v = B (n = m ∧ ∀ k, 0 ≤ k → k < n → f k = g k) ∧ Sat w0 w [] := by
  have hn := hA.slh.n0; have hm1 := hB2.slh.n1; have hn1 := hA.slh.n1
  refine zenG Try.func66 Try.ntmps66 fun w hS => ?_
  refine zsr ?_
  refine zlv xas ?_
  refine zlt <| zsq <| zsr ?_
  refine zlv xmv ?_
  refine zlv (xln sl_22 hA.slh) ?_
  refine zlv xmv ?_
  refine zlv (xln sl_22 hB2.slh) ?_
  refine zlv xneq ?_
  refine zlt ?_
  refine zcif ?_ ?_ <;> intro hc
  ·
   refine zsr ?_
   refine zlv xas ?_
   refine zlt <| zrt <| ztr <| zf1 ⟨_, rfl, ?_⟩
   exact ⟨false_B (by rintro ⟨h1, h2⟩; first | omega | exact absurd (h2 i h0 (by omega)) (by omega)), hS⟩
  refine zsk <| ztn <| zsq <| zsr ?_
  refine zlv xas ?_
  refine zlt <| zbk <| zlp (fun mm M w => ∃ (i : Int), mm = ((n - i).toNat) ∧ (0 ≤ i) ∧ (i ≤ n) ∧ (∀ k, 0 ≤ k → k < i → f k = g k) ∧ M = [(0, va), (1, vb), (5, .int .i64 i)] ∧ Sat w0 w []) ⟨0, rfl, (by omega), (by omega), ?_, rfl, hS⟩ ?_
  ·
   intro k h0 h1; omega
  clear hS w
  rintro mm M w ⟨i, rfl, h0, h1, hall, rfl, hS⟩
  refine zsq <| zsr ?_
  refine zs2 ?_
  refine zlv (xln sl_22 hA.slh) ?_
  refine zlv xlss ?_
  refine zlt ?_
  refine zcif ?_ ?_ <;> intro hc
  ·
   refine zsk <| ztn <| zsq <| zbk <| zsq ?_
   refine zdst [] [] 1000 mx_ hS ?_; clear hS; intro w hS
   refine zdv 0 (fun _ => xmv) ?_
   refine zdv 1 (fun _ => xmv) ?_
   refine zdv 2 (fun _ => (xix (kk := i) sl_22 hA.slh)) ?_
   refine zdla 3 (fun w hS => (xlr (u := .int .i64 (f i)) pl_3 (hA.below hS.below))) ?_
   refine zdv 4 (fun _ => xmv) ?_
   refine zdv 5 (fun _ => xmv) ?_
   refine zdv 6 (fun _ => (xix (kk := i) sl_22 hB2.slh)) ?_
   refine zdla 7 (fun w hS => (xlr (u := .int .i64 (g i)) pl_3 (hB2.below hS.below))) ?_
   refine zdv 8 (fun _ => xneq) ?_
   refine zdd <| ztn ?_
   refine zcif ?_ ?_ <;> intro hc
   ·
    refine zsr ?_
    refine zlv xas ?_
    refine zlt <| zrt <| zbr <| ztr <| ztr <| zbr <| ztr <| zf1 ⟨_, rfl, ?_⟩
    exact ⟨false_B (by rintro ⟨h1, h2⟩; first | omega | exact absurd (h2 i h0 (by omega)) (by omega)), hS⟩
   refine zsk <| zbn <| ztn <| zrg ?_
   refine zlv xmv ?_
   refine zlv (xadd (r := i + 1)) ?_
   refine zlv xas ?_
   refine zln <| zlq ⟨i + 1, rfl, (by omega), (by omega), ?_, rfl, hS⟩
   ·
    intro k h0' h1'; rcases Int.lt_or_eq_of_le (show k ≤ i by omega) with hk | hk; exact hall k h0' hk; rw [hk]; omega
  refine zxt <| ztx <| ztx <| zbh <| ztn <| zsr ?_
  refine zlv xas ?_
  refine zlt <| zrt <| zf1 ⟨_, rfl, ?_⟩
  exact ⟨true_B ⟨by omega, fun k k0 k1 => hall k k0 (by omega)⟩, hS⟩

set_option maxRecDepth 20000 in
theorem c_splan {vV : Value} {n : Int} {pv : Int → Value} {ln : Int → Int} {pt : Int → Int → Int} {cnt : Int → Int} {vV2 : Value} {n2 : Int} {pv2 : Int → Value} {ln2 : Int → Int} {pt2 : Int → Int → Int} {cnt2 : Int → Int} (w0 : World) (hV : VAt w0 vV n pv ln pt cnt) (hV2 : VAt w0 vV2 n2 pv2 ln2 pt2 cnt2) :
    Calls Try.prog 60 [vV, vV2].toArray w0 fun e w => ∃ v, e = .returned v ∧ v = B (SameP n n2 ln ln2 pt pt2 cnt cnt2) ∧ Sat w0 w [] := by
  have hn := hV.row.slh.n0; have hn1 := hV.row.slh.n1
  have hm1 := hV2.row.slh.n1
  refine zenG Try.func60 Try.ntmps60 fun w hS => ?_
  refine zsr ?_
  refine zlv xas ?_
  refine zlt <| zsq <| zsr ?_
  refine zlv xmv ?_
  refine zlv (xln sl_25 hV.row.slh) ?_
  refine zlv xmv ?_
  refine zlv (xln sl_25 hV2.row.slh) ?_
  refine zlv xneq ?_
  refine zlt ?_
  refine zcif ?_ ?_ <;> intro hc
  ·
   refine zsr ?_
   refine zlv xas ?_
   refine zlt <| zrt <| ztr <| zf1 ⟨_, rfl, ?_⟩
   exact ⟨false_B (by rintro ⟨h1, h2⟩; first | omega | (obtain ⟨g1, g2⟩ := h2 i h0 (by omega); first | omega | exact absurd g2 ‹_›)), hS⟩
  refine zsk <| ztn <| zsq <| zsr ?_
  refine zlv xas ?_
  refine zlt <| zbk <| zlp (fun mm M w => ∃ (i : Int), mm = ((n - i).toNat) ∧ (0 ≤ i) ∧ (i ≤ n) ∧ (∀ k, 0 ≤ k → k < i → cnt k = cnt2 k ∧ ln k = ln2 k ∧ ∀ j, 0 ≤ j → j < ln k → pt k j = pt2 k j) ∧ M = [(0, vV), (1, vV2), (5, .int .i64 i)] ∧ Sat w0 w []) ⟨0, rfl, (by omega), (by omega), ?_, rfl, hS⟩ ?_
  ·
   intro k k0 k1; omega
  clear hS w
  rintro mm M w ⟨i, rfl, h0, h1, hall, rfl, hS⟩
  refine zsq <| zsr ?_
  refine zs2 ?_
  refine zlv (xln sl_25 hV.row.slh) ?_
  refine zlv xlss ?_
  refine zlt ?_
  refine zcif ?_ ?_ <;> intro hc
  ·
   refine zsk <| ztn <| zsq <| zbk <| zsq ?_
   refine zdst [] [] 1000 mx_ hS ?_; clear hS; intro w hS
   refine zdv 0 (fun _ => xmv) ?_
   refine zdv 1 (fun _ => xmv) ?_
   refine zdv 2 (fun _ => (xix (kk := 2 * i) sl_25 hV.row.slh)) ?_
   refine zdv 3 (fun _ => (xfc (kk := 2 * i + 1) fd_34_1 hV.row.slh)) ?_
   refine zdla 4 (fun w hS => (xlr (u := .int .i64 (cnt i)) pl_3 (hV.row.below hS.below) (e := (ucells1 pv cnt (by omega))))) ?_
   refine zdv 5 (fun _ => xmv) ?_
   refine zdv 6 (fun _ => xmv) ?_
   refine zdv 7 (fun _ => (xix (kk := 2 * i) sl_25 hV2.row.slh)) ?_
   refine zdv 8 (fun _ => (xfc (kk := 2 * i + 1) fd_34_1 hV2.row.slh)) ?_
   refine zdla 9 (fun w hS => (xlr (u := .int .i64 (cnt2 i)) pl_3 (hV2.row.below hS.below) (e := (ucells1 pv2 cnt2 (by omega))))) ?_
   refine zdv 10 (fun _ => xneq) ?_
   refine zdv 11 (fun _ => xmv) ?_
   refine zdb 28 ?_ ?_ <;> intro hc
   ·
    refine zdof 12 ?_
    refine zdof 13 ?_
    refine zdof 14 ?_
    refine zdof 15 ?_
    refine zdof 16 ?_
    refine zdof 17 ?_
    refine zdof 18 ?_
    refine zdof 19 ?_
    refine zdof 20 ?_
    refine zdof 21 ?_
    refine zdof 22 ?_
    refine zdof 23 ?_
    refine zdv 24 (fun _ => xpt) ?_
    refine zdd <| ztn <| zct <| zsr ?_
    refine zlv xas ?_
    refine zlt <| zrt <| zbr <| ztr <| ztr <| zbr <| ztr <| zf1 ⟨_, rfl, ?_⟩
    exact ⟨false_B (by rintro ⟨h1, h2⟩; first | omega | (obtain ⟨g1, g2⟩ := h2 i h0 (by omega); first | omega | exact absurd g2 ‹_›)), hS⟩
   refine zdv 12 (fun _ => xmv) ?_
   refine zdv 13 (fun _ => xmv) ?_
   refine zdv 14 (fun _ => (xix (kk := 2 * i) sl_25 hV.row.slh)) ?_
   refine zdv 15 (fun _ => (xfc (kk := 2 * i) fd_34_0 hV.row.slh)) ?_
   refine zdla 16 (fun w hS => (xlr (u := (pv i)) pl_22 (hV.row.below hS.below) (e := (ucells0 pv cnt (by omega))))) ?_
   refine zdv 17 (fun _ => xmv) ?_
   refine zdv 18 (fun _ => xmv) ?_
   refine zdv 19 (fun _ => (xix (kk := 2 * i) sl_25 hV2.row.slh)) ?_
   refine zdv 20 (fun _ => (xfc (kk := 2 * i) fd_34_0 hV2.row.slh)) ?_
   refine zdla 21 (fun w hS => (xlr (u := (pv2 i)) pl_22 (hV2.row.below hS.below) (e := (ucells0 pv2 cnt2 (by omega))))) ?_
   refine zdc 22 (xc0 cl_66) (c_same28 (n := (ln i)) (m := (ln2 i)) (f := (pt i)) (g := (pt2 i)) w ((hV.p i (by omega) (by omega)).below hS.below) ((hV2.p i (by omega) (by omega)).below hS.below)) ?_; rintro _ w ⟨rfl, hS'⟩
   replace hS := hS.cmp hS'; clear hS'
   refine ⟨⟨fun _ => hS, hS⟩, ?_⟩
   refine zdv 23 (fun _ => xnot) ?_
   refine zdv 24 (fun _ => xpf) ?_
   refine zdd <| ztn ?_
   refine zcif ?_ ?_ <;> intro hc
   ·
    refine zsr ?_
    refine zlv xas ?_
    refine zlt <| zrt <| zbr <| ztr <| ztr <| zbr <| ztr <| zf1 ⟨_, rfl, ?_⟩
    exact ⟨false_B (by rintro ⟨h1, h2⟩; first | omega | (obtain ⟨g1, g2⟩ := h2 i h0 (by omega); first | omega | exact absurd g2 ‹_›)), hS⟩
   refine zsk <| zbn <| ztn <| zrg ?_
   refine zlv xmv ?_
   refine zlv (xadd (r := i + 1)) ?_
   refine zlv xas ?_
   refine zln <| zlq ⟨i + 1, rfl, (by omega), (by omega), ?_, rfl, hS⟩
   ·
    have hq : (ln i) = (ln2 i) ∧ ∀ k, 0 ≤ k → k < (ln i) → (pt i) k = (pt2 i) k := by first | assumption | exact Classical.not_not.1 ‹_›
    intro k k0 k1; rcases Int.lt_or_eq_of_le (show k ≤ i by omega) with hk | hk
    · exact hall k k0 hk
    · rw [hk]; exact ⟨by omega, hq⟩
  refine zxt <| ztx <| ztx <| zbh <| ztn <| zsr ?_
  refine zlv xas ?_
  refine zlt <| zrt <| zf1 ⟨_, rfl, ?_⟩
  exact ⟨true_B ⟨by omega, fun k k0 k1 => hall k k0 (by omega)⟩, hS⟩

set_option maxRecDepth 20000 in
theorem c_theirs {vV : Value} {n : Int} {pv : Int → Value} {ln : Int → Int} {pt : Int → Int → Int} {cnt : Int → Int} (w0 : World) (hV : VAt w0 vV n pv ln pt cnt) (hn5 : n ≤ 100000) :
    Calls Try.prog 61 [vV].toArray w0 fun e w => ∃ v, e = .returned v ∧ ∃ r, v = r ∧ Slh r n ∧ Sat w0 w [.own r 2 34 n (ucells pv cnt)] := by
  have hn := hV.row.slh.n0; have hn1 := hV.row.slh.n1
  refine zenG Try.func61 Try.ntmps61 fun w hS => ?_
  refine zsr ?_
  refine zlv xas ?_
  refine zlz ?_
  refine zlv xas ?_
  refine zlt <| zsq <| zsr ?_
  refine zlv xmv ?_
  refine zlv (xln sl_43 hV.row.slh) ?_
  refine zlv xmv ?_
  refine zlt <| zbk ?_
  replace hS := hS.addnil 2 34 (ucells (fun _ => Value.slice none 0 0) (fun _ => 0))
  replace hS := hS.n1
  refine zlp (fun mm M w => ∃ (nC : Int) (wv : Int → Value) (cC : Int → Int) (i : Int) (wC : Value), mm = ((n - i).toNat) ∧ (0 ≤ i) ∧ (i ≤ n) ∧ (nC = i) ∧ (∀ k, 0 ≤ k → k < i → wv k = pv k) ∧ (∀ k, 0 ≤ k → k < i → cC k = cnt k) ∧ (Slh wC nC) ∧ M = [(2, .slice none 0 0), (3, wC), (6, vV), (7, .int .i64 n), (8, .int .i64 i)] ∧ Sat w0 w [.own wC 2 34 nC (ucells wv cC)]) ⟨0, (fun _ => Value.slice none 0 0), (fun _ => 0), 0, (.slice none 0 0), rfl, (by omega), (by omega), (by omega), ?_, ?_, ?_, rfl, hS⟩ ?_
  ·
   intro k k0 k1; omega
  ·
   intro k k0 k1; omega
  ·
   exact slh_nil
  clear hS w
  rintro mm M w ⟨nC, wv, cC, i, wC, rfl, h0, h1, hnC, hwv, hcC, hwC, rfl, hS⟩
  refine zsr ?_
  refine zlv xlss ?_
  refine zlt <| zsq ?_
  refine zcif ?_ ?_ <;> intro hc
  ·
   refine zsk <| ztn <| zsq <| zbk <| zsr ?_
   refine zlv (xix (kk := 2 * i) sl_43 hV.row.slh) ?_
   refine zlv (xlw (cs := [(pv i), .int .i64 (cnt i)]) st_50 (hV.row.below hS.below) (ucells_at (k := 2 * i) (i := i) pv cnt (by omega))) ?_
   refine zla (xal (cs := [_, _]) el_50 hS) ?_; rintro _ w ⟨g1, rfl, hS⟩
   replace hS := hS.n2
   refine zle (xsw 1 st_50 hS (hd := (ones_cons (hV.p i (by omega) (by omega)).slh.one (ones_cons rfl ones_nil)))) ?_; clear hS; rintro w hS
   replace hS := hS.n2
   refine zlt <| zrg ?_
   refine zlv xmv ?_
   refine zlv (xls 1 st_50 hS) ?_
   refine zla (xli (n := 1) (len := 1) (pv := [(0, .agg #[(pv i), .int .i64 (cnt i)])]) (cs := [(pv i), .int .i64 (cnt i)]) (c := ucells (fun _ => (pv i)) (fun _ => (cnt i))) sl_25 el_34 hS (hf := by have hz := (hV.p i (by omega) (by omega)).slh; revert hz; generalize (pv i) = z; rintro ⟨_, _, _, _, rfl, _⟩; show _ = _; kernel_rfl)) ?_; rintro v1 w ⟨hS, hv1⟩
   replace hS := hS.n3
   refine zla (xap 0 (r := nC + 1) sl_25 el_34 hS (hS.rowN 2 rfl) (cat_ucells _ _ _ _ _) (h1 := fun k _ _ => ucells_one (fun _ => (hV.p i (by omega) (by omega)).slh.one) k)) ?_; rintro v2 w ⟨hS, hv2⟩
   replace hS := hS.n3
   refine zlv xas ?_
   refine zln <| zbn <| ztn <| zrg ?_
   refine zlv (xadd (r := i + 1)) ?_
   refine zlv xmv ?_
   refine zln <| zlq ⟨nC + 1, (gsn wv nC (pv i)), (snoc cC nC (cnt i)), i + 1, v2, rfl, (by omega), (by omega), (by omega), ?_, ?_, ?_, rfl, hS.pk [0]⟩
   ·
    intro k k0 k1; by_cases e : k < nC
    · rw [gsn_lt e]; exact hwv k k0 (by omega)
    · rw [gsn_at e, show k = i by omega]
   ·
    intro k k0 k1; by_cases e : k < nC
    · rw [snoc_lt e]; exact hcC k k0 (by omega)
    · rw [snoc_at e, show k = i by omega]
   ·
    exact hv2
  refine zxt <| ztx <| ztx <| zbh <| ztn <| zsr ?_
  refine zs2 ?_
  refine zlt <| zrt <| zf1 ⟨_, rfl, ?_⟩
  obtain rfl : i = n := by omega
  subst hnC
  replace hS := hS.recont 0 rfl (d := ucells pv cnt) (fun k k0 k1 => by unfold ucells; rw [hwv _ (by omega) (by omega), hcC _ (by omega) (by omega)])
  exact ⟨_, rfl, hwC, hS⟩

set_option maxRecDepth 20000 in
theorem c_same34 {vV : Value} {n : Int} {pv : Int → Value} {ln : Int → Int} {pt : Int → Int → Int} {cnt : Int → Int} {vV2 : Value} {n2 : Int} {pv2 : Int → Value} {ln2 : Int → Int} {pt2 : Int → Int → Int} {cnt2 : Int → Int} (w0 : World) (hV : VAt w0 vV n pv ln pt cnt) (hV2 : VAt w0 vV2 n2 pv2 ln2 pt2 cnt2) (hnn : n ≤ 100000) :
    Calls Try.prog 26 [vV, vV2].toArray w0 fun e w => ∃ v, e = .returned v ∧ v = B (SameP n n2 ln ln2 pt pt2 cnt cnt2) ∧ Sat w0 w [] := by
  have hn5 := hnn
  refine zenG Try.func26 Try.ntmps26 fun w hS => ?_
  refine zsr ?_
  refine zlv xas ?_
  refine zlz ?_
  refine zlv xmv ?_
  refine zlc (xc0 cl_61) (c_theirs (n := n) (pv := pv) (ln := ln) (pt := pt) (cnt := cnt) w (hV.below hS.below) (by omega)) ?_; rintro vtth1 w ⟨_, rfl, hvtth1, hS'⟩
  replace hS : Sat w0 w [.own vtth1 2 34 n (ucells pv cnt)] := hS.comp hS'; clear hS'
  refine zlv xmv ?_
  refine zlc (xc0 cl_60) (c_splan (n := n) (pv := pv) (ln := ln) (pt := pt) (cnt := cnt) (n2 := n2) (pv2 := pv2) (ln2 := ln2) (pt2 := pt2) (cnt2 := cnt2) w (⟨(hS.rowN 0 rfl), fun k k0 k1 => (hV.p k k0 k1).below hS.below, hV.room⟩ : VAt _ vtth1 n pv ln pt cnt) (hV2.below hS.below)) ?_; rintro _ w ⟨rfl, hS'⟩
  replace hS := hS.cmp hS'; clear hS'
  refine zlv xas ?_
  refine zlt <| zrt <| zf1 ⟨_, rfl, ?_⟩
  exact ⟨rfl, hS.nl⟩

end Go.Proofs.Ytopmifmfecfaaaa
