/- Plain laws of plans and of first fit. -/
import Derived.Test.YtopmifmfecfaaaaGv
import Derived.Test.YtopmifmfecfaaaaR4
namespace Go.Proofs.Ytopmifmfecfaaaa
open Go Go.RowKit Go.Proofs.Gw
set_option linter.unusedVariables false

theorem wsum_plL (f : List Int → Int) {ln : Int → Int} {pt : Int → Int → Int} {cnt : Int → Int} : ∀ n : Nat, wsum f (plL (n : Int) ln pt cnt) = psum (fun k => f (lst (ln k) (pt k))) cnt n
  | 0 => rfl
  | n + 1 => by
    rw [show ((n + 1 : Nat) : Int) = (n : Int) + 1 by omega, plL_next (by omega), wsum_append, wsum_plL f n]
    simp only [wsum, psum]; omega
theorem wsum_plL' (f : List Int → Int) {n : Int} {ln : Int → Int} {pt : Int → Int → Int} {cnt : Int → Int} (n0 : 0 ≤ n) : wsum f (plL n ln pt cnt) = psum (fun k => f (lst (ln k) (pt k))) cnt n.toNat := by
  have := wsum_plL f (ln := ln) (pt := pt) (cnt := cnt) n.toNat
  rwa [Int.toNat_of_nonneg n0] at this
theorem sum_range (f : Nat → Int) : ∀ n : Nat, ((List.range (n + 1)).map f).sum = ((List.range n).map f).sum + f n := fun n => by
  rw [List.range_succ, List.map_append, List.sum_append]; simp
theorem puse_lst (sz : Int → Int) (f : Int → Int) : ∀ n : Nat, puse sz (lst (n : Int) f) = psum sz f n := fun n => by
  have key : ∀ j : Nat, j ≤ n → ((List.range j).map fun (k : Nat) => (lst (n : Int) f).getD k 0 * sz k).sum = psum sz f j := by
    intro j
    induction j with
    | zero => intro _; rfl
    | succ j ih =>
      intro hj
      rw [sum_range, ih (by omega), psum, List.getD_eq_getElem?_getD, lst_get, if_pos (by omega), Int.mul_comm]; rfl
  unfold puse
  rw [lst_len, Int.toNat_natCast]
  exact key n (Nat.le_refl _)
theorem puse_lst' (sz : Int → Int) (f : Int → Int) {n : Int} (n0 : 0 ≤ n) : puse sz (lst n f) = psum sz f n.toNat := by
  have := puse_lst sz f n.toNat
  rwa [Int.toNat_of_nonneg n0] at this
/-- Equal as lists. -/
theorem SameP.of_plL {n n2 : Int} {ln ln2 : Int → Int} {pt pt2 : Int → Int → Int} {cnt cnt2 : Int → Int} (n0 : 0 ≤ n) (m0 : 0 ≤ n2) (h1 : ∀ k, 0 ≤ k → k < n → 0 ≤ ln k) (h2 : ∀ k, 0 ≤ k → k < n2 → 0 ≤ ln2 k) (h : plL n ln pt cnt = plL n2 ln2 pt2 cnt2) : SameP n n2 ln ln2 pt pt2 cnt cnt2 := by
  have hl := congrArg List.length h
  rw [plL_len, plL_len] at hl
  refine ⟨by omega, fun k k0 k1 => ?_⟩
  have hk := congrArg (fun l => l[k.toNat]?) h
  simp only [plL_get] at hk
  rw [Int.toNat_of_nonneg k0, if_pos k1, if_pos (by omega)] at hk
  injection hk with hk
  injection hk with hk1 hk2
  obtain ⟨h3, h4⟩ := (lst_eq (h1 k k0 k1) (h2 k k0 (by omega))).1 hk1
  exact ⟨hk2, h3, h4⟩
/-- What FirstFit returns. -/
def FFitR (p : Prob) (l : Us) (e : Int) : Prop := ChkR p e ∧ (e = 0 → NormR (ones (ffRun p.m (p.stock + p.kerf) (szP p) (pcsTo p.D p.m 0))) l) ∧ (e ≠ 0 → l = [])
theorem ChkR.same {p : Prob} {e f : Int} (h : ChkR p e) (k : ChkR p f) : e = f := by
  rcases h with ⟨h1, h2⟩ | ⟨h1, h2, h3⟩ | ⟨h1, h2, h3⟩ <;> rcases k with ⟨k1, k2⟩ | ⟨k1, k2, k3⟩ | ⟨k1, k2, k3⟩ <;> first | exact absurd h1 k1 | exact absurd k1 h1 | omega
theorem FFitR.same {p : Prob} {l m : Us} {e f : Int} (h : FFitR p l e) (k : FFitR p m f) : l = m ∧ e = f := by
  have he := h.1.same k.1
  subst he
  refine ⟨?_, rfl⟩
  by_cases h0 : e = 0
  · exact (h.2.1 h0).same (k.2.1 h0)
  · rw [h.2.2 h0, k.2.2 h0]
/-- The example of the document. -/
def pR : Prob := ⟨2, fun k => [5, 3].getD k.toNat 0, 2, fun k => [3, 4].getD k.toNat 0, 11, 1⟩
theorem okR : pR.Ok := ⟨by decide, by decide, rfl, by decide, by decide, by decide, by decide, fun i i0 i1 => by
  have i1' : i < 2 := i1
  have : i = 0 ∨ i = 1 := by omega
  rcases this with rfl | rfl <;> (unfold Prob.each; decide)⟩
def exPt : Int → Int → Int := fun k j => ([[2, 0], [1, 1], [0, 3]].getD k.toNat []).getD j.toNat 0
theorem runR : ones (ffRun pR.m (pR.stock + pR.kerf) (szP pR) (pcsTo pR.D pR.m 0)) = plL 3 (fun _ => 2) exPt (fun _ => 1) := by decide +kernel
theorem normR : NormR (ones (ffRun pR.m (pR.stock + pR.kerf) (szP pR) (pcsTo pR.D pR.m 0))) (plL 3 (fun _ => 2) exPt (fun _ => 1)) := by
  rw [runR]
  refine ⟨by decide +kernel, ?_⟩
  have e : plL 3 (fun _ => 2) exPt (fun _ => 1) = [([2, 0], 1), ([1, 1], 1), ([0, 3], 1)] := by decide +kernel
  rw [e]
  have a1 : ahd [2, 0] [1, 1] := ⟨0, fun k hk => by omega, by simp [olt]⟩
  have a2 : ahd [1, 1] [0, 3] := ⟨0, fun k hk => by omega, by simp [olt]⟩
  refine .cons (fun b hb => ?_) (.cons (fun b hb => ?_) (.cons (fun b hb => by simp at hb) .nil))
  · simp at hb; rcases hb with rfl | rfl
    · exact a1
    · exact ahd_trans a1 a2
  · simp at hb; subst hb; exact a2
theorem ffitEx {l : Us} {e : Int} (h : FFitR pR l e) : e = 0 ∧ l = plL 3 (fun _ => 2) exPt (fun _ => 1) := by
  have k : FFitR pR (plL 3 (fun _ => 2) exPt (fun _ => 1)) 0 := ⟨.inr (.inr ⟨okR, by decide +kernel, rfl⟩), fun _ => normR, fun h => absurd rfl h⟩
  obtain ⟨h1, h2⟩ := h.same k
  exact ⟨h2, h1⟩

end Go.Proofs.Ytopmifmfecfaaaa
