/- What Refute answers, plain. -/
import Derived.Test.YtakgjpmhbfieeaaFz
namespace Go.Proofs.Gw
open Go Go.RowKit
set_option linter.unusedVariables false
theorem rdG_next (u : Tb) (y0 g : Int → Int) {j : Int} (h : 0 ≤ j) : rdG u y0 g (j + 1).toNat = if u.vars ≤ u.F j then upd (rdG u y0 g j.toNat) (u.F j - u.vars) (g j) else rdG u y0 g j.toNat := by
  rw [show (j + 1).toNat = j.toNat + 1 by omega, rdG, Int.toNat_of_nonneg h]
def RefuteR (p : Lp) (y : Int → Int) (my e : Int) : Prop :=
  (¬ LOk p ∧ my = 0 ∧ e = 1) ∨ (LOk p ∧ ∃ u f, Run 1000 (startT p) u f ∧
    ((f = 0 ∧ my = 0 ∧ e = 8) ∨ (f ≠ 0 ∧ f ≠ 19 ∧ my = 0 ∧ e = f) ∨ (f = 19 ∧ my = p.m ∧ e = 0 ∧ y = refY u (leav u u.nb.toNat))))
theorem RefuteR.same {p : Lp} {y y' : Int → Int} {my my' e e' : Int} (h : RefuteR p y my e) (h' : RefuteR p y' my' e') : my = my' ∧ e = e' ∧ (0 < my → y = y') := by
  rcases h with ⟨a1, a2, a3⟩ | ⟨a1, u, f, hr, a2⟩ <;> rcases h' with ⟨b1, b2, b3⟩ | ⟨b1, u', f', hr', b2⟩
  · exact ⟨by omega, by omega, fun h => by omega⟩
  · exact absurd b1 a1
  · exact absurd a1 b1
  · obtain ⟨rfl, rfl⟩ := hr.same hr'
    rcases a2 with ⟨a2, a3, a4⟩ | ⟨a2, a3, a4, a5⟩ | ⟨a2, a3, a4, a5⟩ <;> rcases b2 with ⟨b2, b3, b4⟩ | ⟨b2, b3, b4, b5⟩ | ⟨b2, b3, b4, b5⟩ <;> first
      | omega
      | exact ⟨by omega, by omega, fun h => by omega⟩
      | exact ⟨by omega, by omega, fun _ => by rw [a5, b5]⟩
/-- Where there is no solution, it proves that; otherwise it says why. -/
theorem refute_law {p : Lp} (hl : LOk p) (hm : 0 ≤ p.m) {s : So} {e e' my : Int} {y : Int → Int} (hs : SolveR p s e) (hr : RefuteR p y my e') :
    (e = 19 ∧ e' = 0 ∧ my = p.m ∧ RefS p y) ∨ (e = 0 ∧ my = 0 ∧ e' = 8) ∨ (e ≠ 19 ∧ e ≠ 0 ∧ my = 0 ∧ e' = e) := by
  rcases hs with ⟨h, _⟩ | ⟨_, u, hru, _⟩
  · exact absurd hl h
  rcases hr with ⟨h, _⟩ | ⟨_, u', f, hru', h⟩
  · exact absurd hl h
  obtain ⟨rfl, rfl⟩ := hru.same hru'
  rcases h with ⟨h1, h2, h3⟩ | ⟨h1, h2, h3, h4⟩ | ⟨h1, h2, h3, h4⟩
  · exact .inr (.inl ⟨h1, h2, h3⟩)
  · exact .inr (.inr ⟨h2, h1, h3, h4⟩)
  · subst h1; subst h4; exact .inl ⟨rfl, h3, h2, run_ref hl hm hru⟩
end Go.Proofs.Gw
