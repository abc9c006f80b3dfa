/- Plain laws: tableaux that pivots reach. -/
import Derived.Test.YtkcmbndnhcofpaaGv
import Derived.Test.YtkcmbndnhcofpaaW13
import Derived.Test.YtkcmbndnhcofpaaFo
import Derived.Test.YtkcmbndnhcofpaaFq
namespace Go.Proofs.Ytkcmbndnhcofpaa
open Go Go.RowKit Go.Proofs.Gw
set_option linter.unusedVariables false

/-- A tableau that pivots reach from the first one. -/
def TRch (p : Lp) (t : Tb) : Prop := TPrp t ∧ (∃ eps, DInv p t eps) ∧ (∀ (x : Int → Int) (k0 : Int), Idt t k0 (dotp p.c x p.n.toNat) (allv p x k0)) ∧ t.nb = p.m ∧ t.nf = p.n
theorem TRch.start {p : Lp} (hl : LOk p) (hm : 0 ≤ p.m) : TRch p (startT p) := by
  refine ⟨(prp_start hl hm).1, ⟨_, dinv_start hl hm⟩, fun x k0 => (idt_start hl hm k0 _ _).2 ⟨?_, fun i i0 i1 => ?_⟩, rfl, rfl⟩
  · exact sumTo_congr fun j j0 j1 => by unfold allv; rw [if_pos (by omega)]
  · have : dotp (p.A i) (allv p x k0) p.n.toNat = dotp (p.A i) x p.n.toNat := sumTo_congr fun j j0 j1 => by unfold allv; rw [if_pos (by omega)]
    rw [this]; unfold allv; rw [if_neg (by omega), show p.n + i - p.n = i by omega]
theorem TRch.piv {p : Lp} {t t' : Tb} {r c e : Int} (h : TRch p t) (hv : PivR t r c t' e) (he : e = 0) : TRch p t' := by
  obtain ⟨h1, ⟨eps, h2⟩, h3, h4, h5⟩ := h
  rcases hv with ⟨_, _, h⟩ | ⟨_, _, _, h⟩ | ⟨_, _, _, _, h⟩ | ⟨ha, hd, hp, rfl, _⟩
  · omega
  · omega
  · omega
  · exact ⟨hp, ⟨_, dinv_piv h2 ha⟩, fun x k0 => (idt_piv ha hd k0 _ _).1 (h3 x k0), h4, h5⟩
theorem TRch.errs {p : Lp} {t t' : Tb} {r c e : Int} (h : TRch p t) (hv : PivR t r c t' e) : e = 0 ∨ e = 1 ∨ e = 2 := by
  obtain ⟨h1, ⟨eps, h2⟩, _⟩ := h
  rcases hv with ⟨_, _, h⟩ | ⟨ha, hd, _, h⟩ | ⟨_, _, _, _, h⟩ | ⟨_, _, _, _, h⟩
  · omega
  · exact absurd (dinv_pdiv h2 ha) hd
  · omega
  · omega
theorem TRch.perm {p : Lp} {t : Tb} (h : TRch p t) (hm : 0 ≤ p.m) : (∀ j, 0 ≤ j → j < t.nf → 0 ≤ t.F j ∧ t.F j < p.n + p.m) ∧ ∀ i, 0 ≤ i → i < t.nb → 0 ≤ t.B i ∧ t.B i < p.n + p.m := by
  obtain ⟨h1, _, _, h4, h5⟩ := h
  have hn := h1.n1
  constructor
  · intro j j0 j1
    have := h1.perm.1 j j0 (by omega)
    unfold cat at this
    rw [if_pos j1] at this
    omega
  · intro i i0 i1
    have := h1.perm.1 (t.nf + i) (by omega) (by omega)
    unfold cat at this
    rw [if_neg (by omega), show t.nf + i - t.nf = i by omega] at this
    omega
/-- A row of the tableau, read at numbers and their surpluses. -/
theorem TRch.row {p : Lp} {t : Tb} (h : TRch p t) (hm : 0 ≤ p.m) {x v : Int → Int} (hv : ∀ k, 0 ≤ k → k < p.n + p.m → v k = allv p x 1 k) {i : Int} (i0 : 0 ≤ i) (i1 : i ≤ t.nb) :
    t.C i 0 + sumTo (fun j => t.C i (j + 1) * v (t.F j)) t.nf.toNat = (if i = 0 then dotp p.c x p.n.toNat else v (t.B (i - 1))) * t.den := by
  obtain ⟨p1, p2⟩ := h.perm hm
  have h3 := h.2.2.1 x 1 i i0 i1
  unfold lhsv rowv at h3
  rw [Int.mul_one] at h3
  have e1 : sumTo (fun j => t.C i (j + 1) * v (t.F j)) t.nf.toNat = sumTo (fun j => t.C i (j + 1) * allv p x 1 (t.F j)) t.nf.toNat := sumTo_congr fun j j0 j1 => by
    have := p1 j j0 (by omega)
    rw [hv _ this.1 this.2]
  rw [e1, ← h3, Int.mul_comm]
  by_cases e : i = 0
  · rw [if_pos e, if_pos e]
  · rw [if_neg e, if_neg e]
    have := p2 (i - 1) (by omega) (by omega)
    rw [hv _ this.1 this.2]
/-- The numbers of a list, and noughts. -/
def xx (nx : Int) (fx : Int → Int) (j : Int) : Int := if j < nx then (fx j).tmod 100 else 0
theorem xx_rng {nx : Int} {fx : Int → Int} (h : ∀ k, 0 ≤ fx k ∧ fx k ≤ 255) (j : Int) : 0 ≤ xx nx fx j ∧ xx nx fx j ≤ 99 := by
  unfold xx
  split
  · have := Int.tmod_nonneg 100 (h j).1; have := Int.tmod_lt_of_pos (fx j) (show (0 : Int) < 100 by omega); omega
  · omega
/-- A value's range. -/
theorem allv_low {p : Lp} {x : Int → Int} {k0 q : Int} (h : q < p.n) : allv p x k0 q = x q := if_pos h
theorem allv_high {p : Lp} {x : Int → Int} {i : Int} (i0 : 0 ≤ i) : allv p x 1 (p.n + i) = dotp (p.A i) x p.n.toNat - p.b i := by
  unfold allv; rw [if_neg (by omega), show p.n + i - p.n = i by omega, Int.mul_one]

theorem xquo8 {P : Program} {L : List (Nat × Value)} {w : World} {o : Oper} {x y : Operand} {T T' : TypeId} {m n r : Int} (ho : o.op = .binOp .quo T x y T' := by exact rfl) (hx : evL L x = some (.int .u8 m) := by exact rfl) (hy : evL L y = some (.int .u8 n) := by exact rfl) (hn : n ≠ 0 := by omega) (e : r = m.tdiv n := by exact rfl) (hr : InK .u8 r := by unfold InK; omega) : Runs P L w o (.value (.int .u8 r)) w := fun ρ h => by
  subst e
  simp [execOp, ho, h _ _ hx, h _ _ hy, go_sem, Op.intDiv, hn, hr.wrap]

end Go.Proofs.Ytkcmbndnhcofpaa
