/- Values of certificates for sheets, plain. -/
import Derived.Test.YtmlfpniaknmmfaaFb
namespace Go.Proofs.Gw
open Go Go.RowKit
set_option linter.unusedVariables false
set_option linter.unusedSimpArgs false

structure Sht where
  w : Int
  h : Int
  kf : Int
structure Dem where
  n : Int
  W : Int → Int
  H : Int → Int
  N : Int → Int
structure Crt where
  a : Int
  p : Int
  b : Int
  q : Int
def Dem.each (d : Dem) (i : Int) : Prop := 1 ≤ d.W i ∧ d.W i ≤ 2000 ∧ 1 ≤ d.H i ∧ d.H i ≤ 2000 ∧ 0 ≤ d.N i ∧ d.N i ≤ 1000
structure DOk (d : Dem) (s : Sht) : Prop where
  few : d.n ≤ 20
  w1 : 1 ≤ s.w
  w2 : s.w ≤ 2000
  h1 : 1 ≤ s.h
  h2 : s.h ≤ 2000
  k1 : 0 ≤ s.kf
  k2 : s.kf ≤ 50
  all : ∀ i, 0 ≤ i → i < d.n → d.each i
def Dem.great (d : Dem) (s : Sht) (i : Int) : Prop := 0 < d.N i ∧ (s.w < d.W i ∨ s.h < d.H i)
def DGreat (d : Dem) (s : Sht) : Prop := ∃ i, 0 ≤ i ∧ i < d.n ∧ d.great s i
def ChkD (d : Dem) (s : Sht) (e : Int) : Prop := (¬ DOk d s ∧ e = 1) ∨ (DOk d s ∧ DGreat d s ∧ e = 19) ∨ (DOk d s ∧ ¬ DGreat d s ∧ e = 0)
def Crt.ok (x : Crt) (s : Sht) : Prop := okF x.a x.p (s.w + s.kf) ∧ okF x.b x.q (s.h + s.kf)
def Crt.f (x : Crt) (s : Sht) (n : Int) : Int := dfv x.a x.p n (s.w + s.kf)
def Crt.g (x : Crt) (s : Sht) (n : Int) : Int := dfv x.b x.q n (s.h + s.kf)
def Crt.term (x : Crt) (d : Dem) (s : Sht) (i : Int) : Int := d.N i * x.f s (d.W i + s.kf) * x.g s (d.H i + s.kf)
def Crt.top (x : Crt) (s : Sht) : Int := x.f s (s.w + s.kf) * x.g s (s.h + s.kf)
def Crt.sum (x : Crt) (d : Dem) (s : Sht) (n : Nat) : Int := sumTo (x.term d s) n
def Crt.val (x : Crt) (d : Dem) (s : Sht) : Int := (x.sum d s d.n.toNat + x.top s - 1).tdiv (x.top s)
theorem Sat.ref {w0 w : World} {l : List Ent} {a : Addr} {v : Value} (hS : Sat w0 w l) (hc : w0.cell? a = some v) : w.cell? a = some v := by
  rw [hS.below.cell (World.block_lt_of_cell? w0 _ hc)]; exact hc
def ValueR (x : Crt) (d : Dem) (s : Sht) (a e : Int) : Prop :=
  (¬ (DOk d s ∧ x.ok s) ∧ a = 0 ∧ e = 1) ∨ (DOk d s ∧ x.ok s ∧ DGreat d s ∧ a = 0 ∧ e = 19) ∨ (DOk d s ∧ x.ok s ∧ ¬ DGreat d s ∧ a = x.val d s ∧ e = 0)
theorem ValueR.same {x : Crt} {d : Dem} {s : Sht} {a e a' e' : Int} (h : ValueR x d s a e) (h' : ValueR x d s a' e') : a = a' ∧ e = e' := by
  rcases h with ⟨a1, a2, a3⟩ | ⟨a1, a2, a3, a4, a5⟩ | ⟨a1, a2, a3, a4, a5⟩ <;> rcases h' with ⟨b1, b2, b3⟩ | ⟨b1, b2, b3, b4, b5⟩ | ⟨b1, b2, b3, b4, b5⟩ <;> first
    | omega
    | exact absurd ⟨b1, b2⟩ a1
    | exact absurd ⟨a1, a2⟩ b1
    | exact absurd a3 b3
    | exact absurd b3 a3
theorem dfv_top {kind k c : Int} (h : okF kind k c) (hc : 1 ≤ c) : 1 ≤ dfv kind k c c := by
  rcases h with ⟨rfl, rfl⟩ | ⟨rfl, hk⟩ | ⟨rfl, hk⟩
  · rw [dfv0]; exact hc
  · rw [dfv1a (Int.mul_tmod_left _ _)]
    have := Int.mul_le_mul hk.1 hc (by omega) (by omega); omega
  · rw [dfv2a (by omega)]; exact hc
theorem fits_of {d : Dem} {s : Sht} (h : DOk d s) {i : Int} (h0 : 0 ≤ i) (h1 : i < d.n) (hn : 0 < d.N i) (hg : ¬ d.great s i) : d.W i ≤ s.w ∧ d.H i ≤ s.h := by
  unfold Dem.great at hg
  constructor
  · rcases Int.lt_or_le s.w (d.W i) with h | h
    · exact absurd ⟨hn, .inl h⟩ hg
    · exact h
  · rcases Int.lt_or_le s.h (d.H i) with h | h
    · exact absurd ⟨hn, .inr h⟩ hg
    · exact h
theorem top_bd {x : Crt} {d : Dem} {s : Sht} (h : DOk d s) (hx : x.ok s) : 1 ≤ x.f s (s.w + s.kf) ∧ x.f s (s.w + s.kf) ≤ 404000 ∧ 1 ≤ x.g s (s.h + s.kf) ∧ x.g s (s.h + s.kf) ≤ 404000 ∧ 1 ≤ x.top s ∧ x.top s ≤ 163216000000 := by
  have h1 := h.w1; have h2 := h.w2; have h3 := h.h1; have h4 := h.h2; have h5 := h.k1; have h6 := h.k2
  have a1 := dfv_top hx.1 (by omega)
  have a2 := dfv_top hx.2 (by omega)
  have b1 := dfv_bd hx.1 (x := s.w + s.kf) (by omega) (by omega) (by omega) (by omega)
  have b2 := dfv_bd hx.2 (x := s.h + s.kf) (by omega) (by omega) (by omega) (by omega)
  have c1 := mul_rng b1.1 b1.2 b2.1 b2.2
  have c2 := Int.mul_le_mul a1 a2 (by omega) (show 0 ≤ dfv x.a x.p (s.w + s.kf) (s.w + s.kf) by omega)
  unfold Crt.top
  unfold Crt.f Crt.g at *
  omega
theorem term_bd {x : Crt} {d : Dem} {s : Sht} (h : DOk d s) (hx : x.ok s) {i : Int} (h0 : 0 ≤ i) (h1 : i < d.n) (hn : 0 < d.N i) (hg : ¬ d.great s i) :
    0 ≤ x.f s (d.W i + s.kf) ∧ x.f s (d.W i + s.kf) ≤ 404000 ∧ 0 ≤ x.g s (d.H i + s.kf) ∧ x.g s (d.H i + s.kf) ≤ 404000 ∧ 0 ≤ d.N i * x.f s (d.W i + s.kf) ∧ d.N i * x.f s (d.W i + s.kf) ≤ 404000000 ∧ 0 ≤ x.term d s i ∧ x.term d s i ≤ 163216000000000 := by
  have e := h.all i h0 h1
  unfold Dem.each at e
  have g := fits_of h h0 h1 hn hg
  have h1 := h.w1; have h2 := h.w2; have h3 := h.h1; have h4 := h.h2; have h5 := h.k1; have h6 := h.k2
  have b1 := dfv_bd hx.1 (x := d.W i + s.kf) (by omega) (by omega) (by omega) (by omega)
  have b2 := dfv_bd hx.2 (x := d.H i + s.kf) (by omega) (by omega) (by omega) (by omega)
  have c1 := mul_rng (A := 1000) e.2.2.2.2.1 e.2.2.2.2.2 b1.1 b1.2
  have c2 := mul_rng (B := 404000) c1.1 c1.2 b2.1 b2.2
  unfold Crt.term
  unfold Crt.f Crt.g at *
  omega
theorem term_zero {x : Crt} {d : Dem} {s : Sht} (h : DOk d s) {i : Int} (h0 : 0 ≤ i) (h1 : i < d.n) (hn : ¬ 0 < d.N i) : x.term d s i = 0 := by
  have e := h.all i h0 h1
  unfold Dem.each at e
  unfold Crt.term
  rw [show d.N i = 0 by omega, Int.zero_mul, Int.zero_mul]
theorem term_any {x : Crt} {d : Dem} {s : Sht} (h : DOk d s) (hx : x.ok s) {i : Int} (h0 : 0 ≤ i) (h1 : i < d.n) (hg : ¬ d.great s i) : 0 ≤ x.term d s i ∧ x.term d s i ≤ 163216000000000 := by
  by_cases hn : 0 < d.N i
  · have := term_bd h hx h0 h1 hn hg; omega
  · rw [term_zero h h0 h1 hn]; omega
theorem sum_bd {x : Crt} {d : Dem} {s : Sht} (h : DOk d s) (hx : x.ok s) {i : Int} (h0 : 0 ≤ i) (h1 : i ≤ d.n) (hg : ∀ k, 0 ≤ k → k < i → ¬ d.great s k) : 0 ≤ x.sum d s i.toNat ∧ x.sum d s i.toNat ≤ 3264320000000000 := by
  have hb := sumTo_bound (f := x.term d s) (A := 163216000000000) (n := i.toNat) (fun k a0 a1 => term_any h hx a0 (by omega) (hg k a0 (by omega)))
  have := h.few
  unfold Crt.sum; omega
theorem sum_next (x : Crt) (d : Dem) (s : Sht) {i : Int} (h : 0 ≤ i) : x.sum d s (i + 1).toNat = x.sum d s i.toNat + x.term d s i := sumTo_next _ h
end Go.Proofs.Gw
