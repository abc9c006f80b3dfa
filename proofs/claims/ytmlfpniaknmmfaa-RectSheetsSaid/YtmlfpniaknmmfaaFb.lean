/- Dual feasible functions, plain; what an interface that holds one answers; demands in memory. -/
import Derived.Test.YtmlfpniaknmmfaaGs
import Derived.Test.YtmlfpniaknmmfaaFr
import Derived.Test.YtmlfpniaknmmfaaFs
namespace Go.Proofs.Gw
open Go Go.RowKit
set_option linter.unusedVariables false
set_option linter.unusedSimpArgs false

/-- Whether a function is valid for a capacity. -/
def okF (kind k c : Int) : Prop := (kind = 0 ∧ k = 0) ∨ (kind = 1 ∧ 1 ≤ k ∧ k ≤ 100) ∨ (kind = 2 ∧ 1 ≤ k ∧ k ≤ c.tdiv 2)
/-- Its value at a size. -/
def dfv (kind k x c : Int) : Int :=
  if kind = 0 then x else if kind = 1 then (if ((k + 1) * x).tmod c = 0 then k * x else ((k + 1) * x).tdiv c * c) else (if c - k < x then c else if x < k then 0 else x)
theorem dfv0 {k x c : Int} : dfv 0 k x c = x := rfl
theorem dfv1a {k x c : Int} (h : ((k + 1) * x).tmod c = 0) : dfv 1 k x c = k * x := by unfold dfv; rw [if_neg (by omega), if_pos rfl, if_pos h]
theorem dfv1b {k x c : Int} (h : ¬ ((k + 1) * x).tmod c = 0) : dfv 1 k x c = ((k + 1) * x).tdiv c * c := by unfold dfv; rw [if_neg (by omega), if_pos rfl, if_neg h]
theorem dfv2a {k x c : Int} (h : c - k < x) : dfv 2 k x c = c := by unfold dfv; rw [if_neg (by omega), if_neg (by omega), if_pos h]
theorem dfv2b {k x c : Int} (h : ¬ c - k < x) (h2 : x < k) : dfv 2 k x c = 0 := by unfold dfv; rw [if_neg (by omega), if_neg (by omega), if_neg h, if_pos h2]
theorem dfv2c {k x c : Int} (h : ¬ c - k < x) (h2 : ¬ x < k) : dfv 2 k x c = x := by unfold dfv; rw [if_neg (by omega), if_neg (by omega), if_neg h, if_neg h2]
theorem half_facts {c : Int} (h : 0 ≤ c) : 0 ≤ c.tdiv 2 ∧ 2 * c.tdiv 2 ≤ c ∧ c ≤ 2 * c.tdiv 2 + 1 := by
  rw [Int.tdiv_eq_ediv_of_nonneg h]; omega
/-- The multiples: the bounds that the walk wants. -/
theorem step_facts {k x c : Int} (hk : 1 ≤ k ∧ k ≤ 100) (hx : 0 ≤ x) (hxc : x ≤ c) (hc : 1 ≤ c) (hc2 : c ≤ 4000) :
    0 ≤ (k + 1) * x ∧ (k + 1) * x ≤ 404000 ∧ 0 ≤ k * x ∧ k * x ≤ 400000 ∧ 0 ≤ ((k + 1) * x).tdiv c ∧ ((k + 1) * x).tdiv c ≤ 404000 ∧ 0 ≤ ((k + 1) * x).tdiv c * c ∧ ((k + 1) * x).tdiv c * c ≤ (k + 1) * x := by
  have h1 := mul_rng (a := k + 1) (b := x) (A := 101) (B := 4000) (by omega) (by omega) hx (by omega)
  have h2 := mul_rng (a := k) (b := x) (A := 100) (B := 4000) (by omega) (by omega) hx (by omega)
  have h3 := quo_low (a := (k + 1) * x) (b := c) h1.1 hc
  have h4 : ((k + 1) * x).tdiv c * 1 ≤ ((k + 1) * x).tdiv c * c := Int.mul_le_mul_of_nonneg_left hc h3.2
  have h5 := h3.1
  rw [Int.mul_comm c] at h5
  omega
theorem dfv_bd {kind k x c : Int} (h : okF kind k c) (hx : 0 ≤ x) (hxc : x ≤ c) (hc : 1 ≤ c) (hc2 : c ≤ 4000) : 0 ≤ dfv kind k x c ∧ dfv kind k x c ≤ 404000 := by
  rcases h with ⟨rfl, rfl⟩ | ⟨rfl, hk⟩ | ⟨rfl, hk⟩
  · rw [dfv0]; omega
  · have := step_facts hk hx hxc hc hc2
    by_cases h : ((k + 1) * x).tmod c = 0
    · rw [dfv1a h]; omega
    · rw [dfv1b h]; omega
  · by_cases h1 : c - k < x
    · rw [dfv2a h1]; omega
    · by_cases h2 : x < k
      · rw [dfv2b h1 h2]; omega
      · rw [dfv2c h1 h2]; omega
/-- What an interface that holds a function answers. -/
structure DualV (P : Program) (t : TypeId) (u : Value) (kind k : Int) : Prop where
  valid : ∃ f, methodT P t "fretsaw/rectbound.valid" f ∧ ∀ (c : Int) (w0 : World), 0 ≤ c → c ≤ 1000000 → Calls P f [u, .int .i64 c].toArray w0 fun e w => ∃ v, e = .returned v ∧ v = B (okF kind k c) ∧ Sat w0 w []
  value : ∃ f, methodT P t "fretsaw/rectbound.value" f ∧ ∀ (x c : Int) (w0 : World), okF kind k c → 0 ≤ x → x ≤ c → 1 ≤ c → c ≤ 4000 → Calls P f [u, .int .i64 x, .int .i64 c].toArray w0 fun e w => ∃ v, e = .returned v ∧ v = .int .i64 (dfv kind k x c) ∧ Sat w0 w []
/-- What Apply gives. -/
def ApplyR (kind k x c a e : Int) : Prop := (1 ≤ c ∧ c ≤ 4000 ∧ okF kind k c ∧ 0 ≤ x ∧ x ≤ c ∧ a = dfv kind k x c ∧ e = 0) ∨ (¬ (1 ≤ c ∧ c ≤ 4000 ∧ okF kind k c ∧ 0 ≤ x ∧ x ≤ c) ∧ a = 0 ∧ e = 1)
theorem ApplyR.val {kind k x c a e : Int} (h : ApplyR kind k x c a e) (h1 : 1 ≤ c) (h2 : c ≤ 4000) (h3 : okF kind k c) (h4 : 0 ≤ x) (h5 : x ≤ c) : a = dfv kind k x c := by
  rcases h with ⟨_, _, _, _, _, a6, _⟩ | ⟨a1, _⟩
  · exact a6
  · exact absurd ⟨h1, h2, h3, h4, h5⟩ a1
theorem ApplyR.same {kind k x c a e a' e' : Int} (h : ApplyR kind k x c a e) (h' : ApplyR kind k x c a' e') : a = a' ∧ e = e' := by
  rcases h with ⟨a1, a2, a3, a4, a5, a6, a7⟩ | ⟨a1, a2, a3⟩ <;> rcases h' with ⟨b1, b2, b3, b4, b5, b6, b7⟩ | ⟨b1, b2, b3⟩
  · omega
  · exact absurd ⟨a1, a2, a3, a4, a5⟩ b1
  · exact absurd ⟨b1, b2, b3, b4, b5⟩ a1
  · omega
/-! Demands in memory -/
def dcells (W H N : Int → Int) : Int → Value := fun k => if k % 3 = 0 then .int .i64 (W (k / 3)) else if k % 3 = 1 then .int .i64 (H (k / 3)) else .int .i64 (N (k / 3))
theorem dcells0 (W H N : Int → Int) {k i : Int} (h : k = 3 * i) : dcells W H N k = .int .i64 (W i) := by
  subst h; unfold dcells; rw [if_pos (by omega)]; congr 2; omega
theorem dcells1 (W H N : Int → Int) {k i : Int} (h : k = 3 * i + 1) : dcells W H N k = .int .i64 (H i) := by
  subst h; unfold dcells; rw [if_neg (by omega), if_pos (by omega)]; congr 2; omega
theorem dcells2 (W H N : Int → Int) {k i : Int} (h : k = 3 * i + 2) : dcells W H N k = .int .i64 (N i) := by
  subst h; unfold dcells; rw [if_neg (by omega), if_neg (by omega)]; congr 2; omega
theorem dcells_at (W H N : Int → Int) {k i : Int} (h : k = 3 * i) : ∀ (j : Nat) u, [Value.int .i64 (W i), .int .i64 (H i), .int .i64 (N i)][j]? = some u → dcells W H N (k + j) = u := fun j u hu => by
  rcases j with _ | _ | _ | j
  · cases hu; exact dcells0 W H N (by omega)
  · cases hu; exact dcells1 W H N (by omega)
  · cases hu; exact dcells2 W H N (by omega)
  · simp at hu
theorem dcells_one (W H N : Int → Int) (k : Int) : (dcells W H N k).oneCell' = true := by
  unfold dcells
  split
  · rfl
  · split <;> rfl
theorem dcells_congr {W H N W' H' N' : Int → Int} {n : Int} (h : ∀ k, 0 ≤ k → k < n → W k = W' k ∧ H k = H' k ∧ N k = N' k) : ∀ k, 0 ≤ k → k < n * (3 : Nat) → dcells W H N k = dcells W' H' N' k := fun k k0 k1 => by
  obtain ⟨h1, h2, h3⟩ := h (k / 3) (by omega) (by omega)
  unfold dcells
  rw [h1, h2, h3]
structure DAt (w : World) (v : Value) (n : Int) (W H N : Int → Int) : Prop where
  row : Row w v 3 n (dcells W H N)
  bw : ∀ i, -9223372036854775808 ≤ W i ∧ W i ≤ 9223372036854775807
  bh : ∀ i, -9223372036854775808 ≤ H i ∧ H i ≤ 9223372036854775807
  bn : ∀ i, -9223372036854775808 ≤ N i ∧ N i ≤ 9223372036854775807
theorem DAt.below {w w' : World} {v : Value} {n : Int} {W H N : Int → Int} (h : DAt w v n W H N) (hb : Below w.heap.size w w') : DAt w' v n W H N := ⟨h.row.below hb, h.bw, h.bh, h.bn⟩
theorem DAt.of {w : World} {v : Value} {n : Int} {c : Int → Value} {W H N : Int → Int} (h : Row w v 3 n c) (e : ∀ i, 0 ≤ i → i < n → c (3 * i) = .int .i64 (W i) ∧ c (3 * i + 1) = .int .i64 (H i) ∧ c (3 * i + 2) = .int .i64 (N i))
    (bw : ∀ i, -9223372036854775808 ≤ W i ∧ W i ≤ 9223372036854775807) (bh : ∀ i, -9223372036854775808 ≤ H i ∧ H i ≤ 9223372036854775807) (bn : ∀ i, -9223372036854775808 ≤ N i ∧ N i ≤ 9223372036854775807) : DAt w v n W H N :=
  ⟨h.congr fun k k0 k1 => by
    obtain ⟨e0, e1, e2⟩ := e (k / 3) (by omega) (by omega)
    unfold dcells
    by_cases h0 : k % 3 = 0
    · rw [if_pos h0, ← e0]; congr 1; omega
    · rw [if_neg h0]
      by_cases h1 : k % 3 = 1
      · rw [if_pos h1, ← e1]; congr 1; omega
      · rw [if_neg h1, ← e2]; congr 1; omega, bw, bh, bn⟩
theorem cat_demand (W H N : Int → Int) (n a b c : Int) : cat (n * 3) (dcells W H N) (dcells (fun _ => a) (fun _ => b) (fun _ => c)) = dcells (snoc W n a) (snoc H n b) (snoc N n c) := by
  funext k
  unfold cat dcells snoc
  by_cases h : k < n * 3
  · have : k / 3 < n := by omega
    simp only [if_pos h, if_pos this]
  · have : ¬ k / 3 < n := by omega
    have e : (k - n * 3) % 3 = k % 3 := by omega
    simp only [if_neg h, if_neg this, e]
end Go.Proofs.Gw
