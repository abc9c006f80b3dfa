/- Certificates derived: Round, Sum, Material, plain. No program in sight. -/
import Derived.Test.YtmlfpniaknmmfaaFd
namespace Go.Proofs.Gw
open Go Go.RowKit
set_option linter.unusedVariables false
set_option linter.unusedSimpArgs false

/-- What one appended number makes of a list. -/
def snoc (f : Int → Int) (n x : Int) : Int → Int := fun k => if k < n then f k else x
theorem cat_snoc (f : Int → Int) (n x : Int) : cat (n * 1) (ints f) (ints fun _ => x) = ints (snoc f n x) := by
  funext j; simp only [cat, ints, snoc, Int.mul_one]; split <;> rfl
theorem snoc_lt {f : Int → Int} {n x k : Int} (h : k < n) : snoc f n x k = f k := if_pos h
theorem snoc_at {f : Int → Int} {n x k : Int} (h : ¬ k < n) : snoc f n x k = x := if_neg h
theorem snoc_bnd {f : Int → Int} {n x : Int} (h : ∀ k, -9223372036854775808 ≤ f k ∧ f k ≤ 9223372036854775807) (hx : -9223372036854775808 ≤ x ∧ x ≤ 9223372036854775807) (k : Int) : -9223372036854775808 ≤ snoc f n x k ∧ snoc f n x k ≤ 9223372036854775807 := by
  unfold snoc; split
  · exact h k
  · exact hx
theorem snoc_all {f g : Int → Int} {i : Int} (h : ∀ k, 0 ≤ k → k < i → f k = g k) {x : Int} (hx : x = g i) : ∀ k, 0 ≤ k → k < i + 1 → snoc f i x k = g k := fun k k0 k1 => by
  by_cases e : k < i
  · rw [snoc_lt e]; exact h k k0 e
  · rw [snoc_at e, hx]; congr 1; omega
theorem zero_bnd (k : Int) : -9223372036854775808 ≤ (fun _ : Int => (0 : Int)) k ∧ (fun _ : Int => (0 : Int)) k ≤ 9223372036854775807 := by dsimp only; omega
theorem formed_congr {n : Int} {f g : Int → Int} {q : Int} (h : ∀ k, 0 ≤ k → k < n → f k = g k) (hf : Formed n f q) : Formed n g q :=
  ⟨hf.1, hf.2.1, fun k h0 h1 => by rw [← h k h0 h1]; exact hf.2.2 k h0 h1⟩
/-- A result that is a certificate: 1 the arguments are not right, 2 what comes out is not one. -/
def Res (bad ok : Prop) (n : Int) (g : Int → Int) (q n' : Int) (y' : Int → Int) (q' e : Int) : Prop :=
  (bad ∧ e = 1 ∧ n' = 0 ∧ q' = 0) ∨ (¬ bad ∧ ¬ ok ∧ e = 2 ∧ n' = 0 ∧ q' = 0) ∨ (¬ bad ∧ ok ∧ e = 0 ∧ n' = n ∧ q' = q ∧ ∀ k, 0 ≤ k → k < n → y' k = g k)
theorem res_bad {bad ok : Prop} {n q : Int} {g y' : Int → Int} (h : bad) : Res bad ok n g q 0 y' 0 1 := .inl ⟨h, rfl, rfl, rfl⟩
theorem res_no {bad ok : Prop} {n q : Int} {g y' : Int → Int} (h : ¬ bad) (h2 : ¬ ok) : Res bad ok n g q 0 y' 0 2 := .inr (.inl ⟨h, h2, rfl, rfl, rfl⟩)
theorem res_ok {bad ok : Prop} {n q : Int} {g y' : Int → Int} (h : ¬ bad) (hc : ∀ k, 0 ≤ k → k < n → y' k = g k) (h2 : ok) : Res bad ok n g q n y' q 0 :=
  .inr (.inr ⟨h, h2, rfl, rfl, rfl, hc⟩)
theorem formed_conv {n : Int} {f g : Int → Int} {q : Int} (h : ∀ k, 0 ≤ k → k < n → f k = g k) : Formed n g q ↔ Formed n f q :=
  ⟨formed_congr fun k h0 h1 => (h k h0 h1).symm, formed_congr h⟩
theorem Res.at {bad ok : Prop} {n q : Int} {g : Int → Int} {n1 q1 e k : Int} {y1 : Int → Int} (h : Res bad ok n g q n1 y1 q1 e) (he : e = k) : Res bad ok n g q n1 y1 q1 k := he ▸ h
theorem Res.same {bad ok : Prop} {n q : Int} {g : Int → Int} {n1 q1 e1 n2 q2 e2 : Int} {y1 y2 : Int → Int} (h1 : Res bad ok n g q n1 y1 q1 e1) (h2 : Res bad ok n g q n2 y2 q2 e2) :
    (q1 = q2 ∧ n1 = n2 ∧ ∀ k, 0 ≤ k → k < n1 → y1 k = y2 k) ∧ e1 = e2 := by
  rcases h1 with ⟨a1, a2, a3, a4⟩ | ⟨a0, a1, a2, a3, a4⟩ | ⟨a0, a1, a2, a3, a4, a5⟩ <;> rcases h2 with ⟨b1, b2, b3, b4⟩ | ⟨b0, b1, b2, b3, b4⟩ | ⟨b0, b1, b2, b3, b4, b5⟩ <;> first
    | contradiction
    | exact ⟨⟨by omega, by omega, fun k k0 k1 => by omega⟩, by omega⟩
    | exact ⟨⟨by omega, by omega, fun k k0 k1 => (a5 k k0 (by omega)).trans (b5 k k0 (by omega)).symm⟩, by omega⟩
theorem Res.ok {bad ok : Prop} {n q : Int} {g : Int → Int} {n1 q1 : Int} {y1 : Int → Int} {e : Int} (h : Res bad ok n g q n1 y1 q1 e) (he : e = 0) : ¬ bad ∧ ok ∧ n1 = n ∧ q1 = q ∧ ∀ k, 0 ≤ k → k < n → y1 k = g k := by
  rcases h with ⟨a1, a2, a3, a4⟩ | ⟨a0, a1, a2, a3, a4⟩ | ⟨a0, a1, a2, a3, a4, a5⟩
  · omega
  · omega
  · exact ⟨a0, a1, a3, a4, a5⟩
theorem Res.few {bad ok : Prop} {n q : Int} {g : Int → Int} {n1 q1 : Int} {y1 : Int → Int} {e : Int} (h : Res bad ok n g q n1 y1 q1 e) : (e = 0 ∨ e = 2) ∨ (e = 1 ∧ bad) := by
  rcases h with ⟨a1, a2, a3, a4⟩ | ⟨a0, a1, a2, a3, a4⟩ | ⟨a0, a1, a2, a3, a4, a5⟩
  · exact .inr ⟨a2, a1⟩
  · omega
  · omega

/-! What a mix of two certificates' prices is worth -/
theorem tab_mix {p : Prob} (hp : p.Ok) {y a b : Int → Int} {c d e : Int} (hc : 0 ≤ c) (hd : 0 ≤ d) (he : 0 ≤ e) (h : ∀ k, 0 ≤ k → k < p.m → c * y k ≤ d * a k + e * b k) : ∀ (j : Nat), (j : Int) ≤ p.m → ∀ x, 0 ≤ x → c * Tab p y j x ≤ d * Tab p a j x + e * Tab p b j x
  | 0, _, x, _ => by simp [Tab]
  | j + 1, hj, x, hx => by
    have h2 := hp.all j (by omega) (by omega)
    unfold Prob.each at h2
    have hk := hp.k1
    simp only [Tab]
    obtain ⟨n, h3, h4, h5⟩ := R_ex (Tab p y j) (p.L j + p.kerf) (y j) (p.D j).toNat x hx
    have h6 := R_ge (Tab p a j) (p.L j + p.kerf) (a j) (p.D j).toNat n x h3 h4
    have h7 := R_ge (Tab p b j) (p.L j + p.kerf) (b j) (p.D j).toNat n x h3 h4
    have h8 := tab_mix hp hc hd he h j (by omega) (x - n * (p.L j + p.kerf)) (by omega)
    have h9 : (n : Int) * (c * y j) ≤ n * (d * a j + e * b j) := Int.mul_le_mul_of_nonneg_left (h j (by omega) (by omega)) (by omega)
    have g1 : d * (Tab p a j (x - n * (p.L j + p.kerf)) + n * a j) ≤ d * R (Tab p a j) (p.L j + p.kerf) (a j) (p.D j).toNat x := Int.mul_le_mul_of_nonneg_left h6 hd
    have g2 : e * (Tab p b j (x - n * (p.L j + p.kerf)) + n * b j) ≤ e * R (Tab p b j) (p.L j + p.kerf) (b j) (p.D j).toNat x := Int.mul_le_mul_of_nonneg_left h7 he
    rw [h5, Int.mul_add]
    rw [Int.mul_add] at g1 g2 h9
    have e1 : c * ((n : Int) * y j) = n * (c * y j) := Int.mul_left_comm _ _ _
    have e2 : d * ((n : Int) * a j) = n * (d * a j) := Int.mul_left_comm _ _ _
    have e3 : e * ((n : Int) * b j) = n * (e * b j) := Int.mul_left_comm _ _ _
    omega
theorem worth_mix {p : Prob} (hp : p.Ok) {y a b : Int → Int} {c d e : Int} (hc : 0 ≤ c) (hd : 0 ≤ d) (he : 0 ≤ e) (h : ∀ k, 0 ≤ k → k < p.m → c * y k ≤ d * a k + e * b k) : c * Worth p y ≤ d * Worth p a + e * Worth p b := by
  have h1 := hp.m1; have h2 := hp.s1; have h3 := hp.k1
  exact tab_mix hp hc hd he h _ (by omega) _ (by omega)
theorem tot_mix {D y a b : Int → Int} {m : Int} {c d e : Int} (hD : ∀ k, 0 ≤ k → k < m → 0 ≤ D k) (h : ∀ k, 0 ≤ k → k < m → c * y k ≤ d * a k + e * b k) : ∀ j : Nat, (j : Int) ≤ m → c * Tot D y j ≤ d * Tot D a j + e * Tot D b j
  | 0, _ => by simp [Tot]
  | j + 1, hj => by
    have h1 := tot_mix hD h j (by omega)
    have h2 := Int.mul_le_mul_of_nonneg_left (h j (by omega) (by omega)) (hD j (by omega) (by omega))
    simp only [Tot, Int.mul_add] at h2 ⊢
    rw [Int.mul_left_comm c, Int.mul_left_comm d, Int.mul_left_comm e]
    omega
theorem tot_mix_eq {D y a b : Int → Int} {m : Int} {d e : Int} (h : ∀ k, 0 ≤ k → k < m → y k = d * a k + e * b k) : ∀ j : Nat, (j : Int) ≤ m → Tot D y j = d * Tot D a j + e * Tot D b j
  | 0, _ => by simp [Tot]
  | j + 1, hj => by
    have h1 := tot_mix_eq (D := D) h j (by omega)
    simp only [Tot, Int.mul_add]
    rw [h j (by omega) (by omega), Int.mul_add, Int.mul_left_comm d, Int.mul_left_comm e]
    omega
theorem ceil_le {t q b : Int} (ht : 0 ≤ t) (hq : 1 ≤ q) (h : t ≤ b * q) : (t + q - 1).tdiv q ≤ b := by
  rw [Int.tdiv_eq_ediv_of_nonneg (by omega)]
  have : (t + q - 1) / q < b + 1 := Int.ediv_lt_of_lt_mul (by omega) (by rw [Int.add_mul]; omega)
  omega
theorem ceil_spec {t q : Int} (ht : 0 ≤ t) (hq : 1 ≤ q) : t ≤ (t + q - 1).tdiv q * q ∧ ((t + q - 1).tdiv q - 1) * q < t := by
  rw [Int.tdiv_eq_ediv_of_nonneg (by omega)]
  have h1 := Int.emod_nonneg (t + q - 1) (show q ≠ 0 by omega)
  have h2 := Int.emod_lt_of_pos (t + q - 1) (show 0 < q by omega)
  have h3 := Int.mul_ediv_add_emod (t + q - 1) q
  rw [Int.mul_comm] at h3
  have h4 : ((t + q - 1) / q - 1) * q = (t + q - 1) / q * q - q := by rw [Int.sub_mul]; omega
  omega
theorem le_of_mul {a b c : Int} (hc : 1 ≤ c) (h : c * a ≤ c * b) : a ≤ b := Int.le_of_mul_le_mul_left h (by omega)
theorem quo_low {a b : Int} (ha : 0 ≤ a) (hb : 1 ≤ b) : b * a.tdiv b ≤ a ∧ 0 ≤ a.tdiv b := by
  rw [Int.tdiv_eq_ediv_of_nonneg ha]
  exact ⟨Int.mul_ediv_self_le (by omega), Int.ediv_nonneg ha (by omega)⟩
/-- Round keeps a certificate right, and proves no more. -/
theorem round_law {p : Prob} {n : Int} {y : Int → Int} {q : Int} (h : Chk p n y q = 0) {r n' q' : Int} {y' : Int → Int} (hr : Res (¬ Formed n y q) (r ≤ 1048576 ∧ Formed n (fun k => (y k * r).tdiv q) r) n (fun k => (y k * r).tdiv q) r n' y' q' 0) :
    Chk p n' y' q' = 0 ∧ BndOf p n' y' q' ≤ BndOf p n y q := by
  obtain ⟨hp, hfm, hn, hw⟩ := chk_ok h
  obtain ⟨_, ⟨_, hg⟩, rfl, rfl, he⟩ := hr.ok rfl
  have hf' : Formed n' y' q' := formed_congr (fun k h0 h1 => (he k h0 h1).symm) hg
  have hq := hfm.1; have hr1 := hg.1
  have hmix : ∀ k, 0 ≤ k → k < p.m → q * y' k ≤ q' * y k + 0 * y k := fun k h0 h1 => by
    rw [he k h0 (by omega), Int.zero_mul, Int.add_zero, Int.mul_comm q']
    have h3 := hfm.2.2 k h0 (by omega)
    exact (quo_low (Int.mul_nonneg h3.1 (by omega)) hq).1
  have hw' : Worth p y' ≤ q' := by
    have h3 := worth_mix hp (by omega) (by omega) (Int.le_refl 0) hmix
    have h4 : q' * Worth p y ≤ q' * q := Int.mul_le_mul_of_nonneg_left hw (by omega)
    rw [Int.zero_mul, Int.add_zero] at h3
    exact le_of_mul hq (by rw [Int.mul_comm q q']; omega)
  have hchk : Chk p n' y' q' = 0 := chk0 hp hf' hn (by omega)
  refine ⟨hchk, ?_⟩
  rw [bnd_ok hchk, bnd_ok h]
  have hm := hp.m1
  have t1 := (tot_bd hp (hfm.priced hn) p.m (by omega) (by omega)).1
  have t2 := (tot_bd hp (hf'.priced hn) p.m (by omega) (by omega)).1
  have h5 := tot_mix (D := p.D) (m := p.m) (fun k h0 h1 => by have := hp.all k h0 h1; unfold Prob.each at this; omega) hmix p.m.toNat (by omega)
  rw [Int.zero_mul, Int.add_zero] at h5
  unfold Bnd
  refine ceil_le t2 hr1 ?_
  have h6 := (ceil_spec t1 hq).1
  have h7 : q' * Tot p.D y p.m.toNat ≤ q' * ((Tot p.D y p.m.toNat + q - 1).tdiv q * q) := Int.mul_le_mul_of_nonneg_left h6 (by omega)
  refine le_of_mul hq ?_
  have h8 : ∀ X : Int, q * (X * q') = q' * (X * q) := fun X => by rw [Int.mul_left_comm, Int.mul_left_comm q' X, Int.mul_comm q q']
  rw [h8]
  omega
/-- The price of material. -/
theorem tab_mat {p : Prob} (hp : p.Ok) : ∀ (j : Nat), (j : Int) ≤ p.m → ∀ x, 0 ≤ x → Tab p (fun k => p.L k + p.kerf) j x ≤ x
  | 0, _, x, hx => hx
  | j + 1, hj, x, hx => by
    simp only [Tab]
    obtain ⟨n, h3, h4, h5⟩ := R_ex (Tab p (fun k => p.L k + p.kerf) j) (p.L j + p.kerf) (p.L j + p.kerf) (p.D j).toNat x hx
    have := tab_mat hp j (by omega) (x - n * (p.L j + p.kerf)) (by omega)
    omega
theorem mat_formed {p : Prob} (hp : p.Ok) : Formed p.m (fun k => p.L k + p.kerf) (p.stock + p.kerf) := by
  have h1 := hp.s1; have h2 := hp.s2; have h3 := hp.k1; have h4 := hp.k2
  exact ⟨by omega, by omega, fun k h0 h5 => by have := hp.all k h0 h5; unfold Prob.each at this; show 0 ≤ p.L k + p.kerf ∧ p.L k + p.kerf ≤ 1073741824; omega⟩
theorem worth_congr {p : Prob} {y z : Int → Int} (hp : p.Ok) (h : ∀ k, 0 ≤ k → k < p.m → y k = z k) : Worth p y = Worth p z := by
  have h1 := worth_mix (b := fun _ => 0) (y := y) (a := z) hp (c := 1) (d := 1) (e := 0) (by omega) (by omega) (by omega) (fun k h0 h1 => by rw [h k h0 h1]; omega)
  have h2 := worth_mix (b := fun _ => 0) (y := z) (a := y) hp (c := 1) (d := 1) (e := 0) (by omega) (by omega) (by omega) (fun k h0 h1 => by rw [h k h0 h1]; omega)
  omega
theorem material_law {p : Prob} (hp : p.Ok) {n' q' e : Int} {y' : Int → Int} (hr : Res (¬ p.Ok) (Formed p.m (fun k => p.L k + p.kerf) (p.stock + p.kerf)) p.m (fun k => p.L k + p.kerf) (p.stock + p.kerf) n' y' q' e) : e = 0 ∧ n' = p.m ∧ Chk p n' y' q' = 0 := by
  have he : e = 0 := by
    rcases hr with ⟨a1, _⟩ | ⟨_, a1, _⟩ | ⟨_, _, a2, _⟩
    · exact absurd hp a1
    · exact absurd (mat_formed hp) a1
    · exact a2
  obtain ⟨_, hg, rfl, rfl, h5⟩ := hr.ok he
  refine ⟨he, rfl, chk0 hp (formed_congr (fun k h0 h1 => (h5 k h0 h1).symm) hg) rfl ?_⟩
  rw [worth_congr hp h5]
  have h1 := hp.m1; have h2 := hp.s1; have h3 := hp.k1
  have := tab_mat hp p.m.toNat (by omega) (p.stock + p.kerf) (by omega)
  unfold Worth; omega
/-- Sum keeps certificates right, and proves no more than the better and no less than the worse. -/
theorem mix_law {p : Prob} {n1 q1 n2 q2 : Int} {y1 y2 : Int → Int} (h1 : Chk p n1 y1 q1 = 0) (h2 : Chk p n2 y2 q2 = 0) {n' q' : Int} {y' : Int → Int}
    (hr : Res (¬ (Formed n1 y1 q1 ∧ Formed n2 y2 q2 ∧ n1 = n2)) (Formed n1 (fun k => y1 k * q2 + y2 k * q1) (2 * q1 * q2)) n1 (fun k => y1 k * q2 + y2 k * q1) (2 * q1 * q2) n' y' q' 0) :
    Chk p n' y' q' = 0 ∧ BndOf p n' y' q' ≤ max (BndOf p n1 y1 q1) (BndOf p n2 y2 q2) ∧ min (BndOf p n1 y1 q1) (BndOf p n2 y2 q2) ≤ BndOf p n' y' q' := by
  obtain ⟨hp, f1, e1, w1⟩ := chk_ok h1
  obtain ⟨_, f2, e2, w2⟩ := chk_ok h2
  obtain ⟨_, hg, rfl, rfl, he⟩ := hr.ok rfl
  have a1 := f1.1; have a2 := f2.1; have a3 := hg.1
  have hf' : Formed n' y' (2 * q1 * q2) := formed_congr (fun k h0 h1 => (he k h0 h1).symm) hg
  have hmix : ∀ k, 0 ≤ k → k < p.m → y' k = q2 * y1 k + q1 * y2 k := fun k h0 h3 => by
    rw [he k h0 (by omega), Int.mul_comm q2, Int.mul_comm q1]
  have hq : 1 ≤ q1 * q2 := by have := Int.mul_le_mul a1 a2 (by omega) (by omega); omega
  have hqq : 2 * q1 * q2 = 2 * (q1 * q2) := Int.mul_assoc _ _ _
  have hw : Worth p y' ≤ 2 * q1 * q2 := by
    have h3 := worth_mix (c := 1) (d := q2) (e := q1) (a := y1) (b := y2) hp (by omega) (by omega) (by omega) (y := y') (fun k h0 h4 => by rw [hmix k h0 h4]; omega)
    have h4 : q2 * Worth p y1 ≤ q2 * q1 := Int.mul_le_mul_of_nonneg_left w1 (by omega)
    have h5 : q1 * Worth p y2 ≤ q1 * q2 := Int.mul_le_mul_of_nonneg_left w2 (by omega)
    rw [Int.mul_comm q2 q1] at h4
    omega
  have hchk : Chk p n' y' (2 * q1 * q2) = 0 := chk0 hp hf' e1 (by omega)
  refine ⟨hchk, ?_⟩
  rw [bnd_ok hchk, bnd_ok h1, bnd_ok h2]
  have hm := hp.m1
  have t1 := (tot_bd hp (f1.priced e1) p.m (by omega) (by omega)).1
  have t2 := (tot_bd hp (f2.priced e2) p.m (by omega) (by omega)).1
  have t3 := (tot_bd hp (hf'.priced e1) p.m (by omega) (by omega)).1
  have ht := tot_mix_eq (D := p.D) hmix p.m.toNat (by omega)
  unfold Bnd
  have c1 := ceil_spec t1 a1
  have c2 := ceil_spec t2 a2
  have c3 := ceil_spec t3 a3
  generalize Tot p.D y1 p.m.toNat = T1 at *
  generalize Tot p.D y2 p.m.toNat = T2 at *
  generalize Tot p.D y' p.m.toNat = T at *
  generalize (T1 + q1 - 1).tdiv q1 = b1 at *
  generalize (T2 + q2 - 1).tdiv q2 = b2 at *
  have m1 : q2 * T1 ≤ q2 * (b1 * q1) := Int.mul_le_mul_of_nonneg_left c1.1 (by omega)
  have m2 : q1 * T2 ≤ q1 * (b2 * q2) := Int.mul_le_mul_of_nonneg_left c2.1 (by omega)
  have s1 : q2 * (b1 * q1) = b1 * (q1 * q2) := by rw [Int.mul_comm q2, Int.mul_assoc]
  have s2 : q1 * (b2 * q2) = b2 * (q1 * q2) := Int.mul_left_comm _ _ _
  have l1 : q2 * ((b1 - 1) * q1 + 1) ≤ q2 * T1 := Int.mul_le_mul_of_nonneg_left (by omega) (by omega)
  have l2 : q1 * ((b2 - 1) * q2 + 1) ≤ q1 * T2 := Int.mul_le_mul_of_nonneg_left (by omega) (by omega)
  have s3 : q2 * ((b1 - 1) * q1 + 1) = (b1 - 1) * (q1 * q2) + q2 := by rw [Int.mul_add, Int.mul_one, Int.mul_comm q2, Int.mul_assoc]
  have s4 : q1 * ((b2 - 1) * q2 + 1) = (b2 - 1) * (q1 * q2) + q1 := by rw [Int.mul_add, Int.mul_one, Int.mul_left_comm]
  constructor
  · refine ceil_le t3 a3 ?_
    have g1 : b1 * (q1 * q2) ≤ max b1 b2 * (q1 * q2) := Int.mul_le_mul_of_nonneg_right (by omega) (by omega)
    have g2 : b2 * (q1 * q2) ≤ max b1 b2 * (q1 * q2) := Int.mul_le_mul_of_nonneg_right (by omega) (by omega)
    rw [hqq, Int.mul_left_comm]
    omega
  · by_cases hlt : min b1 b2 ≤ (T + 2 * q1 * q2 - 1).tdiv (2 * q1 * q2)
    · exact hlt
    · exfalso
      generalize (T + 2 * q1 * q2 - 1).tdiv (2 * q1 * q2) = b at *
      have g1 : b * (q1 * q2) ≤ (b1 - 1) * (q1 * q2) := Int.mul_le_mul_of_nonneg_right (by omega) (by omega)
      have g2 : b * (q1 * q2) ≤ (b2 - 1) * (q1 * q2) := Int.mul_le_mul_of_nonneg_right (by omega) (by omega)
      have g3 : b * (2 * q1 * q2) = 2 * (b * (q1 * q2)) := by rw [hqq, Int.mul_left_comm]
      omega
end Go.Proofs.Gw
