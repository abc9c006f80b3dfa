/- Tableaux, plain: what is proper, the next pivot, a pivot, a run; and how they lie in memory. -/
import Derived.Test.YtmlfpniaknmmfaaGt
import Derived.Test.YtmlfpniaknmmfaaFr
namespace Go.Proofs.Gw
open Go Go.RowKit
set_option linter.unusedVariables false
set_option linter.unusedSimpArgs false

structure Tb where
  vars : Int
  den : Int
  nb : Int
  nf : Int
  nc : Int
  B : Int → Int
  F : Int → Int
  ln : Int → Int
  C : Int → Int → Int
/-- A slice of slices of ints. -/
structure MAt (w : World) (v : Value) (n : Int) (vv : Int → Value) (ln : Int → Int) (f : Int → Int → Int) : Prop where
  row : Row w v 1 n vv
  p : ∀ i, 0 ≤ i → i < n → Row w (vv i) 1 (ln i) (ints (f i))
  room : ∀ i, 0 ≤ i → i < n → Roomy (vv i)
theorem MAt.below {w w' : World} {v : Value} {n : Int} {vv : Int → Value} {ln : Int → Int} {f : Int → Int → Int} (h : MAt w v n vv ln f) (hb : Below w.heap.size w w') : MAt w' v n vv ln f := ⟨h.row.below hb, fun i a b => (h.p i a b).below hb, h.room⟩
structure TAt (w : World) (vB vF vC : Value) (vv : Int → Value) (t : Tb) : Prop where
  B : Row w vB 1 t.nb (ints t.B)
  F : Row w vF 1 t.nf (ints t.F)
  C : MAt w vC t.nc vv t.ln t.C
theorem TAt.below {w w' : World} {vB vF vC : Value} {vv : Int → Value} {t : Tb} (h : TAt w vB vF vC vv t) (hb : Below w.heap.size w w') : TAt w' vB vF vC vv t := ⟨h.B.below hb, h.F.below hb, h.C.below hb⟩
theorem Sat.roomIn {w w0 : World} {l : List Ent} {E : TypeId} {n : Int} {vv : Int → Value} {ln : Int → Int} {f : Int → Int → Int} (h : Sat w0 w l) (i : Nat) (hi : l[i]? = some (.sem (Frame.rows E n vv ln f))) {k : Int} (k0 : 0 ≤ k) (k1 : k < n) : Roomy (vv k) :=
  ((h.holds _ (List.mem_of_getElem? hi)).1 k k0 k1).roomy

theorem Sat.ref {w0 w : World} {l : List Ent} {a : Addr} {v : Value} (hS : Sat w0 w l) (hc : w0.cell? a = some v) : w.cell? a = some v := by
  rw [hS.below.cell (World.block_lt_of_cell? w0 _ hc)]; exact hc
/-- Numbers from -m to m. -/
def Btw (f : Int → Int) (n m : Int) : Prop := ∀ k, 0 ≤ k → k < n → -m ≤ f k ∧ f k ≤ m
/-! Lists of all variables -/
def PermF (c : Int → Int) (N : Int) : Prop := (∀ i, 0 ≤ i → i < N → 0 ≤ c i ∧ c i < N) ∧ ∀ i j, 0 ≤ i → i < N → 0 ≤ j → j < N → c i = c j → i = j
theorem rise_id {l : List Int} (hp : l.Pairwise (· < ·)) (hr : ∀ a ∈ l, 0 ≤ a ∧ a < l.length) : ∀ i (h : i < l.length), l[i] = i := by
  have low : ∀ i (h : i < l.length), (i : Int) ≤ l[i] := by
    intro i
    induction i with
    | zero => intro h; exact (hr _ (List.getElem_mem h)).1
    | succ i ih =>
      intro h
      have h1 := ih (by omega)
      have h2 := List.pairwise_iff_getElem.1 hp i (i + 1) (by omega) h (by omega)
      omega
  have high : ∀ d i (h : i < l.length), l.length - 1 - i = d → l[i] ≤ i := by
    intro d
    induction d with
    | zero => intro i h hd; have := (hr _ (List.getElem_mem h)).2; omega
    | succ d ih =>
      intro i h hd
      have h1 := ih (i + 1) (by omega) (by omega)
      have h2 := List.pairwise_iff_getElem.1 hp i (i + 1) h (by omega) (by omega)
      omega
  intro i h
  have := low i h; have := high _ i h rfl; omega
theorem perm_sorted {c g : Int → Int} {N : Int} (hN : 0 ≤ N) (hg : listOf g N = (listOf c N).mergeSort fun x y => decide (x ≤ y)) : (∀ i, 0 ≤ i → i < N → g i = i) ↔ PermF c N := by
  have hl : (listOf c N).length = N.toNat := listOf_length c N
  have hlg : (listOf g N).length = N.toNat := listOf_length g N
  have getc : ∀ i (h : i < (listOf c N).length), (listOf c N)[i] = c i := fun i h => by simp [listOf]
  have getg : ∀ i (h : i < (listOf g N).length), (listOf g N)[i] = g i := fun i h => by simp [listOf]
  have hperm : (listOf g N).Perm (listOf c N) := by rw [hg]; exact List.mergeSort_perm _ _
  constructor
  · intro h
    have hnd : (listOf g N).Nodup := by
      refine List.pairwise_iff_getElem.2 fun i j hi hj hij => ?_
      rw [getg i hi, getg j hj, h i (by omega) (by omega), h j (by omega) (by omega)]; omega
    have hndc : (listOf c N).Nodup := hperm.nodup_iff.1 hnd
    refine ⟨fun i i0 i1 => ?_, fun i j i0 i1 j0 j1 e => ?_⟩
    · have hm : c i ∈ listOf c N := mem_listOf.2 ⟨i, i0, i1, rfl⟩
      obtain ⟨k, k0, k1, e⟩ := mem_listOf.1 (hperm.mem_iff.2 hm)
      rw [h k k0 k1] at e; omega
    · rcases Int.lt_trichotomy i j with hij | hij | hij
      · have := List.pairwise_iff_getElem.1 hndc i.toNat j.toNat (by omega) (by omega) (by omega)
        rw [getc _ (by omega), getc _ (by omega), Int.toNat_of_nonneg i0, Int.toNat_of_nonneg j0] at this
        exact absurd e this
      · exact hij
      · have := List.pairwise_iff_getElem.1 hndc j.toNat i.toNat (by omega) (by omega) (by omega)
        rw [getc _ (by omega), getc _ (by omega), Int.toNat_of_nonneg i0, Int.toNat_of_nonneg j0] at this
        exact absurd e.symm this
  · intro h i i0 i1
    have hndc : (listOf c N).Nodup := by
      refine List.pairwise_iff_getElem.2 fun i j hi hj hij e => ?_
      rw [getc i hi, getc j hj] at e
      have := h.2 i j (by omega) (by omega) (by omega) (by omega) e; omega
    have hnd : (listOf g N).Nodup := hperm.nodup_iff.2 hndc
    have hs : (listOf g N).Pairwise (fun x y => decide (x ≤ y) = true) := by rw [hg]; exact List.pairwise_mergeSort (le := fun x y : Int => decide (x ≤ y)) (fun a b c h1 h2 => by simp only [decide_eq_true_eq] at *; omega) (fun a b => by simp only [Bool.or_eq_true, decide_eq_true_eq]; omega) (listOf c N)
    have hlt : (listOf g N).Pairwise (· < ·) := by
      refine List.pairwise_iff_getElem.2 fun i j hi hj hij => ?_
      have h1 := List.pairwise_iff_getElem.1 hs i j hi hj hij
      have h2 := List.pairwise_iff_getElem.1 hnd i j hi hj hij
      simp only [decide_eq_true_eq] at h1
      omega
    have := rise_id hlt (fun a ha => by
      obtain ⟨k, k0, k1, e⟩ := mem_listOf.1 (hperm.mem_iff.1 ha)
      have := h.1 k k0 k1
      rw [hlg]; omega) i.toNat (by omega)
    rw [getg _ (by omega), Int.toNat_of_nonneg i0] at this
    exact this
/-- The two lists, one behind the other, in either order. -/
theorem perm_swap {n m : Int} {F B : Int → Int} (hn : 0 ≤ n) (hm : 0 ≤ m) (h : PermF (cat n F B) (n + m)) : PermF (cat m B F) (m + n) := by
  have tr : ∀ i, 0 ≤ i → i < m + n → ∃ j, 0 ≤ j ∧ j < n + m ∧ cat m B F i = cat n F B j ∧ (i < m → j = n + i) ∧ (¬ i < m → j = i - m) := fun i i0 i1 => by
    by_cases h : i < m
    · exact ⟨n + i, by omega, by omega, by unfold cat; rw [if_pos h, if_neg (by omega)]; congr 1; omega, fun _ => rfl, fun hh => absurd h hh⟩
    · exact ⟨i - m, by omega, by omega, by unfold cat; rw [if_neg h, if_pos (by omega)], fun hh => absurd hh h, fun _ => rfl⟩
  refine ⟨fun i i0 i1 => ?_, fun i j i0 i1 j0 j1 e => ?_⟩
  · obtain ⟨j, j0, j1, e, _⟩ := tr i i0 i1
    have := h.1 j j0 j1
    rw [e]; omega
  · obtain ⟨a, a0, a1, ea, ea1, ea2⟩ := tr i i0 i1
    obtain ⟨b, b0, b1, eb, eb1, eb2⟩ := tr j j0 j1
    have := h.2 a b a0 a1 b0 b1 (by rw [← ea, ← eb, e])
    by_cases hi : i < m <;> by_cases hj : j < m
    · have := ea1 hi; have := eb1 hj; omega
    · have := ea1 hi; have := eb2 hj; omega
    · have := ea2 hi; have := eb1 hj; omega
    · have := ea2 hi; have := eb2 hj; omega
def Tb.rowOk (t : Tb) (i : Int) : Prop := t.ln i = t.nf + 1 ∧ ∀ j, 0 ≤ j → j < t.ln i → -1073741824 ≤ t.C i j ∧ t.C i j ≤ 1073741824
structure TPrp (t : Tb) : Prop where
  n1 : 1 ≤ t.nf
  n2 : t.nf ≤ 60
  m2 : t.nb ≤ 16
  v : t.vars = t.nf
  d1 : 1 ≤ t.den
  d2 : t.den ≤ 1073741824
  c : t.nc = t.nb + 1
  perm : PermF (cat t.nf t.F t.B) (t.nf + t.nb)
  rows : ∀ i, 0 ≤ i → i < t.nc → t.rowOk i
theorem TPrp.cell {t : Tb} (h : TPrp t) {i j : Int} (i0 : 0 ≤ i) (i1 : i ≤ t.nb) (j0 : 0 ≤ j) (j1 : j ≤ t.nf) : -1073741824 ≤ t.C i j ∧ t.C i j ≤ 1073741824 := by
  have hc := h.c
  have := h.rows i i0 (by omega)
  exact this.2 j j0 (by rw [this.1]; omega)
theorem TPrp.len {t : Tb} (h : TPrp t) {i : Int} (i0 : 0 ≤ i) (i1 : i ≤ t.nb) : t.ln i = t.nf + 1 := by
  have hc := h.c
  exact (h.rows i i0 (by omega)).1
theorem TPrp.injF {t : Tb} (h : TPrp t) {i j : Int} (i0 : 0 ≤ i) (i1 : i < t.nf) (j0 : 0 ≤ j) (j1 : j < t.nf) (hm : 0 ≤ t.nb) (e : t.F i = t.F j) : i = j :=
  h.perm.2 i j i0 (by omega) j0 (by omega) (by unfold cat; rw [if_pos i1, if_pos j1]; exact e)
theorem TPrp.rngF {t : Tb} (h : TPrp t) {i : Int} (i0 : 0 ≤ i) (i1 : i < t.nf) (hm : 0 ≤ t.nb) : 0 ≤ t.F i ∧ t.F i < t.nf + t.nb := by
  have := h.perm.1 i i0 (by omega)
  unfold cat at this; rw [if_pos i1] at this; exact this
theorem TPrp.rngB {t : Tb} (h : TPrp t) {i : Int} (i0 : 0 ≤ i) (i1 : i < t.nb) : 0 ≤ t.B i ∧ t.B i < t.nf + t.nb := by
  have hn := h.n1
  have := h.perm.1 (t.nf + i) (by omega) (by omega)
  unfold cat at this; rw [if_neg (by omega), show t.nf + i - t.nf = i by omega] at this; exact this

theorem tdiv_abs {a d : Int} (hd : 1 ≤ d) {A : Int} (ha : -A ≤ a ∧ a ≤ A) : -A ≤ a.tdiv d ∧ a.tdiv d ≤ A := by
  have h := Int.natAbs_tdiv_le_natAbs a d
  omega
/-! Slices one behind the other -/
structure NAt (w : World) (v : Value) (n : Int) (vv : Int → Value) (ln : Int → Int) (f : Int → Int → Int) : Prop where
  row : Row w v 1 n vv
  p : ∀ i, 0 ≤ i → i < n → Row w (vv i) 1 (ln i) (ints (f i))
theorem NAt.below {w w' : World} {v : Value} {n : Int} {vv : Int → Value} {ln : Int → Int} {f : Int → Int → Int} (h : NAt w v n vv ln f) (hb : Below w.heap.size w w') : NAt w' v n vv ln f := ⟨h.row.below hb, fun i a b => (h.p i a b).below hb⟩
def tot (ln : Int → Int) : Nat → Int
  | 0 => 0
  | k + 1 => tot ln k + ln k
def catN (ln : Int → Int) (f : Int → Int → Int) : Nat → Int → Int
  | 0 => fun _ => 0
  | k + 1 => cat (tot ln k) (catN ln f k) (f k)
theorem tot_next (ln : Int → Int) {i : Int} (h : 0 ≤ i) : tot ln (i + 1).toNat = tot ln i.toNat + ln i := by
  rw [show (i + 1).toNat = i.toNat + 1 by omega, tot, Int.toNat_of_nonneg h]
theorem catN_next (ln : Int → Int) (f : Int → Int → Int) {i : Int} (h : 0 ≤ i) : catN ln f (i + 1).toNat = cat (tot ln i.toNat) (catN ln f i.toNat) (f i) := by
  rw [show (i + 1).toNat = i.toNat + 1 by omega, catN, Int.toNat_of_nonneg h]
def pair2 {α : Type} (a b : α) : Int → α := fun k => if k = 0 then a else b
theorem nat2 {w : World} {v a b : Value} {n m : Int} {f g : Int → Int} (h : Row w v 1 2 (pair2 a b)) (ha : Row w a 1 n (ints f)) (hb : Row w b 1 m (ints g)) : NAt w v 2 (pair2 a b) (pair2 n m) (pair2 f g) :=
  ⟨h, fun i i0 i1 => by
    by_cases e : i = 0
    · subst e; exact ha
    · have : i = 1 := by omega
      subst this; exact hb⟩
theorem tot2 (n m : Int) : tot (pair2 n m) 2 = n + m := by simp [tot, pair2]
theorem catN2 (n m : Int) (f g : Int → Int) {k : Int} (hk : 0 ≤ k) : catN (pair2 n m) (pair2 f g) 2 k = cat n f g k := by
  simp only [catN, tot, pair2, cat, Int.zero_add]
  simp
  by_cases h : k < n
  · rw [if_pos h, if_pos h, if_neg (by omega)]
  · rw [if_neg h, if_neg h]
theorem PermF.congr {c d : Int → Int} {N : Int} (h : PermF c N) (e : ∀ k, 0 ≤ k → k < N → c k = d k) : PermF d N :=
  ⟨fun i i0 i1 => by rw [← e i i0 i1]; exact h.1 i i0 i1, fun i j i0 i1 j0 j1 hh => h.2 i j i0 i1 j0 j1 (by rw [e i i0 i1, e j j0 j1]; exact hh)⟩
theorem Sat.kept {w0 w : World} {l : List Ent} {e : Ent} (hS : Sat w0 w l) (h : e.holds w0) : e.holds w := h.keep fun g hg => hS.below.block g (h.lt hg)
open Go.Sort in
/-- The library's Sort, and just what it makes. -/
theorem sort_satx {P : Program} {w w0 : World} {l1 l2 : List Ent} {fn : FuncId} (c0 : ∀ (p : Option Addr) (cap : Nat) (w : World), Calls P fn #[.slice p 0 cap] w fun e w' => e = .returned (.tuple #[]) ∧ w' = w)
    (c1 : ∀ (blk off cap : Nat) (zs : List Int) (w : World), Holds (Value.int .i64) w blk off zs.toArray → blk < w.heap.size → zs.length < 4611686018427387904 →
      Calls P fn #[.slice (some ⟨blk, off, none⟩) zs.length cap] w fun e w' => e = .returned (.tuple #[]) ∧ ∃ n os, w' = grow (putRow (Value.int .i64) (Sort.ahead w n) blk off (zs.mergeSort fun x y => decide (x ≤ y)).toArray) os)
    {v : Value} {E : TypeId} {n : Int} {f : Int → Int} (hS : Sat w0 w (l1 ++ .own v 1 E n (ints f) :: l2)) :
    Calls P fn #[v] w fun e w' => ∃ u, e = .returned u ∧ u = .tuple #[] ∧ ∃ g, listOf g n = ((listOf f n).mergeSort fun x y => decide (x ≤ y)) ∧ Sat w0 w' (l1 ++ .own v 1 E n (ints g) :: l2) := by
  obtain ⟨h0, h1, ⟨rfl, rfl⟩ | ⟨g, cap, cur, rfl, _⟩⟩ := hS.get
  · refine (c0 none 0 w).mono fun e w' ⟨he, hw⟩ => ⟨_, he, rfl, f, by simp [listOf], by rw [hw]; exact hS⟩
  · obtain ⟨hH, hlt, _, _⟩ := hS.held
    have hl := listOf_length f n
    have := c1 g 0 cap (listOf f n) w hH hlt (by rw [hl]; omega)
    rw [hl] at this
    refine this.mono fun e w' ⟨he, q, os, hw⟩ => ⟨_, he, rfl, atOf ((listOf f n).mergeSort fun x y => decide (x ≤ y)), ?_, ?_⟩
    · have e2 := listOf_atOf ((listOf f n).mergeSort fun x y => decide (x ≤ y))
      rw [List.length_mergeSort, hl, show ((n.toNat : Nat) : Int) = n by omega] at e2
      exact e2
    · rw [hw]
      exact hS.put (by rw [List.length_mergeSort, hl])

theorem mul_abs {a b A B : Int} (ha : -A ≤ a ∧ a ≤ A) (hb : -B ≤ b ∧ b ≤ B) : -(A * B) ≤ a * b ∧ a * b ≤ A * B := by
  have h := Int.natAbs_mul a b
  have h1 : (a.natAbs : Int) ≤ A := by omega
  have h2 : (b.natAbs : Int) ≤ B := by omega
  have h3 := Int.mul_le_mul h1 h2 (by omega) (by omega)
  have h4 : ((a * b).natAbs : Int) = (a.natAbs : Int) * b.natAbs := by rw [h, Int.natCast_mul]
  omega
/-! The next pivot -/
def leav (t : Tb) : Nat → Int
  | 0 => -1
  | k + 1 => if t.C (k + 1) 0 < 0 ∧ (leav t k < 0 ∨ t.B k < t.B (leav t k)) then k else leav t k
theorem leav_rng (t : Tb) : ∀ k : Nat, leav t k = -1 ∨ (0 ≤ leav t k ∧ leav t k < k)
  | 0 => .inl rfl
  | k + 1 => by
    have := leav_rng t k
    unfold leav; split <;> omega
theorem leav_next (t : Tb) {i : Int} (h : 0 ≤ i) : leav t (i + 1).toNat = if t.C (i + 1) 0 < 0 ∧ (leav t i.toNat < 0 ∨ t.B i < t.B (leav t i.toNat)) then i else leav t i.toNat := by
  rw [show (i + 1).toNat = i.toNat + 1 by omega, leav, Int.toNat_of_nonneg h]
theorem leav_neg (t : Tb) : ∀ k : Nat, (leav t k = -1 → ∀ i : Int, 0 ≤ i → i < k → 0 ≤ t.C (i + 1) 0) ∧ (0 ≤ leav t k → t.C (leav t k + 1) 0 < 0)
  | 0 => ⟨fun _ i h0 h1 => by omega, fun h => by unfold leav at h; omega⟩
  | k + 1 => by
    obtain ⟨h1, h2⟩ := leav_neg t k
    have hr := leav_rng t k
    unfold leav
    by_cases hc : t.C (k + 1) 0 < 0 ∧ (leav t k < 0 ∨ t.B k < t.B (leav t k))
    · rw [if_pos hc]; exact ⟨fun h => by omega, fun _ => hc.1⟩
    · rw [if_neg hc]
      refine ⟨fun h i i0 i1 => ?_, h2⟩
      by_cases e : i = k
      · subst e
        rcases Int.lt_or_le (t.C (k + 1) 0) 0 with hh | hh
        · exact absurd ⟨hh, .inl (by omega)⟩ hc
        · exact hh
      · exact h1 h i i0 (by omega)
/-- The column: by the quotients of the costs, then the variable. -/
def entr (t : Tb) (r : Int) : Nat → Int
  | 0 => -1
  | k + 1 => if t.C (r + 1) (k + 1) ≤ 0 then entr t r k
    else if entr t r k < 0 then k
    else if t.C 0 (k + 1) * t.C (r + 1) (entr t r k + 1) < t.C 0 (entr t r k + 1) * t.C (r + 1) (k + 1) ∨
      (t.C 0 (k + 1) * t.C (r + 1) (entr t r k + 1) = t.C 0 (entr t r k + 1) * t.C (r + 1) (k + 1) ∧ t.F k < t.F (entr t r k)) then k else entr t r k
theorem entr_rng (t : Tb) (r : Int) : ∀ k : Nat, entr t r k = -1 ∨ (0 ≤ entr t r k ∧ entr t r k < k)
  | 0 => .inl rfl
  | k + 1 => by
    have := entr_rng t r k
    unfold entr; split <;> (try split) <;> (try split) <;> omega
theorem entr_next (t : Tb) (r : Int) {j : Int} (h : 0 ≤ j) : entr t r (j + 1).toNat = if t.C (r + 1) (j + 1) ≤ 0 then entr t r j.toNat
    else if entr t r j.toNat < 0 then j
    else if t.C 0 (j + 1) * t.C (r + 1) (entr t r j.toNat + 1) < t.C 0 (entr t r j.toNat + 1) * t.C (r + 1) (j + 1) ∨
      (t.C 0 (j + 1) * t.C (r + 1) (entr t r j.toNat + 1) = t.C 0 (entr t r j.toNat + 1) * t.C (r + 1) (j + 1) ∧ t.F j < t.F (entr t r j.toNat)) then j else entr t r j.toNat := by
  rw [show (j + 1).toNat = j.toNat + 1 by omega, entr, Int.toNat_of_nonneg h]
def Tb.costs (t : Tb) : Prop := ∀ j, 1 ≤ j → j ≤ t.nf → 0 ≤ t.C 0 j
def NextR (t : Tb) (r c : Int) (d : Bool) (e : Int) : Prop :=
  (¬ (TPrp t ∧ t.costs) ∧ r = 0 ∧ c = 0 ∧ d = false ∧ e = 1) ∨
  (TPrp t ∧ t.costs ∧ leav t t.nb.toNat < 0 ∧ r = 0 ∧ c = 0 ∧ d = true ∧ e = 0) ∨
  (TPrp t ∧ t.costs ∧ 0 ≤ leav t t.nb.toNat ∧ entr t (leav t t.nb.toNat) t.nf.toNat < 0 ∧ r = 0 ∧ c = 0 ∧ d = false ∧ e = 19) ∨
  (TPrp t ∧ t.costs ∧ 0 ≤ leav t t.nb.toNat ∧ 0 ≤ entr t (leav t t.nb.toNat) t.nf.toNat ∧ r = leav t t.nb.toNat ∧ c = entr t (leav t t.nb.toNat) t.nf.toNat ∧ d = false ∧ e = 0)
theorem NextR.same {t : Tb} {r c r' c' e e' : Int} {d d' : Bool} (h : NextR t r c d e) (h' : NextR t r' c' d' e') : r = r' ∧ c = c' ∧ d = d' ∧ e = e' := by
  rcases h with ⟨a1, a2, a3, a4, a5⟩ | ⟨a1, a2, a3, a4, a5, a6, a7⟩ | ⟨a1, a2, a3, a4, a5, a6, a7, a8⟩ | ⟨a1, a2, a3, a4, a5, a6, a7, a8⟩ <;> rcases h' with ⟨b1, b2, b3, b4, b5⟩ | ⟨b1, b2, b3, b4, b5, b6, b7⟩ | ⟨b1, b2, b3, b4, b5, b6, b7, b8⟩ | ⟨b1, b2, b3, b4, b5, b6, b7, b8⟩ <;> first
    | (exfalso; omega)
    | (exfalso; exact a1 ⟨b1, b2⟩)
    | (exfalso; exact b1 ⟨a1, a2⟩)
    | (subst a4; subst b4; exact ⟨by omega, by omega, rfl, by omega⟩)
    | (subst a6; subst b6; exact ⟨by omega, by omega, rfl, by omega⟩)
    | (subst a7; subst b7; exact ⟨by omega, by omega, rfl, by omega⟩)

/-! A pivot -/
/-- A cell behind the pivot, before its sign is turned. -/
def pcell (t : Tb) (r s i j : Int) : Int := if i = r ∧ j = s then t.den else if i = r then -t.C i j else if j = s then t.C i j else (t.C r s * t.C i j - t.C i s * t.C r j).tdiv t.den
def piv (t : Tb) (row col : Int) : Tb where
  vars := t.vars
  den := if t.C (row + 1) (col + 1) < 0 then -t.C (row + 1) (col + 1) else t.C (row + 1) (col + 1)
  nb := t.nb
  nf := t.nf
  nc := t.nc
  B := upd t.B row (t.F col)
  F := upd t.F col (t.B row)
  ln := t.ln
  C := fun i j => if t.C (row + 1) (col + 1) < 0 then -pcell t (row + 1) (col + 1) i j else pcell t (row + 1) (col + 1) i j
def Tb.zero : Tb := ⟨0, 0, 0, 0, 0, fun _ => 0, fun _ => 0, fun _ => 0, fun _ _ => 0⟩
def pargs (t : Tb) (row col : Int) : Prop := TPrp t ∧ 0 ≤ row ∧ row < t.nb ∧ 0 ≤ col ∧ col < t.nf ∧ t.C (row + 1) (col + 1) ≠ 0
def divs (t : Tb) (r s i j : Int) : Prop := i ≠ r → j ≠ s → (t.C r s * t.C i j - t.C i s * t.C r j).tmod t.den = 0
def pdiv (t : Tb) (row col : Int) : Prop := ∀ i j, 0 ≤ i → i ≤ t.nb → 0 ≤ j → j ≤ t.nf → divs t (row + 1) (col + 1) i j
def PivR (t : Tb) (row col : Int) (t' : Tb) (e : Int) : Prop :=
  (¬ pargs t row col ∧ t' = Tb.zero ∧ e = 1) ∨ (pargs t row col ∧ ¬ pdiv t row col ∧ t' = Tb.zero ∧ e = 4) ∨ (pargs t row col ∧ pdiv t row col ∧ ¬ TPrp (piv t row col) ∧ t' = Tb.zero ∧ e = 2) ∨
    (pargs t row col ∧ pdiv t row col ∧ TPrp (piv t row col) ∧ t' = piv t row col ∧ e = 0)
theorem PivR.same {t t' t'' : Tb} {row col e e' : Int} (h : PivR t row col t' e) (h' : PivR t row col t'' e') : t' = t'' ∧ e = e' := by
  rcases h with ⟨a1, a2, a3⟩ | ⟨a1, a2, a3, a4⟩ | ⟨a1, a2, a3, a4, a5⟩ | ⟨a1, a2, a3, a4, a5⟩ <;> rcases h' with ⟨b1, b2, b3⟩ | ⟨b1, b2, b3, b4⟩ | ⟨b1, b2, b3, b4, b5⟩ | ⟨b1, b2, b3, b4, b5⟩ <;> first
    | contradiction
    | exact ⟨by rw [a2, b2], by omega⟩
    | exact ⟨by rw [a3, b3], by omega⟩
    | exact ⟨by rw [a4, b4], by omega⟩
theorem pcell_bd {t : Tb} (h : TPrp t) {r s i j : Int} (r0 : 0 ≤ r) (r1 : r ≤ t.nb) (s0 : 0 ≤ s) (s1 : s ≤ t.nf) (i0 : 0 ≤ i) (i1 : i ≤ t.nb) (j0 : 0 ≤ j) (j1 : j ≤ t.nf) : -9223372036854775807 ≤ pcell t r s i j ∧ pcell t r s i j ≤ 9223372036854775807 := by
  have a1 := h.cell r0 r1 s0 s1
  have a2 := h.cell i0 i1 j0 j1
  have a3 := h.cell i0 i1 s0 s1
  have a4 := h.cell r0 r1 j0 j1
  have m1 := mul_abs a1 a2
  have m2 := mul_abs a3 a4
  have d1 := h.d1; have d2 := h.d2
  have q := tdiv_abs (a := t.C r s * t.C i j - t.C i s * t.C r j) (d := t.den) (A := 2305843009213693952) d1 (by omega)
  unfold pcell
  split
  · omega
  · split
    · omega
    · split <;> omega
/-- Pivots up to the end: at most k more. -/
inductive Run : Nat → Tb → Tb → Int → Prop
  | stop {k : Nat} {t : Tb} {r c e : Int} {d : Bool} (h : NextR t r c d e) (hd : d = true ∨ e ≠ 0) : Run k t t e
  | lim {t : Tb} {r c : Int} (h : NextR t r c false 0) : Run 0 t t 9
  | bad {k : Nat} {t t' : Tb} {r c e : Int} (h : NextR t r c false 0) (hp : PivR t r c t' e) (he : e ≠ 0) : Run (k + 1) t t e
  | go {k : Nat} {t t' u : Tb} {r c e : Int} (h : NextR t r c false 0) (hp : PivR t r c t' 0) (hr : Run k t' u e) : Run (k + 1) t u e
theorem Run.same {k : Nat} {t u : Tb} {e : Int} (h : Run k t u e) : ∀ {u' : Tb} {e' : Int}, Run k t u' e' → u = u' ∧ e = e' := by
  induction h with
  | stop h hd =>
    intro u' e' h'
    cases h' with
    | stop h2 hd2 => exact ⟨rfl, (h.same h2).2.2.2⟩
    | lim h2 => have := h.same h2; rcases hd with hd | hd; (rw [hd] at this; cases this.2.2.1); omega
    | bad h2 => have := h.same h2; rcases hd with hd | hd; (rw [hd] at this; cases this.2.2.1); omega
    | go h2 => have := h.same h2; rcases hd with hd | hd; (rw [hd] at this; cases this.2.2.1); omega
  | lim h =>
    intro u' e' h'
    cases h' with
    | stop h2 hd2 => have := h.same h2; rcases hd2 with hd | hd; (rw [hd] at this; cases this.2.2.1); omega
    | lim h2 => exact ⟨rfl, rfl⟩
  | bad h hp he =>
    intro u' e' h'
    cases h' with
    | stop h2 hd2 => have := h.same h2; rcases hd2 with hd | hd; (rw [hd] at this; cases this.2.2.1); omega
    | bad h2 hp2 he2 => obtain ⟨rfl, rfl, _, _⟩ := h.same h2; exact ⟨rfl, (hp.same hp2).2⟩
    | go h2 hp2 hr2 => obtain ⟨rfl, rfl, _, _⟩ := h.same h2; exact absurd (hp.same hp2).2 he
  | go h hp hr ih =>
    intro u' e' h'
    cases h' with
    | stop h2 hd2 => have := h.same h2; rcases hd2 with hd | hd; (rw [hd] at this; cases this.2.2.1); omega
    | bad h2 hp2 he2 => obtain ⟨rfl, rfl, _, _⟩ := h.same h2; exact absurd (hp2.same hp).2 he2
    | go h2 hp2 hr2 =>
      obtain ⟨rfl, rfl, _, _⟩ := h.same h2
      obtain ⟨rfl, _⟩ := hp.same hp2
      exact ih hr2
/-! Linear programs -/
structure Lp where
  n : Int
  m : Int
  k : Int
  c : Int → Int
  ln : Int → Int
  A : Int → Int → Int
  b : Int → Int
structure LAt (w : World) (vc vA vb : Value) (vv : Int → Value) (p : Lp) : Prop where
  c : Row w vc 1 p.n (ints p.c)
  A : MAt w vA p.m vv p.ln p.A
  b : Row w vb 1 p.k (ints p.b)
theorem LAt.below {w w' : World} {vc vA vb : Value} {vv : Int → Value} {p : Lp} (h : LAt w vc vA vb vv p) (hb : Below w.heap.size w w') : LAt w' vc vA vb vv p := ⟨h.c.below hb, h.A.below hb, h.b.below hb⟩
structure LOk (p : Lp) : Prop where
  n1 : 1 ≤ p.n
  n2 : p.n ≤ 60
  m2 : p.m ≤ 16
  k : p.k = p.m
  c : ∀ j, 0 ≤ j → j < p.n → 0 ≤ p.c j ∧ p.c j ≤ 1000000
  b : ∀ i, 0 ≤ i → i < p.m → -1000000 ≤ p.b i ∧ p.b i ≤ 1000000
  rows : ∀ i, 0 ≤ i → i < p.m → p.ln i = p.n ∧ ∀ j, 0 ≤ j → j < p.n → -1000000 ≤ p.A i j ∧ p.A i j ≤ 1000000
def startT (p : Lp) : Tb := ⟨p.n, 1, p.m, p.n, p.m + 1, fun i => p.n + i, fun j => j, fun _ => p.n + 1, fun i j => if i = 0 then (if j = 0 then 0 else p.c (j - 1)) else if j = 0 then -p.b (i - 1) else p.A (i - 1) (j - 1)⟩
def StartR (p : Lp) (t : Tb) (e : Int) : Prop := (¬ LOk p ∧ t = Tb.zero ∧ e = 1) ∨ (LOk p ∧ t = startT p ∧ e = 0)
theorem StartR.same {p : Lp} {t t' : Tb} {e e' : Int} (h : StartR p t e) (h' : StartR p t' e') : t = t' ∧ e = e' := by
  rcases h with ⟨a1, a2, a3⟩ | ⟨a1, a2, a3⟩ <;> rcases h' with ⟨b1, b2, b3⟩ | ⟨b1, b2, b3⟩ <;> first
    | contradiction
    | exact ⟨by rw [a2, b2], by omega⟩
theorem bool_B (d : Bool) : Value.bool d = B (d = true) := by
  cases d
  · exact (B_false (by simp)).symm
  · exact (B_true rfl).symm
/-- A tableau that is the one that came in, or one of the call's own. -/
theorem tat_alt {w w0 : World} {l : List Ent} {vB vF vC xB xF xC : Value} {vv xv : Int → Value} {t u : Tb} {E1 E2 E3 E4 : TypeId} (hO : TAt w vB vF vC vv t) (hS : Sat w0 w l) (i : Nat)
    (hi : l[i]? = some (.sem (Frame.alt (u = t ∧ xB = vB ∧ xF = vF ∧ xC = vC ∧ xv = vv) (Frame.bun [.own xB 1 E1 u.nb (ints u.B), .own xF 1 E2 u.nf (ints u.F), .own xC 1 E3 u.nc xv, .sem (Frame.rows E4 u.nc xv u.ln u.C)])))) : TAt w xB xF xC xv u := by
  rcases hS.holds _ (List.mem_of_getElem? hi) with h | ⟨h, _⟩
  · obtain ⟨rfl, rfl, rfl, rfl, rfl⟩ := h; exact hO
  · have h4 := h (.sem (Frame.rows E4 u.nc xv u.ln u.C)) (by simp)
    exact ⟨(h (.own xB 1 E1 u.nb (ints u.B)) (by simp)).row, (h (.own xF 1 E2 u.nf (ints u.F)) (by simp)).row, (h (.own xC 1 E3 u.nc xv) (by simp)).row, fun k k0 k1 => (h4.1 k k0 k1).row, fun k k0 k1 => (h4.1 k k0 k1).roomy⟩
theorem NextR.rng {t : Tb} {r c e : Int} {d : Bool} (h : NextR t r c d e) : -1 ≤ r ∧ r ≤ t.nb.toNat ∧ -1 ≤ c ∧ c ≤ t.nf.toNat := by
  have h1 := leav_rng t t.nb.toNat
  have h2 := entr_rng t (leav t t.nb.toNat) t.nf.toNat
  rcases h with ⟨_, h3, h4, _⟩ | ⟨_, _, _, h3, h4, _⟩ | ⟨_, _, _, _, h3, h4, _⟩ | ⟨_, _, _, _, h3, h4, _⟩ <;> omega
theorem NextR.prp {t : Tb} {r c e : Int} {d : Bool} (h : NextR t r c d e) (he : e ≠ 1) : TPrp t ∧ t.costs := by
  rcases h with ⟨_, _, _, _, h⟩ | ⟨h, h2, _⟩ | ⟨h, h2, _⟩ | ⟨h, h2, _⟩
  · exact absurd h he
  · exact ⟨h, h2⟩
  · exact ⟨h, h2⟩
  · exact ⟨h, h2⟩
theorem Run.dims {k : Nat} {t u : Tb} {e : Int} (h : Run k t u e) : u.nb = t.nb ∧ u.nf = t.nf ∧ u.nc = t.nc ∧ u.vars = t.vars := by
  induction h with
  | stop => exact ⟨rfl, rfl, rfl, rfl⟩
  | lim => exact ⟨rfl, rfl, rfl, rfl⟩
  | bad => exact ⟨rfl, rfl, rfl, rfl⟩
  | go h hp hr ih =>
    rcases hp with ⟨_, _, h⟩ | ⟨_, _, _, h⟩ | ⟨_, _, _, _, h⟩ | ⟨_, _, _, rfl, _⟩
    · omega
    · omega
    · omega
    · exact ih
theorem Run.fin {k : Nat} {t u : Tb} {e : Int} (h : Run k t u e) (he : e = 0 ∨ e = 19) : TPrp u ∧ u.costs ∧ (e = 0 → leav u u.nb.toNat < 0) ∧ (e = 19 → 0 ≤ leav u u.nb.toNat ∧ entr u (leav u u.nb.toNat) u.nf.toNat < 0) := by
  induction h with
  | stop h hd =>
    have := h.prp (by omega)
    refine ⟨this.1, this.2, fun e0 => ?_, fun e0 => ?_⟩
    · rcases h with ⟨_, _, _, _, h⟩ | ⟨_, _, h, _⟩ | ⟨_, _, _, _, _, _, _, h⟩ | ⟨_, _, _, _, _, _, hd', h⟩
      · omega
      · exact h
      · omega
      · rcases hd with hd | hd
        · rw [hd] at hd'; cases hd'
        · exact absurd e0 hd
    · rcases h with ⟨_, _, _, _, h⟩ | ⟨_, _, _, _, _, _, h⟩ | ⟨_, _, h1, h2, _⟩ | ⟨_, _, _, _, _, _, _, h⟩
      · omega
      · omega
      · exact ⟨h1, h2⟩
      · omega
  | lim => omega
  | bad h hp he' =>
    rcases hp with ⟨_, _, h⟩ | ⟨_, _, _, h⟩ | ⟨_, _, _, _, h⟩ | ⟨_, _, _, _, h⟩ <;> omega
  | go h hp hr ih => exact ih he
/-- What is read off an optimal tableau. -/
def rdX (u : Tb) : Nat → Int → Int
  | 0 => fun _ => 0
  | k + 1 => if u.B k < u.vars then upd (rdX u k) (u.B k) (u.C (k + 1) 0) else rdX u k
def rdY (u : Tb) : Nat → Int → Int
  | 0 => fun _ => 0
  | k + 1 => if u.vars ≤ u.F k then upd (rdY u k) (u.F k - u.vars) (u.C 0 (k + 1)) else rdY u k
theorem rdX_next (u : Tb) {i : Int} (h : 0 ≤ i) : rdX u (i + 1).toNat = if u.B i < u.vars then upd (rdX u i.toNat) (u.B i) (u.C (i + 1) 0) else rdX u i.toNat := by
  rw [show (i + 1).toNat = i.toNat + 1 by omega, rdX, Int.toNat_of_nonneg h]
theorem rdY_next (u : Tb) {i : Int} (h : 0 ≤ i) : rdY u (i + 1).toNat = if u.vars ≤ u.F i then upd (rdY u i.toNat) (u.F i - u.vars) (u.C 0 (i + 1)) else rdY u i.toNat := by
  rw [show (i + 1).toNat = i.toNat + 1 by omega, rdY, Int.toNat_of_nonneg h]
structure So where
  n : Int
  m : Int
  X : Int → Int
  Y : Int → Int
  val : Int
  den : Int
def So.zero : So := ⟨0, 0, fun _ => 0, fun _ => 0, 0, 0⟩
def readS (u : Tb) : So := ⟨u.nf, u.nb, rdX u u.nb.toNat, rdY u u.nf.toNat, u.C 0 0, u.den⟩
def SolveR (p : Lp) (s : So) (e : Int) : Prop := (¬ LOk p ∧ s = So.zero ∧ e = 1) ∨ (LOk p ∧ ∃ u, Run 1000 (startT p) u e ∧ ((e ≠ 0 ∧ s = So.zero) ∨ (e = 0 ∧ s = readS u)))
theorem SolveR.same {p : Lp} {s s' : So} {e e' : Int} (h : SolveR p s e) (h' : SolveR p s' e') : s = s' ∧ e = e' := by
  rcases h with ⟨a1, a2, a3⟩ | ⟨a1, u, a2, a3⟩ <;> rcases h' with ⟨b1, b2, b3⟩ | ⟨b1, u', b2, b3⟩
  · exact ⟨by rw [a2, b2], by omega⟩
  · exact absurd b1 a1
  · exact absurd a1 b1
  · obtain ⟨rfl, rfl⟩ := a2.same b2
    rcases a3 with ⟨a3, a4⟩ | ⟨a3, a4⟩ <;> rcases b3 with ⟨b3, b4⟩ | ⟨b3, b4⟩
    · exact ⟨by rw [a4, b4], rfl⟩
    · exact absurd b3 a3
    · exact absurd a3 b3
    · exact ⟨by rw [a4, b4], rfl⟩
end Go.Proofs.Gw
