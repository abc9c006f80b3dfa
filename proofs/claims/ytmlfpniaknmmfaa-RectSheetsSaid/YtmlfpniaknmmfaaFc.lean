/- Lists of candidates, and the first best pair of them, plain. -/
import Derived.Test.YtmlfpniaknmmfaaFv
namespace Go.Proofs.Gw
open Go Go.RowKit
set_option linter.unusedVariables false
set_option linter.unusedSimpArgs false

/-! Functions in memory -/
def fcells (K A : Int → Int) : Int → Value := fun k => if k % 2 = 0 then .int .i64 (K (k / 2)) else .int .i64 (A (k / 2))
theorem fcells0 (K A : Int → Int) {k i : Int} (h : k = 2 * i) : fcells K A k = .int .i64 (K i) := by
  subst h; unfold fcells; rw [if_pos (by omega)]; congr 2; omega
theorem fcells1 (K A : Int → Int) {k i : Int} (h : k = 2 * i + 1) : fcells K A k = .int .i64 (A i) := by
  subst h; unfold fcells; rw [if_neg (by omega)]; congr 2; omega
theorem fcells_at (K A : Int → Int) {k i : Int} (h : k = 2 * i) : ∀ (j : Nat) u, [Value.int .i64 (K i), .int .i64 (A i)][j]? = some u → fcells K A (k + j) = u := fun j u hu => by
  rcases j with _ | _ | j
  · cases hu; exact fcells0 K A (by omega)
  · cases hu; exact fcells1 K A (by omega)
  · simp at hu
theorem fcells_one (K A : Int → Int) (k : Int) : (fcells K A k).oneCell' = true := by
  unfold fcells
  split <;> rfl
theorem cat_fn (K A : Int → Int) (n a b : Int) : cat (n * 2) (fcells K A) (fcells (fun _ => a) (fun _ => b)) = fcells (snoc K n a) (snoc A n b) := by
  funext k
  unfold cat fcells snoc
  by_cases h : k < n * 2
  · have : k / 2 < n := by omega
    simp only [if_pos h, if_pos this]
  · have : ¬ k / 2 < n := by omega
    have e : (k - n * 2) % 2 = k % 2 := by omega
    simp only [if_neg h, if_neg this, e]
/-! A list of pairs as two functions -/
structure FL (l : List (Int × Int)) (n : Int) (K A : Int → Int) : Prop where
  len : (l.length : Int) = n
  get : ∀ (k : Nat) x, l[k]? = some x → K k = x.1 ∧ A k = x.2
theorem FL.snoc {l : List (Int × Int)} {n : Int} {K A : Int → Int} (h : FL l n K A) (a b : Int) : FL (l ++ [(a, b)]) (n + 1) (snoc K n a) (snoc A n b) := by
  refine ⟨by simp [← h.len], fun k x hx => ?_⟩
  have hl := h.len
  rw [List.getElem?_append] at hx
  by_cases hk : k < l.length
  · rw [if_pos hk] at hx
    rw [snoc_lt (by omega), snoc_lt (by omega)]; exact h.get k x hx
  · rw [if_neg hk] at hx
    rw [snoc_at (by omega), snoc_at (by omega)]
    have : k - l.length = 0 := by
      rcases Nat.eq_zero_or_pos (k - l.length) with h | h
      · exact h
      · obtain ⟨q, hq⟩ : ∃ q, k - l.length = q + 1 := ⟨k - l.length - 1, by omega⟩
        rw [hq] at hx; simp at hx
    rw [this] at hx
    simp at hx
    subst hx; exact ⟨rfl, rfl⟩
theorem FL.at {l : List (Int × Int)} {n : Int} {K A : Int → Int} (h : FL l n K A) {k : Int} (h0 : 0 ≤ k) (h1 : k < n) : l[k.toNat]? = some (K k, A k) := by
  have hl := h.len
  have hk : k.toNat < l.length := by omega
  have := h.get k.toNat _ (List.getElem?_eq_getElem hk)
  rw [Int.toNat_of_nonneg h0] at this
  rw [List.getElem?_eq_getElem hk, this.1, this.2]
theorem FL.congr {l m : List (Int × Int)} {n : Int} {K A : Int → Int} (h : FL l n K A) (e : l = m) : FL m n K A := e ▸ h
def base (k : Nat) : List (Int × Int) := (0, 0) :: (List.range k).map fun i : Nat => (1, (i : Int) + 1)
theorem base_succ (k : Nat) : base (k + 1) = base k ++ [(1, (k : Int) + 1)] := by
  simp [base, List.range_succ]
theorem base_next {i x : Int} (h : 0 ≤ i) (hx : x = i + 1) : base i.toNat ++ [(1, x)] = base (i + 1).toNat := by
  rw [show (i + 1).toNat = i.toNat + 1 by omega, base_succ, Int.toNat_of_nonneg h, hx]
theorem fl_start : FL (base 0) 1 (fun _ => 0) (fun _ => 0) := ⟨rfl, fun k x hx => by
  rcases k with _ | k
  · simp [base] at hx; subst hx; exact ⟨rfl, rfl⟩
  · simp [base] at hx⟩
/-- l is the list of candidates whose last part is the set S. -/
def CandL (S : Int → Prop) (l : List (Int × Int)) : Prop := ∃ m : List Int, l = base 5 ++ m.map (fun a => ((2 : Int), a)) ∧ m.Pairwise (· < ·) ∧ ∀ a, a ∈ m ↔ S a
theorem CandL.same {S : Int → Prop} {l l' : List (Int × Int)} (h : CandL S l) (h' : CandL S l') : l = l' := by
  obtain ⟨m, rfl, h1, h2⟩ := h
  obtain ⟨m', rfl, h3, h4⟩ := h'
  rw [rise_unique h1 h3 fun a => (h2 a).trans (h4 a).symm]
theorem CandL.congr {S S' : Int → Prop} {l : List (Int × Int)} (h : CandL S l) (e : ∀ a, S a ↔ S' a) : CandL S' l := by
  have : S = S' := funext fun a => propext (e a)
  exact this ▸ h
theorem CandL.start : CandL (fun _ => False) (base 5) := ⟨[], by simp, .nil, by simp⟩
theorem CandL.snoc {S : Int → Prop} {l : List (Int × Int)} (h : CandL S l) {x : Int} (hx : ∀ a, S a → a < x) : CandL (fun a => S a ∨ a = x) (l ++ [(2, x)]) := by
  obtain ⟨m, rfl, h1, h2⟩ := h
  refine ⟨m ++ [x], by simp, List.pairwise_append.2 ⟨h1, List.pairwise_singleton _ _, fun a ha b hb => ?_⟩, fun a => ?_⟩
  · rw [List.mem_singleton] at hb; subst hb; exact hx a ((h2 a).1 ha)
  · rw [List.mem_append, List.mem_singleton, h2]
theorem CandL.len {S : Int → Prop} {l : List (Int × Int)} (h : CandL S l) : 6 ≤ l.length ∧ l[0]? = some (0, 0) := by
  obtain ⟨m, rfl, _⟩ := h
  exact ⟨by simp [base], rfl⟩
theorem CandL.ok {S : Int → Prop} {l : List (Int × Int)} (h : CandL S l) {c : Int} (hS : ∀ a, S a → 1 ≤ a ∧ a ≤ c.tdiv 2) {k : Nat} {x : Int × Int} (hx : l[k]? = some x) : okF x.1 x.2 c := by
  obtain ⟨m, rfl, _, h2⟩ := h
  have := List.mem_of_getElem? hx
  rcases List.mem_append.1 this with h | h
  · simp only [base, List.mem_cons, List.mem_map, List.mem_range] at h
    rcases h with rfl | ⟨i, hi, rfl⟩
    · exact .inl ⟨rfl, rfl⟩
    · exact .inr (.inl ⟨rfl, by dsimp only; omega, by dsimp only; omega⟩)
  · obtain ⟨a, ha, rfl⟩ := List.mem_map.1 h
    exact .inr (.inr ⟨rfl, hS a ((h2 a).1 ha)⟩)
/-- The list of the set. -/
noncomputable def candOf (S : Int → Prop) : List (Int × Int) := by
  classical exact if h : ∃ l, CandL S l then Classical.choose h else []
theorem CandL.eq {S : Int → Prop} {l : List (Int × Int)} (h : CandL S l) : l = candOf S ∧ CandL S (candOf S) := by
  have h2 : CandL S (candOf S) := by
    unfold candOf
    rw [dif_pos ⟨l, h⟩]
    exact Classical.choose_spec (p := CandL S) ⟨l, h⟩
  exact ⟨h.same h2, h2⟩
/-- What the two functions of candidates return. -/
def Sel (g : Int → Int) (h i : Int) : Int → Prop := fun a => 1 ≤ a ∧ a ≤ h ∧ ∃ k, 0 ≤ k ∧ k < i ∧ g k = a
def CandR (f : Int → Int) (n c : Int) : Int → Prop := Sel f (c.tdiv 2) n
theorem CandL.sel_start (g : Int → Int) (h : Int) : CandL (Sel g h 0) (base 5) := CandL.start.congr fun a => ⟨fun hh => hh.elim, fun ⟨_, _, k, h0, h1, _⟩ => by omega⟩
theorem CandL.sel_in {g : Int → Int} {h i : Int} {l : List (Int × Int)} (hc : CandL (Sel g h i) l) (hi : 0 ≤ i) (hr : ∀ k, 0 ≤ k → k < i → g k < g i) (hs : 1 ≤ g i ∧ g i ≤ h) : CandL (Sel g h (i + 1)) (l ++ [(2, g i)]) :=
  (hc.snoc (x := g i) fun a ⟨_, _, k, k0, k1, e⟩ => e ▸ hr k k0 k1).congr fun a => by
    constructor
    · rintro (⟨h1, h2, k, k0, k1, e⟩ | rfl)
      · exact ⟨h1, h2, k, k0, by omega, e⟩
      · exact ⟨hs.1, hs.2, i, hi, by omega, rfl⟩
    · rintro ⟨h1, h2, k, k0, k1, e⟩
      by_cases hk : k = i
      · subst hk; exact .inr e.symm
      · exact .inl ⟨h1, h2, k, k0, by omega, e⟩
theorem CandL.sel_out {g : Int → Int} {h i : Int} {l : List (Int × Int)} (hc : CandL (Sel g h i) l) (hs : ¬ (1 ≤ g i ∧ g i ≤ h)) : CandL (Sel g h (i + 1)) l :=
  hc.congr fun a => by
    constructor
    · rintro ⟨h1, h2, k, k0, k1, e⟩; exact ⟨h1, h2, k, k0, by omega, e⟩
    · rintro ⟨h1, h2, k, k0, k1, e⟩
      by_cases hk : k = i
      · subst hk; subst e; exact absurd ⟨h1, h2⟩ hs
      · exact ⟨h1, h2, k, k0, by omega, e⟩
/-- Of the numbers that Sort and Compact have made of f. -/
theorem comp_mem {f sg cg : Int → Int} {n : Int} {l : List Int} (hso : SortOf f n sg) (hco : CompOf sg n l) (hge : ∀ k, 0 ≤ k → k < (l.length : Int) → cg k = atOf l k) (a : Int) :
    (∃ k, 0 ≤ k ∧ k < (l.length : Int) ∧ cg k = a) ↔ ∃ k, 0 ≤ k ∧ k < n ∧ f k = a := by
  rw [← hso.mem a, ← hco.mem a]
  constructor
  · rintro ⟨k, k0, k1, e⟩
    rw [hge k k0 k1] at e
    subst e
    unfold atOf
    rw [List.getD_eq_getElem?_getD, List.getElem?_eq_getElem (by omega : k.toNat < l.length)]
    exact List.getElem_mem _
  · intro h
    obtain ⟨k, hk, e⟩ := List.getElem_of_mem h
    refine ⟨k, by omega, by omega, ?_⟩
    rw [hge _ (by omega) (by omega)]
    unfold atOf
    rw [List.getD_eq_getElem?_getD, Int.toNat_natCast, List.getElem?_eq_getElem hk]
    exact e
theorem comp_rise {sg cg : Int → Int} {n : Int} {l : List Int} (hco : CompOf sg n l) (hge : ∀ k, 0 ≤ k → k < (l.length : Int) → cg k = atOf l k) {i j : Int} (h0 : 0 ≤ i) (h1 : i < j) (h2 : j < (l.length : Int)) : cg i < cg j := by
  have := List.pairwise_iff_getElem.1 hco.rise i.toNat j.toNat (by omega) (by omega) (by omega)
  rw [hge i h0 (by omega), hge j (by omega) h2]
  unfold atOf
  rw [List.getD_eq_getElem?_getD, List.getD_eq_getElem?_getD, List.getElem?_eq_getElem (by omega : i.toNat < l.length), List.getElem?_eq_getElem (by omega : j.toNat < l.length)]
  exact this
theorem CandL.sel_fin {f sg cg : Int → Int} {n c : Int} {l : List Int} {lc : List (Int × Int)} (h : CandL (Sel cg (c.tdiv 2) l.length) lc) (hso : SortOf f n sg) (hco : CompOf sg n l) (hge : ∀ k, 0 ≤ k → k < (l.length : Int) → cg k = atOf l k) : CandL (CandR f n c) lc :=
  h.congr fun a => by
    unfold CandR Sel
    rw [comp_mem hso hco hge a]
/-- The numbers from 1 on are the same ones behind it. -/
def Kept (f g : Int → Int) (n : Int) : Prop := ∀ a, 1 ≤ a → ((∃ k, 0 ≤ k ∧ k < n ∧ g k = a) ↔ ∃ k, 0 ≤ k ∧ k < n ∧ f k = a)
theorem kept_comp {f sg cg : Int → Int} {n : Int} {l : List Int} (hso : SortOf f n sg) (hco : CompOf sg n l) (hge : ∀ k, 0 ≤ k → k < (l.length : Int) → cg k = atOf l k) (hz : ∀ k, (l.length : Int) ≤ k → cg k = 0) : Kept f cg n := fun a ha => by
  rw [← comp_mem hso hco hge a]
  have := hco.len
  constructor
  · rintro ⟨k, k0, k1, e⟩
    by_cases hk : k < (l.length : Int)
    · exact ⟨k, k0, hk, e⟩
    · have := hz k (by omega); omega
  · rintro ⟨k, k0, k1, e⟩; exact ⟨k, k0, by omega, e⟩
theorem Kept.cand {f g : Int → Int} {n : Int} (h : Kept f g n) (c : Int) : CandR g n c = CandR f n c := by
  funext a
  apply propext
  unfold CandR Sel
  constructor
  · rintro ⟨h1, h2, h3⟩; exact ⟨h1, h2, (h a h1).1 h3⟩
  · rintro ⟨h1, h2, h3⟩; exact ⟨h1, h2, (h a h1).2 h3⟩
theorem Kept.refl (f : Int → Int) (n : Int) : Kept f f n := fun _ _ => Iff.rfl
theorem Kept.trans {f g k : Int → Int} {n : Int} (h : Kept f g n) (h2 : Kept g k n) : Kept f k n := fun a ha => (h2 a ha).trans (h a ha)
def Rng (f : Int → Int) (n k : Int) : Int → Prop := fun a => 1 ≤ a ∧ a < k ∧ ∃ j, 0 ≤ j ∧ j < n ∧ f j = a
theorem CandL.rng_start (f : Int → Int) (n : Int) : CandL (Rng f n 1) (base 5) := CandL.start.congr fun a => ⟨fun hh => hh.elim, fun ⟨h1, h2, _⟩ => by omega⟩
theorem CandL.rng_in {f : Int → Int} {n k j : Int} {l : List (Int × Int)} (hc : CandL (Rng f n k) l) (hk : 1 ≤ k) (j0 : 0 ≤ j) (j1 : j < n) (e : f j = k) : CandL (Rng f n (k + 1)) (l ++ [(2, k)]) :=
  (hc.snoc (x := k) fun a h => h.2.1).congr fun a => by
    constructor
    · rintro (⟨h1, h2, h3⟩ | rfl)
      · exact ⟨h1, by omega, h3⟩
      · exact ⟨hk, by omega, j, j0, j1, e⟩
    · rintro ⟨h1, h2, h3⟩
      by_cases hk : a = k
      · exact .inr hk
      · exact .inl ⟨h1, by omega, h3⟩
theorem CandL.rng_out {f : Int → Int} {n k : Int} {l : List (Int × Int)} (hc : CandL (Rng f n k) l) (h : ∀ j, 0 ≤ j → j < n → f j ≠ k) : CandL (Rng f n (k + 1)) l :=
  hc.congr fun a => by
    constructor
    · rintro ⟨h1, h2, h3⟩; exact ⟨h1, by omega, h3⟩
    · rintro ⟨h1, h2, j, j0, j1, e⟩
      have := h j j0 j1
      exact ⟨h1, by omega, j, j0, j1, e⟩
theorem CandL.rng_fin {f : Int → Int} {n k c : Int} {l : List (Int × Int)} (hc : CandL (Rng f n k) l) (h : k = c.tdiv 2 + 1 ∨ (c.tdiv 2 < 1 ∧ k = 1)) : CandL (CandR f n c) l :=
  hc.congr fun a => by
    constructor
    · rintro ⟨h1, h2, h3⟩; exact ⟨h1, by omega, h3⟩
    · rintro ⟨h1, h2, h3⟩; exact ⟨h1, by omega, h3⟩

/-- The sizes of the rectangles that are asked for. -/
def Sizes (d : Dem) (W : Int → Int) (kf i : Int) : Int → Prop := fun a => ∃ k, 0 ≤ k ∧ k < i ∧ 0 < d.N k ∧ W k + kf = a
def SzInv (f : Int → Int) (m : Int) (d : Dem) (W : Int → Int) (kf i : Int) : Prop := ∀ a, (∃ k, 0 ≤ k ∧ k < m ∧ f k = a) ↔ Sizes d W kf i a
theorem SzInv.start (f : Int → Int) (d : Dem) (W : Int → Int) (kf : Int) : SzInv f 0 d W kf 0 := fun a => ⟨fun ⟨k, h0, h1, _⟩ => by omega, fun ⟨k, h0, h1, _⟩ => by omega⟩
theorem SzInv.more {f : Int → Int} {m : Int} {d : Dem} {W : Int → Int} {kf i : Int} (h : SzInv f m d W kf i) (hm : 0 ≤ m) (hi : 0 ≤ i) (hN : 0 < d.N i) : SzInv (snoc f m (W i + kf)) (m + 1) d W kf (i + 1) := fun a => by
  constructor
  · rintro ⟨k, k0, k1, e⟩
    by_cases hk : k < m
    · rw [snoc_lt hk] at e
      obtain ⟨j, j0, j1, j2⟩ := (h a).1 ⟨k, k0, hk, e⟩
      exact ⟨j, j0, by omega, j2⟩
    · rw [snoc_at hk] at e
      exact ⟨i, hi, by omega, hN, e⟩
  · rintro ⟨j, j0, j1, j2, e⟩
    by_cases hj : j = i
    · subst hj; exact ⟨m, hm, by omega, by rw [snoc_at (by omega)]; exact e⟩
    · obtain ⟨k, k0, k1, e'⟩ := (h a).2 ⟨j, j0, by omega, j2, e⟩
      exact ⟨k, k0, by omega, by rw [snoc_lt k1]; exact e'⟩
theorem SzInv.stay {f : Int → Int} {m : Int} {d : Dem} {W : Int → Int} {kf i : Int} (h : SzInv f m d W kf i) (hN : ¬ 0 < d.N i) : SzInv f m d W kf (i + 1) := fun a => by
  rw [h a]
  constructor
  · rintro ⟨j, j0, j1, j2⟩; exact ⟨j, j0, by omega, j2⟩
  · rintro ⟨j, j0, j1, j2, e⟩
    by_cases hj : j = i
    · subst hj; exact absurd j2 hN
    · exact ⟨j, j0, by omega, j2, e⟩
def WSet (d : Dem) (W : Int → Int) (kf c : Int) : Int → Prop := fun a => 1 ≤ a ∧ a ≤ c.tdiv 2 ∧ Sizes d W kf d.n a
theorem SzInv.cand {f : Int → Int} {m : Int} {d : Dem} {W : Int → Int} {kf : Int} (h : SzInv f m d W kf d.n) (c : Int) : CandR f m c = WSet d W kf c := by
  funext a
  apply propext
  unfold CandR Sel WSet
  rw [h a]
/-- The value of a pair of functions. -/
def VV (d : Dem) (s : Sht) (x y : Int × Int) : Int := Crt.val ⟨x.1, x.2, y.1, y.2⟩ d s
noncomputable def LA (d : Dem) (s : Sht) : List (Int × Int) := candOf (WSet d d.W s.kf (s.w + s.kf))
noncomputable def LB (d : Dem) (s : Sht) : List (Int × Int) := candOf (WSet d d.H s.kf (s.h + s.kf))
theorem ok_of {d : Dem} {s : Sht} (ha : CandL (WSet d d.W s.kf (s.w + s.kf)) (LA d s)) (hb : CandL (WSet d d.H s.kf (s.h + s.kf)) (LB d s)) {i j : Nat} {x y : Int × Int} (hx : (LA d s)[i]? = some x) (hy : (LB d s)[j]? = some y) : Crt.ok ⟨x.1, x.2, y.1, y.2⟩ s :=
  ⟨ha.ok (fun a h => ⟨h.1, h.2.1⟩) hx, hb.ok (fun a h => ⟨h.1, h.2.1⟩) hy⟩
theorem val_nonneg {x : Crt} {d : Dem} {s : Sht} (hk : DOk d s) (hx : x.ok s) (hn : 0 ≤ d.n) (hg : ¬ DGreat d s) : 0 ≤ x.val d s := by
  have h1 := top_bd hk hx
  have h2 := sum_bd hk hx hn (Int.le_refl _) (fun k a0 a1 hh => hg ⟨k, a0, a1, hh⟩)
  unfold Crt.val
  rw [Int.tdiv_eq_ediv_of_nonneg (by omega)]
  exact Int.ediv_nonneg (by omega) (by omega)
theorem ValueR.val {x : Crt} {d : Dem} {s : Sht} {a e : Int} (h : ValueR x d s a e) (hk : DOk d s) (hx : x.ok s) (hg : ¬ DGreat d s) : a = x.val d s := by
  rcases h with ⟨a1, _⟩ | ⟨_, _, a1, _⟩ | ⟨_, _, _, a1, _⟩
  · exact absurd ⟨hk, hx⟩ a1
  · exact absurd a1 hg
  · exact a1
theorem crt_i64 {x : Crt} {s : Sht} (h : x.ok s) (h1 : 0 ≤ s.w + s.kf) (h2 : s.w + s.kf ≤ 100000) (h3 : 0 ≤ s.h + s.kf) (h4 : s.h + s.kf ≤ 100000) :
    (-9223372036854775808 ≤ x.a ∧ x.a ≤ 9223372036854775807) ∧ (-9223372036854775808 ≤ x.p ∧ x.p ≤ 9223372036854775807) ∧ (-9223372036854775808 ≤ x.b ∧ x.b ≤ 9223372036854775807) ∧ (-9223372036854775808 ≤ x.q ∧ x.q ≤ 9223372036854775807) := by
  obtain ⟨a, b⟩ := h
  have e1 := half_facts h1
  have e2 := half_facts h3
  unfold okF at a b
  omega
theorem ok_plain (s : Sht) : Crt.ok ⟨0, 0, 0, 0⟩ s := ⟨.inl ⟨rfl, rfl⟩, .inl ⟨rfl, rfl⟩⟩

/-! The first best pair -/
def before (i j I J : Int) : Prop := i < I ∨ (i = I ∧ j < J)
structure Top (V : Int × Int → Int × Int → Int) (la lb : List (Int × Int)) (I J best : Int) (x y : Int × Int) (i0 j0 : Nat) : Prop where
  x0 : la[i0]? = some x
  y0 : lb[j0]? = some y
  at0 : before i0 j0 I J
  val : best = V x y
  le : ∀ (i j : Nat) a b, la[i]? = some a → lb[j]? = some b → before i j I J → V a b ≤ best
  lt : ∀ (i j : Nat) a b, la[i]? = some a → lb[j]? = some b → before i j i0 j0 → V a b < best
def Best1 (V : Int × Int → Int × Int → Int) (la lb : List (Int × Int)) (I J best : Int) (x y : Int × Int) : Prop :=
  (I = 0 ∧ J = 0 ∧ (best = -1 ∨ (best = V x y ∧ la[0]? = some x ∧ lb[0]? = some y))) ∨ ∃ i0 j0, Top V la lb I J best x y i0 j0
def BestOf (V : Int × Int → Int × Int → Int) (la lb : List (Int × Int)) (best : Int) (x y : Int × Int) : Prop := ∃ i0 j0, Top V la lb la.length 0 best x y i0 j0
section
variable {V : Int × Int → Int × Int → Int} {la lb : List (Int × Int)} {I J best : Int} {x y a b : Int × Int}
theorem before_next {i j : Nat} {I J : Int} (h : before i j I (J + 1)) : before i j I J ∨ ((i : Int) = I ∧ (j : Int) = J) := by
  unfold before at *; omega
theorem Best1.more (h : Best1 V la lb I J best x y) (hI : 0 ≤ I) (hJ : 0 ≤ J) (ha : la[I.toNat]? = some a) (hb : lb[J.toNat]? = some b) (hv : best < V a b) : Best1 V la lb I (J + 1) (V a b) a b := by
  refine .inr ⟨I.toNat, J.toNat, ha, hb, by unfold before; omega, rfl, fun i j a' b' ha' hb' hbf => ?_, fun i j a' b' ha' hb' hbf => ?_⟩
  · rcases before_next hbf with hbf | ⟨e1, e2⟩
    · rcases h with ⟨rfl, rfl, _⟩ | ⟨i0, j0, h⟩
      · unfold before at hbf; omega
      · have := h.le i j a' b' ha' hb' hbf; omega
    · have e1' : i = I.toNat := by omega
      have e2' : j = J.toNat := by omega
      subst e1'; subst e2'
      rw [ha] at ha'; rw [hb] at hb'
      cases ha'; cases hb'; exact Int.le_refl _
  · rw [Int.toNat_of_nonneg hI, Int.toNat_of_nonneg hJ] at hbf
    rcases h with ⟨rfl, rfl, _⟩ | ⟨i0, j0, h⟩
    · unfold before at hbf; omega
    · have := h.le i j a' b' ha' hb' hbf; omega
theorem Best1.stay (h : Best1 V la lb I J best x y) (hI : 0 ≤ I) (hJ : 0 ≤ J) (ha : la[I.toNat]? = some a) (hb : lb[J.toNat]? = some b) (h0 : 0 ≤ V a b) (hv : ¬ best < V a b) : Best1 V la lb I (J + 1) best x y := by
  have key : ∀ {i0 j0 : Nat}, before i0 j0 I (J + 1) → la[i0]? = some x → lb[j0]? = some y → best = V x y → (∀ (i j : Nat) a b, la[i]? = some a → lb[j]? = some b → before i j I J → V a b ≤ best) → (∀ (i j : Nat) a b, la[i]? = some a → lb[j]? = some b → before i j i0 j0 → V a b < best) → Best1 V la lb I (J + 1) best x y := by
    intro i0 j0 h1 h2 h3 h4 h5 h6
    refine .inr ⟨i0, j0, h2, h3, h1, h4, fun i j a' b' ha' hb' hbf => ?_, h6⟩
    rcases before_next hbf with hbf | ⟨e1, e2⟩
    · exact h5 i j a' b' ha' hb' hbf
    · have e1' : i = I.toNat := by omega
      have e2' : j = J.toNat := by omega
      subst e1'; subst e2'
      rw [ha] at ha'; rw [hb] at hb'
      cases ha'; cases hb'; omega
  rcases h with ⟨rfl, rfl, h | ⟨h1, h2, h3⟩⟩ | ⟨i0, j0, h⟩
  · omega
  · exact key (i0 := 0) (j0 := 0) (by unfold before; omega) h2 h3 h1 (fun i j _ _ _ _ hbf => by unfold before at hbf; omega) (fun i j _ _ _ _ hbf => by unfold before at hbf; omega)
  · exact key (by have := h.at0; unfold before at *; omega) h.x0 h.y0 h.val h.le h.lt
theorem Best1.moreV {v : Int} (h : Best1 V la lb I J best x y) (hI : 0 ≤ I) (hJ : 0 ≤ J) (ha : la[I.toNat]? = some a) (hb : lb[J.toNat]? = some b) (e : v = V a b) (hv : best < v) : Best1 V la lb I (J + 1) v a b := by
  subst e; exact h.more hI hJ ha hb hv
theorem Best1.stayV {v : Int} (h : Best1 V la lb I J best x y) (hI : 0 ≤ I) (hJ : 0 ≤ J) (ha : la[I.toNat]? = some a) (hb : lb[J.toNat]? = some b) (h0 : 0 ≤ V a b) (e : v = V a b) (hv : ¬ best < v) : Best1 V la lb I (J + 1) best x y := by
  subst e; exact h.stay hI hJ ha hb h0 hv
theorem Best1.row (h : Best1 V la lb I lb.length best x y) (hl : 1 ≤ lb.length) : Best1 V la lb (I + 1) 0 best x y := by
  rcases h with ⟨_, h, _⟩ | ⟨i0, j0, h⟩
  · omega
  · refine .inr ⟨i0, j0, h.x0, h.y0, ?_, h.val, fun i j a' b' ha' hb' hbf => h.le i j a' b' ha' hb' ?_, h.lt⟩
    · have := h.at0; unfold before at *; omega
    · have := (List.getElem?_eq_some_iff.1 hb').1
      unfold before at *; omega
theorem Best1.fin (h : Best1 V la lb la.length 0 best x y) (hl : 1 ≤ la.length) : BestOf V la lb best x y := by
  rcases h with ⟨h, _⟩ | h
  · omega
  · exact h
theorem Best1.rowE (h : Best1 V la lb I J best x y) (e : J = lb.length) (hl : 1 ≤ lb.length) : Best1 V la lb (I + 1) 0 best x y := by
  subst e; exact h.row hl
theorem Best1.finE (h : Best1 V la lb I 0 best x y) (e : I = la.length) (hl : 1 ≤ la.length) : BestOf V la lb best x y := by
  subst e; exact h.fin hl
theorem BestOf.same {best' : Int} {x' y' : Int × Int} (h : BestOf V la lb best x y) (h' : BestOf V la lb best' x' y') : best = best' ∧ x = x' ∧ y = y' := by
  obtain ⟨i0, j0, h⟩ := h
  obtain ⟨i1, j1, h'⟩ := h'
  have hi0 := (List.getElem?_eq_some_iff.1 h.x0).1
  have hi1 := (List.getElem?_eq_some_iff.1 h'.x0).1
  have e : best = best' := by
    have h1 := h.le i1 j1 x' y' h'.x0 h'.y0 (by unfold before; omega)
    have h2 := h'.le i0 j0 x y h.x0 h.y0 (by unfold before; omega)
    have h3 := h.val; have h4 := h'.val; omega
  have ne1 : ¬ before i0 j0 i1 j1 := fun hb => by
    have := h'.lt i0 j0 x y h.x0 h.y0 hb; have := h.val; omega
  have ne2 : ¬ before i1 j1 i0 j0 := fun hb => by
    have := h.lt i1 j1 x' y' h'.x0 h'.y0 hb; have := h'.val; omega
  have e1 : i0 = i1 := by unfold before at *; omega
  have e2 : j0 = j1 := by unfold before at *; omega
  subst e1; subst e2
  have ex := h.x0.symm.trans h'.x0
  have ey := h.y0.symm.trans h'.y0
  exact ⟨e, Option.some.inj ex, Option.some.inj ey⟩
theorem BestOf.ge (h : BestOf V la lb best x y) {i j : Nat} {a b : Int × Int} (ha : la[i]? = some a) (hb : lb[j]? = some b) : V a b ≤ best := by
  obtain ⟨i0, j0, h⟩ := h
  have hi := (List.getElem?_eq_some_iff.1 ha).1
  exact h.le i j a b ha hb (by unfold before; omega)
theorem BestOf.is (h : BestOf V la lb best x y) : best = V x y ∧ ∃ i j : Nat, la[i]? = some x ∧ lb[j]? = some y := by
  obtain ⟨i0, j0, h⟩ := h
  exact ⟨h.val, i0, j0, h.x0, h.y0⟩
end
/-- What Best returns. -/
def BestR (d : Dem) (s : Sht) (a : Int) (x y : Int × Int) (e : Int) : Prop :=
  (¬ DOk d s ∧ a = 0 ∧ x = (0, 0) ∧ y = (0, 0) ∧ e = 1) ∨ (DOk d s ∧ DGreat d s ∧ a = 0 ∧ x = (0, 0) ∧ y = (0, 0) ∧ e = 19) ∨
    (DOk d s ∧ ¬ DGreat d s ∧ e = 0 ∧ CandL (WSet d d.W s.kf (s.w + s.kf)) (LA d s) ∧ CandL (WSet d d.H s.kf (s.h + s.kf)) (LB d s) ∧ BestOf (VV d s) (LA d s) (LB d s) a x y)
theorem BestR.same {d : Dem} {s : Sht} {a a' e e' : Int} {x y x' y' : Int × Int} (h : BestR d s a x y e) (h' : BestR d s a' x' y' e') : a = a' ∧ e = e' ∧ x = x' ∧ y = y' := by
  rcases h with ⟨a1, a2, a3, a4, a5⟩ | ⟨a1, a2, a3, a4, a5, a6⟩ | ⟨a1, a2, a3, _, _, a4⟩ <;> rcases h' with ⟨b1, b2, b3, b4, b5⟩ | ⟨b1, b2, b3, b4, b5, b6⟩ | ⟨b1, b2, b3, _, _, b4⟩ <;> first
    | contradiction
    | exact ⟨by omega, by omega, by rw [a3, b3], by rw [a4, b4]⟩
    | exact ⟨by omega, by omega, by rw [a4, b4], by rw [a5, b5]⟩
    | exact ⟨(a4.same b4).1, by omega, (a4.same b4).2⟩
end Go.Proofs.Gw
