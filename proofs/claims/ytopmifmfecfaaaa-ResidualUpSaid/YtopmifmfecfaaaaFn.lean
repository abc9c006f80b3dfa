/- Plans as lists of uses: order, sums, the normal form. Plain. -/
import Derived.Test.YtopmifmfecfaaaaFx
namespace Go.Proofs.Gw
set_option linter.unusedVariables false
/-! Plans as lists. -/
/-- The numbers f 0 .. f (n - 1). -/
def lst (n : Int) (f : Int → Int) : List Int := (List.range n.toNat).map fun (k : Nat) => f (k : Int)
theorem lst_len (n : Int) (f : Int → Int) : (lst n f).length = n.toNat := by simp [lst]
theorem lst_get (n : Int) (f : Int → Int) (k : Nat) : (lst n f)[k]? = if (k : Int) < n then some (f k) else none := by
  unfold lst
  by_cases h : (k : Int) < n
  · rw [if_pos h, List.getElem?_map, List.getElem?_range (by omega)]; rfl
  · rw [if_neg h]; simp; omega
theorem lst_eq {n m : Int} {f g : Int → Int} (n0 : 0 ≤ n) (m0 : 0 ≤ m) : lst n f = lst m g ↔ n = m ∧ ∀ k, 0 ≤ k → k < n → f k = g k := by
  constructor
  · intro h
    have hl := congrArg List.length h
    rw [lst_len, lst_len] at hl
    refine ⟨by omega, fun k k0 k1 => ?_⟩
    have h1 := congrArg (fun l => l[k.toNat]?) h
    simp only [lst_get] at h1
    rw [Int.toNat_of_nonneg k0, if_pos k1, if_pos (by omega)] at h1
    injection h1
  · rintro ⟨rfl, h⟩
    apply List.ext_getElem?
    intro k
    rw [lst_get, lst_get]
    by_cases hk : (k : Int) < n
    · rw [if_pos hk, if_pos hk, h k (by omega) hk]
    · rw [if_neg hk, if_neg hk]
theorem lst_congr {n : Int} {f g : Int → Int} (h : ∀ k, 0 ≤ k → k < n → f k = g k) : lst n f = lst n g := by
  apply List.ext_getElem?
  intro k
  rw [lst_get, lst_get]
  by_cases hk : (k : Int) < n
  · rw [if_pos hk, if_pos hk, h k (by omega) hk]
  · rw [if_neg hk, if_neg hk]
/-- A number, or the end. -/
def olt : Option Int → Option Int → Prop
  | none, some _ => True
  | some x, some y => x < y
  | _, _ => False
theorem olt_irr : ∀ a, ¬ olt a a
  | none => id
  | some x => by simp [olt]
theorem olt_trans : ∀ {a b c}, olt a b → olt b c → olt a c
  | none, some _, some _, _, _ => trivial
  | some x, some y, some z, h, k => by simp only [olt] at *; omega
theorem olt_tri : ∀ {a b : Option Int}, a ≠ b → olt a b ∨ olt b a
  | none, none, h => absurd rfl h
  | none, some _, _ => .inl trivial
  | some _, none, _ => .inr trivial
  | some x, some y, h => by simp only [olt]; have : x ≠ y := fun e => h (by rw [e]); omega
/-- a comes ahead of b in descending order. -/
def ahd (a b : List Int) : Prop := ∃ j : Nat, (∀ k < j, a[k]? = b[k]?) ∧ olt b[j]? a[j]?
theorem ahd_asym {a b : List Int} (h : ahd a b) : ¬ ahd b a := by
  rintro ⟨j, h1, h2⟩
  obtain ⟨i, g1, g2⟩ := h
  rcases Nat.lt_trichotomy i j with h | h | h
  · rw [h1 i h] at g2; exact olt_irr _ g2
  · subst h; exact olt_irr _ (olt_trans g2 h2)
  · rw [g1 j h] at h2; exact olt_irr _ h2
theorem ahd_trans {a b c : List Int} (h : ahd a b) (k : ahd b c) : ahd a c := by
  obtain ⟨i, g1, g2⟩ := h
  obtain ⟨j, h1, h2⟩ := k
  rcases Nat.lt_trichotomy i j with h | h | h
  · exact ⟨i, fun k hk => (g1 k hk).trans (h1 k (by omega)), by rw [← h1 i h]; exact g2⟩
  · subst h; exact ⟨i, fun k hk => (g1 k hk).trans (h1 k hk), olt_trans h2 g2⟩
  · exact ⟨j, fun k hk => (g1 k (by omega)).trans (h1 k hk), by rw [g1 j h]; exact h2⟩
theorem ahd_tri {a b : List Int} (h : a ≠ b) : ahd a b ∨ ahd b a := by
  have hex : ∃ k : Nat, a[k]? ≠ b[k]? := Classical.byContradiction fun hn => h (List.ext_getElem? fun k => Classical.byContradiction fun hk => hn ⟨k, hk⟩)
  have hmin : ∃ k : Nat, a[k]? ≠ b[k]? ∧ ∀ j < k, a[j]? = b[j]? := by
    obtain ⟨k, hk⟩ := hex
    induction k using Nat.strongRecOn with
    | ind k ih =>
      by_cases hb : ∃ j, j < k ∧ a[j]? ≠ b[j]?
      · obtain ⟨j, hj, hne⟩ := hb; exact ih j hj hne
      · exact ⟨k, hk, fun j hj => Classical.byContradiction fun hne => hb ⟨j, hj, hne⟩⟩
  obtain ⟨k, hk, hlt⟩ := hmin
  rcases olt_tri hk with h1 | h1
  · exact .inr ⟨k, fun j hj => (hlt j hj).symm, h1⟩
  · exact .inl ⟨k, hlt, h1⟩
theorem ahd_irr (a : List Int) : ¬ ahd a a := fun h => ahd_asym h h
/-! What a loop over two lists of numbers finds. -/
theorem ahd_gt {n m : Int} {f g : Int → Int} {j : Int} (j0 : 0 ≤ j) (jn : j < n) (jm : j < m) (he : ∀ k, 0 ≤ k → k < j → f k = g k) (h : g j < f j) : ahd (lst n f) (lst m g) := by
  refine ⟨j.toNat, fun k hk => ?_, ?_⟩
  · rw [lst_get, lst_get, if_pos (by omega), if_pos (by omega), he k (by omega) (by omega)]
  · rw [lst_get, lst_get, Int.toNat_of_nonneg j0, if_pos jn, if_pos jm]; exact h
theorem ahd_long {n m : Int} {f g : Int → Int} (m0 : 0 ≤ m) (h : m < n) (he : ∀ k, 0 ≤ k → k < m → f k = g k) : ahd (lst n f) (lst m g) := by
  refine ⟨m.toNat, fun k hk => ?_, ?_⟩
  · rw [lst_get, lst_get, if_pos (by omega), if_pos (by omega), he k (by omega) (by omega)]
  · rw [lst_get, lst_get, Int.toNat_of_nonneg m0, if_neg (by omega), if_pos h]; trivial
theorem ahd_same {n : Int} {f g : Int → Int} (he : ∀ k, 0 ≤ k → k < n → f k = g k) : ¬ ahd (lst n f) (lst n g) := by
  rw [lst_congr he]; exact ahd_irr _
/-! Uses -/
abbrev Us := List (List Int × Int)
def plL (n : Int) (ln : Int → Int) (pt : Int → Int → Int) (cnt : Int → Int) : Us := (List.range n.toNat).map fun (i : Nat) => (lst (ln (i : Int)) (pt (i : Int)), cnt (i : Int))
theorem plL_len (n : Int) (ln : Int → Int) (pt : Int → Int → Int) (cnt : Int → Int) : (plL n ln pt cnt).length = n.toNat := by simp [plL]
theorem plL_get (n : Int) (ln : Int → Int) (pt : Int → Int → Int) (cnt : Int → Int) (k : Nat) : (plL n ln pt cnt)[k]? = if (k : Int) < n then some (lst (ln k) (pt k), cnt k) else none := by
  unfold plL
  by_cases h : (k : Int) < n
  · rw [if_pos h, List.getElem?_map, List.getElem?_range (by omega)]; rfl
  · rw [if_neg h]; simp; omega
theorem plL_congr {n : Int} {ln ln' : Int → Int} {pt pt' : Int → Int → Int} {cnt cnt' : Int → Int} (h : ∀ k, 0 ≤ k → k < n → ln k = ln' k ∧ cnt k = cnt' k ∧ ∀ j, 0 ≤ j → j < ln k → pt k j = pt' k j) : plL n ln pt cnt = plL n ln' pt' cnt' := by
  apply List.ext_getElem?
  intro k
  rw [plL_get, plL_get]
  by_cases hk : (k : Int) < n
  · obtain ⟨h1, h2, h3⟩ := h k (by omega) hk
    rw [if_pos hk, if_pos hk, h2, ← h1, lst_congr h3]
  · rw [if_neg hk, if_neg hk]
theorem plL_next {ln : Int → Int} {pt : Int → Int → Int} {cnt : Int → Int} {i : Int} (i0 : 0 ≤ i) : plL (i + 1) ln pt cnt = plL i ln pt cnt ++ [(lst (ln i) (pt i), cnt i)] := by
  unfold plL
  rw [show (i + 1).toNat = i.toNat + 1 by omega, List.range_succ, List.map_append, List.map_singleton, Int.toNat_of_nonneg i0]
theorem plL_snoc {n : Int} {ln ln' : Int → Int} {pt pt' : Int → Int → Int} {cnt cnt' : Int → Int} (n0 : 0 ≤ n) (h : ∀ k, 0 ≤ k → k < n → ln' k = ln k ∧ cnt' k = cnt k ∧ pt' k = pt k) {l c : Int} {p : Int → Int} (h1 : ln' n = l) (h2 : cnt' n = c) (h3 : pt' n = p) : plL (n + 1) ln' pt' cnt' = plL n ln pt cnt ++ [(lst l p, c)] := by
  rw [plL_next n0, h1, h2, h3]
  congr 1
  exact plL_congr fun k k0 k1 => ⟨(h k k0 k1).1, (h k k0 k1).2.1, fun j _ _ => by rw [(h k k0 k1).2.2]⟩
/-- A use is counted to the first of its pattern, or goes behind. -/
def addU : Us → List Int × Int → Us
  | [], u => [u]
  | v :: r, u => if v.1 = u.1 then (v.1, v.2 + u.2) :: r else v :: addU r u
def sums (l : Us) : Us := l.foldl addU []
theorem addU_new : ∀ {a : Us} {u : List Int × Int}, (∀ v ∈ a, v.1 ≠ u.1) → addU a u = a ++ [u]
  | [], _, _ => rfl
  | v :: r, u, h => by
    rw [addU, if_neg (h v (by simp)), addU_new fun w hw => h w (by simp [hw])]; rfl
theorem addU_at : ∀ {a : Us} {u : List Int × Int} {j : Nat} {v : List Int × Int}, a[j]? = some v → v.1 = u.1 → (∀ k < j, ∀ w, a[k]? = some w → w.1 ≠ u.1) → addU a u = a.set j (v.1, v.2 + u.2)
  | [], _, _, _, h, _, _ => by simp at h
  | w :: r, u, 0, v, h, e, _ => by
    simp at h; subst h
    rw [addU, if_pos e]; rfl
  | w :: r, u, j + 1, v, h, e, hk => by
    simp at h
    rw [addU, if_neg (hk 0 (by omega) w (by simp)), addU_at h e fun k hk' x hx => hk (k + 1) (by omega) x (by simpa using hx)]; rfl
theorem addU_keys : ∀ {a : Us} {u : List Int × Int}, ∀ x ∈ addU a u, x.1 = u.1 ∨ ∃ y ∈ a, y.1 = x.1
  | [], u, x, h => by simp [addU] at h; exact .inl (by rw [h])
  | v :: r, u, x, h => by
    rw [addU] at h
    split at h
    · rcases List.mem_cons.1 h with h | h
      · right; exact ⟨v, by simp, by rw [h]⟩
      · right; exact ⟨x, by simp [h], rfl⟩
    · rcases List.mem_cons.1 h with h | h
      · right; exact ⟨v, by simp, by rw [h]⟩
      · rcases addU_keys x h with h | ⟨y, hy, e⟩
        · exact .inl h
        · exact .inr ⟨y, by simp [hy], e⟩
theorem addU_dist : ∀ {a : Us} {u : List Int × Int}, a.Pairwise (fun x y => x.1 ≠ y.1) → (addU a u).Pairwise (fun x y => x.1 ≠ y.1)
  | [], u, _ => by simp [addU]
  | v :: r, u, h => by
    have h1 := List.pairwise_cons.1 h
    rw [addU]
    split
    · exact List.pairwise_cons.2 ⟨h1.1, h1.2⟩
    · rename_i hne
      refine List.pairwise_cons.2 ⟨fun x hx => ?_, addU_dist h1.2⟩
      rcases addU_keys x hx with e | ⟨y, hy, e⟩
      · rw [e]; exact hne
      · rw [← e]; exact h1.1 y hy
theorem foldl_dist : ∀ (l a : Us), a.Pairwise (fun x y => x.1 ≠ y.1) → (l.foldl addU a).Pairwise (fun x y => x.1 ≠ y.1)
  | [], _, h => h
  | u :: l, a, h => foldl_dist l _ (addU_dist h)
theorem sums_dist (l : Us) : (sums l).Pairwise (fun x y => x.1 ≠ y.1) := foldl_dist l [] .nil
theorem sums_snoc (l : Us) (u : List Int × Int) : sums (l ++ [u]) = addU (sums l) u := by simp [sums]
theorem addU_pos : ∀ {a : Us} {u : List Int × Int}, (∀ x ∈ a, 1 ≤ x.2) → 1 ≤ u.2 → ∀ x ∈ addU a u, 1 ≤ x.2
  | [], u, _, hu, x, h => by simp [addU] at h; rw [h]; exact hu
  | v :: r, u, ha, hu, x, h => by
    have hv := ha v (by simp)
    rw [addU] at h
    split at h
    · rcases List.mem_cons.1 h with h | h
      · rw [h]; dsimp only; omega
      · exact ha x (by simp [h])
    · rcases List.mem_cons.1 h with h | h
      · rw [h]; exact hv
      · exact addU_pos (fun y hy => ha y (by simp [hy])) hu x h
theorem foldl_pos : ∀ (l a : Us), (∀ x ∈ a, 1 ≤ x.2) → (∀ x ∈ l, 1 ≤ x.2) → ∀ x ∈ l.foldl addU a, 1 ≤ x.2
  | [], _, h, _ => h
  | u :: l, a, h, hl => foldl_pos l _ (addU_pos h (hl u (by simp))) fun x hx => hl x (by simp [hx])
theorem sums_pos {l : Us} (h : ∀ x ∈ l, 1 ≤ x.2) : ∀ x ∈ sums l, 1 ≤ x.2 := foldl_pos l [] (by simp) h
/-- What the uses are worth together. -/
def wsum (f : List Int → Int) : Us → Int
  | [] => 0
  | u :: l => f u.1 * u.2 + wsum f l
theorem wsum_append (f : List Int → Int) : ∀ a b : Us, wsum f (a ++ b) = wsum f a + wsum f b
  | [], b => by simp [wsum]
  | u :: a, b => by simp only [List.cons_append, wsum, wsum_append f a b]; omega
theorem wsum_addU (f : List Int → Int) : ∀ (a : Us) (u : List Int × Int), wsum f (addU a u) = wsum f a + f u.1 * u.2
  | [], u => by simp [addU, wsum]
  | v :: r, u => by
    rw [addU]
    split
    · rename_i e
      simp only [wsum, e, Int.mul_add]; omega
    · simp only [wsum, wsum_addU f r u]; omega
theorem wsum_foldl (f : List Int → Int) : ∀ (l a : Us), wsum f (l.foldl addU a) = wsum f a + wsum f l
  | [], a => by simp [wsum]
  | u :: l, a => by rw [List.foldl_cons, wsum_foldl f l, wsum_addU, wsum]; omega
theorem wsum_sums (f : List Int → Int) (l : Us) : wsum f (sums l) = wsum f l := by rw [sums, wsum_foldl]; simp [wsum]
theorem wsum_perm (f : List Int → Int) {a b : Us} (h : a.Perm b) : wsum f a = wsum f b := by
  induction h with
  | nil => rfl
  | cons x _ ih => simp only [wsum, ih]
  | swap x y l => simp only [wsum]; omega
  | trans _ _ i1 i2 => rw [i1, i2]
/-- The normal form of a plan whose counts are positive. -/
def NormR (l out : Us) : Prop := out.Perm (sums l) ∧ out.Pairwise (fun u v => ahd u.1 v.1)
theorem NormR.same {l a b : Us} (h : NormR l a) (k : NormR l b) : a = b :=
  (h.1.trans k.1.symm).eq_of_pairwise (le := fun u v => ahd u.1 v.1) (fun x y _ _ h1 h2 => absurd h2 (ahd_asym h1)) h.2 k.2
theorem NormR.wsum {l a : Us} (h : NormR l a) (f : List Int → Int) : wsum f a = wsum f l := (wsum_perm f h.1).trans (wsum_sums f l)
theorem NormR.pos {l a : Us} (h : NormR l a) (hp : ∀ x ∈ l, 1 ≤ x.2) : ∀ x ∈ a, 1 ≤ x.2 := fun x hx => sums_pos hp x (h.1.mem_iff.1 hx)
theorem sums_keys : ∀ (l a : Us), ∀ x ∈ l.foldl addU a, (∃ y ∈ a, y.1 = x.1) ∨ ∃ y ∈ l, y.1 = x.1
  | [], a, x, h => .inl ⟨x, h, rfl⟩
  | u :: l, a, x, h => by
    rcases sums_keys l _ x h with ⟨y, hy, e⟩ | ⟨y, hy, e⟩
    · rcases addU_keys y hy with e2 | ⟨z, hz, e2⟩
      · exact .inr ⟨u, by simp, by rw [← e2, e]⟩
      · exact .inl ⟨z, hz, by rw [e2, e]⟩
    · exact .inr ⟨y, by simp [hy], e⟩
theorem NormR.keys {l a : Us} (h : NormR l a) : ∀ x ∈ a, ∃ y ∈ l, y.1 = x.1 := fun x hx => by
  rcases sums_keys l [] x (h.1.mem_iff.1 hx) with ⟨y, hy, _⟩ | h
  · simp at hy
  · exact h

/-! A list read in another order. -/
theorem names_perm {α : Type} {n : Int} {t : Int → Int} (n0 : 0 ≤ n) (h : PermOn 0 n (fun k => k) t) (G : Int → α) : ((List.range n.toNat).map fun (i : Nat) => G (t (i : Int))).Perm ((List.range n.toNat).map fun (i : Nat) => G (i : Int)) := by
  have h1 : ((List.range n.toNat).map fun (i : Nat) => t (i : Int)).Perm ((List.range n.toNat).map fun (i : Nat) => (i : Int)) := by
    obtain ⟨p, q, e1, e2, e3⟩ := h
    refine (List.perm_ext_iff_of_nodup ?_ ?_).2 fun x => ?_
    · refine List.pairwise_map.2 (List.Pairwise.imp (R := fun a b => a ≠ b) (fun {a b} hab hh => ?_) List.nodup_range)
      rw [e3, e3] at hh
      have := congrArg q hh
      simp only [(e1 _).2] at this
      omega
    · exact List.pairwise_map.2 (List.Pairwise.imp (R := fun a b => a ≠ b) (fun {a b} hab hh => by omega) List.nodup_range)
    · simp only [List.mem_map, List.mem_range]
      constructor
      · rintro ⟨a, ha, rfl⟩
        obtain ⟨j, j0, j1, j2⟩ := PermOn.fr (a := fun k => k) (b := t) ⟨p, q, e1, e2, e3⟩ (show (0 : Int) ≤ (a : Int) by omega) (show (a : Int) < n by omega)
        exact ⟨j.toNat, by omega, by rw [j2]; omega⟩
      · rintro ⟨a, ha, rfl⟩
        obtain ⟨j, j0, j1, j2⟩ := PermOn.fr (PermOn.symm (a := fun k => k) (b := t) ⟨p, q, e1, e2, e3⟩) (show (0 : Int) ≤ (a : Int) by omega) (show (a : Int) < n by omega)
        exact ⟨j.toNat, by omega, by rw [Int.toNat_of_nonneg j0, ← j2]⟩
  have h2 := h1.map G
  simpa [List.map_map, Function.comp_def] using h2
theorem swo_ahd (f : Int → List Int) : Swo (fun x y => ahd (f x) (f y)) :=
  ⟨fun x y h => ahd_asym h, fun x y z h k => ahd_trans h k, fun x y z h k hh => by
    by_cases e : f x = f y
    · rw [e] at hh; exact k hh
    · rcases ahd_tri e with h1 | h1
      · exact h h1
      · exact k (ahd_trans h1 hh)⟩
theorem NormR.of_names {l : Us} {n : Int} {ln : Int → Int} {pt : Int → Int → Int} {cnt t : Int → Int} (n0 : 0 ≤ n) (hs : plL n ln pt cnt = sums l) (hp : PermOn 0 n (fun k => k) t) (ho : Srt (Tie (fun x y => ahd (lst (ln x) (pt x)) (lst (ln y) (pt y)))) 0 n t) :
    NormR l (plL n (fun k => ln (t k)) (fun k => pt (t k)) (fun k => cnt (t k))) := by
  refine ⟨?_, ?_⟩
  · rw [← hs]
    exact names_perm n0 hp fun x => (lst (ln x) (pt x), cnt x)
  · rw [List.pairwise_iff_getElem]
    intro i j hi hj hij
    rw [plL_len] at hi hj
    have g : ∀ (k : Nat) (hk : k < (plL n (fun k => ln (t k)) (fun k => pt (t k)) (fun k => cnt (t k))).length), (plL n (fun k => ln (t k)) (fun k => pt (t k)) (fun k => cnt (t k)))[k] = (lst (ln (t k)) (pt (t k)), cnt (t k)) := fun k hk => by
      have h1 := plL_get n (fun k => ln (t k)) (fun k => pt (t k)) (fun k => cnt (t k)) k
      rw [plL_len] at hk
      rw [if_pos (by omega), List.getElem?_eq_getElem (by rw [plL_len]; exact hk)] at h1
      injection h1
    rw [g, g]
    have h1 := ho i j (by omega) (by omega) (by omega)
    rcases h1 with h1 | ⟨h1, h2⟩
    · exact h1
    · obtain ⟨a, a0, a1, a2⟩ := hp.fr (show (0 : Int) ≤ (i : Int) by omega) (show (i : Int) < n by omega)
      obtain ⟨b, b0, b1, b2⟩ := hp.fr (show (0 : Int) ≤ (j : Int) by omega) (show (j : Int) < n by omega)
      have hd := sums_dist l
      rw [← hs, List.pairwise_iff_getElem] at hd
      have gg : ∀ (k : Int) (k0 : 0 ≤ k) (hk : k < n), ∃ h : k.toNat < (plL n ln pt cnt).length, (plL n ln pt cnt)[k.toNat] = (lst (ln k) (pt k), cnt k) := fun k k0 hk => by
        have h1 := plL_get n ln pt cnt k.toNat
        have h3 : k.toNat < (plL n ln pt cnt).length := by rw [plL_len]; omega
        rw [Int.toNat_of_nonneg k0, if_pos hk, List.getElem?_eq_getElem h3] at h1
        exact ⟨h3, by injection h1⟩
      have hab : a ≠ b := fun e => by rw [← a2, ← b2] at *; omega
      obtain ⟨ha, ea⟩ := gg a a0 a1
      obtain ⟨hb, eb⟩ := gg b b0 b1
      have hne : lst (ln a) (pt a) ≠ lst (ln b) (pt b) := by
        rcases Int.lt_or_gt_of_ne hab with h3 | h3
        · have := hd a.toNat b.toNat ha hb (by omega); rw [ea, eb] at this; exact this
        · have := hd b.toNat a.toNat hb ha (by omega); rw [ea, eb] at this; exact fun e => this e.symm
      rcases ahd_tri hne with h3 | h3
      · dsimp only at a2 b2 ⊢; rw [a2, b2]; exact h3
      · exact absurd (by dsimp only at a2 b2 ⊢; rw [a2, b2]; exact h3) h1
end Go.Proofs.Gw
