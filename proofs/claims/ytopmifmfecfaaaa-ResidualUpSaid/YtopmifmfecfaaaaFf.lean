/- First fit as a function of the pieces; the laws of it. Plain. -/
import Derived.Test.YtopmifmfecfaaaaFn
namespace Go.Proofs.Gw
set_option linter.unusedVariables false
/-! First fit. A bar: its pattern and what is left of it. -/
def incr1 (p : List Int) (x : Int) : List Int := p.modify x.toNat (· + 1)
def ffPut (m room : Int) (sz : Int → Int) (x : Int) : Us → Us
  | [] => [(incr1 (lst m fun _ => 0) x, room - sz x)]
  | b :: r => if sz x ≤ b.2 then (incr1 b.1 x, b.2 - sz x) :: r else b :: ffPut m room sz x r
def ffRun (m room : Int) (sz : Int → Int) (l : List Int) : Us := l.foldl (fun s x => ffPut m room sz x s) []
theorem ffRun_snoc (m room : Int) (sz : Int → Int) (l : List Int) (x : Int) : ffRun m room sz (l ++ [x]) = ffPut m room sz x (ffRun m room sz l) := by simp [ffRun]
theorem ffPut_new {m room : Int} {sz : Int → Int} {x : Int} : ∀ {s : Us}, (∀ b ∈ s, b.2 < sz x) → ffPut m room sz x s = s ++ [(incr1 (lst m fun _ => 0) x, room - sz x)]
  | [], _ => rfl
  | b :: r, h => by
    have h1 := h b (by simp)
    rw [ffPut, if_neg (by omega), ffPut_new fun c hc => h c (by simp [hc])]; rfl
theorem ffPut_at {m room : Int} {sz : Int → Int} {x : Int} : ∀ {s : Us} {j : Nat} {b : List Int × Int}, s[j]? = some b → sz x ≤ b.2 → (∀ k < j, ∀ c, s[k]? = some c → c.2 < sz x) → ffPut m room sz x s = s.set j (incr1 b.1 x, b.2 - sz x)
  | [], _, _, h, _, _ => by simp at h
  | c :: r, 0, b, h, e, _ => by
    simp at h; subst h
    rw [ffPut, if_pos e]; rfl
  | c :: r, j + 1, b, h, e, hk => by
    simp at h
    have h1 := hk 0 (by omega) c (by simp)
    rw [ffPut, if_neg (by omega), ffPut_at h e fun k hk' d hd => hk (k + 1) (by omega) d (by simpa using hd)]; rfl
theorem incr1_lst {m x : Int} {f : Int → Int} (x0 : 0 ≤ x) : incr1 (lst m f) x = lst m (fun k => if k = x then f k + 1 else f k) := by
  apply List.ext_getElem?
  intro k
  unfold incr1
  rw [List.getElem?_modify, lst_get, lst_get]
  by_cases hk : (k : Int) < m
  · rw [if_pos hk, if_pos hk]
    by_cases hx : x.toNat = k
    · have hx' : (k : Int) = x := by omega
      simp [hx, hx']
    · have hx' : ¬ (k : Int) = x := by omega
      simp [hx, hx']
  · rw [if_neg hk, if_neg hk]; rfl
/-- What the memory holds behind a step: a bar that is there gets a piece. -/
theorem ff_at {n m room : Int} {sz : Int → Int} {P P' : Int → Int → Int} {L L' : Int → Int} {x k : Int} (n0 : 0 ≤ n) (x0 : 0 ≤ x) (k0 : 0 ≤ k) (kn : k < n) (h : sz x ≤ L k) (hf : ∀ j, 0 ≤ j → j < k → L j < sz x)
    (hP : ∀ a, 0 ≤ a → a < n → ∀ b, 0 ≤ b → b < m → P' a b = if a = k ∧ b = x then P a b + 1 else P a b) (hL : ∀ a, 0 ≤ a → a < n → L' a = if a = k then L a - sz x else L a) : plL n (fun _ => m) P' L' = ffPut m room sz x (plL n (fun _ => m) P L) := by
  have hg : (plL n (fun _ => m) P L)[k.toNat]? = some (lst m (P k), L k) := by rw [plL_get, Int.toNat_of_nonneg k0, if_pos kn]
  rw [ffPut_at hg h fun j hj c hc => by
    rw [plL_get, if_pos (by omega)] at hc; injection hc with hc; rw [← hc]; exact hf j (by omega) (by omega)]
  apply List.ext_getElem?
  intro j
  rw [List.getElem?_set, plL_get, plL_get, plL_len]
  by_cases hj : (j : Int) < n
  · rw [if_pos hj, if_pos hj, hL j (by omega) hj]
    by_cases hjk : k.toNat = j
    · rw [if_pos hjk, if_pos (by omega), if_pos (by omega)]
      rw [incr1_lst x0, show (j : Int) = k by omega]
      congr 2
      apply lst_congr; intro b b0 b1
      rw [hP k k0 kn b b0 b1]
      by_cases hb : b = x
      · rw [if_pos ⟨rfl, hb⟩, if_pos hb]
      · rw [if_neg fun h => hb h.2, if_neg hb]
    · rw [if_neg hjk, if_neg (by omega)]
      congr 2
      apply lst_congr; intro b b0 b1
      rw [hP j (by omega) hj b b0 b1, if_neg fun h => hjk (by omega)]
  · rw [if_neg hj, if_neg hj]
    by_cases hjk : k.toNat = j
    · omega
    · rw [if_neg hjk]
/-- A new bar. -/
theorem ff_new {n m room : Int} {sz : Int → Int} {P P' : Int → Int → Int} {L L' : Int → Int} {x : Int} (n0 : 0 ≤ n) (x0 : 0 ≤ x) (hf : ∀ j, 0 ≤ j → j < n → L j < sz x)
    (hP : ∀ a, 0 ≤ a → a < n → ∀ b, 0 ≤ b → b < m → P' a b = P a b) (hN : ∀ b, 0 ≤ b → b < m → P' n b = if b = x then 1 else 0) (hL : ∀ a, 0 ≤ a → a < n → L' a = L a) (hl : L' n = room - sz x) : plL (n + 1) (fun _ => m) P' L' = ffPut m room sz x (plL n (fun _ => m) P L) := by
  rw [ffPut_new fun b hb => by
    obtain ⟨j, hj⟩ := List.mem_iff_getElem?.1 hb
    rw [plL_get] at hj
    split at hj
    · injection hj with hj; rw [← hj]; exact hf j (by omega) (by assumption)
    · cases hj]
  rw [plL_next n0, hl]
  congr 1
  · exact plL_congr fun k k0 k1 => ⟨rfl, hL k k0 k1, fun j j0 j1 => hP k k0 k1 j j0 j1⟩
  · rw [incr1_lst x0]
    congr 2
    apply lst_congr; intro b b0 b1
    rw [hN b b0 b1]
    by_cases hb : b = x
    · rw [if_pos hb, if_pos hb]; rfl
    · rw [if_neg hb, if_neg hb]
/-! The pieces in order. -/
def pcs (d : Int → Int) : Nat → List Int
  | 0 => []
  | k + 1 => pcs d k ++ List.replicate (d k).toNat (k : Int)
/-- The pieces ahead of kind i, and c of it. -/
def pcsTo (d : Int → Int) (i c : Int) : List Int := pcs d i.toNat ++ List.replicate c.toNat i
theorem pcsTo_next (d : Int → Int) {i c : Int} (c0 : 0 ≤ c) : pcsTo d i (c + 1) = pcsTo d i c ++ [i] := by
  unfold pcsTo; rw [show (c + 1).toNat = c.toNat + 1 by omega, List.replicate_succ', List.append_assoc]
theorem pcsTo_kind (d : Int → Int) {i c : Int} (i0 : 0 ≤ i) (hc : c.toNat = (d i).toNat) : pcsTo d (i + 1) 0 = pcsTo d i c := by
  unfold pcsTo; rw [show (i + 1).toNat = i.toNat + 1 by omega, pcs, Int.toNat_of_nonneg i0, hc]; simp
theorem pcsTo_zero (d : Int → Int) : pcsTo d 0 0 = [] := rfl
/-- The sum of f i * d i ahead of n. -/
def psum (f d : Int → Int) : Nat → Int
  | 0 => 0
  | k + 1 => psum f d k + f k * d k
theorem psum_next (f d : Int → Int) {i : Int} (h : 0 ≤ i) : psum f d (i + 1).toNat = psum f d i.toNat + f i * d i := by
  rw [show (i + 1).toNat = i.toNat + 1 by omega, psum, Int.toNat_of_nonneg h]
theorem sum_rep (f : Int → Int) (x : Int) : ∀ n : Nat, ((List.replicate n x).map f).sum = f x * n
  | 0 => by simp
  | n + 1 => by rw [List.replicate_succ, List.map_cons, List.sum_cons, sum_rep f x n]; push_cast; rw [Int.mul_add]; omega
theorem pcs_sum (f d : Int → Int) : ∀ n : Nat, (∀ k : Nat, k < n → 0 ≤ d k) → ((pcs d n).map f).sum = psum f d n
  | 0, _ => by simp [pcs, psum]
  | n + 1, h => by
    have h0 := h n (by omega)
    rw [pcs, List.map_append, List.sum_append, pcs_sum f d n fun k hk => h k (by omega), sum_rep, psum, Int.toNat_of_nonneg h0]
theorem pcsTo_sum (f d : Int → Int) {i c : Int} (i0 : 0 ≤ i) (c0 : 0 ≤ c) (h : ∀ k, 0 ≤ k → k < i → 0 ≤ d k) : ((pcsTo d i c).map f).sum = psum f d i.toNat + f i * c := by
  unfold pcsTo; rw [List.map_append, List.sum_append, pcs_sum f d _ fun k hk => h k (by omega) (by omega), sum_rep, Int.toNat_of_nonneg c0]
theorem pcsTo_len (d : Int → Int) {i c : Int} (i0 : 0 ≤ i) (c0 : 0 ≤ c) (h : ∀ k, 0 ≤ k → k < i → 0 ≤ d k) : ((pcsTo d i c).length : Int) = psum (fun _ => 1) d i.toNat + c := by
  have h1 := pcsTo_sum (fun _ => 1) d i0 c0 h
  have h2 : ∀ l : List Int, (l.map fun _ => (1 : Int)).sum = l.length := fun l => by
    induction l with
    | nil => rfl
    | cons a l ih => rw [List.map_cons, List.sum_cons, ih, List.length_cons]; push_cast; omega
  rw [h2] at h1; omega
theorem psum_mono {d : Int → Int} {f : Int → Int} : ∀ {i n : Nat}, i ≤ n → (∀ k : Nat, k < n → 0 ≤ f k * d k) → psum f d i ≤ psum f d n := by
  intro i n hin h
  induction hin with
  | refl => exact Int.le_refl _
  | step hh ih => 
    have h1 := ih fun k hk => h k (by omega)
    have h2 := h _ (Nat.lt_succ_self _)
    simp only [psum]; omega
/-! The laws. -/
/-- What a pattern uses. -/
def puse (sz : Int → Int) (p : List Int) : Int := ((List.range p.length).map fun (k : Nat) => p.getD k 0 * sz k).sum
theorem sum_map_congr {α : Type} {f g : α → Int} {l : List α} (h : ∀ x ∈ l, f x = g x) : (l.map f).sum = (l.map g).sum := by rw [List.map_congr_left h]
theorem sum_one {f : Nat → Int} {x : Nat} {c : Int} : ∀ {n : Nat}, x < n → ((List.range n).map fun k => if k = x then f k + c else f k).sum = ((List.range n).map f).sum + c
  | 0, h => by omega
  | n + 1, h => by
    rw [List.range_succ, List.map_append, List.map_append, List.sum_append, List.sum_append]
    by_cases hx : x = n
    · subst hx
      rw [sum_map_congr (g := f) fun k hk => by rw [if_neg]; have := List.mem_range.1 hk; omega]
      simp; omega
    · rw [sum_one (by omega)]
      simp [Ne.symm hx]; omega
theorem puse_incr (sz : Int → Int) {p : List Int} {x : Int} (x0 : 0 ≤ x) (h : x.toNat < p.length) : puse sz (incr1 p x) = puse sz p + sz x := by
  unfold puse incr1
  rw [List.length_modify, ← sum_one (x := x.toNat) h]
  apply sum_map_congr
  intro k hk
  have hk := List.mem_range.1 hk
  rw [List.getD_eq_getElem?_getD, List.getD_eq_getElem?_getD, List.getElem?_modify]
  by_cases hx : x.toNat = k
  · have hx' : (k : Int) = x := by omega
    rw [if_pos hx.symm, List.getElem?_eq_getElem hk]
    simp [hx, Int.add_mul, hx']
  · rw [if_neg (Ne.symm hx)]; simp [hx]
theorem puse_zero (sz : Int → Int) (m : Int) : puse sz (lst m fun _ => 0) = 0 := by
  unfold puse
  rw [sum_map_congr (g := fun _ => 0) fun k hk => by
    rw [lst_len] at hk
    have hk := List.mem_range.1 hk
    rw [List.getD_eq_getElem?_getD, lst_get, if_pos (by omega)]; simp]
  induction (List.range (lst m fun _ => 0).length) with
  | nil => rfl
  | cons a l ih => rw [List.map_cons, List.sum_cons, ih]; rfl
/-- The bars of first fit. -/
structure FFOk (m room : Int) (sz : Int → Int) (hist : List Int) (s : Us) : Prop where
  ok : ∀ b ∈ s, b.1.length = m.toNat ∧ puse sz b.1 + b.2 = room ∧ 0 ≤ b.2
  pr : s.Pairwise fun a b => a.2 + b.2 < room
  mt : (s.map fun b => room - b.2).sum = (hist.map sz).sum
  ct : ∀ g : Int → Int, (s.map fun b => puse g b.1).sum = (hist.map g).sum
  ln : s.length ≤ hist.length
  nn : ∀ b ∈ s, ∀ v ∈ b.1, 0 ≤ v
theorem FFOk.nil (m room : Int) (sz : Int → Int) : FFOk m room sz [] [] := ⟨by simp, .nil, rfl, fun _ => rfl, by simp, by simp⟩
theorem incr1_nn {p : List Int} {x : Int} (h : ∀ v ∈ p, 0 ≤ v) : ∀ v ∈ incr1 p x, 0 ≤ v := by
  intro v hv
  unfold incr1 at hv
  obtain ⟨k, hk⟩ := List.mem_iff_getElem?.1 hv
  rw [List.getElem?_modify] at hk
  cases hp : p[k]? with
  | none => rw [hp] at hk; cases hk
  | some u =>
    rw [hp] at hk
    have h0 := h u (List.mem_of_getElem? hp)
    by_cases hx : x.toNat = k
    · simp [hx] at hk; omega
    · simp [hx] at hk; omega
theorem ffPut_mem {m room : Int} {sz : Int → Int} {x : Int} : ∀ {s : Us}, ∀ b ∈ ffPut m room sz x s, b ∈ s ∨ (∃ c ∈ s, sz x ≤ c.2 ∧ b = (incr1 c.1 x, c.2 - sz x)) ∨ (b = (incr1 (lst m fun _ => 0) x, room - sz x) ∧ ∀ c ∈ s, c.2 < sz x)
  | [], b, h => by simp [ffPut] at h; exact .inr (.inr ⟨h, by simp⟩)
  | c :: r, b, h => by
    rw [ffPut] at h
    split at h
    · rename_i hc
      rcases List.mem_cons.1 h with h | h
      · exact .inr (.inl ⟨c, by simp, hc, h⟩)
      · exact .inl (by simp [h])
    · rename_i hc
      rcases List.mem_cons.1 h with h | h
      · exact .inl (by simp [h])
      · rcases ffPut_mem b h with h | ⟨d, hd, e⟩ | ⟨e, hd⟩
        · exact .inl (by simp [h])
        · exact .inr (.inl ⟨d, by simp [hd], e⟩)
        · exact .inr (.inr ⟨e, fun d hd' => by
            rcases List.mem_cons.1 hd' with h | h
            · rw [h]; omega
            · exact hd d h⟩)
theorem ffPut_sum {m room : Int} {sz : Int → Int} {x : Int} (F : List Int × Int → Int) (y : Int) (h1 : ∀ c : List Int × Int, sz x ≤ c.2 → F (incr1 c.1 x, c.2 - sz x) = F c + y) (h2 : F (incr1 (lst m fun _ => 0) x, room - sz x) = y) : ∀ {s : Us}, ((ffPut m room sz x s).map F).sum = (s.map F).sum + y
  | [] => by simp [ffPut, h2]
  | c :: r => by
    rw [ffPut]
    split
    · rename_i hc
      simp only [List.map_cons, List.sum_cons, h1 c hc]; omega
    · simp only [List.map_cons, List.sum_cons, ffPut_sum F y h1 h2 (s := r)]; omega
theorem ffPut_pr {m room : Int} {sz : Int → Int} {x : Int} (hx : 0 ≤ sz x) : ∀ {s : Us}, s.Pairwise (fun a b => a.2 + b.2 < room) → (ffPut m room sz x s).Pairwise fun a b => a.2 + b.2 < room
  | [], _ => by simp [ffPut]
  | c :: r, h => by
    have h1 := List.pairwise_cons.1 h
    rw [ffPut]
    split
    · refine List.pairwise_cons.2 ⟨fun b hb => ?_, h1.2⟩
      have := h1.1 b hb
      dsimp only; omega
    · refine List.pairwise_cons.2 ⟨fun b hb => ?_, ffPut_pr hx h1.2⟩
      rcases ffPut_mem b hb with h | ⟨d, hd, _, e⟩ | ⟨e, hd⟩
      · exact h1.1 b h
      · rw [e]; have := h1.1 d hd; dsimp only; omega
      · rw [e]; dsimp only; omega
theorem ffPut_len {m room : Int} {sz : Int → Int} {x : Int} : ∀ {s : Us}, (ffPut m room sz x s).length ≤ s.length + 1
  | [] => by simp [ffPut]
  | c :: r => by
    rw [ffPut]
    split
    · simp
    · simp only [List.length_cons]; have := ffPut_len (m := m) (room := room) (sz := sz) (x := x) (s := r); omega
theorem ffPut_ok {m room : Int} {sz : Int → Int} {x : Int} {hist : List Int} {s : Us} (h : FFOk m room sz hist s) (x0 : 0 ≤ x) (x1 : x < m) (hx : 0 ≤ sz x) (hr : sz x ≤ room) : FFOk m room sz (hist ++ [x]) (ffPut m room sz x s) := by
  have hl : x.toNat < (lst m fun _ => (0 : Int)).length := by rw [lst_len]; omega
  refine ⟨fun b hb => ?_, ffPut_pr hx h.pr, ?_, fun g => ?_, ?_, fun b hb => ?_⟩
  · rcases ffPut_mem b hb with hb | ⟨c, hc, hs, e⟩ | ⟨e, _⟩
    · exact h.ok b hb
    · obtain ⟨h1, h2, h3⟩ := h.ok c hc
      rw [e]
      refine ⟨by simp [incr1, h1], ?_, by dsimp only; omega⟩
      rw [puse_incr sz x0 (by omega)]; dsimp only; omega
    · rw [e]
      refine ⟨by simp [incr1, lst_len], ?_, by dsimp only; omega⟩
      rw [puse_incr sz x0 hl, puse_zero]; dsimp only; omega
  · rw [ffPut_sum (fun b => room - b.2) (sz x) (fun c hc => by dsimp only; omega) (by dsimp only; omega), h.mt]; simp
  · have key : ∀ {s : Us}, (∀ b ∈ s, b.1.length = m.toNat) → ((ffPut m room sz x s).map fun b => puse g b.1).sum = (s.map fun b => puse g b.1).sum + g x := by
      intro s hs
      induction s with
      | nil => simp [ffPut, puse_incr g x0 hl, puse_zero]
      | cons c r ih =>
        rw [ffPut]
        split
        · simp only [List.map_cons, List.sum_cons]
          rw [puse_incr g x0 (by rw [hs c (by simp)]; omega)]; omega
        · simp only [List.map_cons, List.sum_cons, ih fun b hb => hs b (by simp [hb])]; omega
    rw [key fun b hb => (h.ok b hb).1, h.ct]; simp
  · have := ffPut_len (m := m) (room := room) (sz := sz) (x := x) (s := s); have := h.ln; simp; omega
  · rcases ffPut_mem b hb with hb | ⟨c, hc, hs, e⟩ | ⟨e, _⟩
    · exact h.nn b hb
    · rw [e]; exact incr1_nn (h.nn c hc)
    · rw [e]; exact incr1_nn fun v hv => by
        unfold lst at hv; simp at hv; omega
theorem ffRun_ok {m room : Int} {sz : Int → Int} : ∀ {l : List Int}, (∀ x ∈ l, 0 ≤ x ∧ x < m ∧ 0 ≤ sz x ∧ sz x ≤ room) → FFOk m room sz l (ffRun m room sz l) := by
  intro l
  have key : ∀ (l h : List Int) (s : Us), FFOk m room sz h s → (∀ x ∈ l, 0 ≤ x ∧ x < m ∧ 0 ≤ sz x ∧ sz x ≤ room) → FFOk m room sz (h ++ l) (l.foldl (fun s x => ffPut m room sz x s) s) := by
    intro l
    induction l with
    | nil => intro h s hs _; simpa using hs
    | cons x l ih =>
      intro h s hs hl
      obtain ⟨h1, h2, h3, h4⟩ := hl x (by simp)
      have := ih (h ++ [x]) _ (ffPut_ok hs h1 h2 h3 h4) fun y hy => hl y (by simp [hy])
      simpa using this
  intro hl
  have := key l [] [] (.nil _ _ _) hl
  simpa [ffRun] using this
theorem pcs_mem {d : Int → Int} : ∀ {n : Nat}, ∀ x ∈ pcs d n, 0 ≤ x ∧ x < n
  | 0, x, h => by simp [pcs] at h
  | n + 1, x, h => by
    rw [pcs] at h
    rcases List.mem_append.1 h with h | h
    · have := pcs_mem x h; omega
    · have := (List.mem_replicate.1 h).2; omega
/-- The plan ahead of the normal form. -/
def ones (s : Us) : Us := s.map fun b => (b.1, 1)
theorem wsum_ones (f : List Int → Int) : ∀ s : Us, wsum f (ones s) = (s.map fun b => f b.1).sum
  | [] => rfl
  | b :: r => by
    have := wsum_ones f r
    unfold ones at this ⊢
    simp only [List.map_cons, wsum, List.sum_cons, this]; omega
/-- At most one bar is half empty. -/
theorem ff_half {m room : Int} {sz : Int → Int} {s : Us} (h1 : ∀ b ∈ s, b.1.length = m.toNat ∧ puse sz b.1 + b.2 = room ∧ 0 ≤ b.2) (h2 : s.Pairwise fun a b => a.2 + b.2 < room) : (s.map fun b => if 2 * puse sz b.1 ≤ room then (1 : Int) else 0).sum ≤ 1 := by
  induction s with
  | nil => simp
  | cons c r ih =>
    have h3 := List.pairwise_cons.1 h2
    have h4 := ih (fun b hb => h1 b (by simp [hb])) h3.2
    have hc := h1 c (by simp)
    simp only [List.map_cons, List.sum_cons]
    by_cases hh : 2 * puse sz c.1 ≤ room
    · rw [if_pos hh, sum_map_congr (g := fun _ => 0) fun b hb => by
        have := h3.1 b hb
        have := h1 b (by simp [hb])
        rw [if_neg (by omega)]]
      have : ∀ l : Us, (l.map fun _ => (0 : Int)).sum = 0 := fun l => by
        induction l with
        | nil => rfl
        | cons a l ih => rw [List.map_cons, List.sum_cons, ih]; rfl
      rw [this]; omega
    · rw [if_neg hh]; omega
/-- Two bars are more than full. -/
theorem ff_mat {room : Int} : ∀ {s : Us}, (∀ b ∈ s, 0 ≤ room - b.2) → s.Pairwise (fun a b => a.2 + b.2 < room) → (s.length / 2 : Int) * room ≤ (s.map fun b => room - b.2).sum
  | [], _, _ => by simp
  | [c], h, _ => by have := h c (by simp); simp; omega
  | c :: d :: r, h, hp => by
    have h3 := List.pairwise_cons.1 hp
    have h4 := ff_mat (room := room) (s := r) (fun b hb => h b (by simp [hb])) (List.pairwise_cons.1 h3.2).2
    have h5 := h3.1 d (by simp)
    simp only [List.map_cons, List.sum_cons, List.length_cons]
    have e : ((r.length + 1 + 1 : Nat) : Int) / 2 = (r.length : Int) / 2 + 1 := by omega
    rw [e, Int.add_mul]; omega
end Go.Proofs.Gw
