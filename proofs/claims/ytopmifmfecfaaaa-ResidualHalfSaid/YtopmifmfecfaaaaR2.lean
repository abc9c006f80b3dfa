/- The state of first fit. -/
import Derived.Test.YtopmifmfecfaaaaGv
import Derived.Test.YtopmifmfecfaaaaR1
namespace Go.Proofs.Ytopmifmfecfaaaa
open Go Go.RowKit Go.Proofs.Gw
set_option linter.unusedVariables false

theorem pcsTo_ok {d : Int → Int} {m i c : Int} (hd : ∀ k, 0 ≤ k → k < m → 0 ≤ d k) (i0 : 0 ≤ i) (i1 : i ≤ m) (c0 : 0 ≤ c) (c1 : i < m → c ≤ d i) (c2 : i = m → c = 0) : (∀ x ∈ pcsTo d i c, 0 ≤ x ∧ x < m) ∧ ((pcsTo d i c).length : Int) ≤ psum (fun _ => 1) d m.toNat := by
  constructor
  · intro x hx
    unfold pcsTo at hx
    rcases List.mem_append.1 hx with h | h
    · have := pcs_mem x h; omega
    · have h1 := List.mem_replicate.1 h
      have h2 := h1.2
      rcases Int.lt_or_eq_of_le i1 with h3 | h3
      · omega
      · have := c2 h3; have := h1.1; omega
  · rw [pcsTo_len d i0 c0 fun k k0 k1 => hd k k0 (by omega)]
    rcases Int.lt_or_eq_of_le i1 with h3 | h3
    · have h4 := c1 h3
      have h5 := psum_next (fun _ => 1) d i0
      have h6 := psum_mono (d := d) (f := fun _ => 1) (i := (i + 1).toNat) (n := m.toNat) (by omega) fun k hk => by have := hd k (by omega) (by omega); omega
      rw [h5] at h6; omega
    · have := c2 h3; rw [h3]; omega
theorem puse_ge {sz : Int → Int} {p : List Int} (hp : ∀ v ∈ p, 0 ≤ v) (hs : ∀ k : Nat, k < p.length → 1 ≤ sz k) {j : Nat} (hj : j < p.length) : p.getD j 0 ≤ puse sz p := by
  have key : ∀ (l : List Nat) (f : Nat → Int), (∀ k ∈ l, 0 ≤ f k) → ∀ j ∈ l, f j ≤ (l.map f).sum := by
    intro l f
    induction l with
    | nil => intro _ j h; simp at h
    | cons a l ih =>
      intro h0 j h
      have h1 : 0 ≤ (l.map f).sum := by
        clear ih h
        induction l with
        | nil => simp
        | cons b l ih2 => rw [List.map_cons, List.sum_cons]; have := h0 b (by simp); have := ih2 (fun k hk => h0 k (by rcases List.mem_cons.1 hk with h | h <;> simp [h])); omega
      rw [List.map_cons, List.sum_cons]
      rcases List.mem_cons.1 h with e | e
      · rw [e]; omega
      · have := ih (fun k hk => h0 k (by simp [hk])) j e; have := h0 a (by simp); omega
  have nn : ∀ k : Nat, k < p.length → 0 ≤ p.getD k 0 := fun k hk => by
    rw [List.getD_eq_getElem?_getD, List.getElem?_eq_getElem hk]
    exact hp _ (List.getElem_mem hk)
  have h1 := key (List.range p.length) (fun k => p.getD k 0 * sz k) (fun k hk => by
    have hk := List.mem_range.1 hk
    exact Int.mul_nonneg (nn k hk) (by have := hs k hk; omega)) j (List.mem_range.2 hj)
  have h2 := nn j hj
  have h3 := hs j hj
  have h4 := Int.mul_le_mul_of_nonneg_left h3 h2
  exact Int.le_trans (show p.getD j 0 ≤ p.getD j 0 * sz j by omega) h1
/-- The state of first fit in memory. -/
structure FSt where
  h : List Int
  vB : Value
  n : Int
  vv : Int → Value
  P : Int → Int → Int
  vL : Value
  L : Int → Int
abbrev szP (p : Prob) : Int → Int := fun k => p.L k + p.kerf
def FInv (p : Prob) (s : FSt) : Prop := plL s.n (fun _ => p.m) s.P s.L = ffRun p.m (p.stock + p.kerf) (szP p) s.h ∧ Slh s.vB s.n ∧ Slh s.vL s.n
def FSt.zer : FSt := ⟨[], .slice none 0 0, 0, fun _ => .slice none 0 0, fun _ _ => 0, .slice none 0 0, fun _ => 0⟩
theorem FInv.zer (p : Prob) : FInv p FSt.zer := ⟨rfl, slh_nil, slh_nil⟩
theorem szP_ok {p : Prob} (hok : p.Ok) {x : Int} (x0 : 0 ≤ x) (x1 : x < p.m) : 1 ≤ szP p x ∧ szP p x ≤ p.stock + p.kerf := by
  have he := hok.all x x0 x1
  unfold Prob.each at he
  have := hok.k1
  unfold szP; omega
theorem ffRun_p {p : Prob} (hok : p.Ok) {l : List Int} (hm : ∀ x ∈ l, 0 ≤ x ∧ x < p.m) : FFOk p.m (p.stock + p.kerf) (szP p) l (ffRun p.m (p.stock + p.kerf) (szP p) l) :=
  ffRun_ok fun x hx => by
    have h1 := hm x hx
    have h2 := szP_ok hok h1.1 h1.2
    exact ⟨h1.1, h1.2, by omega, h2.2⟩
theorem FInv.rng {p : Prob} {s : FSt} (hok : p.Ok) (h : FInv p s) (hm : ∀ x ∈ s.h, 0 ≤ x ∧ x < p.m) (hl : (s.h.length : Int) ≤ 1000) : s.n ≤ 1000 ∧ ∀ k, 0 ≤ k → k < s.n → (0 ≤ s.L k ∧ s.L k ≤ p.stock + p.kerf) ∧ ∀ j, 0 ≤ j → j < p.m → 0 ≤ s.P k j ∧ s.P k j ≤ p.stock + p.kerf := by
  have hk := ffRun_p hok hm
  rw [← h.1] at hk
  have h1 := hk.ln
  rw [plL_len] at h1
  refine ⟨by omega, fun k k0 k1 => ?_⟩
  have hb : (lst p.m (s.P k), s.L k) ∈ plL s.n (fun _ => p.m) s.P s.L := List.mem_iff_getElem?.2 ⟨k.toNat, by rw [plL_get, Int.toNat_of_nonneg k0, if_pos k1]⟩
  obtain ⟨h2, h3, h4⟩ := hk.ok _ hb
  have h5 := hk.nn _ hb
  dsimp only at h2 h3 h4 h5
  have hg : ∀ j, 0 ≤ j → j < p.m → (lst p.m (s.P k)).getD j.toNat 0 = s.P k j := fun j j0 j1 => by rw [List.getD_eq_getElem?_getD, lst_get, Int.toNat_of_nonneg j0, if_pos j1]; rfl
  have h8 : ∀ j : Nat, j < (lst p.m (s.P k)).length → 1 ≤ szP p j := fun j hj => by
    rw [lst_len] at hj
    exact (szP_ok hok (by omega) (by omega)).1
  have h9 : 0 ≤ puse (szP p) (lst p.m (s.P k)) := by
    have hm1 := hok.m1
    have h10 := puse_ge h5 h8 (j := 0) (by rw [lst_len]; omega)
    have h11 := hg 0 (by omega) (by omega)
    have h12 := h5 (s.P k 0) (by
      have := lst_get p.m (s.P k) 0
      rw [if_pos (by omega)] at this
      exact List.mem_of_getElem? this)
    rw [show (0 : Int).toNat = 0 from rfl] at h11
    omega
  refine ⟨⟨h4, by omega⟩, fun j j0 j1 => ?_⟩
  have h6 := puse_ge h5 h8 (j := j.toNat) (by rw [lst_len]; omega)
  rw [hg j j0 j1] at h6
  have h7 := h5 (s.P k j) (by
    have := lst_get p.m (s.P k) j.toNat
    rw [Int.toNat_of_nonneg j0, if_pos j1] at this
    exact List.mem_of_getElem? this)
  exact ⟨h7, by omega⟩
theorem ffm_at {n m room r x y : Int} {sz L : Int → Int} {P : Int → Int → Int} (n0 : 0 ≤ n) (x0 : 0 ≤ x) (r0 : 0 ≤ r) (r1 : r < n) (h : sz x ≤ L r) (hf : ∀ j, 0 ≤ j → j < r → ¬ (sz x ≤ L j)) (hy : y = L r - sz x) :
    plL n (fun _ => m) (upd P r (upd (P r) x (P r x + 1))) (upd L r y) = ffPut m room sz x (plL n (fun _ => m) P L) :=
  ff_at n0 x0 r0 r1 h (fun j j0 j1 => by have := hf j j0 j1; omega) (fun a a0 a1 b b0 b1 => by
    unfold upd
    by_cases ha : a = r
    · subst ha
      by_cases hb : b = x
      · subst hb; simp
      · simp [hb]
    · simp [ha]) (fun a a0 a1 => by
    unfold upd
    by_cases ha : a = r
    · subst ha; simp [hy]
    · simp [ha])
theorem ffm_new {n m room x y : Int} {sz L : Int → Int} {P : Int → Int → Int} (n0 : 0 ≤ n) (x0 : 0 ≤ x) (hf : ∀ j, 0 ≤ j → j < n → ¬ (sz x ≤ L j)) (hy : y = snoc L n room n - sz x) :
    plL (n + 1) (fun _ => m) (upd (gsn P n (fun _ => 0)) n (upd (gsn P n (fun _ => 0) n) x (gsn P n (fun _ => 0) n x + 1))) (upd (snoc L n room) n y) = ffPut m room sz x (plL n (fun _ => m) P L) := by
  have e1 : gsn P n (fun _ => 0) n = fun _ => 0 := gsn_at (by omega)
  have e2 : snoc L n room n = room := snoc_at (by omega)
  rw [e2] at hy
  rw [e1]
  refine ff_new n0 x0 (fun j j0 j1 => by have := hf j j0 j1; omega) (fun a a0 a1 b b0 b1 => ?_) (fun b b0 b1 => ?_) (fun a a0 a1 => ?_) ?_
  · unfold upd; rw [if_neg (by omega), gsn_lt a1]
  · unfold upd; rw [if_pos rfl]
    by_cases hb : b = x
    · simp [hb]
    · simp [hb]
  · unfold upd; rw [if_neg (by omega), snoc_lt a1]
  · unfold upd; rw [if_pos rfl]; exact hy
theorem ones_plL (n : Int) (ln : Int → Int) (pt : Int → Int → Int) (cnt : Int → Int) : ones (plL n ln pt cnt) = plL n ln pt (fun _ => 1) := by
  unfold ones plL
  rw [List.map_map]; rfl
theorem gsn_const {α : Type} (a : α) (n : Int) : gsn (fun _ => a) n a = fun _ => a := by
  funext k; unfold gsn; split <;> rfl

end Go.Proofs.Ytopmifmfecfaaaa
