/- The walks of Start, of the reference, and of same. -/
import Derived.Test.YtopmifmfecfaaaaGv
import Derived.Test.YtopmifmfecfaaaaM5
namespace Go.Proofs.Ytopmifmfecfaaaa
open Go Go.RowKit Go.Proofs.Gw
set_option linter.unusedVariables false

theorem cl_43 : calledT Try.prog 43 = true := by kernel_rfl
theorem cl_64 : calledT Try.prog 64 = true := by kernel_rfl
theorem cl_65 : calledT Try.prog 65 = true := by kernel_rfl
theorem cl_66 : calledT Try.prog 66 = true := by kernel_rfl
theorem cl_74 : calledT Try.prog 74 = true := by kernel_rfl
theorem el_65 : elemT Try.prog 65 = some (.agg #[.int .i64 0, .int .i64 0], 2, 16) := by kernel_rfl
theorem fd_36_2 : fieldT Try.prog 36 2 = some 2 := by kernel_rfl
theorem fd_36_3 : fieldT Try.prog 36 3 = some 3 := by kernel_rfl
theorem fd_52_0 : fieldT Try.prog 52 0 = some 0 := by kernel_rfl
theorem fd_52_2 : fieldT Try.prog 52 2 = some 2 := by kernel_rfl
theorem fd_52_3 : fieldT Try.prog 52 3 = some 3 := by kernel_rfl
theorem st_65 : structT Try.prog 65 = some 2 := by kernel_rfl
def SameL (u u2 : Int) (ml ml2 : Int → Int) (mf mf2 : Int → Int → Int) : Prop := u = u2 ∧ ∀ k, 0 ≤ k → k < u → ml k = ml2 k ∧ ∀ j, 0 ≤ j → j < ml k → mf k j = mf2 k j
theorem gcd_step {x y : Int} (hx : 0 ≤ x) (hy : 0 < y) : Int.gcd y (x.tmod y) = Int.gcd x y := by
  rw [Int.tmod_eq_emod_of_nonneg hx]
  obtain ⟨m, rfl⟩ := Int.eq_ofNat_of_zero_le hx
  obtain ⟨n, rfl⟩ := Int.eq_ofNat_of_zero_le (show 0 ≤ y by omega)
  show Nat.gcd n (m % n) = Nat.gcd m n
  rw [Nat.gcd_comm, ← Nat.gcd_rec, Nat.gcd_comm]

set_option maxRecDepth 20000 in
theorem c_same28 {va vb : Value} {n m : Int} {f g : Int → Int} (w0 : World) (hA : Row w0 va 1 n (ints f)) (hB2 : Row w0 vb 1 m (ints g)) :
    Calls Try.prog 66 [va, vb].toArray w0 fun e w => ∃ v, e = .returned v ∧ v = B (n = m ∧ ∀ k, 0 ≤ k → k < n → f k = g k) ∧ Sat w0 w [] := by
  have hn := hA.slh.n0; have hm1 := hB2.slh.n1; have hn1 := hA.slh.n1
  refine zenG Try.func66 Try.ntmps66 fun w hS => ?_
  refine zsr ?_
  refine zlv xas ?_
  refine zlt <| zsq <| zsr ?_
  refine zlv xmv ?_
  refine zlv (xln sl_22 hA.slh) ?_
  refine zlv xmv ?_
  refine zlv (xln sl_22 hB2.slh) ?_
  refine zlv xneq ?_
  refine zlt ?_
  refine zcif ?_ ?_ <;> intro hc
  ·
   refine zsr ?_
   refine zlv xas ?_
   refine zlt <| zrt <| ztr <| zf1 ⟨_, rfl, ?_⟩
   exact ⟨false_B (by rintro ⟨h1, h2⟩; first | omega | exact absurd (h2 i h0 (by omega)) (by omega)), hS⟩
  refine zsk <| ztn <| zsq <| zsr ?_
  refine zlv xas ?_
  refine zlt <| zbk <| zlp (fun mm M w => ∃ (i : Int), mm = ((n - i).toNat) ∧ (0 ≤ i) ∧ (i ≤ n) ∧ (∀ k, 0 ≤ k → k < i → f k = g k) ∧ M = [(0, va), (1, vb), (5, .int .i64 i)] ∧ Sat w0 w []) ⟨0, rfl, (by omega), (by omega), ?_, rfl, hS⟩ ?_
  ·
   intro k h0 h1; omega
  clear hS w
  rintro mm M w ⟨i, rfl, h0, h1, hall, rfl, hS⟩
  refine zsq <| zsr ?_
  refine zs2 ?_
  refine zlv (xln sl_22 hA.slh) ?_
  refine zlv xlss ?_
  refine zlt ?_
  refine zcif ?_ ?_ <;> intro hc
  ·
   refine zsk <| ztn <| zsq <| zbk <| zsq ?_
   refine zdst [] [] 1000 mx_ hS ?_; clear hS; intro w hS
   refine zdv 0 (fun _ => xmv) ?_
   refine zdv 1 (fun _ => xmv) ?_
   refine zdv 2 (fun _ => (xix (kk := i) sl_22 hA.slh)) ?_
   refine zdla 3 (fun w hS => (xlr (u := .int .i64 (f i)) pl_3 (hA.below hS.below))) ?_
   refine zdv 4 (fun _ => xmv) ?_
   refine zdv 5 (fun _ => xmv) ?_
   refine zdv 6 (fun _ => (xix (kk := i) sl_22 hB2.slh)) ?_
   refine zdla 7 (fun w hS => (xlr (u := .int .i64 (g i)) pl_3 (hB2.below hS.below))) ?_
   refine zdv 8 (fun _ => xneq) ?_
   refine zdd <| ztn ?_
   refine zcif ?_ ?_ <;> intro hc
   ·
    refine zsr ?_
    refine zlv xas ?_
    refine zlt <| zrt <| zbr <| ztr <| ztr <| zbr <| ztr <| zf1 ⟨_, rfl, ?_⟩
    exact ⟨false_B (by rintro ⟨h1, h2⟩; first | omega | exact absurd (h2 i h0 (by omega)) (by omega)), hS⟩
   refine zsk <| zbn <| ztn <| zrg ?_
   refine zlv xmv ?_
   refine zlv (xadd (r := i + 1)) ?_
   refine zlv xas ?_
   refine zln <| zlq ⟨i + 1, rfl, (by omega), (by omega), ?_, rfl, hS⟩
   ·
    intro k h0' h1'; rcases Int.lt_or_eq_of_le (show k ≤ i by omega) with hk | hk; exact hall k h0' hk; rw [hk]; omega
  refine zxt <| ztx <| ztx <| zbh <| ztn <| zsr ?_
  refine zlv xas ?_
  refine zlt <| zrt <| zf1 ⟨_, rfl, ?_⟩
  exact ⟨true_B ⟨by omega, fun k k0 k1 => hall k k0 (by omega)⟩, hS⟩

set_option maxRecDepth 20000 in
theorem c_sall {vM : Value} {u : Int} {mv : Int → Value} {ml : Int → Int} {mf : Int → Int → Int} {vM2 : Value} {u2 : Int} {mv2 : Int → Value} {ml2 : Int → Int} {mf2 : Int → Int → Int} (w0 : World) (hM : MAt w0 vM u mv ml mf) (hM2 : MAt w0 vM2 u2 mv2 ml2 mf2) :
    Calls Try.prog 30 [vM, vM2].toArray w0 fun e w => ∃ v, e = .returned v ∧ v = B (SameL u u2 ml ml2 mf mf2) ∧ Sat w0 w [] := by
  have hu := hM.row.slh.n0; have hu1 := hM.row.slh.n1; have hv1 := hM2.row.slh.n1
  refine zenG Try.func30 Try.ntmps30 fun w hS => ?_
  refine zsr ?_
  refine zlv xas ?_
  refine zlt <| zsq <| zsr ?_
  refine zlv xmv ?_
  refine zlv (xln sl_32 hM.row.slh) ?_
  refine zlv xmv ?_
  refine zlv (xln sl_32 hM2.row.slh) ?_
  refine zlv xneq ?_
  refine zlt ?_
  refine zcif ?_ ?_ <;> intro hc
  ·
   refine zsr ?_
   refine zlv xas ?_
   refine zlt <| zrt <| ztr <| zf1 ⟨_, rfl, ?_⟩
   exact ⟨false_B (by rintro ⟨h1, h2⟩; first | omega | exact hc (h2 i h0 (by omega)) | exact absurd (h2 i h0 (by omega)) ‹¬ ((ml i) = (ml2 i) ∧ ∀ k, 0 ≤ k → k < (ml i) → (mf i) k = (mf2 i) k)›), hS⟩
  refine zsk <| ztn <| zsq <| zsr ?_
  refine zlv xas ?_
  refine zlt <| zbk <| zlp (fun mm M w => ∃ (i : Int), mm = ((u - i).toNat) ∧ (0 ≤ i) ∧ (i ≤ u) ∧ (∀ k, 0 ≤ k → k < i → ml k = ml2 k ∧ ∀ j, 0 ≤ j → j < ml k → mf k j = mf2 k j) ∧ M = [(0, vM), (1, vM2), (5, .int .i64 i)] ∧ Sat w0 w []) ⟨0, rfl, (by omega), (by omega), ?_, rfl, hS⟩ ?_
  ·
   intro k k0 k1; omega
  clear hS w
  rintro mm M w ⟨i, rfl, h0, h1, hall, rfl, hS⟩
  refine zsq <| zsr ?_
  refine zs2 ?_
  refine zlv (xln sl_32 hM.row.slh) ?_
  refine zlv xlss ?_
  refine zlt ?_
  refine zcif ?_ ?_ <;> intro hc
  ·
   refine zsk <| ztn <| zsq <| zbk <| zsq ?_
   refine zdst [] [] 1000 mx_ hS ?_; clear hS; intro w hS
   refine zdv 0 (fun _ => xmv) ?_
   refine zdv 1 (fun _ => xmv) ?_
   refine zdv 2 (fun _ => (xix (kk := i) sl_32 hM.row.slh)) ?_
   refine zdla 3 (fun w hS => (xlr (u := (mv i)) pl_22 (hM.row.below hS.below))) ?_
   refine zdv 4 (fun _ => xmv) ?_
   refine zdv 5 (fun _ => xmv) ?_
   refine zdv 6 (fun _ => (xix (kk := i) sl_32 hM2.row.slh)) ?_
   refine zdla 7 (fun w hS => (xlr (u := (mv2 i)) pl_22 (hM2.row.below hS.below))) ?_
   refine zdc 8 (xc0 cl_66) (c_same28 (n := (ml i)) (m := (ml2 i)) (f := (mf i)) (g := (mf2 i)) w ((hM.p i (by omega) (by omega)).below hS.below) ((hM2.p i (by omega) (by omega)).below hS.below)) ?_; rintro _ w ⟨rfl, hS'⟩
   replace hS := hS.cmp hS'; clear hS'
   refine ⟨⟨fun _ => hS, hS⟩, ?_⟩
   refine zdv 9 (fun _ => xnot) ?_
   refine zdd <| ztn ?_
   refine zcif ?_ ?_ <;> intro hc
   ·
    refine zsr ?_
    refine zlv xas ?_
    refine zlt <| zrt <| zbr <| ztr <| ztr <| zbr <| ztr <| zf1 ⟨_, rfl, ?_⟩
    exact ⟨false_B (by rintro ⟨h1, h2⟩; first | omega | exact hc (h2 i h0 (by omega)) | exact absurd (h2 i h0 (by omega)) ‹¬ ((ml i) = (ml2 i) ∧ ∀ k, 0 ≤ k → k < (ml i) → (mf i) k = (mf2 i) k)›), hS⟩
   refine zsk <| zbn <| ztn <| zrg ?_
   refine zlv xmv ?_
   refine zlv (xadd (r := i + 1)) ?_
   refine zlv xas ?_
   refine zln <| zlq ⟨i + 1, rfl, (by omega), (by omega), ?_, rfl, hS⟩
   ·
    have hq : (ml i) = (ml2 i) ∧ ∀ k, 0 ≤ k → k < (ml i) → (mf i) k = (mf2 i) k := by first | assumption | exact Classical.not_not.1 ‹_›
    intro k k0 k1; rcases Int.lt_or_eq_of_le (show k ≤ i by omega) with hk | hk
    · exact hall k k0 hk
    · rw [hk]; exact hq
  refine zxt <| ztx <| ztx <| zbh <| ztn <| zsr ?_
  refine zlv xas ?_
  refine zlt <| zrt <| zf1 ⟨_, rfl, ?_⟩
  exact ⟨true_B ⟨by omega, fun k k0 k1 => hall k k0 (by omega)⟩, hS⟩

set_option maxRecDepth 20000 in
theorem c_few30 {vM : Value} {u : Int} {mv : Int → Value} {ml : Int → Int} {mf : Int → Int → Int} (w0 : World) (hM : MAt w0 vM u mv ml mf) :
    Calls Try.prog 47 [vM].toArray w0 fun e w => ∃ v, e = .returned v ∧ v = B ((∀ k, 0 ≤ k → k < u → ml k ≤ 25) ∧ u ≤ 30) ∧ Sat w0 w [] := by
  have hu := hM.row.slh.n0; have hu1 := hM.row.slh.n1
  refine zenG Try.func47 Try.ntmps47 fun w hS => ?_
  refine zsr ?_
  refine zlv xas ?_
  refine zlt <| zsq <| zsr ?_
  refine zlv xas ?_
  refine zlt <| zbk <| zlp (fun mm M w => ∃ (i : Int), mm = ((u - i).toNat) ∧ (0 ≤ i) ∧ (i ≤ u) ∧ (∀ k, 0 ≤ k → k < i → ml k ≤ 25) ∧ M = [(0, vM), (3, .int .i64 i)] ∧ Sat w0 w []) ⟨0, rfl, (by omega), (by omega), ?_, rfl, hS⟩ ?_
  ·
   intro k k0 k1; omega
  clear hS w
  rintro mm M w ⟨i, rfl, h0, h1, hall, rfl, hS⟩
  refine zsq <| zsr ?_
  refine zs2 ?_
  refine zlv (xln sl_32 hM.row.slh) ?_
  refine zlv xlss ?_
  refine zlt ?_
  refine zcif ?_ ?_ <;> intro hc
  ·
   refine zsk <| ztn <| zsq <| zbk <| zsr ?_
   refine zs2 ?_
   refine zlv (xix (kk := i) sl_32 hM.row.slh) ?_
   refine zlv (xlr (u := (mv i)) pl_22 (hM.row.below hS.below)) ?_
   refine zlv (xln sl_22 (hM.p i (by omega) (by omega)).slh) ?_
   refine zlv xgtr ?_
   refine zlt ?_
   refine zcif ?_ ?_ <;> intro hc
   ·
    refine zsr ?_
    refine zlv xas ?_
    refine zlt <| zrt <| zbr <| ztr <| ztr <| zbr <| ztr <| zf1 ⟨_, rfl, ?_⟩
    exact ⟨false_B (by rintro ⟨h1, h2⟩; have := h1 i h0 (by omega); omega), hS⟩
   refine zsk <| zbn <| ztn <| zrg ?_
   refine zlv xmv ?_
   refine zlv (xadd (r := i + 1)) ?_
   refine zlv xas ?_
   refine zln <| zlq ⟨i + 1, rfl, (by omega), (by omega), ?_, rfl, hS⟩
   ·
    intro k h0' h1'; rcases Int.lt_or_eq_of_le (show k ≤ i by omega) with hk | hk; exact hall k h0' hk; rw [hk]; omega
  refine zxt <| ztx <| ztx <| zbh <| ztn <| zsr ?_
  refine zlv xmv ?_
  refine zlv (xln sl_32 hM.row.slh) ?_
  refine zs2 ?_
  refine zlt <| zrt <| zf1 ⟨_, rfl, ?_⟩
  exact ⟨B_congr (by exact ⟨fun hx => ⟨fun k k0 k1 => hall k k0 (by omega), by omega⟩, fun hx => by have := hx.2; omega⟩), hS⟩

set_option maxRecDepth 20000 in
theorem c_gcd {x y : Int} (w0 : World) (hx0 : 0 ≤ x ∧ x ≤ 9223372036854775807) (hy0 : 0 ≤ y ∧ y ≤ 9223372036854775807) :
    Calls Try.prog 65 [.int .i64 x, .int .i64 y].toArray w0 fun e w => ∃ v, e = .returned v ∧ v = .int .i64 (Int.gcd x y) ∧ Sat w0 w [] := by
  refine zenG Try.func65 Try.ntmps65 fun w hS => ?_
  refine zsr ?_
  refine zlv xas ?_
  refine zlt <| zsq <| zbk <| zlp (fun mm M w => ∃ (x1 : Int) (y1 : Int), mm = y1.toNat ∧ (0 ≤ x1) ∧ (x1 ≤ 9223372036854775807) ∧ (0 ≤ y1) ∧ (y1 ≤ 9223372036854775807) ∧ (Int.gcd x1 y1 = Int.gcd x y) ∧ M = [(0, .int .i64 x1), (1, .int .i64 y1), (4, .int .i64 0)] ∧ Sat w0 w []) ⟨x, y, rfl, (by omega), (by omega), (by omega), ?_, ?_, rfl, hS⟩ ?_
  ·
   omega
  ·
   rfl
  clear hS w
  rintro mm M w ⟨x1, y1, rfl, hx, hx1, hy, hy1, hgc, rfl, hS⟩
  have htn := Int.tmod_nonneg y1 hx
  refine zsq <| zsr ?_
  refine zs2 ?_
  refine zlt ?_
  refine zcif ?_ ?_ <;> intro hc
  ·
   refine zsk <| ztn <| zbk ?_
   refine zdst [] [] 1000 mx_ hS ?_; clear hS; intro w hS
   refine zdv 0 (fun _ => xmv) ?_
   refine zdv 1 (fun _ => xmv) ?_
   refine zdv 2 (fun _ => xmv) ?_
   refine zdv 3 (fun _ => (xrem (r := (Int.tmod x1 y1)))) ?_
   refine zdv 4 (fun _ => xas) ?_
   refine zdv 5 (fun _ => xas) ?_
   refine zdd <| zbn <| zlq ⟨y1, (Int.tmod x1 y1), rfl, (by omega), (by omega), (by omega), ?_, ?_, rfl, hS⟩ (hlt := (by have := Int.tmod_lt_of_pos x1 (show 0 < y1 by omega); omega))
   ·
    have := Int.tmod_lt_of_pos x1 (show 0 < y1 by omega); omega
   ·
    rw [gcd_step hx (by omega)]; exact hgc
  refine zxt <| ztx <| ztx <| zbh <| ztn <| zsr ?_
  refine zs2 ?_
  refine zlt <| zrt <| zf1 ⟨_, rfl, ?_⟩
  obtain rfl : y1 = 0 := by omega
  exact ⟨by rw [← hgc, Int.gcd_zero_right]; congr 1; omega, hS⟩

def SoundS (s : So) : Prop := (1 ≤ s.den ∧ s.den ≤ 1073741824) ∧ (0 ≤ s.val ∧ s.val ≤ 1073741824) ∧ ∀ k, 0 ≤ k → k < s.n → 0 ≤ s.X k ∧ s.X k ≤ 1073741824
def two (x y : Int) : Int → Int := fun k => [x, y].getD k.toNat 0
theorem cat2_at {n x y : Int} {f : Int → Int} (hn : 0 ≤ n) : (∀ k, 0 ≤ k → k < n → cat n f (two x y) k = f k) ∧ cat n f (two x y) n = x ∧ cat n f (two x y) (n + 1) = y := by
  refine ⟨fun k k0 k1 => ?_, ?_, ?_⟩
  · unfold cat; rw [if_pos k1]
  · unfold cat; rw [if_neg (by omega), Int.sub_self]; rfl
  · unfold cat; rw [if_neg (by omega), show n + 1 - n = 1 by omega]; rfl
theorem sound_max {s : So} {x : Int} (hn : 0 ≤ s.n) (he : ∃ k, 0 ≤ k ∧ k < s.n + 2 ∧ cat s.n s.X (two s.val s.den) k = x) (ha : ∀ k, 0 ≤ k → k < s.n + 2 → cat s.n s.X (two s.val s.den) k ≤ x) (h1 : 1 ≤ s.den) (h2 : 0 ≤ s.val) (h3 : ¬ ∃ k, 0 ≤ k ∧ k < s.n ∧ s.X k < 0) : x ≤ 1073741824 ↔ SoundS s := by
  obtain ⟨c1, c2, c3⟩ := cat2_at (n := s.n) (x := s.val) (y := s.den) (f := s.X) hn
  constructor
  · intro hx
    have a1 := ha s.n hn (by omega)
    have a2 := ha (s.n + 1) (by omega) (by omega)
    exact ⟨⟨h1, by omega⟩, ⟨h2, by omega⟩, fun k k0 k1 => ⟨Int.not_lt.1 fun hh => h3 ⟨k, k0, k1, hh⟩, by have := ha k k0 (by omega); rw [c1 k k0 k1] at this; omega⟩⟩
  · rintro ⟨b1, b2, b3⟩
    obtain ⟨k, k0, k1, hk⟩ := he
    by_cases e : k < s.n
    · rw [c1 k k0 e] at hk; have := b3 k k0 e; omega
    · by_cases e2 : k = s.n
      · rw [e2, c2] at hk; omega
      · rw [show k = s.n + 1 by omega, c3] at hk; omega

theorem c_neg {x : Int} (w0 : World) :
    Calls Try.prog 74 [.int .i64 x].toArray w0 fun e w => ∃ v, e = .returned v ∧ v = B (x < 0) ∧ Sat w0 w [] := by
  refine zenG Try.func74 Try.ntmps74 fun w hS => ?_
  refine zsr ?_
  refine zlv xas ?_
  refine zlz ?_
  refine zs3 ?_
  refine zlt <| zrt <| zf1 ⟨_, rfl, ?_⟩
  exact ⟨B_congr (by omega), hS⟩

theorem c_ixneg {v : Value} {n : Int} {f : Int → Int} (w0 : World) (hR : Row w0 v 1 n (ints f)) :
    Calls Try.prog 78 [v, .func (.func 74) #[] #[]].toArray w0 fun e w => ∃ v, e = .returned v ∧ ∃ r : Int, v = .int .i64 r ∧ ((r = -1 ∧ ∀ k, 0 ≤ k → k < n → ¬ (f k < 0)) ∨ (0 ≤ r ∧ r < n ∧ (f r < 0))) ∧ Sat w0 w [] := by
  have hn := hR.slh.n0; have hn1 := hR.slh.n1
  refine zenG Try.func78 Try.ntmps78 fun w hS => ?_
  refine zsr ?_
  refine zlv xas ?_
  refine zlt <| zsq <| zsr ?_
  refine zlv xmv ?_
  refine zlv (xln sl_22 hR.slh) ?_
  refine zlv xmv ?_
  refine zlt <| zbk <| zlp (fun mm M w => ∃ (i : Int), mm = ((n - i).toNat) ∧ (0 ≤ i) ∧ (i ≤ n) ∧ (∀ k, 0 ≤ k → k < i → ¬ (f k < 0)) ∧ M = [(0, v), (1, .func (.func 74) #[] #[]), (7, .int .i64 n), (8, .int .i64 i)] ∧ Sat w0 w []) ⟨0, rfl, (by omega), (by omega), ?_, rfl, hS⟩ ?_
  ·
   intro k h0 h1; omega
  clear hS w
  rintro mm M w ⟨i, rfl, h0, h1, hall, rfl, hS⟩
  refine zsr ?_
  refine zlv xlss ?_
  refine zlt <| zsq ?_
  refine zcif ?_ ?_ <;> intro hc
  ·
   refine zsk <| ztn <| zsq <| zbk <| zsr ?_
   refine zs2 ?_
   refine zlz ?_
   refine zs3 ?_
   refine zlv (xix (kk := i) sl_22 hR.slh) ?_
   refine zlv (xlr (u := .int .i64 (f i)) pl_3 (hR.below hS.below)) ?_
   refine zlc (xc0 cl_74) (c_neg (x := (f i)) w) ?_; rintro _ w ⟨rfl, hS'⟩
   replace hS := hS.cmp hS'; clear hS'
   refine zlt ?_
   refine zcif ?_ ?_ <;> intro hc
   ·
    refine zsr ?_
    refine zs2 ?_
    refine zlt <| zrt <| zbr <| ztr <| ztr <| zbr <| ztr <| zf1 ⟨_, rfl, ?_⟩
    exact ⟨i, rfl, .inr ⟨by omega, by omega, ‹f i < 0›⟩, hS⟩
   refine zsk <| zbn <| ztn <| zrg ?_
   refine zlv (xadd (r := i + 1)) ?_
   refine zlv xmv ?_
   refine zln <| zlq ⟨i + 1, rfl, (by omega), (by omega), ?_, rfl, hS⟩
   ·
    intro k h0' h1'; rcases Int.lt_or_eq_of_le (show k ≤ i by omega) with hk | hk; exact hall k h0' hk; rw [hk]; assumption
  refine zxt <| ztx <| ztx <| zbh <| ztn <| zsr ?_
  refine zlv xas ?_
  refine zlt <| zrt <| zf1 ⟨_, rfl, ?_⟩
  exact ⟨-1, rfl, .inl ⟨rfl, fun k h0 h1 => hall k h0 (by omega)⟩, hS⟩

theorem c_coneg {v : Value} {n : Int} {f : Int → Int} (w0 : World) (hR : Row w0 v 1 n (ints f)) :
    Calls Try.prog 75 [v, .func (.func 74) #[] #[]].toArray w0 fun e w => ∃ v, e = .returned v ∧ v = B (∃ k, 0 ≤ k ∧ k < n ∧ (f k < 0)) ∧ Sat w0 w [] := by
  refine zenG Try.func75 Try.ntmps75 fun w hS => ?_
  refine zsr ?_
  refine zlv xas ?_
  refine zlz ?_
  refine zs2 ?_
  refine zlc (xc0 cl_78) (c_ixneg w (hR.below hS.below)) ?_; rintro _ w ⟨r1, rfl, hr1, hS'⟩
  replace hS := hS.cmp hS'; clear hS'
  refine zs2 ?_
  refine zlt <| zrt <| zf1 ⟨_, rfl, ?_⟩
  exact ⟨B_congr (by
   rcases hr1 with ⟨h1, h2⟩ | ⟨h1, h2, h3⟩
   · exact ⟨fun h => by omega, fun ⟨k, h4, h5, h6⟩ => absurd h6 (h2 k h4 h5)⟩
   · exact ⟨fun _ => ⟨_, h1, h2, h3⟩, fun _ => h1⟩), hS⟩

set_option maxRecDepth 20000 in
theorem c_sound30 {vX vY : Value} {s : So} (w0 : World) (hX : Row w0 vX 1 s.n (ints s.X)) (hY : Row w0 vY 1 s.m (ints s.Y)) (hn60 : s.n ≤ 1000) :
    Calls Try.prog 43 [.agg #[vX, vY, .int .i64 s.val, .int .i64 s.den]].toArray w0 fun e w => ∃ v, e = .returned v ∧ v = B (SoundS s) ∧ Sat w0 w [] := by
  have hn := hX.slh.n0; have hn1 := hX.slh.n1
  refine zenG Try.func43 Try.ntmps43 fun w hS => ?_
  refine zsr ?_
  refine zla (xbx (cs := [_, _, _, _]) hS) ?_; rintro _ w ⟨g1, rfl, hS⟩
  replace hS := hS.n1
  refine zlv xas ?_
  refine zlt <| zsq ?_
  refine zdst [0] [0] 1000 mx_ hS ?_; clear hS; intro w hS
  refine zdv 0 (fun _ => (xfb 0 fd_36_0)) ?_
  refine zdla 1 (fun w hS => (xlb 0 pl_22 hS)) ?_
  refine zdv 3 (fun _ => (xfb 2 fd_36_2)) ?_
  refine zdla 4 (fun w hS => (xlb 0 pl_3 hS)) ?_
  refine zdv 5 (fun _ => (xfb 3 fd_36_3)) ?_
  refine zdla 6 (fun w hS => (xlb 0 pl_3 hS)) ?_
  refine zdfk (r := [2, 7]) ((zdn1 ?_ (zdn1 ?_ zdn0)))
  ·
   refine zkc (xc0 cl_42) (c_clone (n := s.n) (f := s.X) w (hX.below hS.below) (by omega)) ?_; rintro vq1 w ⟨_, rfl, hslq1, hS'⟩
   replace hS : Sat w0 w [.blk g1 [vX, vY, .int .i64 s.val, .int .i64 s.den], .own vq1 1 3 s.n (ints s.X)] := hS.comp hS'; clear hS'
   refine ⟨⟨fun _ => hS.pk [0], hS.pk [0]⟩, ?_⟩
   refine zda 7 (xli (n := 2) (len := 2) (pv := [(0, .int .i64 s.val), (1, .int .i64 s.den)]) (cs := [.int .i64 s.val, .int .i64 s.den]) (c := ints (fun k => [s.val, s.den].getD k.toNat 0)) sl_22 el_3 hS) ?_; rintro v1 w ⟨hS, hv1⟩
   replace hS := hS.n3
   refine ⟨⟨fun _ => hS.pk [0], hS.pk [0]⟩, ?_⟩
   refine zda 8 (xap 1 (r := s.n + 2) (f := ints (cat s.n s.X (two s.val s.den))) sl_22 el_3 hS (hS.rowN 2 rfl) (by exact cat_ints1 _ _ _)) ?_; rintro v2 w ⟨hS, hv2⟩
   replace hS := hS.n3
   refine ⟨⟨fun _ => hS.pk [0], hS.pk [0]⟩, ?_⟩
   refine zdv 9 (fun _ => xas) ?_
   refine zdd <| ztn <| zsr ?_
   refine zlv xas ?_
   refine zlz ?_
   refine zlv (xfb 3 fd_36_3) ?_
   refine zlv (xlb 0 pl_3 hS) ?_
   refine zs2 ?_
   refine zlb 17 ?_ ?_ <;> intro hc
   ·
    refine zlv (xfb 2 fd_36_2) ?_
    refine zlv (xlb 0 pl_3 hS) ?_
    refine zs3 ?_
    refine zlb 22 ?_ ?_ <;> intro hc
    ·
     refine zlv (xfb 0 fd_36_0) ?_
     refine zlv (xlb 0 pl_22 hS) ?_
     refine zlv xmv ?_
     refine zlc (xc0 cl_75) (c_coneg (n := s.n) (f := s.X) w (hX.below hS.below)) ?_; rintro _ w ⟨rfl, hS'⟩
     replace hS := hS.cmp hS'; clear hS'
     refine zs3 ?_
     refine zlb 29 ?_ ?_ <;> intro hc
     ·
      refine zlv xmv ?_
      refine zlc (xc0 cl_38) (c_max (n := (s.n + 2)) (f := (cat s.n s.X (two s.val s.den))) w (hS.rowN 1 rfl) (by omega)) ?_; rintro _ w ⟨x1, rfl, hex1, hax1, hS'⟩
      replace hS := hS.cmp hS'; clear hS'
      refine zs3 ?_
      refine zlt <| zrt <| zf1 ⟨_, rfl, ?_⟩
      exact ⟨B_congr (sound_max hn hex1 hax1 (by omega) (by omega) (show ¬ (∃ k, 0 ≤ k ∧ k < s.n ∧ s.X k < 0) by first | assumption | exact fun hh => absurd hh ‹_›)), hS.nl⟩
     iterate 3 refine zlo ?_
     refine zs2 ?_
     refine zlt <| zrt <| zf1 ⟨_, rfl, ?_⟩
     exact ⟨false_B (by rintro ⟨g1, g2, g3⟩; first | omega | (obtain ⟨k, k0, k1, hk⟩ := (show ∃ k, 0 ≤ k ∧ k < s.n ∧ s.X k < 0 by first | assumption | exact Classical.not_not.1 (by assumption)); have := g3 k k0 k1; omega)), hS.nl⟩
    iterate 5 refine zlo ?_
    refine zs2 ?_
    iterate 3 refine zlo ?_
    refine zs2 ?_
    refine zlt <| zrt <| zf1 ⟨_, rfl, ?_⟩
    exact ⟨false_B (by rintro ⟨g1, g2, g3⟩; first | omega | (obtain ⟨k, k0, k1, hk⟩ := (show ∃ k, 0 ≤ k ∧ k < s.n ∧ s.X k < 0 by first | assumption | exact Classical.not_not.1 (by assumption)); have := g3 k k0 k1; omega)), hS.nl⟩
   iterate 3 refine zlo ?_
   refine zs2 ?_
   iterate 5 refine zlo ?_
   refine zs2 ?_
   iterate 3 refine zlo ?_
   refine zs2 ?_
   refine zlt <| zrt <| zf1 ⟨_, rfl, ?_⟩
   exact ⟨false_B (by rintro ⟨g1, g2, g3⟩; first | omega | (obtain ⟨k, k0, k1, hk⟩ := (show ∃ k, 0 ≤ k ∧ k < s.n ∧ s.X k < 0 by first | assumption | exact Classical.not_not.1 (by assumption)); have := g3 k k0 k1; omega)), hS.nl⟩
  refine zka (xli (n := 2) (len := 2) (pv := [(0, .int .i64 s.val), (1, .int .i64 s.den)]) (cs := [.int .i64 s.val, .int .i64 s.den]) (c := ints (fun k => [s.val, s.den].getD k.toNat 0)) sl_22 el_3 hS) ?_; rintro v1 w ⟨hS, hv1⟩
  replace hS := hS.n2
  refine ⟨⟨fun _ => hS.pk [0], hS.pk [0]⟩, ?_⟩
  refine zdc 2 (xc0 cl_42) (c_clone (n := s.n) (f := s.X) w (hX.below hS.below) (by omega)) ?_; rintro vq1 w ⟨_, rfl, hslq1, hS'⟩
  replace hS : Sat w0 w [.blk g1 [vX, vY, .int .i64 s.val, .int .i64 s.den], .own v1 1 3 2 (ints (fun k => [s.val, s.den].getD k.toNat 0)), .own vq1 1 3 s.n (ints s.X)] := hS.comp hS'; clear hS'
  refine ⟨⟨fun _ => hS.pk [0], hS.pk [0]⟩, ?_⟩
  refine zda 8 (xap 2 (r := s.n + 2) (f := ints (cat s.n s.X (two s.val s.den))) sl_22 el_3 hS (hS.rowN 1 rfl) (by exact cat_ints1 _ _ _)) ?_; rintro v2 w ⟨hS, hv2⟩
  replace hS := hS.n3
  refine ⟨⟨fun _ => hS.pk [0], hS.pk [0]⟩, ?_⟩
  refine zdv 9 (fun _ => xas) ?_
  refine zdd <| ztn <| zsr ?_
  refine zlv xas ?_
  refine zlz ?_
  refine zlv (xfb 3 fd_36_3) ?_
  refine zlv (xlb 0 pl_3 hS) ?_
  refine zs2 ?_
  refine zlb 17 ?_ ?_ <;> intro hc
  ·
   refine zlv (xfb 2 fd_36_2) ?_
   refine zlv (xlb 0 pl_3 hS) ?_
   refine zs3 ?_
   refine zlb 22 ?_ ?_ <;> intro hc
   ·
    refine zlv (xfb 0 fd_36_0) ?_
    refine zlv (xlb 0 pl_22 hS) ?_
    refine zlv xmv ?_
    refine zlc (xc0 cl_75) (c_coneg (n := s.n) (f := s.X) w (hX.below hS.below)) ?_; rintro _ w ⟨rfl, hS'⟩
    replace hS := hS.cmp hS'; clear hS'
    refine zs3 ?_
    refine zlb 29 ?_ ?_ <;> intro hc
    ·
     refine zlv xmv ?_
     refine zlc (xc0 cl_38) (c_max (n := (s.n + 2)) (f := (cat s.n s.X (two s.val s.den))) w (hS.rowN 2 rfl) (by omega)) ?_; rintro _ w ⟨x1, rfl, hex1, hax1, hS'⟩
     replace hS := hS.cmp hS'; clear hS'
     refine zs3 ?_
     refine zlt <| zrt <| zf1 ⟨_, rfl, ?_⟩
     exact ⟨B_congr (sound_max hn hex1 hax1 (by omega) (by omega) (show ¬ (∃ k, 0 ≤ k ∧ k < s.n ∧ s.X k < 0) by first | assumption | exact fun hh => absurd hh ‹_›)), hS.nl⟩
    iterate 3 refine zlo ?_
    refine zs2 ?_
    refine zlt <| zrt <| zf1 ⟨_, rfl, ?_⟩
    exact ⟨false_B (by rintro ⟨g1, g2, g3⟩; first | omega | (obtain ⟨k, k0, k1, hk⟩ := (show ∃ k, 0 ≤ k ∧ k < s.n ∧ s.X k < 0 by first | assumption | exact Classical.not_not.1 (by assumption)); have := g3 k k0 k1; omega)), hS.nl⟩
   iterate 5 refine zlo ?_
   refine zs2 ?_
   iterate 3 refine zlo ?_
   refine zs2 ?_
   refine zlt <| zrt <| zf1 ⟨_, rfl, ?_⟩
   exact ⟨false_B (by rintro ⟨g1, g2, g3⟩; first | omega | (obtain ⟨k, k0, k1, hk⟩ := (show ∃ k, 0 ≤ k ∧ k < s.n ∧ s.X k < 0 by first | assumption | exact Classical.not_not.1 (by assumption)); have := g3 k k0 k1; omega)), hS.nl⟩
  iterate 3 refine zlo ?_
  refine zs2 ?_
  iterate 5 refine zlo ?_
  refine zs2 ?_
  iterate 3 refine zlo ?_
  refine zs2 ?_
  refine zlt <| zrt <| zf1 ⟨_, rfl, ?_⟩
  exact ⟨false_B (by rintro ⟨g1, g2, g3⟩; first | omega | (obtain ⟨k, k0, k1, hk⟩ := (show ∃ k, 0 ≤ k ∧ k < s.n ∧ s.X k < 0 by first | assumption | exact Classical.not_not.1 (by assumption)); have := g3 k k0 k1; omega)), hS.nl⟩

theorem gcd_pos1 {x y : Int} (hx : 0 ≤ x) (hy : 1 ≤ y) : 1 ≤ (Int.gcd x y : Int) := by
  have : Int.gcd x y ≠ 0 := fun h => by have := (Int.gcd_eq_zero_iff.1 h).2; omega
  omega
def ValR (s : So) (x y e : Int) : Prop := (¬ SoundS s ∧ x = 0 ∧ y = 0 ∧ e = 1) ∨ (SoundS s ∧ x = s.val.tdiv (Int.gcd s.val s.den) ∧ y = s.den.tdiv (Int.gcd s.val s.den) ∧ e = 0)
theorem ValR.same {s : So} {x y e x2 y2 e2 : Int} (h : ValR s x y e) (h' : ValR s x2 y2 e2) : x = x2 ∧ y = y2 ∧ e = e2 := by
  rcases h with ⟨h1, h2, h3, h4⟩ | ⟨h1, h2, h3, h4⟩ <;> rcases h' with ⟨g1, g2, g3, g4⟩ | ⟨g1, g2, g3, g4⟩
  · exact ⟨by omega, by omega, by omega⟩
  · exact absurd g1 h1
  · exact absurd h1 g1
  · exact ⟨by rw [h2, g2], by rw [h3, g3], by omega⟩
def CeilR (s : So) (x e : Int) : Prop := (¬ SoundS s ∧ x = 0 ∧ e = 1) ∨ (SoundS s ∧ x = (s.val + s.den - 1).tdiv s.den ∧ e = 0)
theorem CeilR.same {s : So} {x e x2 e2 : Int} (h : CeilR s x e) (h' : CeilR s x2 e2) : x = x2 ∧ e = e2 := by
  rcases h with ⟨h1, h2, h4⟩ | ⟨h1, h2, h4⟩ <;> rcases h' with ⟨g1, g2, g4⟩ | ⟨g1, g2, g4⟩
  · exact ⟨by omega, by omega⟩
  · exact absurd g1 h1
  · exact absurd h1 g1
  · exact ⟨by rw [h2, g2], by omega⟩

set_option maxRecDepth 20000 in
theorem c_rsound30 {vX vY : Value} {s : So} (w0 : World) (hX : Row w0 vX 1 s.n (ints s.X)) (hY : Row w0 vY 1 s.m (ints s.Y)) :
    Calls Try.prog 62 [.agg #[vX, vY, .int .i64 s.val, .int .i64 s.den]].toArray w0 fun e w => ∃ v, e = .returned v ∧ v = B (SoundS s) ∧ Sat w0 w [] := by
  have hn := hX.slh.n0; have hn1 := hX.slh.n1
  refine zenG Try.func62 Try.ntmps62 fun w hS => ?_
  refine zsr ?_
  refine zla (xbx (cs := [_, _, _, _]) hS) ?_; rintro _ w ⟨g1, rfl, hS⟩
  replace hS := hS.n1
  refine zlv xas ?_
  refine zlt <| zsq <| zsr ?_
  refine zlv xas ?_
  refine zlt <| zbk <| zlp (fun mm M w => ∃ (i : Int), mm = ((s.n - i).toNat) ∧ (0 ≤ i) ∧ (i ≤ s.n) ∧ (∀ k, 0 ≤ k → k < i → 0 ≤ s.X k ∧ s.X k ≤ 1073741824) ∧ M = [(1, .pointer (some ⟨g1, 0, none⟩)), (3, .int .i64 i)] ∧ Sat w0 w [.blk g1 [vX, vY, .int .i64 s.val, .int .i64 s.den]]) ⟨0, rfl, (by omega), (by omega), ?_, rfl, hS⟩ ?_
  ·
   intro k k0 k1; omega
  clear hS w
  rintro mm M w ⟨i, rfl, h0, h1, hall, rfl, hS⟩
  refine zsq <| zsr ?_
  refine zlv xmv ?_
  refine zlv (xfb 0 fd_52_0) ?_
  refine zlv (xlb 0 pl_22 hS) ?_
  refine zlv (xln sl_22 hX.slh) ?_
  refine zlv xlss ?_
  refine zlt ?_
  refine zcif ?_ ?_ <;> intro hc
  ·
   refine zsk <| ztn <| zsq <| zbk <| zsr ?_
   refine zlv (xfb 0 fd_52_0) ?_
   refine zlv (xlb 0 pl_22 hS) ?_
   refine zlv xmv ?_
   refine zlv (xix (kk := i) sl_22 hX.slh) ?_
   refine zlv (xlr (u := .int .i64 (s.X i)) pl_3 (hX.below hS.below)) ?_
   refine zs2 ?_
   refine zlb 17 ?_ ?_ <;> intro hc
   ·
    iterate 6 refine zlo ?_
    refine zlv xpt ?_
    refine zlt <| zct <| zsr ?_
    refine zlv xas ?_
    refine zlt <| zrt <| zbr <| ztr <| ztr <| zbr <| ztr <| zf1 ⟨_, rfl, ?_⟩
    exact ⟨false_B (by rintro ⟨g1, g2, g3⟩; first | omega | (have := g3 i h0 (by omega); omega)), hS.nl⟩
   refine zlv (xfb 0 fd_52_0) ?_
   refine zlv (xlb 0 pl_22 hS) ?_
   refine zlv xmv ?_
   refine zlv (xix (kk := i) sl_22 hX.slh) ?_
   refine zlv (xlr (u := .int .i64 (s.X i)) pl_3 (hX.below hS.below)) ?_
   refine zs2 ?_
   refine zlt ?_
   refine zcif ?_ ?_ <;> intro hc
   ·
    refine zsr ?_
    refine zlv xas ?_
    refine zlt <| zrt <| zbr <| ztr <| ztr <| zbr <| ztr <| zf1 ⟨_, rfl, ?_⟩
    exact ⟨false_B (by rintro ⟨g1, g2, g3⟩; first | omega | (have := g3 i h0 (by omega); omega)), hS.nl⟩
   refine zsk <| zbn <| ztn <| zrg ?_
   refine zlv xmv ?_
   refine zlv (xadd (r := i + 1)) ?_
   refine zlv xas ?_
   refine zln <| zlq ⟨i + 1, rfl, (by omega), (by omega), ?_, rfl, hS⟩
   ·
    intro k h0' h1'; rcases Int.lt_or_eq_of_le (show k ≤ i by omega) with hk | hk; exact hall k h0' hk; rw [hk]; omega
  refine zxt <| ztx <| ztx <| zbh <| ztn <| zsr ?_
  refine zlv (xfb 3 fd_52_3) ?_
  refine zlv (xlb 0 pl_3 hS) ?_
  refine zs2 ?_
  refine zlb 28 ?_ ?_ <;> intro hc
  ·
   refine zlv (xfb 3 fd_52_3) ?_
   refine zlv (xlb 0 pl_3 hS) ?_
   refine zs3 ?_
   refine zlb 33 ?_ ?_ <;> intro hc
   ·
    refine zlv (xfb 2 fd_52_2) ?_
    refine zlv (xlb 0 pl_3 hS) ?_
    refine zs3 ?_
    refine zlb 38 ?_ ?_ <;> intro hc
    ·
     refine zlv (xfb 2 fd_52_2) ?_
     refine zlv (xlb 0 pl_3 hS) ?_
     refine zs3 ?_
     refine zlt <| zrt <| zf1 ⟨_, rfl, ?_⟩
     exact ⟨B_congr (by exact ⟨fun hx => ⟨⟨by omega, by omega⟩, ⟨by omega, by omega⟩, fun k k0 k1 => hall k k0 (by omega)⟩, fun g => by have := g.2.1; omega⟩), hS.nl⟩
    iterate 3 refine zlo ?_
    refine zs2 ?_
    refine zlt <| zrt <| zf1 ⟨_, rfl, ?_⟩
    exact ⟨false_B (by rintro ⟨g1, g2, g3⟩; first | omega | (have := g3 i h0 (by omega); omega)), hS.nl⟩
   iterate 3 refine zlo ?_
   refine zs2 ?_
   iterate 3 refine zlo ?_
   refine zs2 ?_
   refine zlt <| zrt <| zf1 ⟨_, rfl, ?_⟩
   exact ⟨false_B (by rintro ⟨g1, g2, g3⟩; first | omega | (have := g3 i h0 (by omega); omega)), hS.nl⟩
  iterate 3 refine zlo ?_
  refine zs2 ?_
  iterate 3 refine zlo ?_
  refine zs2 ?_
  iterate 3 refine zlo ?_
  refine zs2 ?_
  refine zlt <| zrt <| zf1 ⟨_, rfl, ?_⟩
  exact ⟨false_B (by rintro ⟨g1, g2, g3⟩; first | omega | (have := g3 i h0 (by omega); omega)), hS.nl⟩

set_option maxRecDepth 20000 in
theorem c_value30 {vX vY : Value} {s : So} (w0 : World) (hX : Row w0 vX 1 s.n (ints s.X)) (hY : Row w0 vY 1 s.m (ints s.Y)) (hn60 : s.n ≤ 1000) :
    Calls Try.prog 29 [.agg #[vX, vY, .int .i64 s.val, .int .i64 s.den]].toArray w0 fun e w => ∃ v, e = .returned v ∧ ∃ (x y e : Int), v = .tuple #[.agg #[.int .i64 x, .int .i64 y], .int .i64 e] ∧ ValR s x y e ∧ Sat w0 w [] := by
  have hn := hX.slh.n0; have hn1 := hX.slh.n1
  refine zenG Try.func29 Try.ntmps29 fun w hS => ?_
  refine zsr ?_
  refine zla (xbx (cs := [_, _, _, _]) hS) ?_; rintro _ w ⟨g1, rfl, hS⟩
  replace hS := hS.n1
  refine zla (xal (cs := [_, _]) el_65 hS) ?_; rintro _ w ⟨g2, rfl, hS⟩
  replace hS := hS.n2
  refine zlv xas ?_
  refine zlt <| zsq <| zsr ?_
  refine zlv (xls 0 st_36 hS) ?_
  refine zlc (xc0 cl_43) (c_sound30 (s := s) w (hX.below hS.below) (hY.below hS.below) (by omega)) ?_; rintro _ w ⟨rfl, hS'⟩
  replace hS := hS.cmp hS'; clear hS'
  refine zlv xnot ?_
  refine zlt ?_
  refine zcif ?_ ?_ <;> intro hc
  ·
   refine zsr ?_
   refine zlv (xany (v := .agg #[.int .i64 0, .int .i64 0])) ?_
   refine zle (xsw 1 st_65 hS) ?_; clear hS; rintro w hS
   replace hS := hS.n2
   refine zlv xas ?_
   refine zlt <| zrt <| ztr <| zfct 1 st_65 hS ⟨_, rfl, ?_⟩
   exact ⟨0, 0, 1, rfl, .inl ⟨‹¬ SoundS s›, rfl, rfl, rfl⟩, hS.nl⟩
  refine zsk <| ztn <| zsr ?_
  refine zlv (xfb 2 fd_36_2) ?_
  have hsd : SoundS s := by first | assumption | exact Classical.not_not.1 ‹_›
  obtain ⟨⟨d1, d2⟩, ⟨d3, d4⟩, d5⟩ := id hsd
  refine zlv (xlb 0 pl_3 hS) ?_
  refine zlv (xfb 3 fd_36_3) ?_
  refine zlv (xlb 0 pl_3 hS) ?_
  refine zlc (xc0 cl_65) (c_gcd (x := s.val) (y := s.den) w (by omega) (by omega)) ?_; rintro _ w ⟨rfl, hS'⟩
  replace hS := hS.cmp hS'; clear hS'
  refine zlv xas ?_
  have hgp := gcd_pos1 (x := s.val) (y := s.den) (by omega) (by omega)
  have hq1 := tdiv_abs (a := s.val) (d := (Int.gcd s.val s.den : Int)) (A := 9223372036854775807) hgp (by omega)
  have hq2 := tdiv_abs (a := s.den) (d := (Int.gcd s.val s.den : Int)) (A := 9223372036854775807) hgp (by omega)
  refine zlt <| zsq ?_
  refine zdst [0, 1] [0] 9 mx_ hS ?_; clear hS; intro w hS
  refine zdv 0 (fun _ => (xfb 2 fd_36_2)) ?_
  refine zdla 1 (fun w hS => (xlb 0 pl_3 hS)) ?_
  refine zdv 2 (fun _ => xmv) ?_
  refine zdv 3 (fun _ => (xquo (r := (Int.tdiv s.val (Int.gcd s.val s.den : Int))))) ?_
  refine zdv 4 (fun _ => (xfb 3 fd_36_3)) ?_
  refine zdla 5 (fun w hS => (xlb 0 pl_3 hS)) ?_
  refine zdv 6 (fun _ => xmv) ?_
  refine zdv 7 (fun _ => (xquo (r := (Int.tdiv s.den (Int.gcd s.val s.den : Int))))) ?_
  refine zdv 8 (fun _ => (xany (v := .agg #[.int .i64 (Int.tdiv s.val (Int.gcd s.val s.den : Int)), .int .i64 (Int.tdiv s.den (Int.gcd s.val s.den : Int))]))) ?_
  refine zde 9 (xsw 1 st_65 hS) ?_; clear hS; rintro w hS
  replace hS := hS.n2
  refine ⟨⟨fun h => absurd h (by decide), hS.pk [0]⟩, ?_⟩
  refine zdv 10 (fun _ => xas) ?_
  refine zdd <| ztn <| zrt <| zfct 1 st_65 hS ⟨_, rfl, ?_⟩
  exact ⟨_, _, 0, rfl, .inr ⟨hsd, rfl, rfl, rfl⟩, hS.nl⟩

set_option maxRecDepth 20000 in
theorem c_ceil30 {vX vY : Value} {s : So} (w0 : World) (hX : Row w0 vX 1 s.n (ints s.X)) (hY : Row w0 vY 1 s.m (ints s.Y)) (hn60 : s.n ≤ 1000) :
    Calls Try.prog 13 [.agg #[vX, vY, .int .i64 s.val, .int .i64 s.den]].toArray w0 fun e w => ∃ v, e = .returned v ∧ ∃ (x e : Int), v = .tuple #[.int .i64 x, .int .i64 e] ∧ CeilR s x e ∧ Sat w0 w [] := by
  have hn := hX.slh.n0; have hn1 := hX.slh.n1
  refine zenG Try.func13 Try.ntmps13 fun w hS => ?_
  refine zsr ?_
  refine zla (xbx (cs := [_, _, _, _]) hS) ?_; rintro _ w ⟨g1, rfl, hS⟩
  replace hS := hS.n1
  refine zs2 ?_
  refine zlt <| zsq <| zsr ?_
  refine zlv (xls 0 st_36 hS) ?_
  refine zlc (xc0 cl_43) (c_sound30 (s := s) w (hX.below hS.below) (hY.below hS.below) (by omega)) ?_; rintro _ w ⟨rfl, hS'⟩
  replace hS := hS.cmp hS'; clear hS'
  refine zlv xnot ?_
  refine zlt ?_
  refine zcif ?_ ?_ <;> intro hc
  ·
   refine zsr ?_
   refine zs2 ?_
   refine zlt <| zrt <| ztr <| zf2 ⟨_, rfl, ?_⟩
   exact ⟨0, 1, rfl, .inl ⟨‹¬ SoundS s›, rfl, rfl⟩, hS.nl⟩
  refine zsk <| ztn <| zsr ?_
  refine zlv (xfb 2 fd_36_2) ?_
  have hsd : SoundS s := by first | assumption | exact Classical.not_not.1 ‹_›
  obtain ⟨⟨d1, d2⟩, ⟨d3, d4⟩, d5⟩ := id hsd
  have hq1 := tdiv_abs (a := s.val + s.den - 1) (d := s.den) (A := 4294967296) d1 (by omega)
  refine zlv (xlb 0 pl_3 hS) ?_
  refine zlv (xfb 3 fd_36_3) ?_
  refine zlv (xlb 0 pl_3 hS) ?_
  refine zlv (xadd (r := s.val + s.den)) ?_
  refine zlv (xsub (r := s.val + s.den - 1)) ?_
  refine zlv (xfb 3 fd_36_3) ?_
  refine zlv (xlb 0 pl_3 hS) ?_
  refine zlv (xquo (r := (Int.tdiv (s.val + s.den - 1) s.den))) ?_
  refine zs2 ?_
  refine zlt <| zrt <| zf2 ⟨_, rfl, ?_⟩
  exact ⟨_, 0, rfl, .inr ⟨hsd, rfl, rfl⟩, hS.nl⟩

/-- The pattern of one length alone. -/
def oneP (p : Prob) (i : Int) : Int → Int := fun j => if j = i then min (p.D i) ((p.stock + p.kerf).tdiv (p.L i + p.kerf)) else 0
theorem oneP_upd (p : Prob) (i : Int) : upd (fun _ => 0) i (min (p.D i) ((p.stock + p.kerf).tdiv (p.L i + p.kerf))) = oneP p i := by
  funext j; unfold upd oneP; rfl

set_option maxRecDepth 20000 in
theorem c_one {vL vD : Value} {p : Prob} {gp : Nat} {i : Int} (w0 : World) (hG : (Ent.blk gp [vL, vD, .int .i64 p.stock, .int .i64 p.kerf]).holds w0) (h : PAt w0 vL vD p) (hok : p.Ok) (i0 : 0 ≤ i) (i1 : i < p.m) :
    Calls Try.prog 64 [.int .i64 i, .pointer (some ⟨gp, 0, none⟩)].toArray w0 fun e w => ∃ v, e = .returned v ∧ ∃ r, v = r ∧ Slh r p.m ∧ Sat w0 w [.own r 1 3 p.m (ints (oneP p i))] := by
  have hm := h.L.slh.n0; have hm1 := h.L.slh.n1; have hd := h.D.slh.n0; have hd1 := h.D.slh.n1; have hs := h.is; have hk := h.ik
  have hpd := hok.d; have hpm := hok.m1; have hpm2 := hok.m2; have hs1 := hok.s1; have hs2 := hok.s2; have hk1 := hok.k1; have hk2 := hok.k2; have he := hok.all i i0 i1; unfold Prob.each at he
  have hqd := tdiv_abs (a := p.stock + p.kerf) (d := p.L i + p.kerf) (A := 2100) (by omega) (by omega)
  refine zenG Try.func64 Try.ntmps64 fun w hS => ?_
  refine zsr ?_
  refine zlv xas ?_
  refine zlz ?_
  refine zlv (xfb 0 fd_39_0) ?_
  refine zlv (xlf pl_22 (Ent.holds.cell hG (o := 0) rfl) hS) ?_
  refine zlv (xln sl_22 h.L.slh) ?_
  refine zla (xmk sl_22 el_3 hS) ?_; rintro v1 w ⟨hS, hv1⟩
  replace hS := hS.n1
  refine zlv xas ?_
  refine zlt <| zsq ?_
  refine zdst [0] [] 23 mx_ hS ?_; clear hS; intro w hS
  refine zdv 0 (fun _ => xmv) ?_
  refine zdv 1 (fun _ => xmv) ?_
  refine zdv 2 (fun _ => (xfb 1 fd_39_1)) ?_
  refine zdla 3 (fun w hS => (xlf pl_22 (Ent.holds.cell hG (o := 1) rfl) hS)) ?_
  refine zdv 4 (fun _ => xmv) ?_
  refine zdv 5 (fun _ => (xix (kk := i) sl_22 h.D.slh)) ?_
  refine zdla 6 (fun w hS => (xlr (u := .int .i64 (p.D i)) pl_3 (h.D.below hS.below))) ?_
  have hbv := h.iD i
  refine zdv 7 (fun _ => (xfb 2 fd_39_2)) ?_
  refine zdla 8 (fun w hS => (xlf pl_3 (Ent.holds.cell hG (o := 2) rfl) hS)) ?_
  refine zdv 9 (fun _ => (xfb 3 fd_39_3)) ?_
  refine zdla 10 (fun w hS => (xlf pl_3 (Ent.holds.cell hG (o := 3) rfl) hS)) ?_
  refine zdv 11 (fun _ => (xadd (r := p.stock + p.kerf))) ?_
  refine zdv 12 (fun _ => (xfb 0 fd_39_0)) ?_
  refine zdla 13 (fun w hS => (xlf pl_22 (Ent.holds.cell hG (o := 0) rfl) hS)) ?_
  refine zdv 14 (fun _ => xmv) ?_
  refine zdv 15 (fun _ => (xix (kk := i) sl_22 h.L.slh)) ?_
  refine zdla 16 (fun w hS => (xlr (u := .int .i64 (p.L i)) pl_3 (h.L.below hS.below))) ?_
  have hbv := h.iL i
  refine zdv 17 (fun _ => (xfb 3 fd_39_3)) ?_
  refine zdla 18 (fun w hS => (xlf pl_3 (Ent.holds.cell hG (o := 3) rfl) hS)) ?_
  refine zdv 19 (fun _ => (xadd (r := p.L i + p.kerf))) ?_
  refine zdv 20 (fun _ => (xquo (r := (Int.tdiv (p.stock + p.kerf) (p.L i + p.kerf))))) ?_
  refine zdv 21 (fun _ => (xmin (r := (min (p.D i) (Int.tdiv (p.stock + p.kerf) (p.L i + p.kerf)))))) ?_
  refine zdv 22 (fun _ => (xix (kk := i) sl_22 hv1)) ?_
  refine zde 23 (xso 0 pl_3 hS (upd_ints _ _ _)) ?_; clear hS; rintro w hS
  replace hS := hS.n1
  refine ⟨⟨fun h => absurd h (by decide), hS.nl⟩, ?_⟩
  refine zdd <| ztn <| zsr ?_
  refine zs2 ?_
  refine zlt <| zrt <| zf1 ⟨_, rfl, ?_⟩
  rw [oneP_upd] at hS
  exact ⟨_, rfl, hv1, hS⟩

def stN (p : Prob) : Nat → Int
  | 0 => 0
  | k + 1 => if 0 < p.D k then stN p k + 1 else stN p k
def stL (p : Prob) : Nat → Int → Int
  | 0 => fun _ => 0
  | k + 1 => if 0 < p.D k then gsn (stL p k) (stN p k) p.m else stL p k
def stG (p : Prob) : Nat → Int → Int → Int
  | 0 => fun _ _ => 0
  | k + 1 => if 0 < p.D k then gsn (stG p k) (stN p k) (oneP p k) else stG p k
theorem stN_next (p : Prob) {i : Int} (h : 0 ≤ i) : stN p (i + 1).toNat = if 0 < p.D i then stN p i.toNat + 1 else stN p i.toNat := by
  obtain ⟨k, rfl⟩ := Int.eq_ofNat_of_zero_le h; rw [show ((k : Int) + 1).toNat = k + 1 by omega, Int.toNat_natCast]; rfl
theorem stL_next (p : Prob) {i : Int} (h : 0 ≤ i) : stL p (i + 1).toNat = if 0 < p.D i then gsn (stL p i.toNat) (stN p i.toNat) p.m else stL p i.toNat := by
  obtain ⟨k, rfl⟩ := Int.eq_ofNat_of_zero_le h; rw [show ((k : Int) + 1).toNat = k + 1 by omega, Int.toNat_natCast]; rfl
theorem stG_next (p : Prob) {i : Int} (h : 0 ≤ i) : stG p (i + 1).toNat = if 0 < p.D i then gsn (stG p i.toNat) (stN p i.toNat) (oneP p i) else stG p i.toNat := by
  obtain ⟨k, rfl⟩ := Int.eq_ofNat_of_zero_le h; rw [show ((k : Int) + 1).toNat = k + 1 by omega, Int.toNat_natCast]; rfl
theorem stN_rng (p : Prob) : ∀ k : Nat, 0 ≤ stN p k ∧ stN p k ≤ k
  | 0 => by simp [stN]
  | k + 1 => by
    have := stN_rng p k
    simp only [stN]; split <;> omega
def MStartR (p : Prob) (n : Int) (ln : Int → Int) (g : Int → Int → Int) (e : Int) : Prop := (¬ p.Ok ∧ n = 0 ∧ e = 1) ∨ (p.Ok ∧ n = stN p p.m.toNat ∧ ln = stL p p.m.toNat ∧ g = stG p p.m.toNat ∧ e = 0)

set_option maxRecDepth 20000 in
theorem c_mstart {vL vD : Value} {p : Prob} (w0 : World) (h : PAt w0 vL vD p) :
    Calls Try.prog 28 [.agg #[vL, vD, .int .i64 p.stock, .int .i64 p.kerf]].toArray w0 fun e w => ∃ v, e = .returned v ∧ ∃ r n vv ln g e, v = .tuple #[r, .int .i64 e] ∧ MStartR p n ln g e ∧ Slh r n ∧ Sat w0 w [.own r 1 22 n vv, .sem (Frame.rows 3 n vv ln g)] := by
  have hm := h.L.slh.n0; have hm1 := h.L.slh.n1; have hd := h.D.slh.n0; have hd1 := h.D.slh.n1; have hs := h.is; have hk := h.ik
  refine zenG Try.func28 Try.ntmps28 fun w hS => ?_
  refine zsr ?_
  refine zla (xbx (cs := [_, _, _, _]) hS) ?_; rintro _ w ⟨g1, rfl, hS⟩
  replace hS := hS.n1
  refine zs2 ?_
  refine zlt <| zsq <| zsr ?_
  refine zlv (xls 0 st_39 hS) ?_
  refine zlc (xc0 cl_34) (c_pvalid (p := p) w (h.below hS.below)) ?_; rintro _ w ⟨rfl, hS'⟩
  replace hS := hS.cmp hS'; clear hS'
  refine zlv xnot ?_
  refine zlt ?_
  refine zcif ?_ ?_ <;> intro hc
  ·
   refine zsr ?_
   refine zs2 ?_
   refine zlt <| zrt <| ztr <| zf2 ⟨_, rfl, ?_⟩
   exact ⟨_, 0, fun _ => undef, fun _ => 0, fun _ _ => 0, 1, rfl, .inl ⟨‹¬ p.Ok›, rfl, rfl⟩, slh_nil, ((hS.sub (.cons _ .slnil)).addnil 1 22 (fun _ => undef)).addrows 3 (fun _ => undef) (fun _ => 0) (fun _ _ => 0)⟩
  refine zsk <| ztn <| zsr ?_
  refine zlv xmf ?_
  refine zlv xas ?_
  refine zlz ?_
  refine zlv xas ?_
  refine zlt <| zsq <| zsr ?_
  refine zlv (xfb 1 fd_39_1) ?_
  refine zlv (xlb 0 pl_22 hS) ?_
  refine zlv (xln sl_22 h.D.slh) ?_
  refine zlv xmv ?_
  refine zlt <| zbk ?_
  have hok : p.Ok := by first | assumption | exact Classical.not_not.1 ‹_›
  have hpd := hok.d; have hpm := hok.m1; have hpm2 := hok.m2
  replace hS := hS.addnil 1 22 (fun _ => Value.slice none 0 0)
  replace hS := hS.n2
  replace hS := hS.addrows 3 (fun _ => Value.slice none 0 0) (fun _ => 0) (fun _ _ => 0)
  replace hS := hS.n3
  replace hS := hS.n3
  have hrs0 := fun k (k0 : 0 ≤ k) (k1 : k < 0) => hS.slhIn 2 rfl k0 k1
  refine zlp (fun mm M w => ∃ (nC : Int) (wv : Int → Value) (lC : Int → Int) (gC : Int → Int → Int) (i : Int) (wC : Value), mm = ((p.d - i).toNat) ∧ (0 ≤ i) ∧ (i ≤ p.d) ∧ (nC = stN p i.toNat) ∧ (lC = stL p i.toNat) ∧ (gC = stG p i.toNat) ∧ (Slh wC nC) ∧ M = [(2, .slice none 0 0), (3, .int .i64 0), (4, .func (.func 64) #[] #[.pointer (some ⟨g1, 0, none⟩)]), (5, wC), (13, vD), (14, .int .i64 p.d), (15, .int .i64 i)] ∧ Sat w0 w [.blk g1 [vL, vD, .int .i64 p.stock, .int .i64 p.kerf], .own wC 1 22 nC wv, .sem (Frame.rows 3 nC wv lC gC)]) ⟨0, (fun _ => Value.slice none 0 0), (fun _ => 0), (fun _ _ => 0), 0, (.slice none 0 0), rfl, (by omega), (by omega), ?_, ?_, ?_, ?_, rfl, hS⟩ ?_
  ·
   rfl
  ·
   rfl
  ·
   rfl
  ·
   exact slh_nil
  clear hS w
  rintro mm M w ⟨nC, wv, lC, gC, i, wC, rfl, h0, h1, hnC, hlC, hgC, hwC, rfl, hS⟩
  have hrs1 := fun k (k0 : 0 ≤ k) (k1 : k < nC) => hS.slhIn 2 rfl k0 k1
  have hnr := stN_rng p i.toNat
  refine zsr ?_
  refine zlv xlss ?_
  refine zlt <| zsq ?_
  refine zcif ?_ ?_ <;> intro hc
  ·
   refine zsk <| ztn <| zsq <| zbk <| zsr ?_
   refine zlv xmv ?_
   refine zlv (xix (kk := i) sl_22 h.D.slh) ?_
   refine zlv (xlr (u := .int .i64 (p.D i)) pl_3 (h.D.below hS.below)) ?_
   have hbv := h.iD i
   refine zs2 ?_
   refine zlz ?_
   refine zs2 ?_
   refine zlt ?_
   refine zcif ?_ ?_ <;> intro hc
   ·
    refine zrg ?_
    refine zs3 ?_
    refine zlc (xcc (vs := [_]) cl_64) (c_one (p := p) (i := i) w (hS.holds _ (List.mem_of_getElem? (i := 0) rfl)) (h.below hS.below) hok (by omega) (by omega)) ?_; rintro voo1 w ⟨_, rfl, hvoo1, hS'⟩
    replace hS : Sat w0 w [.blk g1 [vL, vD, .int .i64 p.stock, .int .i64 p.kerf], .own wC 1 22 nC wv, .sem (Frame.rows 3 nC wv lC gC), .own voo1 1 3 p.m (ints (oneP p i))] := hS.comp hS'; clear hS'
    refine zla (xli (n := 1) (len := 1) (pv := [(0, voo1)]) (cs := [voo1]) (c := (fun _ => voo1)) sl_32 el_22 hS (hf := by obtain ⟨_, _, _, _, rfl, _⟩ := hvoo1; kernel_rfl)) ?_; rintro v1 w ⟨hS, hv1⟩
    replace hS := hS.n5
    refine zla (xap 1 (r := nC + 1) sl_32 el_22 hS (hS.rowN 4 rfl) (cat_gsn _ _ _) (h1 := fun _ _ _ => hvoo1.one)) ?_; rintro v2 w ⟨hS, hv2⟩
    replace hS := hS.n5
    replace hS := Sat.merge (l1 := [_, _]) (l2 := []) (l3 := [_]) hS (by omega)
    have hrs2 := fun k (k0 : 0 ≤ k) (k1 : k < nC + 1) => hS.slhIn 2 rfl k0 k1
    replace hS := hS.n4
    refine zlv xas ?_
    refine zln <| zbn <| ztn <| zrg ?_
    refine zlv (xadd (r := i + 1)) ?_
    refine zlv xmv ?_
    refine zln <| zlq ⟨nC + 1, gsn wv nC voo1, gsn lC nC p.m, gsn gC nC (oneP p i), i + 1, v2, rfl, (by omega), (by omega), ?_, ?_, ?_, ?_, rfl, hS.pk [0, 1, 2]⟩
    ·
     rw [stN_next p h0, ← hnC]; first | rw [if_pos (by omega)] | rw [if_neg (by omega)]
    ·
     rw [stL_next p h0, ← hlC, ← hnC]; first | rw [if_pos (by omega)] | rw [if_neg (by omega)]
    ·
     rw [stG_next p h0, ← hgC, ← hnC]; first | rw [if_pos (by omega)] | rw [if_neg (by omega)]
    ·
     exact hv2
   refine zsk <| zbn <| ztn <| zrg ?_
   refine zlv (xadd (r := i + 1)) ?_
   refine zlv xmv ?_
   refine zln <| zlq ⟨nC, wv, lC, gC, i + 1, wC, rfl, (by omega), (by omega), ?_, ?_, ?_, ?_, rfl, hS⟩
   ·
    rw [stN_next p h0, ← hnC]; first | rw [if_pos (by omega)] | rw [if_neg (by omega)]
   ·
    rw [stL_next p h0, ← hlC, ← hnC]; first | rw [if_pos (by omega)] | rw [if_neg (by omega)]
   ·
    rw [stG_next p h0, ← hgC, ← hnC]; first | rw [if_pos (by omega)] | rw [if_neg (by omega)]
   ·
    exact hwC
  refine zxt <| ztx <| ztx <| zbh <| ztn <| zsr ?_
  refine zs3 ?_
  refine zlt <| zrt <| zf2 ⟨_, rfl, ?_⟩
  have him : i = p.m := by omega
  rw [him] at hnC hlC hgC
  exact ⟨_, _, _, _, _, 0, rfl, .inr ⟨hok, hnC, hlC, hgC, rfl⟩, hwC, hS.pk [1, 2]⟩

theorem one_pos {p : Prob} (hok : p.Ok) {i : Int} (i0 : 0 ≤ i) (i1 : i < p.m) : 0 < oneP p i i ↔ 0 < p.D i := by
  have he := hok.all i i0 i1
  unfold Prob.each at he
  have hk := hok.k1
  have hq : 1 ≤ (p.stock + p.kerf).tdiv (p.L i + p.kerf) := by
    rw [Int.tdiv_eq_ediv_of_nonneg (by omega)]
    exact (Int.le_ediv_iff_mul_le (by omega)).2 (by omega)
  unfold oneP; rw [if_pos rfl]; omega

end Go.Proofs.Ytopmifmfecfaaaa
