/- The walk of Normal, of pattern. -/
import Derived.Test.YtopmifmfecfaaaaGv
import Derived.Test.YtopmifmfecfaaaaN4
import Derived.Test.YtopmifmfecfaaaaGz
import Derived.Test.YtopmifmfecfaaaaGu
namespace Go.Proofs.Ytopmifmfecfaaaa
open Go Go.RowKit Go.Proofs.Gw
set_option linter.unusedVariables false

theorem cl_100 : calledT Try.prog 100 = true := by kernel_rfl
theorem cl_101 : calledT Try.prog 101 = true := by kernel_rfl
theorem cl_102 : calledT Try.prog 102 = true := by kernel_rfl
theorem cl_103 : calledT Try.prog 103 = true := by kernel_rfl
theorem cl_116 : calledT Try.prog 116 = true := by kernel_rfl
theorem cl_117 : calledT Try.prog 117 = true := by kernel_rfl
theorem cl_125 : calledT Try.prog 125 = true := by kernel_rfl
theorem cl_126 : calledT Try.prog 126 = true := by kernel_rfl
theorem cl_127 : calledT Try.prog 127 = true := by kernel_rfl
theorem cl_133 : calledT Try.prog 133 = true := by kernel_rfl
theorem cl_137 : calledT Try.prog 137 = true := by kernel_rfl
theorem cl_96 : calledT Try.prog 96 = true := by kernel_rfl
theorem cl_97 : calledT Try.prog 97 = true := by kernel_rfl
theorem cl_98 : calledT Try.prog 98 = true := by kernel_rfl
theorem cl_99 : calledT Try.prog 99 = true := by kernel_rfl
theorem fd_50_0 : fieldT Try.prog 50 0 = some 0 := by kernel_rfl
theorem fd_50_1 : fieldT Try.prog 50 1 = some 1 := by kernel_rfl
theorem sl_42 : sliceT Try.prog 42 = some (50, 2) := by kernel_rfl
set_option maxRecDepth 20000 in
theorem c_swrU {vd : Value} {n : Int} {s : Int → Int} {pv : Int → Value} {cnt : Int → Int} {F : Go.Proofs.Gw.Frame} {a b m : Int} (w0 w : World) (hS : Sat w0 w [.own vd 2 50 n (ucells (fun z9 => pv (s z9)) (fun z9 => cnt (s z9))), .sem F]) (hsl : Slh vd n) (hn8 : n ≤ 100000000) (hone : ∀ x, (pv x).oneCell' = true) (a0 : 0 ≤ a) (m0 : 0 ≤ m) (ab : a + m ≤ b) (bn : b + m ≤ n) :
    Calls Try.prog 137 [vd, .int .i64 a, .int .i64 b, .int .i64 m, .func (.func 102) #[] #[]].toArray w fun e w => ∃ v, e = .returned v ∧ v = .tuple #[] ∧ Sat w0 w [.own vd 2 50 n (ucells (fun z9 => pv ((swr s a b m) z9)) (fun z9 => cnt ((swr s a b m) z9))), .sem F] := by
  refine zenF Try.func137 Try.ntmps137 ?_
  refine zsr ?_
  refine zlv xas ?_
  refine zlt <| zbk <| zlp (fun mm M w => ∃ (t : Int → Int) (i : Int), mm = ((m - i).toNat) ∧ (0 ≤ i) ∧ (i ≤ m) ∧ (t = swr s a b i) ∧ M = [(0, vd), (1, .int .i64 a), (2, .int .i64 b), (3, .int .i64 m), (10, .int .i64 i)] ∧ Sat w0 w [.own vd 2 50 n (ucells (fun z9 => pv (t z9)) (fun z9 => cnt (t z9))), .sem F]) ⟨s, 0, rfl, (by omega), (by omega), ?_, rfl, hS⟩ ?_
  ·
   exact (swr_zero s a b).symm
  clear hS w
  rintro mm M w ⟨t, i, rfl, i0, i1, ht, rfl, hS⟩
  refine zsq <| zsr ?_
  refine zs3 ?_
  refine zlt ?_
  refine zcif ?_ ?_ <;> intro hc
  ·
   refine zsk <| ztn <| zsq <| zbk ?_
   refine zdst [0, 1] [1] 21 mx_ hS ?_; clear hS; intro w hS
   refine zdv 0 (fun _ => xmv) ?_
   refine zdv 1 (fun _ => xmv) ?_
   refine zdv 2 (fun _ => xmv) ?_
   refine zdv 3 (fun _ => (xadd (r := a + i))) ?_
   refine zdv 4 (fun _ => xmv) ?_
   refine zdv 5 (fun _ => xmv) ?_
   refine zdv 6 (fun _ => xmv) ?_
   refine zdv 7 (fun _ => (xadd (r := b + i))) ?_
   refine zdv 8 (fun _ => xmv) ?_
   refine zdv 9 (fun _ => xmv) ?_
   refine zdv 10 (fun _ => xmv) ?_
   refine zdv 11 (fun _ => (xadd (r := b + i))) ?_
   refine zdv 12 (fun _ => (xix (kk := 2 * b + 2 * i) sl_42 hsl)) ?_
   refine zdl 13 (fun w hS => (xlw (cs := [(pv (t (b + i))), .int .i64 (cnt (t (b + i)))]) st_50 (hS.rowN 0 rfl) (ucells_at (k := 2 * b + 2 * i) (i := b + i) (fun z9 => pv (t z9)) (fun z9 => cnt (t z9)) (by omega)))) ?_
   refine zdv 14 (fun _ => xmv) ?_
   refine zdv 15 (fun _ => xmv) ?_
   refine zdv 16 (fun _ => xmv) ?_
   refine zdv 17 (fun _ => (xadd (r := a + i))) ?_
   refine zdv 18 (fun _ => (xix (kk := 2 * a + 2 * i) sl_42 hsl)) ?_
   refine zdl 19 (fun w hS => (xlw (cs := [(pv (t (a + i))), .int .i64 (cnt (t (a + i)))]) st_50 (hS.rowN 0 rfl) (ucells_at (k := 2 * a + 2 * i) (i := a + i) (fun z9 => pv (t z9)) (fun z9 => cnt (t z9)) (by omega)))) ?_
   refine zdv 20 (fun _ => (xix (kk := 2 * a + 2 * i) sl_42 hsl)) ?_
   refine zde 21 (xso2 0 st_50 hS (upd_use (i := a + i) (k := 2 * a + 2 * i) _ _ _ _ (by omega)) (hv := hone _)) ?_; clear hS; rintro w hS
   replace hS := hS.n2
   refine ⟨⟨fun h => absurd h (by decide), hS.pk [1]⟩, ?_⟩
   refine zdv 22 (fun _ => (xix (kk := 2 * b + 2 * i) sl_42 hsl)) ?_
   refine zde 23 (xso2 0 st_50 hS (Eq.trans (upd_use (i := b + i) (k := 2 * b + 2 * i) _ _ _ _ (by omega)) (ucells_swp pv cnt t (a + i) (b + i))) (hv := hone _)) ?_; clear hS; rintro w hS
   replace hS := hS.n2
   refine ⟨⟨fun h => absurd h (by decide), hS.pk [1]⟩, ?_⟩
   refine zdd <| zbn <| ztn <| zrg ?_
   refine zlv xmv ?_
   refine zlv (xadd (r := i + 1)) ?_
   refine zlv xas ?_
   refine zln <| zlq ⟨swp t (a + i) (b + i), i + 1, rfl, (by omega), (by omega), ?_, rfl, hS⟩
   ·
    rw [ht]; exact swr_next i0 (by omega) (by omega) (by omega)
  refine zxt <| ztx <| ztx <| zbh <| zfn0 ⟨_, rfl, ?_⟩
  obtain rfl : i = m := by omega
  subst ht
  exact ⟨rfl, hS⟩

set_option maxRecDepth 20000 in
theorem c_rotU {vd : Value} {n : Int} {s : Int → Int} {pv : Int → Value} {cnt : Int → Int} {F : Go.Proofs.Gw.Frame} {a m b : Int} (w0 w : World) (hS : Sat w0 w [.own vd 2 50 n (ucells (fun z9 => pv (s z9)) (fun z9 => cnt (s z9))), .sem F]) (hsl : Slh vd n) (hn8 : n ≤ 100000000) (hone : ∀ x, (pv x).oneCell' = true) (a0 : 0 ≤ a) (am : a < m) (mb : m < b) (bn : b ≤ n) :
    Calls Try.prog 133 [vd, .int .i64 a, .int .i64 m, .int .i64 b, .func (.func 102) #[] #[]].toArray w fun e w => ∃ v, e = .returned v ∧ v = .tuple #[] ∧ Sat w0 w [.own vd 2 50 n (ucells (fun z9 => pv ((rot s a m b) z9)) (fun z9 => cnt ((rot s a m b) z9))), .sem F] := by
  refine zenF Try.func133 Try.ntmps133 ?_
  refine zsr ?_
  refine zs2 ?_
  refine zlv (xsub (r := m - a)) ?_
  refine zlv xas ?_
  refine zlz ?_
  refine zs2 ?_
  refine zlv (xsub (r := b - m)) ?_
  refine zlv xas ?_
  refine zlt <| zsq <| zbk <| zlp (fun mm M w => ∃ (t : Int → Int) (i : Int) (j : Int), mm = ((i + j).toNat) ∧ (1 ≤ i) ∧ (1 ≤ j) ∧ (a ≤ m - i) ∧ (m + j ≤ b) ∧ (rot t (m - i) m (m + j) = rot s a m b) ∧ M = [(0, vd), (2, .int .i64 m), (4, .func (.func 102) #[] #[]), (10, .int .i64 i), (11, .int .i64 j)] ∧ Sat w0 w [.own vd 2 50 n (ucells (fun z9 => pv (t z9)) (fun z9 => cnt (t z9))), .sem F]) ⟨s, m - a, b - m, rfl, (by omega), (by omega), (by omega), (by omega), ?_, rfl, hS⟩ ?_
  ·
   rw [show m - (m - a) = a by omega, show m + (b - m) = b by omega]
  clear hS w
  rintro mm M w ⟨t, i, j, rfl, i0, j0, ia, jb, hr, rfl, hS⟩
  refine zsq <| zsr ?_
  refine zs3 ?_
  refine zlt ?_
  refine zcif ?_ ?_ <;> intro hc
  ·
   refine zsk <| ztn <| zbk <| zsr ?_
   refine zs3 ?_
   refine zlt ?_
   refine zcif ?_ ?_ <;> intro hc
   ·
    refine zsr ?_
    refine zs3 ?_
    refine zlv (xsub (r := m - i)) ?_
    refine zs3 ?_
    refine zlc (xc0 cl_137) (c_swrU (s := t) (a := m - i) (b := m) (m := j) w0 w hS hsl hn8 hone (by omega) (by omega) (by omega) (by omega)) ?_; rintro _ w ⟨rfl, hS⟩
    replace hS := hS.n2
    refine zlt <| zrg ?_
    refine zs2 ?_
    refine zlv (xsub (r := i - j)) ?_
    refine zlv xas ?_
    refine zln <| zbn <| zlq ⟨(swr t (m - i) m j), i - j, j, rfl, (by omega), (by omega), (by omega), (by omega), ?_, rfl, hS⟩
    ·
     first | (rw [← hr, show m - (i - j) = m - i + j by omega]; exact rot_left (by omega) (by omega)) | (rw [← hr, show m + (j - i) = m + j - i by omega]; exact rot_right (by omega) (by omega))
   refine zsr ?_
   refine zs3 ?_
   refine zlv (xsub (r := m - i)) ?_
   refine zs2 ?_
   refine zlv (xadd (r := m + j)) ?_
   refine zlv xmv ?_
   refine zlv (xsub (r := m + j - i)) ?_
   refine zs2 ?_
   refine zlc (xc0 cl_137) (c_swrU (s := t) (a := m - i) (b := m + j - i) (m := i) w0 w hS hsl hn8 hone (by omega) (by omega) (by omega) (by omega)) ?_; rintro _ w ⟨rfl, hS⟩
   replace hS := hS.n2
   refine zlt <| zrg ?_
   refine zs2 ?_
   refine zlv (xsub (r := j - i)) ?_
   refine zlv xas ?_
   refine zln <| zbn <| zlq ⟨(swr t (m - i) (m + j - i) i), i, j - i, rfl, (by omega), (by omega), (by omega), (by omega), ?_, rfl, hS⟩
   ·
    first | (rw [← hr, show m - (i - j) = m - i + j by omega]; exact rot_left (by omega) (by omega)) | (rw [← hr, show m + (j - i) = m + j - i by omega]; exact rot_right (by omega) (by omega))
  refine zxt <| ztx <| ztx <| zbh <| ztn <| zrg ?_
  refine zs3 ?_
  refine zlv (xsub (r := m - i)) ?_
  refine zs3 ?_
  refine zlc (xc0 cl_137) (c_swrU (s := t) (a := m - i) (b := m) (m := i) w0 w hS hsl hn8 hone (by omega) (by omega) (by omega) (by omega)) ?_; rintro _ w ⟨rfl, hS⟩
  replace hS := hS.n2
  refine zln <| zfn0 ⟨_, rfl, ?_⟩
  have hz : (swr t (m - i) m i) = rot s a m b := by
    rw [← hr, show j = i by omega]; exact rot_even (by omega)
  rw [hz] at hS
  exact ⟨rfl, hS⟩

set_option maxRecDepth 20000 in
theorem c_insU {vd : Value} {n nm : Int} {s : Int → Int} {pv : Int → Value} {cnt : Int → Int} {lt : Int → Int → Prop} {F : Go.Proofs.Gw.Frame} {a b : Int} (w0 w : World) (hS : Sat w0 w [.own vd 2 50 n (ucells (fun z9 => pv (s z9)) (fun z9 => cnt (s z9))), .sem F]) (hsl : Slh vd n) (hn8 : n ≤ 100000000) (hone : ∀ x, (pv x).oneCell' = true) (hcmp : ∀ (w : World) (x y : Int), 0 ≤ x → x < nm → 0 ≤ y → y < nm → Below w0.heap.size w0 w → F.holds w → Calls Try.prog 102 [.agg #[pv x, .int .i64 (cnt x)], .agg #[pv y, .int .i64 (cnt y)]].toArray w fun e w' => ∃ v, e = .returned v ∧ ∃ c : Int, v = .int .i64 c ∧ (c < 0 ↔ lt x y) ∧ Sat w w' []) (hd : ∀ k, 0 ≤ k → k < n → 0 ≤ s k ∧ s k < nm) (hw : Swo lt) (a0 : 0 ≤ a) (ab : a ≤ b) (bn : b ≤ n) (hinc : Incr a b s) :
    Calls Try.prog 125 [vd, .int .i64 a, .int .i64 b, .func (.func 102) #[] #[]].toArray w fun e w => ∃ v, e = .returned v ∧ v = .tuple #[] ∧ ∃ t : Int → Int, PermOn a b s t ∧ Srt (Tie lt) a b t ∧ Sat w0 w [.own vd 2 50 n (ucells (fun z9 => pv (t z9)) (fun z9 => cnt (t z9))), .sem F] := by
  refine zenF Try.func125 Try.ntmps125 ?_
  refine zsr ?_
  refine zlv xmv ?_
  refine zlv (xadd (r := a + 1)) ?_
  refine zlv xas ?_
  refine zlt <| zbk <| zlp (fun mm M w => ∃ (t : Int → Int) (i : Int), mm = ((b - i).toNat) ∧ (a + 1 ≤ i) ∧ (i ≤ b ∨ i = a + 1) ∧ (PermOn a i s t) ∧ (Srt (Tie lt) a i t) ∧ (∀ k, 0 ≤ k → k < n → 0 ≤ t k ∧ t k < nm) ∧ M = [(0, vd), (1, .int .i64 a), (2, .int .i64 b), (3, .func (.func 102) #[] #[]), (8, .int .i64 i)] ∧ Sat w0 w [.own vd 2 50 n (ucells (fun z9 => pv (t z9)) (fun z9 => cnt (t z9))), .sem F]) ⟨s, a + 1, rfl, (by omega), (by omega), ?_, ?_, ?_, rfl, hS⟩ ?_
  ·
   exact .refl _ _ _
  ·
   intro p q p0 pq q1; omega
  ·
   exact hd
  clear hS w
  rintro mm M w ⟨t, i, rfl, i0, i1, hp, hs, hd1, rfl, hS⟩
  refine zsq <| zsr ?_
  refine zs3 ?_
  refine zlt ?_
  refine zcif ?_ ?_ <;> intro hc
  ·
   refine zsk <| ztn <| zsq <| zbk <| zsr ?_
   refine zs2 ?_
   refine zlt <| zbk <| zlp (fun mm M w => ∃ (t2 : Int → Int) (j : Int), mm = ((j - a).toNat) ∧ (a ≤ j) ∧ (j ≤ i) ∧ (Ins lt a i j t t2) ∧ (∀ k, 0 ≤ k → k < n → 0 ≤ t2 k ∧ t2 k < nm) ∧ M = [(0, vd), (1, .int .i64 a), (2, .int .i64 b), (3, .func (.func 102) #[] #[]), (8, .int .i64 i), (9, .int .i64 j)] ∧ Sat w0 w [.own vd 2 50 n (ucells (fun z9 => pv (t2 z9)) (fun z9 => cnt (t2 z9))), .sem F]) ⟨t, i, rfl, (by omega), (by omega), ?_, ?_, rfl, hS⟩ ?_
   ·
    exact Ins.start (by omega) hs (ins_big hp hinc (by omega))
   ·
    exact hd1
   clear hS w
   rintro mm M w ⟨t2, j, rfl, j0, j1, hI, hd2, rfl, hS⟩
   refine zsq <| zsq ?_
   refine zdst [0, 1] [0, 1] 1000 mx_ hS ?_; clear hS; intro w hS
   refine zdv 0 (fun _ => xmv) ?_
   refine zdv 1 (fun _ => xmv) ?_
   refine zdv 2 (fun _ => xgtr) ?_
   refine zdv 3 (fun _ => xmv) ?_
   refine zdb 21 ?_ ?_ <;> intro hc
   ·
    refine zdv 4 (fun _ => xmv) ?_
    refine zdv 5 (fun _ => xmv) ?_
    refine zdv 6 (fun _ => xmv) ?_
    refine zdv 7 (fun _ => (xix (kk := 2 * j) sl_42 hsl)) ?_
    refine zdla 8 (fun w hS => (xlw (cs := [(pv (t2 j)), .int .i64 (cnt (t2 j))]) st_50 (hS.rowN 0 rfl) (ucells_at (k := 2 * j) (i := j) (fun z9 => pv (t2 z9)) (fun z9 => cnt (t2 z9)) (by omega)))) ?_
    refine zdv 9 (fun _ => xmv) ?_
    refine zdv 10 (fun _ => xmv) ?_
    refine zdv 11 (fun _ => (xsub (r := j - 1))) ?_
    refine zdv 12 (fun _ => (xix (kk := 2 * j - 2) sl_42 hsl)) ?_
    refine zdla 13 (fun w hS => (xlw (cs := [(pv (t2 (j - 1))), .int .i64 (cnt (t2 (j - 1)))]) st_50 (hS.rowN 0 rfl) (ucells_at (k := 2 * j - 2) (i := j - 1) (fun z9 => pv (t2 z9)) (fun z9 => cnt (t2 z9)) (by omega)))) ?_
    refine zdc 14 (xc0 cl_102) (hcmp w (t2 j) (t2 (j - 1)) (hd2 j (by omega) (by omega)).1 (hd2 j (by omega) (by omega)).2 (hd2 (j - 1) (by omega) (by omega)).1 (hd2 (j - 1) (by omega) (by omega)).2 hS.below (hS.holds _ (List.mem_of_getElem? (i := 1) rfl))) ?_; rintro _ w ⟨c1, rfl, hc1, hS'⟩
    replace hS := hS.cmp hS'; clear hS'
    refine ⟨⟨fun _ => hS, hS⟩, ?_⟩
    refine zdv 15 (fun _ => xlss) ?_
    refine zdv 16 (fun _ => xpt) ?_
    refine zdd <| ztn ?_
    refine zcif ?_ ?_ <;> intro hc
    ·
     refine zsk <| ztn <| zsq <| zbk ?_
     refine zdst [0, 1] [1] 15 mx_ hS ?_; clear hS; intro w hS
     refine zdv 0 (fun _ => xmv) ?_
     refine zdv 1 (fun _ => xmv) ?_
     refine zdv 2 (fun _ => xmv) ?_
     refine zdv 3 (fun _ => xmv) ?_
     refine zdv 4 (fun _ => (xsub (r := j - 1))) ?_
     refine zdv 5 (fun _ => xmv) ?_
     refine zdv 6 (fun _ => xmv) ?_
     refine zdv 7 (fun _ => (xsub (r := j - 1))) ?_
     refine zdv 8 (fun _ => (xix (kk := 2 * j - 2) sl_42 hsl)) ?_
     refine zdl 9 (fun w hS => (xlw (cs := [(pv (t2 (j - 1))), .int .i64 (cnt (t2 (j - 1)))]) st_50 (hS.rowN 0 rfl) (ucells_at (k := 2 * j - 2) (i := j - 1) (fun z9 => pv (t2 z9)) (fun z9 => cnt (t2 z9)) (by omega)))) ?_
     refine zdv 10 (fun _ => xmv) ?_
     refine zdv 11 (fun _ => xmv) ?_
     refine zdv 12 (fun _ => (xix (kk := 2 * j) sl_42 hsl)) ?_
     refine zdl 13 (fun w hS => (xlw (cs := [(pv (t2 j)), .int .i64 (cnt (t2 j))]) st_50 (hS.rowN 0 rfl) (ucells_at (k := 2 * j) (i := j) (fun z9 => pv (t2 z9)) (fun z9 => cnt (t2 z9)) (by omega)))) ?_
     refine zdv 14 (fun _ => (xix (kk := 2 * j) sl_42 hsl)) ?_
     refine zde 15 (xso2 0 st_50 hS (upd_use (i := j) (k := 2 * j) _ _ _ _ (by omega)) (hv := hone _)) ?_; clear hS; rintro w hS
     replace hS := hS.n2
     refine ⟨⟨fun h => absurd h (by decide), hS.pk [1]⟩, ?_⟩
     refine zdv 16 (fun _ => (xix (kk := 2 * j - 2) sl_42 hsl)) ?_
     refine zde 17 (xso2 0 st_50 hS (Eq.trans (upd_use (i := j - 1) (k := 2 * j - 2) _ _ _ _ (by omega)) (ucells_swp pv cnt t2 j (j - 1))) (hv := hone _)) ?_; clear hS; rintro w hS
     replace hS := hS.n2
     refine ⟨⟨fun h => absurd h (by decide), hS.pk [1]⟩, ?_⟩
     refine zdd <| zbn <| ztn <| zrg ?_
     refine zlv xmv ?_
     refine zlv (xsub (r := j - 1)) ?_
     refine zlv xas ?_
     refine zln <| zlq ⟨swp t2 j (j - 1), j - 1, rfl, (by omega), (by omega), ?_, ?_, rfl, hS⟩
     ·
      exact hI.step (by omega) (by omega) (hc1.1 ‹c1 < 0›)
     ·
      exact (swp_perm (lo := a) (hi := n) (by omega) (by omega) (by omega) (by omega)).dom a0 (.inl (by omega)) hd2
    refine zxt <| ztx <| ztx <| zbh <| zbn <| ztn <| zrg ?_
    refine zlv xmv ?_
    refine zlv (xadd (r := i + 1)) ?_
    refine zlv xas ?_
    refine zln <| zlq ⟨t2, i + 1, rfl, (by omega), (by omega), ?_, ?_, ?_, rfl, hS⟩
    ·
     exact (hp.mono (by omega) (by omega)).trans hI.perm
    ·
     exact hI.fin hw (by omega) (by omega) (by first | exact .inl (by omega) | exact .inr fun h => absurd (hc1.2 h) ‹¬ c1 < 0›)
    ·
     exact hd2
   refine zdof 4 ?_
   refine zdof 5 ?_
   refine zdof 6 ?_
   refine zdof 7 ?_
   refine zdof 8 ?_
   refine zdof 9 ?_
   refine zdof 10 ?_
   refine zdof 11 ?_
   refine zdof 12 ?_
   refine zdof 13 ?_
   refine zdof 14 ?_
   refine zdof 15 ?_
   refine zdv 16 (fun _ => xpf) ?_
   refine zdd <| ztn <| zcf <| zxt <| ztx <| ztx <| zbh <| zbn <| ztn <| zrg ?_
   refine zlv xmv ?_
   refine zlv (xadd (r := i + 1)) ?_
   refine zlv xas ?_
   refine zln <| zlq ⟨t2, i + 1, rfl, (by omega), (by omega), ?_, ?_, ?_, rfl, hS⟩
   ·
    exact (hp.mono (by omega) (by omega)).trans hI.perm
   ·
    exact hI.fin hw (by omega) (by omega) (by first | exact .inl (by omega) | exact .inr fun h => absurd (hc1.2 h) ‹¬ c1 < 0›)
   ·
    exact hd2
  refine zxt <| ztx <| ztx <| zbh <| zfn0 ⟨_, rfl, ?_⟩
  refine ⟨rfl, t, ?_, ?_, hS⟩
  · by_cases hab : i ≤ b
    · exact hp.mono (by omega) (by omega)
    · obtain ⟨p_, q_, e1, e2, e3⟩ := hp
      exact ⟨p_, q_, e1, fun k hk => by
        by_cases hka : k = a
        · subst hka
          apply Classical.byContradiction; intro hne
          have h5 := e2 (p_ k) (by omega)
          have h6 := congrArg q_ h5
          rw [(e1 _).2, (e1 _).2] at h6; exact hne h6
        · exact e2 k (by omega), e3⟩
  · exact hs.mono (by omega) (by omega)

set_option maxHeartbeats 4000000 in
set_option maxRecDepth 20000 in
theorem c_symU {vd : Value} {n nm : Int} {pv : Int → Value} {cnt : Int → Int} {lt : Int → Int → Prop} {F : Go.Proofs.Gw.Frame} (hsl : Slh vd n) (hn8 : n ≤ 100000000) (hone : ∀ x, (pv x).oneCell' = true) (hw : Swo lt) (N : Nat) : ∀ {s : Int → Int} {a m b : Int} (w0 w : World) (hS : Sat w0 w [.own vd 2 50 n (ucells (fun z9 => pv (s z9)) (fun z9 => cnt (s z9))), .sem F]) (hcmp : ∀ (w : World) (x y : Int), 0 ≤ x → x < nm → 0 ≤ y → y < nm → Below w0.heap.size w0 w → F.holds w → Calls Try.prog 102 [.agg #[pv x, .int .i64 (cnt x)], .agg #[pv y, .int .i64 (cnt y)]].toArray w fun e w' => ∃ v, e = .returned v ∧ ∃ c : Int, v = .int .i64 c ∧ (c < 0 ↔ lt x y) ∧ Sat w w' []) (hd : ∀ k, 0 ≤ k → k < n → 0 ≤ s k ∧ s k < nm) (a0 : 0 ≤ a) (am : a < m) (mb : m < b) (bn : b ≤ n) (h1 : Srt (Tie lt) a m s) (h2 : Srt (Tie lt) m b s) (hp : Parted a m b s) (hN : (b - a).toNat < N),
    Calls Try.prog 126 [vd, .int .i64 a, .int .i64 m, .int .i64 b, .func (.func 102) #[] #[]].toArray w fun e w => ∃ v, e = .returned v ∧ v = .tuple #[] ∧ ∃ t : Int → Int, PermOn a b s t ∧ Srt (Tie lt) a b t ∧ Sat w0 w [.own vd 2 50 n (ucells (fun z9 => pv (t z9)) (fun z9 => cnt (t z9))), .sem F] := by
  induction N with
  | zero => intros; omega
  | succ N ih =>
    intro s a m b w0 w hS hcmp hd a0 am mb bn h1 h2 hp hN
    refine zenF Try.func126 Try.ntmps126 ?_
    refine zsq <| zsr ?_
    refine zs2 ?_
    refine zlv (xsub (r := m - a)) ?_
    refine zlv xeql ?_
    refine zlt ?_
    refine zcif ?_ ?_ <;> intro hc
    ·
     refine zsr ?_
     refine zs2 ?_
     refine zlz ?_
     refine zs2 ?_
     refine zlt <| zsq <| zbk <| zlp (fun mm M w => ∃ (i : Int) (j : Int), mm = ((j - i).toNat) ∧ (m ≤ i) ∧ (i ≤ j) ∧ (j ≤ b) ∧ (i = a + 1 ∨ lt (s (i - 1)) (s a)) ∧ (j = b ∨ ¬ lt (s j) (s a)) ∧ M = [(0, vd), (1, .int .i64 a), (2, .int .i64 m), (3, .int .i64 b), (4, .func (.func 102) #[] #[]), (10, .int .i64 i), (11, .int .i64 j)] ∧ Sat w0 w [.own vd 2 50 n (ucells (fun z9 => pv (s z9)) (fun z9 => cnt (s z9))), .sem F]) ⟨m, b, rfl, (by omega), (by omega), (by omega), ?_, ?_, rfl, hS⟩ ?_
     ·
      exact .inl (by omega)
     ·
      exact .inl rfl
     clear hS w
     rintro mm M w ⟨i, j, rfl, i0, ij, j1, hi, hj, rfl, hS⟩
     refine zsq <| zsr ?_
     refine zs3 ?_
     refine zlt ?_
     refine zcif ?_ ?_ <;> intro hc
     ·
      refine zsk <| ztn <| zbk <| zsr ?_
      refine zs2 ?_
      refine zlv (xadd (r := i + j)) ?_
      refine zlv (xcv so_3 it_112) ?_
      refine zlv (xshr1 (r := ((i + j) / 2))) ?_
      refine zlv (xcv so_112 it_3) ?_
      refine zlv xas ?_
      refine zlt <| zsq ?_
      refine zdst [0, 1] [0, 1] 1000 mx_ hS ?_; clear hS; intro w hS
      refine zdv 0 (fun _ => xmv) ?_
      refine zdv 1 (fun _ => xmv) ?_
      refine zdv 2 (fun _ => xmv) ?_
      refine zdv 3 (fun _ => (xix (kk := 2 * ((i + j) / 2)) sl_42 hsl)) ?_
      refine zdla 4 (fun w hS => (xlw (cs := [(pv (s ((i + j) / 2))), .int .i64 (cnt (s ((i + j) / 2)))]) st_50 (hS.rowN 0 rfl) (ucells_at (k := 2 * ((i + j) / 2)) (i := ((i + j) / 2)) (fun z9 => pv (s z9)) (fun z9 => cnt (s z9)) (by omega)))) ?_
      refine zdv 5 (fun _ => xmv) ?_
      refine zdv 6 (fun _ => xmv) ?_
      refine zdv 7 (fun _ => (xix (kk := 2 * a) sl_42 hsl)) ?_
      refine zdla 8 (fun w hS => (xlw (cs := [(pv (s a)), .int .i64 (cnt (s a))]) st_50 (hS.rowN 0 rfl) (ucells_at (k := 2 * a) (i := a) (fun z9 => pv (s z9)) (fun z9 => cnt (s z9)) (by omega)))) ?_
      refine zdc 9 (xc0 cl_102) (hcmp w (s ((i + j) / 2)) (s a) (hd ((i + j) / 2) (by omega) (by omega)).1 (hd ((i + j) / 2) (by omega) (by omega)).2 (hd a (by omega) (by omega)).1 (hd a (by omega) (by omega)).2 hS.below (hS.holds _ (List.mem_of_getElem? (i := 1) rfl))) ?_; rintro _ w ⟨c1, rfl, hc1, hS'⟩
      replace hS := hS.cmp hS'; clear hS'
      refine ⟨⟨fun _ => hS, hS⟩, ?_⟩
      refine zdv 10 (fun _ => xlss) ?_
      refine zdd <| ztn ?_
      refine zcif ?_ ?_ <;> intro hc
      ·
       refine zrg ?_
       refine zlv xmv ?_
       refine zlv (xadd (r := ((i + j) / 2) + 1)) ?_
       refine zlv xas ?_
       refine zln <| zbn <| zlq ⟨((i + j) / 2) + 1, j, rfl, (by omega), (by omega), (by omega), ?_, ?_, rfl, hS⟩
       ·
        first | exact hi | (right; rw [show (i + j) / 2 + 1 - 1 = (i + j) / 2 by omega]; exact hc1.1 ‹c1 < 0›)
       ·
        first | exact hj | exact .inr fun h => absurd (hc1.2 h) ‹¬ c1 < 0›
      refine zrg ?_
      refine zs2 ?_
      refine zln <| zbn <| zlq ⟨i, ((i + j) / 2), rfl, (by omega), (by omega), (by omega), ?_, ?_, rfl, hS⟩
      ·
       first | exact hi | (right; rw [show (i + j) / 2 + 1 - 1 = (i + j) / 2 by omega]; exact hc1.1 ‹c1 < 0›)
      ·
       first | exact hj | exact .inr fun h => absurd (hc1.2 h) ‹¬ c1 < 0›
     refine zxt <| ztx <| ztx <| zbh <| ztn <| zsq <| zsr ?_
     refine zs2 ?_
     refine zlt <| zbk <| zlp (fun mm M w => ∃ (t : Int → Int) (k : Int), mm = ((i - 1 - k).toNat) ∧ (a ≤ k) ∧ (k ≤ i - 1) ∧ (t = rot s a (a + 1) (k + 1)) ∧ M = [(0, vd), (1, .int .i64 a), (2, .int .i64 m), (3, .int .i64 b), (4, .func (.func 102) #[] #[]), (10, .int .i64 i), (13, .int .i64 k)] ∧ Sat w0 w [.own vd 2 50 n (ucells (fun z9 => pv (t z9)) (fun z9 => cnt (t z9))), .sem F]) ⟨s, a, rfl, (by omega), (by omega), ?_, rfl, hS⟩ ?_
     ·
      exact (shl_zero s a).symm
     clear hS w
     rintro mm M w ⟨t, k, rfl, k0, k1, ht, rfl, hS⟩
     refine zsq <| zsr ?_
     refine zs2 ?_
     refine zlv (xsub (r := i - 1)) ?_
     refine zlv xlss ?_
     refine zlt ?_
     refine zcif ?_ ?_ <;> intro hc
     ·
      refine zsk <| ztn <| zsq <| zbk ?_
      refine zdst [0, 1] [1] 15 mx_ hS ?_; clear hS; intro w hS
      refine zdv 0 (fun _ => xmv) ?_
      refine zdv 1 (fun _ => xmv) ?_
      refine zdv 2 (fun _ => xmv) ?_
      refine zdv 3 (fun _ => xmv) ?_
      refine zdv 4 (fun _ => (xadd (r := k + 1))) ?_
      refine zdv 5 (fun _ => xmv) ?_
      refine zdv 6 (fun _ => xmv) ?_
      refine zdv 7 (fun _ => (xadd (r := k + 1))) ?_
      refine zdv 8 (fun _ => (xix (kk := 2 * k + 2) sl_42 hsl)) ?_
      refine zdl 9 (fun w hS => (xlw (cs := [(pv (t (k + 1))), .int .i64 (cnt (t (k + 1)))]) st_50 (hS.rowN 0 rfl) (ucells_at (k := 2 * k + 2) (i := k + 1) (fun z9 => pv (t z9)) (fun z9 => cnt (t z9)) (by omega)))) ?_
      refine zdv 10 (fun _ => xmv) ?_
      refine zdv 11 (fun _ => xmv) ?_
      refine zdv 12 (fun _ => (xix (kk := 2 * k) sl_42 hsl)) ?_
      refine zdl 13 (fun w hS => (xlw (cs := [(pv (t k)), .int .i64 (cnt (t k))]) st_50 (hS.rowN 0 rfl) (ucells_at (k := 2 * k) (i := k) (fun z9 => pv (t z9)) (fun z9 => cnt (t z9)) (by omega)))) ?_
      refine zdv 14 (fun _ => (xix (kk := 2 * k) sl_42 hsl)) ?_
      refine zde 15 (xso2 0 st_50 hS (upd_use (i := k) (k := 2 * k) _ _ _ _ (by omega)) (hv := hone _)) ?_; clear hS; rintro w hS
      replace hS := hS.n2
      refine ⟨⟨fun h => absurd h (by decide), hS.pk [1]⟩, ?_⟩
      refine zdv 16 (fun _ => (xix (kk := 2 * k + 2) sl_42 hsl)) ?_
      refine zde 17 (xso2 0 st_50 hS (Eq.trans (upd_use (i := k + 1) (k := 2 * k + 2) _ _ _ _ (by omega)) (ucells_swp pv cnt t k (k + 1))) (hv := hone _)) ?_; clear hS; rintro w hS
      replace hS := hS.n2
      refine ⟨⟨fun h => absurd h (by decide), hS.pk [1]⟩, ?_⟩
      refine zdd <| zbn <| ztn <| zrg ?_
      refine zlv xmv ?_
      refine zlv (xadd (r := k + 1)) ?_
      refine zlv xas ?_
      refine zln <| zlq ⟨swp t k (k + 1), k + 1, rfl, (by omega), (by omega), ?_, rfl, hS⟩
      ·
       rw [ht]; exact shl_next (by omega)
     refine zxt <| ztx <| ztx <| zbh <| ztn <| zrt <| ztr <| zf0 ⟨_, rfl, ?_⟩
     have hki : k + 1 = i := by omega
     rw [hki] at ht
     refine ⟨rfl, t, ?_, ?_, hS⟩
     · rw [ht]; exact (rot_perm (by omega) (by omega)).mono (by omega) (by omega)
     · rw [ht]; obtain rfl : m = a + 1 := by omega
       exact merge_one hw h2 (fun j j0 j1 => hp a j (by omega) (by omega) j0 j1) (by omega) (by omega) hi (by rw [show i = j by omega]; exact hj)
    refine zsk <| ztn <| zsq <| zsr ?_
    refine zs2 ?_
    refine zlv (xsub (r := b - m)) ?_
    refine zlv xeql ?_
    refine zlt ?_
    refine zcif ?_ ?_ <;> intro hc
    ·
     refine zsr ?_
     refine zs2 ?_
     refine zlz ?_
     refine zs2 ?_
     refine zlt <| zsq <| zbk <| zlp (fun mm M w => ∃ (i : Int) (j : Int), mm = ((j - i).toNat) ∧ (a ≤ i) ∧ (i ≤ j) ∧ (j ≤ m) ∧ (i = a ∨ ¬ lt (s m) (s (i - 1))) ∧ (j = m ∨ lt (s m) (s j)) ∧ M = [(0, vd), (1, .int .i64 a), (2, .int .i64 m), (3, .int .i64 b), (4, .func (.func 102) #[] #[]), (14, .int .i64 i), (15, .int .i64 j)] ∧ Sat w0 w [.own vd 2 50 n (ucells (fun z9 => pv (s z9)) (fun z9 => cnt (s z9))), .sem F]) ⟨a, m, rfl, (by omega), (by omega), (by omega), ?_, ?_, rfl, hS⟩ ?_
     ·
      exact .inl rfl
     ·
      exact .inl rfl
     clear hS w
     rintro mm M w ⟨i, j, rfl, i0, ij, j1, hi, hj, rfl, hS⟩
     refine zsq <| zsr ?_
     refine zs3 ?_
     refine zlt ?_
     refine zcif ?_ ?_ <;> intro hc
     ·
      refine zsk <| ztn <| zbk <| zsr ?_
      refine zs2 ?_
      refine zlv (xadd (r := i + j)) ?_
      refine zlv (xcv so_3 it_112) ?_
      refine zlv (xshr1 (r := ((i + j) / 2))) ?_
      refine zlv (xcv so_112 it_3) ?_
      refine zlv xas ?_
      refine zlt <| zsq ?_
      refine zdst [0, 1] [0, 1] 1000 mx_ hS ?_; clear hS; intro w hS
      refine zdv 0 (fun _ => xmv) ?_
      refine zdv 1 (fun _ => xmv) ?_
      refine zdv 2 (fun _ => xmv) ?_
      refine zdv 3 (fun _ => (xix (kk := 2 * m) sl_42 hsl)) ?_
      refine zdla 4 (fun w hS => (xlw (cs := [(pv (s m)), .int .i64 (cnt (s m))]) st_50 (hS.rowN 0 rfl) (ucells_at (k := 2 * m) (i := m) (fun z9 => pv (s z9)) (fun z9 => cnt (s z9)) (by omega)))) ?_
      refine zdv 5 (fun _ => xmv) ?_
      refine zdv 6 (fun _ => xmv) ?_
      refine zdv 7 (fun _ => (xix (kk := 2 * ((i + j) / 2)) sl_42 hsl)) ?_
      refine zdla 8 (fun w hS => (xlw (cs := [(pv (s ((i + j) / 2))), .int .i64 (cnt (s ((i + j) / 2)))]) st_50 (hS.rowN 0 rfl) (ucells_at (k := 2 * ((i + j) / 2)) (i := ((i + j) / 2)) (fun z9 => pv (s z9)) (fun z9 => cnt (s z9)) (by omega)))) ?_
      refine zdc 9 (xc0 cl_102) (hcmp w (s m) (s ((i + j) / 2)) (hd m (by omega) (by omega)).1 (hd m (by omega) (by omega)).2 (hd ((i + j) / 2) (by omega) (by omega)).1 (hd ((i + j) / 2) (by omega) (by omega)).2 hS.below (hS.holds _ (List.mem_of_getElem? (i := 1) rfl))) ?_; rintro _ w ⟨c1, rfl, hc1, hS'⟩
      replace hS := hS.cmp hS'; clear hS'
      refine ⟨⟨fun _ => hS, hS⟩, ?_⟩
      refine zdv 10 (fun _ => xlss) ?_
      refine zdv 11 (fun _ => xnot) ?_
      refine zdd <| ztn ?_
      refine zcif ?_ ?_ <;> intro hc
      ·
       refine zrg ?_
       refine zlv xmv ?_
       refine zlv (xadd (r := ((i + j) / 2) + 1)) ?_
       refine zlv xas ?_
       refine zln <| zbn <| zlq ⟨((i + j) / 2) + 1, j, rfl, (by omega), (by omega), (by omega), ?_, ?_, rfl, hS⟩
       ·
        first | exact hi | (right; rw [show (i + j) / 2 + 1 - 1 = (i + j) / 2 by omega]; exact fun h => absurd (hc1.2 h) ‹¬ c1 < 0›)
       ·
        first | exact hj | exact .inr (hc1.1 (Classical.not_not.1 ‹_›))
      refine zrg ?_
      refine zs2 ?_
      refine zln <| zbn <| zlq ⟨i, ((i + j) / 2), rfl, (by omega), (by omega), (by omega), ?_, ?_, rfl, hS⟩
      ·
       first | exact hi | (right; rw [show (i + j) / 2 + 1 - 1 = (i + j) / 2 by omega]; exact fun h => absurd (hc1.2 h) ‹¬ c1 < 0›)
      ·
       first | exact hj | exact .inr (hc1.1 (Classical.not_not.1 ‹_›))
     refine zxt <| ztx <| ztx <| zbh <| ztn <| zsq <| zsr ?_
     refine zs2 ?_
     refine zlt <| zbk <| zlp (fun mm M w => ∃ (t : Int → Int) (k : Int), mm = ((k - i).toNat) ∧ (i ≤ k) ∧ (k ≤ m) ∧ (t = rot s k m (m + 1)) ∧ M = [(0, vd), (1, .int .i64 a), (2, .int .i64 m), (3, .int .i64 b), (4, .func (.func 102) #[] #[]), (14, .int .i64 i), (17, .int .i64 k)] ∧ Sat w0 w [.own vd 2 50 n (ucells (fun z9 => pv (t z9)) (fun z9 => cnt (t z9))), .sem F]) ⟨s, m, rfl, (by omega), (by omega), ?_, rfl, hS⟩ ?_
     ·
      exact (shr_zero s m).symm
     clear hS w
     rintro mm M w ⟨t, k, rfl, k0, k1, ht, rfl, hS⟩
     refine zsq <| zsr ?_
     refine zs3 ?_
     refine zlt ?_
     refine zcif ?_ ?_ <;> intro hc
     ·
      refine zsk <| ztn <| zsq <| zbk ?_
      refine zdst [0, 1] [1] 15 mx_ hS ?_; clear hS; intro w hS
      refine zdv 0 (fun _ => xmv) ?_
      refine zdv 1 (fun _ => xmv) ?_
      refine zdv 2 (fun _ => xmv) ?_
      refine zdv 3 (fun _ => xmv) ?_
      refine zdv 4 (fun _ => (xsub (r := k - 1))) ?_
      refine zdv 5 (fun _ => xmv) ?_
      refine zdv 6 (fun _ => xmv) ?_
      refine zdv 7 (fun _ => (xsub (r := k - 1))) ?_
      refine zdv 8 (fun _ => (xix (kk := 2 * k - 2) sl_42 hsl)) ?_
      refine zdl 9 (fun w hS => (xlw (cs := [(pv (t (k - 1))), .int .i64 (cnt (t (k - 1)))]) st_50 (hS.rowN 0 rfl) (ucells_at (k := 2 * k - 2) (i := k - 1) (fun z9 => pv (t z9)) (fun z9 => cnt (t z9)) (by omega)))) ?_
      refine zdv 10 (fun _ => xmv) ?_
      refine zdv 11 (fun _ => xmv) ?_
      refine zdv 12 (fun _ => (xix (kk := 2 * k) sl_42 hsl)) ?_
      refine zdl 13 (fun w hS => (xlw (cs := [(pv (t k)), .int .i64 (cnt (t k))]) st_50 (hS.rowN 0 rfl) (ucells_at (k := 2 * k) (i := k) (fun z9 => pv (t z9)) (fun z9 => cnt (t z9)) (by omega)))) ?_
      refine zdv 14 (fun _ => (xix (kk := 2 * k) sl_42 hsl)) ?_
      refine zde 15 (xso2 0 st_50 hS (upd_use (i := k) (k := 2 * k) _ _ _ _ (by omega)) (hv := hone _)) ?_; clear hS; rintro w hS
      replace hS := hS.n2
      refine ⟨⟨fun h => absurd h (by decide), hS.pk [1]⟩, ?_⟩
      refine zdv 16 (fun _ => (xix (kk := 2 * k - 2) sl_42 hsl)) ?_
      refine zde 17 (xso2 0 st_50 hS (Eq.trans (upd_use (i := k - 1) (k := 2 * k - 2) _ _ _ _ (by omega)) (ucells_swp pv cnt t k (k - 1))) (hv := hone _)) ?_; clear hS; rintro w hS
      replace hS := hS.n2
      refine ⟨⟨fun h => absurd h (by decide), hS.pk [1]⟩, ?_⟩
      refine zdd <| zbn <| ztn <| zrg ?_
      refine zlv xmv ?_
      refine zlv (xsub (r := k - 1)) ?_
      refine zlv xas ?_
      refine zln <| zlq ⟨swp t k (k - 1), k - 1, rfl, (by omega), (by omega), ?_, rfl, hS⟩
      ·
       rw [ht]; exact shr_next (by omega)
     refine zxt <| ztx <| ztx <| zbh <| ztn <| zrt <| ztr <| zf0 ⟨_, rfl, ?_⟩
     have hki : k = i := by omega
     rw [hki] at ht
     refine ⟨rfl, t, ?_, ?_, hS⟩
     · rw [ht]; exact (rot_perm (by omega) (by omega)).mono (by omega) (by omega)
     · rw [ht]; obtain rfl : b = m + 1 := by omega
       exact merge_last hw h1 (fun i i0 i1 => hp i m i0 i1 (by omega) (by omega)) (by omega) (by omega) hi (by rw [show i = j by omega]; exact hj)
    refine zsk <| ztn <| zsr ?_
    refine zs2 ?_
    refine zlv (xadd (r := a + b)) ?_
    refine zlv (xcv so_3 it_112) ?_
    refine zlv (xshr1 (r := ((a + b) / 2))) ?_
    refine zlv (xcv so_112 it_3) ?_
    refine zlv xas ?_
    refine zlz ?_
    refine zs2 ?_
    refine zlv (xadd (r := ((a + b) / 2) + m)) ?_
    refine zlv xas ?_
    refine zlz ?_
    refine zs2 ?_
    refine zlt <| zsq <| ?_
    refine zgcut (fun M w => ∃ (mid : Int) (s0 : Int) (r0 : Int), (mid = ((a + b) / 2)) ∧ ((mid < m ∧ s0 = mid + m - b ∧ r0 = mid) ∨ (m ≤ mid ∧ s0 = a ∧ r0 = m)) ∧ M = [(0, vd), (1, .int .i64 a), (2, .int .i64 m), (3, .int .i64 b), (4, .func (.func 102) #[] #[]), (25, .int .i64 m), (26, .int .i64 a), (27, .int .i64 (m - a)), (28, B (m - a = 1)), (77, .int .i64 b), (78, .int .i64 m), (79, .int .i64 (b - m)), (80, B (b - m = 1)), (129, .int .i64 a), (130, .int .i64 b), (131, .int .i64 (a + b)), (132, .int .u64 (a + b)), (133, .int .u64 ((a + b) / 2)), (134, .int .i64 ((a + b) / 2)), (18, .int .i64 mid), (135, .int .i64 ((a + b) / 2)), (136, .int .i64 m), (137, .int .i64 (((a + b) / 2) + m)), (19, .int .i64 (mid + m)), (20, .int .i64 s0), (21, .int .i64 r0)] ∧ Sat w0 w [.own vd 2 50 n (ucells (fun z9 => pv (s z9)) (fun z9 => cnt (s z9))), .sem F]) ?_ ?_
    ·
     refine zsr ?_
     refine zs3 ?_
     refine zlt ?_
     refine zcif ?_ ?_ <;> intro hc
     ·
      refine zsr ?_
      refine zs2 ?_
      refine zlv (xsub (r := ((a + b) / 2) + m - b)) ?_
      refine zlv xas ?_
      refine zlt <| zrg ?_
      refine zs2 ?_
      refine zln <| zgj ⟨((a + b) / 2), (((a + b) / 2) + m - b), ((a + b) / 2), rfl, (by omega), rfl, hS⟩
     refine zsr ?_
     refine zs2 ?_
     refine zlt <| zrg ?_
     refine zs2 ?_
     refine zln <| zgj ⟨((a + b) / 2), a, m, rfl, (by omega), rfl, hS⟩
    clear hS w; rintro M w ⟨mid, s0, r0, hmid, hq, rfl, hS⟩
    refine ztn <| zsr ?_
    refine zlv xmv ?_
    refine zlv (xsub (r := mid + m - 1)) ?_
    refine zlv xas ?_
    refine zlt <| zsq <| zbk <| zlp (fun mm M w => ∃ (x : Int) (y : Int), mm = ((y - x).toNat) ∧ (s0 ≤ x) ∧ (x ≤ y) ∧ (y ≤ r0) ∧ (x = s0 ∨ ¬ lt (s (mid + m - x)) (s (x - 1))) ∧ (y = r0 ∨ lt (s (mid + m - y - 1)) (s y)) ∧ M = [(0, vd), (1, .int .i64 a), (2, .int .i64 m), (3, .int .i64 b), (4, .func (.func 102) #[] #[]), (18, .int .i64 mid), (19, .int .i64 (mid + m)), (20, .int .i64 x), (21, .int .i64 y), (22, .int .i64 (mid + m - 1))] ∧ Sat w0 w [.own vd 2 50 n (ucells (fun z9 => pv (s z9)) (fun z9 => cnt (s z9))), .sem F]) ⟨s0, r0, rfl, (by omega), (by omega), (by omega), ?_, ?_, rfl, hS⟩ ?_
    ·
     exact .inl rfl
    ·
     exact .inl rfl
    clear hS w
    rintro mm M w ⟨x, y, rfl, x0, xy, y1, hx, hy, rfl, hS⟩
    refine zsq <| zsr ?_
    refine zs3 ?_
    refine zlt ?_
    refine zcif ?_ ?_ <;> intro hc
    ·
     refine zsk <| ztn <| zbk <| zsr ?_
     refine zs2 ?_
     refine zlv (xadd (r := x + y)) ?_
     refine zlv (xcv so_3 it_112) ?_
     refine zlv (xshr1 (r := ((x + y) / 2))) ?_
     refine zlv (xcv so_112 it_3) ?_
     refine zlv xas ?_
     refine zlt <| zsq ?_
     refine zdst [0, 1] [0, 1] 1000 mx_ hS ?_; clear hS; intro w hS
     refine zdv 0 (fun _ => xmv) ?_
     refine zdv 1 (fun _ => xmv) ?_
     refine zdv 2 (fun _ => xmv) ?_
     refine zdv 3 (fun _ => xmv) ?_
     refine zdv 4 (fun _ => (xsub (r := mid + m - ((x + y) / 2) - 1))) ?_
     refine zdv 5 (fun _ => (xix (kk := 2 * mid + 2 * m - 2 * ((x + y) / 2) - 2) sl_42 hsl)) ?_
     refine zdla 6 (fun w hS => (xlw (cs := [(pv (s (mid + m - ((x + y) / 2) - 1))), .int .i64 (cnt (s (mid + m - ((x + y) / 2) - 1)))]) st_50 (hS.rowN 0 rfl) (ucells_at (k := 2 * mid + 2 * m - 2 * ((x + y) / 2) - 2) (i := mid + m - ((x + y) / 2) - 1) (fun z9 => pv (s z9)) (fun z9 => cnt (s z9)) (by omega)))) ?_
     refine zdv 7 (fun _ => xmv) ?_
     refine zdv 8 (fun _ => xmv) ?_
     refine zdv 9 (fun _ => (xix (kk := 2 * ((x + y) / 2)) sl_42 hsl)) ?_
     refine zdla 10 (fun w hS => (xlw (cs := [(pv (s ((x + y) / 2))), .int .i64 (cnt (s ((x + y) / 2)))]) st_50 (hS.rowN 0 rfl) (ucells_at (k := 2 * ((x + y) / 2)) (i := ((x + y) / 2)) (fun z9 => pv (s z9)) (fun z9 => cnt (s z9)) (by omega)))) ?_
     refine zdc 11 (xc0 cl_102) (hcmp w (s (mid + m - ((x + y) / 2) - 1)) (s ((x + y) / 2)) (hd (mid + m - ((x + y) / 2) - 1) (by omega) (by omega)).1 (hd (mid + m - ((x + y) / 2) - 1) (by omega) (by omega)).2 (hd ((x + y) / 2) (by omega) (by omega)).1 (hd ((x + y) / 2) (by omega) (by omega)).2 hS.below (hS.holds _ (List.mem_of_getElem? (i := 1) rfl))) ?_; rintro _ w ⟨c1, rfl, hc1, hS'⟩
     replace hS := hS.cmp hS'; clear hS'
     refine ⟨⟨fun _ => hS, hS⟩, ?_⟩
     refine zdv 12 (fun _ => xlss) ?_
     refine zdv 13 (fun _ => xnot) ?_
     refine zdd <| ztn ?_
     refine zcif ?_ ?_ <;> intro hc
     ·
      refine zrg ?_
      refine zlv xmv ?_
      refine zlv (xadd (r := ((x + y) / 2) + 1)) ?_
      refine zlv xas ?_
      refine zln <| zbn <| zlq ⟨((x + y) / 2) + 1, y, rfl, (by omega), (by omega), (by omega), ?_, ?_, rfl, hS⟩
      ·
       first | exact hx | (right; rw [show mid + m - ((x + y) / 2 + 1) = mid + m - (x + y) / 2 - 1 by omega, show (x + y) / 2 + 1 - 1 = (x + y) / 2 by omega]; exact fun h => absurd (hc1.2 h) ‹¬ c1 < 0›)
      ·
       first | exact hy | exact .inr (hc1.1 (Classical.not_not.1 ‹_›))
     refine zrg ?_
     refine zs2 ?_
     refine zln <| zbn <| zlq ⟨x, ((x + y) / 2), rfl, (by omega), (by omega), (by omega), ?_, ?_, rfl, hS⟩
     ·
      first | exact hx | (right; rw [show mid + m - ((x + y) / 2 + 1) = mid + m - (x + y) / 2 - 1 by omega, show (x + y) / 2 + 1 - 1 = (x + y) / 2 by omega]; exact fun h => absurd (hc1.2 h) ‹¬ c1 < 0›)
     ·
      first | exact hy | exact .inr (hc1.1 (Classical.not_not.1 ‹_›))
    refine zxt <| ztx <| ztx <| zbh <| ztn <| zsr ?_
    refine zs2 ?_
    refine zlv (xsub (r := mid + m - x)) ?_
    refine zlv xas ?_
    refine zlt <| zsq <| ?_
    refine zgcut (fun M w => ∃ (t : Int → Int), (t = rot s x m (mid + m - x)) ∧ M = [(0, vd), (1, .int .i64 a), (2, .int .i64 m), (3, .int .i64 b), (4, .func (.func 102) #[] #[]), (18, .int .i64 mid), (19, .int .i64 (mid + m)), (20, .int .i64 x), (21, .int .i64 y), (22, .int .i64 (mid + m - 1)), (149, .int .i64 x), (150, .int .i64 y), (151, B (x < y)), (175, .int .i64 (mid + m)), (176, .int .i64 x), (177, .int .i64 (mid + m - x)), (24, .int .i64 (mid + m - x))] ∧ Sat w0 w [.own vd 2 50 n (ucells (fun z9 => pv (t z9)) (fun z9 => cnt (t z9))), .sem F]) ?_ ?_
    ·
     refine zsr ?_
     refine zs4 ?_
     refine zlb 181 ?_ ?_ <;> intro hc
     ·
      refine zs4 ?_
      refine zlt ?_
      refine zcif ?_ ?_ <;> intro hc
      ·
       refine zrg ?_
       refine zs5 ?_
       refine zlc (xc0 cl_133) (c_rotU (s := s) (a := x) (m := m) (b := mid + m - x) w0 w hS hsl hn8 hone (by omega) (by omega) (by omega) (by omega)) ?_; rintro _ w ⟨rfl, hS⟩
       replace hS := hS.n2
       refine zln <| zgj ⟨(rot s x m (mid + m - x)), rfl, rfl, hS⟩
      refine zsk <| zgj ⟨s, (rot_triv (by omega) (by omega) (by omega)).symm, rfl, hS⟩
     iterate 3 refine zlo ?_
     refine zlv xpf ?_
     refine zlt <| zcf <| zsk <| zgj ⟨s, (rot_triv (by omega) (by omega) (by omega)).symm, rfl, hS⟩
    clear hS w; rintro M w ⟨t, ht, rfl, hS⟩
    have hdt := (rot_perm (a := s) (lo := x) (c := m) (hi := mid + m - x) (by omega) (by omega)).dom (n := n) (N := nm) (by omega) (.inl (by omega)) hd
    rw [← ht] at hdt
    have hH := merge_halves hw h1 h2 hp (s := x) (mid := mid) (e := mid + m - x) (by omega) (by omega) (by omega) (by omega) (by omega) (by rcases hq with hq | hq <;> rcases hx with hx | hx <;> first | exact .inl (by omega) | exact .inr (.inl (by omega)) | exact .inr (.inr hx)) (by rcases hq with hq | hq <;> rcases hy with hy | hy <;> first | exact .inl (by omega) | exact .inr (.inl (by omega)) | (refine .inr (.inr ?_); rw [show x = y by omega]; exact hy))
    rw [← ht] at hH
    refine ztn <| zsq <| ?_
    refine zgcut (fun M w => ∃ (t1 : Int → Int), (PermOn a mid t t1) ∧ (Srt (Tie lt) a mid t1) ∧ (∀ k, 0 ≤ k → k < n → 0 ≤ t1 k ∧ t1 k < nm) ∧ M = [(0, vd), (1, .int .i64 a), (2, .int .i64 m), (3, .int .i64 b), (4, .func (.func 102) #[] #[]), (18, .int .i64 mid), (19, .int .i64 (mid + m)), (20, .int .i64 x), (21, .int .i64 y), (22, .int .i64 (mid + m - 1)), (149, .int .i64 x), (150, .int .i64 y), (151, B (x < y)), (175, .int .i64 (mid + m)), (176, .int .i64 x), (177, .int .i64 (mid + m - x)), (24, .int .i64 (mid + m - x))] ∧ Sat w0 w [.own vd 2 50 n (ucells (fun z9 => pv (t1 z9)) (fun z9 => cnt (t1 z9))), .sem F]) ?_ ?_
    ·
     refine zsr ?_
     refine zs4 ?_
     refine zlb 195 ?_ ?_ <;> intro hc
     ·
      refine zs4 ?_
      refine zlt ?_
      refine zcif ?_ ?_ <;> intro hc
      ·
       refine zrg ?_
       refine zs5 ?_
       refine zlc (xc0 cl_126) (ih (s := t) (a := a) (m := x) (b := mid) w0 w hS hcmp hdt (by omega) (by omega) (by omega) (by omega) (hH.l1) (hH.l2) (hH.pl) (by omega)) ?_; rintro _ w ⟨rfl, u1, hpu1, hsu1, hS⟩
       have hdu1 := hpu1.dom (by omega) (.inl (by omega)) hdt
       replace hS := hS.n2
       refine zln <| zgj ⟨u1, hpu1, hsu1, hdu1, rfl, hS⟩
      refine zsk <| zgj ⟨t, (.refl _ _ _), (hH.left (by first | omega | (rintro ⟨h3, h4⟩; omega)) (by omega) (by omega)), hdt, rfl, hS⟩
     iterate 3 refine zlo ?_
     refine zlv xpf ?_
     refine zlt <| zcf <| zsk <| zgj ⟨t, (.refl _ _ _), (hH.left (by first | omega | (rintro ⟨h3, h4⟩; omega)) (by omega) (by omega)), hdt, rfl, hS⟩
    clear hS w; rintro M w ⟨t1, hq1, hq2, hdt1, rfl, hS⟩
    have hH2 : Halves lt a a mid (mid + m - x) b t1 := Halves.after hH hq1 hq2 (by omega) (by omega)
    refine ztn <| zsr ?_
    refine zs4 ?_
    refine zlb 209 ?_ ?_ <;> intro hc
    ·
     refine zs4 ?_
     refine zlt ?_
     refine zcif ?_ ?_ <;> intro hc
     ·
      refine zrg ?_
      refine zs5 ?_
      refine zlc (xc0 cl_126) (ih (s := t1) (a := mid) (m := mid + m - x) (b := b) w0 w hS hcmp hdt1 (by omega) (by omega) (by omega) (by omega) (hH2.r1) (hH2.r2) (hH2.pr) (by omega)) ?_; rintro _ w ⟨rfl, u1, hpu1, hsu1, hS⟩
      have hdu1 := hpu1.dom (by omega) (.inl (by omega)) hdt1
      replace hS := hS.n2
      refine zln <| zfn0 ⟨_, rfl, ?_⟩
      refine ⟨rfl, u1, ((((rot_perm (a := s) (lo := x) (c := m) (hi := mid + m - x) (by omega) (by omega)).mono (by omega) (by omega) : PermOn a b s _)).trans (ht ▸ hq1.mono (by omega) (by omega))).trans (hpu1.mono (by omega) (by omega)), ?_, hS⟩
      exact hH.join hw (by omega) (by omega) hq1 hq2 hpu1 hsu1
     refine zsk <| zfn0 ⟨_, rfl, ?_⟩
     refine ⟨rfl, t1, (((rot_perm (a := s) (lo := x) (c := m) (hi := mid + m - x) (by omega) (by omega)).mono (by omega) (by omega) : PermOn a b s _)).trans (ht ▸ hq1.mono (by omega) (by omega)), ?_, hS⟩
     exact hH.join hw (by omega) (by omega) hq1 hq2 (.refl _ _ _) (hH2.right (by first | omega | (rintro ⟨h3, h4⟩; omega)) (by omega) (by omega))
    iterate 3 refine zlo ?_
    refine zlv xpf ?_
    refine zlt <| zcf <| zsk <| zfn0 ⟨_, rfl, ?_⟩
    refine ⟨rfl, t1, (((rot_perm (a := s) (lo := x) (c := m) (hi := mid + m - x) (by omega) (by omega)).mono (by omega) (by omega) : PermOn a b s _)).trans (ht ▸ hq1.mono (by omega) (by omega)), ?_, hS⟩
    exact hH.join hw (by omega) (by omega) hq1 hq2 (.refl _ _ _) (hH2.right (by first | omega | (rintro ⟨h3, h4⟩; omega)) (by omega) (by omega))

set_option maxHeartbeats 4000000 in
set_option maxRecDepth 20000 in
theorem c_stableU {vd : Value} {n nm : Int} {s : Int → Int} {pv : Int → Value} {cnt : Int → Int} {lt : Int → Int → Prop} {F : Go.Proofs.Gw.Frame} (w0 w : World) (hS : Sat w0 w [.own vd 2 50 n (ucells (fun z9 => pv (s z9)) (fun z9 => cnt (s z9))), .sem F]) (hsl : Slh vd n) (hn8 : n ≤ 100000000) (hone : ∀ x, (pv x).oneCell' = true) (hcmp : ∀ (w : World) (x y : Int), 0 ≤ x → x < nm → 0 ≤ y → y < nm → Below w0.heap.size w0 w → F.holds w → Calls Try.prog 102 [.agg #[pv x, .int .i64 (cnt x)], .agg #[pv y, .int .i64 (cnt y)]].toArray w fun e w' => ∃ v, e = .returned v ∧ ∃ c : Int, v = .int .i64 c ∧ (c < 0 ↔ lt x y) ∧ Sat w w' []) (hd : ∀ k, 0 ≤ k → k < n → 0 ≤ s k ∧ s k < nm) (hw : Swo lt) (hinc : Incr 0 n s) :
    Calls Try.prog 116 [vd, .int .i64 n, .func (.func 102) #[] #[]].toArray w fun e w => ∃ v, e = .returned v ∧ v = .tuple #[] ∧ ∃ t : Int → Int, PermOn 0 n s t ∧ Srt (Tie lt) 0 n t ∧ Sat w0 w [.own vd 2 50 n (ucells (fun z9 => pv (t z9)) (fun z9 => cnt (t z9))), .sem F] := by
  have hn0 := hsl.n0
  refine zenF Try.func116 Try.ntmps116 ?_
  refine zsr ?_
  refine zlv xas ?_
  refine zlz ?_
  refine zs3 ?_
  refine zlt <| zsq <| zbk <| zlp (fun mm M w => ∃ (t : Int → Int) (a : Int) (b : Int), mm = ((n - a).toNat) ∧ (0 ≤ a) ∧ (a ≤ n) ∧ (b = a + 20) ∧ ((20 : Int) ∣ a) ∧ (PermOn 0 a s t) ∧ (Runs_ lt 20 n 0 a t) ∧ (∀ k, 0 ≤ k → k < n → 0 ≤ t k ∧ t k < nm) ∧ M = [(0, vd), (1, .int .i64 n), (2, .func (.func 102) #[] #[]), (6, .int .i64 20), (7, .int .i64 a), (8, .int .i64 b)] ∧ Sat w0 w [.own vd 2 50 n (ucells (fun z9 => pv (t z9)) (fun z9 => cnt (t z9))), .sem F]) ⟨s, 0, 20, rfl, (by omega), (by omega), (by omega), ?_, ?_, ?_, ?_, rfl, hS⟩ ?_
  ·
   exact Int.dvd_zero 20
  ·
   exact .refl _ _ _
  ·
   intro c c0 c1; omega
  ·
   exact hd
  clear hS w
  rintro mm M w ⟨t, a, b, rfl, a0, a1, hb, hda, hp, hr, hd1, rfl, hS⟩
  refine zsq <| zsr ?_
  refine zs3 ?_
  refine zlt ?_
  refine zcif ?_ ?_ <;> intro hc
  ·
   refine zsk <| ztn <| zbk <| zsr ?_
   refine zs4 ?_
   refine zlc (xc0 cl_125) (c_insU (s := t) (a := a) (b := b) w0 w hS hsl hn8 hone hcmp hd1 hw (by omega) (by omega) (by omega) (incr_keep hp hinc (by omega) (by omega) (by omega))) ?_; rintro _ w ⟨rfl, u1, hpu1, hsu1, hS⟩
   have hdu1 := hpu1.dom (by omega) (.inl (by omega)) hd1
   replace hS := hS.n2
   refine zlz ?_
   refine zs2 ?_
   refine zlt <| zrg ?_
   refine zs2 ?_
   refine zlv (xadd (r := b + 20)) ?_
   refine zlv xas ?_
   refine zln <| zbn <| zlq ⟨u1, b, b + 20, rfl, (by omega), (by omega), (by omega), ?_, ?_, ?_, ?_, rfl, hS⟩
   ·
    rw [hb]; exact Int.dvd_add hda (Int.dvd_refl 20)
   ·
    exact (hp.mono (by omega) (by omega)).trans (hpu1.mono (by omega) (by omega))
   ·
    exact runs_first (by omega) hinc hr a0 hda hp hpu1 hsu1 (.inl ⟨hb, by omega⟩) (by omega)
   ·
    exact hdu1
  refine zxt <| ztx <| ztx <| zbh <| ztn <| zsr ?_
  refine zs4 ?_
  refine zlc (xc0 cl_125) (c_insU (s := t) (a := a) (b := n) w0 w hS hsl hn8 hone hcmp hd1 hw (by omega) (by omega) (by omega) (incr_keep hp hinc (by omega) (by omega) (by omega))) ?_; rintro _ w ⟨rfl, u1, hpu1, hsu1, hS⟩
  have hdu1 := hpu1.dom (by omega) (.inl (by omega)) hd1
  replace hS := hS.n2
  refine zlt <| zbk <| zlp (fun mm M w => ∃ (t2 : Int → Int) (z : Int), mm = ((n - z).toNat) ∧ (20 ≤ z) ∧ (z ≤ 2 * n + 20) ∧ (PermOn 0 n s t2) ∧ (Runs_ lt z n 0 n t2) ∧ (∀ k, 0 ≤ k → k < n → 0 ≤ t2 k ∧ t2 k < nm) ∧ M = [(0, vd), (1, .int .i64 n), (2, .func (.func 102) #[] #[]), (6, .int .i64 z)] ∧ Sat w0 w [.own vd 2 50 n (ucells (fun z9 => pv (t2 z9)) (fun z9 => cnt (t2 z9))), .sem F]) ⟨u1, 20, rfl, (by omega), (by omega), ?_, ?_, ?_, rfl, hS⟩ ?_
  ·
   exact (hp.mono (by omega) (by omega)).trans (hpu1.mono (by omega) (by omega))
  ·
   exact runs_first (by omega) hinc hr a0 hda hp hpu1 hsu1 (.inr ⟨rfl, by omega⟩) (by omega)
  ·
   exact hdu1
  clear hS w
  rintro mm M w ⟨t2, z, rfl, z0, z1, hp2, hr2, hd2, rfl, hS⟩
  refine zsq <| zsr ?_
  refine zs3 ?_
  refine zlt ?_
  refine zcif ?_ ?_ <;> intro hc
  ·
   refine zsk <| ztn <| zbk <| zsr ?_
   refine zlv xmv ?_
   refine zlv (xmul (r := 2 * z)) ?_
   refine zs2 ?_
   refine zlt <| zsq <| zbk <| zlp (fun mm M w => ∃ (t3 : Int → Int) (a3 : Int) (b3 : Int), mm = ((n - a3).toNat) ∧ (0 ≤ a3) ∧ (a3 ≤ n) ∧ (b3 = a3 + 2 * z) ∧ (2 * z ∣ a3) ∧ (PermOn 0 n s t3) ∧ (Runs_ lt (2 * z) n 0 a3 t3) ∧ (Runs_ lt z n a3 n t3) ∧ (∀ k, 0 ≤ k → k < n → 0 ≤ t3 k ∧ t3 k < nm) ∧ M = [(0, vd), (1, .int .i64 n), (2, .func (.func 102) #[] #[]), (6, .int .i64 z), (7, .int .i64 a3), (8, .int .i64 b3)] ∧ Sat w0 w [.own vd 2 50 n (ucells (fun z9 => pv (t3 z9)) (fun z9 => cnt (t3 z9))), .sem F]) ⟨t2, 0, 2 * z, rfl, (by omega), (by omega), (by omega), ?_, ?_, ?_, ?_, ?_, rfl, hS⟩ ?_
   ·
    exact Int.dvd_zero _
   ·
    exact hp2
   ·
    intro c c0 c1; omega
   ·
    exact hr2
   ·
    exact hd2
   clear hS w
   rintro mm M w ⟨t3, a3, b3, rfl, a30, a31, hb3, hda3, hp3, hA, hB, hd3, rfl, hS⟩
   refine zsq <| zsr ?_
   refine zs3 ?_
   refine zlt ?_
   refine zcif ?_ ?_ <;> intro hc
   ·
    refine zsk <| ztn <| zbk <| zsr ?_
    refine zs4 ?_
    refine zlv (xadd (r := a3 + z)) ?_
    refine zs2 ?_
    have hk := runs_pre (lt := lt) (z := z) (n := n) (a := a3) (b := b3) (t := t3) (by omega) a30 (Int.dvd_trans (Int.dvd_mul_left 2 z) hda3) hB (by omega) (by omega) (by omega)
    refine zlc (xc0 cl_126) (c_symU (nm := nm) (lt := lt) hsl hn8 hone hw _ (s := t3) (a := a3) (m := a3 + z) (b := b3) w0 w hS hcmp hd3 (by omega) (by omega) (by omega) (by omega) hk.1 hk.2.1 hk.2.2 (Nat.lt_succ_self _)) ?_; rintro _ w ⟨rfl, u2, hpu2, hsu2, hS⟩
    have hdu2 := hpu2.dom (by omega) (.inl (by omega)) hd3
    replace hS := hS.n2
    refine zlz ?_
    refine zs2 ?_
    refine zlt <| zrg ?_
    refine zs2 ?_
    refine zlv (xmul (r := 2 * z)) ?_
    refine zlv (xadd (r := b3 + 2 * z)) ?_
    refine zlv xas ?_
    refine zln <| zbn <| zlq ⟨u2, b3, b3 + 2 * z, rfl, (by omega), (by omega), (by omega), ?_, ?_, ?_, ?_, ?_, rfl, hS⟩
    ·
     rw [hb3]; exact Int.dvd_add hda3 (Int.dvd_refl _)
    ·
     exact hp3.trans (hpu2.mono (by omega) (by omega))
    ·
     exact (runs_merge (by omega) a30 hda3 hA hB hpu2 hsu2 (.inl ⟨hb3, by omega⟩) (by omega)).1
    ·
     exact (runs_merge (by omega) a30 hda3 hA hB hpu2 hsu2 (.inl ⟨hb3, by omega⟩) (by omega)).2
    ·
     exact hdu2
   refine zxt <| ztx <| ztx <| zbh <| ztn <| zsq <| zsr ?_
   refine zs2 ?_
   refine zlv (xadd (r := a3 + z)) ?_
   refine zlv xas ?_
   refine zlz ?_
   refine zs3 ?_
   refine zlt ?_
   refine zcif ?_ ?_ <;> intro hc
   ·
    refine zrg ?_
    refine zs5 ?_
    have hk := runs_pre (lt := lt) (z := z) (n := n) (a := a3) (b := n) (t := t3) (by omega) a30 (Int.dvd_trans (Int.dvd_mul_left 2 z) hda3) hB (by omega) (by omega) (by omega)
    refine zlc (xc0 cl_126) (c_symU (nm := nm) (lt := lt) hsl hn8 hone hw _ (s := t3) (a := a3) (m := a3 + z) (b := n) w0 w hS hcmp hd3 (by omega) (by omega) (by omega) (by omega) hk.1 hk.2.1 hk.2.2 (Nat.lt_succ_self _)) ?_; rintro _ w ⟨rfl, u2, hpu2, hsu2, hS⟩
    have hdu2 := hpu2.dom (by omega) (.inl (by omega)) hd3
    replace hS := hS.n2
    refine zlt <| zrg ?_
    refine zlv xmv ?_
    refine zlv (xmul (r := 2 * z)) ?_
    refine zlv xas ?_
    refine zln <| zbn <| zlq ⟨u2, 2 * z, rfl, (by omega), (by omega), ?_, ?_, ?_, rfl, hS⟩
    ·
     first | exact hp3.trans (hpu2.mono (by omega) (by omega)) | exact hp3
    ·
     first | exact (runs_merge (by omega) a30 hda3 hA hB hpu2 hsu2 (.inr ⟨rfl, by omega⟩) (by omega)).1 | exact runs_end (by omega) a30 hda3 hA hB (by omega) (by omega)
    ·
     first | exact hdu2 | exact hd3
   refine zsk <| ztn <| zrg ?_
   refine zlv xmv ?_
   refine zlv (xmul (r := 2 * z)) ?_
   refine zlv xas ?_
   refine zln <| zbn <| zlq ⟨t3, 2 * z, rfl, (by omega), (by omega), ?_, ?_, ?_, rfl, hS⟩
   ·
    first | exact hp3.trans (hpu2.mono (by omega) (by omega)) | exact hp3
   ·
    first | exact (runs_merge (by omega) a30 hda3 hA hB hpu2 hsu2 (.inr ⟨rfl, by omega⟩) (by omega)).1 | exact runs_end (by omega) a30 hda3 hA hB (by omega) (by omega)
   ·
    first | exact hdu2 | exact hd3
  refine zxt <| ztx <| ztx <| zbh <| zfn0 ⟨_, rfl, ?_⟩
  exact ⟨rfl, t2, hp2, runs_all hr2 (by omega), hS⟩

set_option maxRecDepth 20000 in
theorem c_sortsU {vd : Value} {n nm : Int} {s : Int → Int} {pv : Int → Value} {cnt : Int → Int} {lt : Int → Int → Prop} {F : Go.Proofs.Gw.Frame} (w0 w : World) (hS : Sat w0 w [.own vd 2 50 n (ucells (fun z9 => pv (s z9)) (fun z9 => cnt (s z9))), .sem F]) (hsl : Slh vd n) (hn8 : n ≤ 100000000) (hone : ∀ x, (pv x).oneCell' = true) (hcmp : ∀ (w : World) (x y : Int), 0 ≤ x → x < nm → 0 ≤ y → y < nm → Below w0.heap.size w0 w → F.holds w → Calls Try.prog 102 [.agg #[pv x, .int .i64 (cnt x)], .agg #[pv y, .int .i64 (cnt y)]].toArray w fun e w' => ∃ v, e = .returned v ∧ ∃ c : Int, v = .int .i64 c ∧ (c < 0 ↔ lt x y) ∧ Sat w w' []) (hd : ∀ k, 0 ≤ k → k < n → 0 ≤ s k ∧ s k < nm) (hw : Swo lt) (hinc : Incr 0 n s) :
    Calls Try.prog 101 [vd, .func (.func 102) #[] #[]].toArray w fun e w => ∃ v, e = .returned v ∧ v = .tuple #[] ∧ ∃ t : Int → Int, PermOn 0 n s t ∧ Srt (Tie lt) 0 n t ∧ Sat w0 w [.own vd 2 50 n (ucells (fun z9 => pv (t z9)) (fun z9 => cnt (t z9))), .sem F] := by
  refine zenF Try.func101 Try.ntmps101 ?_
  refine zrg ?_
  refine zs2 ?_
  refine zlv (xln sl_43 hsl) ?_
  refine zlv xmv ?_
  refine zlc (xc0 cl_116) (c_stableU (s := s) w0 w hS hsl hn8 hone hcmp hd hw hinc) ?_; rintro _ w ⟨rfl, u1, hpu1, hsu1, hS⟩
  replace hS := hS.n2
  refine zln <| zfn0 ⟨_, rfl, ?_⟩
  exact ⟨rfl, u1, hpu1, hsu1, hS⟩

theorem c_isnan {x : Int} (w0 : World) :
    Calls Try.prog 127 [.int .i64 x].toArray w0 fun e w => ∃ v, e = .returned v ∧ v = .bool false ∧ Sat w0 w [] := by
  refine zenG Try.func127 Try.ntmps127 fun w hS => ?_
  refine zsr ?_
  refine zlv xas ?_
  refine zlz ?_
  refine zs2 ?_
  refine zlv (xkf xneq) ?_
  refine zlv xas ?_
  refine zlt <| zrt <| zf1 ⟨_, rfl, ?_⟩
  exact ⟨rfl, hS⟩

def CmpR (x y c : Int) : Prop := (c = -1 ∧ x < y) ∨ (c = 0 ∧ x = y) ∨ (c = 1 ∧ y < x)
theorem c_cmpi {x y : Int} (w0 : World) :
    Calls Try.prog 117 [.int .i64 x, .int .i64 y].toArray w0 fun e w => ∃ v, e = .returned v ∧ ∃ c : Int, v = .int .i64 c ∧ CmpR x y c ∧ Sat w0 w [] := by
  refine zenG Try.func117 Try.ntmps117 fun w hS => ?_
  refine zsr ?_
  refine zlv xas ?_
  refine zlz ?_
  refine zlv xmv ?_
  refine zlc (xc0 cl_127) (c_isnan (x := x) w) ?_; rintro _ w ⟨rfl, hS'⟩
  replace hS := hS.cmp hS'; clear hS'
  refine zlv xas ?_
  refine zlz ?_
  refine zlv xmv ?_
  refine zlc (xc0 cl_127) (c_isnan (x := y) w) ?_; rintro _ w ⟨rfl, hS'⟩
  replace hS := hS.cmp hS'; clear hS'
  refine zlv xas ?_
  refine zlt <| zsq <| zsr ?_
  refine zlv xmv ?_
  refine zlt <| zcf <| zsk <| ztn <| zsq <| zsr ?_
  refine zlv xmv ?_
  refine zlt <| zcf <| zsk <| ztn <| zsq <| zsr ?_
  refine zs3 ?_
  refine zlt ?_
  refine zcif ?_ ?_ <;> intro hc
  ·
   refine zsr ?_
   refine zlv xas ?_
   refine zlt <| zrt <| ztr <| zf1 ⟨_, rfl, ?_⟩
   exact ⟨(-1), rfl, by unfold CmpR; omega, hS⟩
  refine zsk <| ztn <| zsq <| zsr ?_
  refine zs3 ?_
  refine zlt ?_
  refine zcif ?_ ?_ <;> intro hc
  ·
   refine zsr ?_
   refine zlv xas ?_
   refine zlt <| zrt <| ztr <| zf1 ⟨_, rfl, ?_⟩
   exact ⟨1, rfl, by unfold CmpR; omega, hS⟩
  refine zsk <| ztn <| zsr ?_
  refine zlv xas ?_
  refine zlt <| zrt <| zf1 ⟨_, rfl, ?_⟩
  exact ⟨0, rfl, by unfold CmpR; omega, hS⟩

set_option maxRecDepth 20000 in
theorem c_scmp {vA vB : Value} {n m : Int} {f g : Int → Int} (w0 : World) (hA : Row w0 vA 1 n (ints f)) (hB : Row w0 vB 1 m (ints g)) :
    Calls Try.prog 103 [vA, vB].toArray w0 fun e w => ∃ v, e = .returned v ∧ ∃ c : Int, v = .int .i64 c ∧ (c < 0 ↔ ahd (lst m g) (lst n f)) ∧ Sat w0 w [] := by
  have hn := hA.slh.n0; have hn1 := hA.slh.n1; have hm := hB.slh.n0; have hm1 := hB.slh.n1
  refine zenG Try.func103 Try.ntmps103 fun w hS => ?_
  refine zsr ?_
  refine zlv xas ?_
  refine zlt <| zsq <| zsr ?_
  refine zlv xmv ?_
  refine zlv (xln sl_22 hA.slh) ?_
  refine zlv xmv ?_
  refine zlt <| zbk <| zlp (fun mm M w => ∃ (i : Int), mm = ((n - i).toNat) ∧ (0 ≤ i) ∧ (i ≤ n) ∧ (i ≤ m) ∧ (∀ k, 0 ≤ k → k < i → f k = g k) ∧ M = [(0, vA), (1, vB), (9, vA), (10, .int .i64 n), (11, .int .i64 i)] ∧ Sat w0 w []) ⟨0, rfl, (by omega), (by omega), (by omega), ?_, rfl, hS⟩ ?_
  ·
   intro k h0 h1; omega
  clear hS w
  rintro mm M w ⟨i, rfl, h0, h1, h2, hall, rfl, hS⟩
  refine zsr ?_
  refine zlv xlss ?_
  refine zlt <| zsq ?_
  refine zcif ?_ ?_ <;> intro hc
  ·
   refine zsk <| ztn <| zsq <| zbk <| zsr ?_
   refine zlv xmv ?_
   refine zlv (xix (kk := i) sl_22 hA.slh) ?_
   refine zlv (xlr (u := .int .i64 (f i)) pl_3 (hA.below hS.below)) ?_
   refine zs2 ?_
   refine zlt <| zsq <| zsr ?_
   refine zs2 ?_
   refine zlv (xln sl_22 hB.slh) ?_
   refine zlv xgeq ?_
   refine zlt ?_
   refine zcif ?_ ?_ <;> intro hc
   ·
    refine zsr ?_
    refine zlv xas ?_
    refine zlt <| zrt <| ztr <| zbr <| ztr <| ztr <| zbr <| ztr <| zf1 ⟨_, rfl, ?_⟩
    exact ⟨1, rfl, ⟨fun h => by omega, fun h => absurd h (ahd_asym (ahd_long (by omega) (by omega) (fun k k0 k1 => hall k k0 (by omega))))⟩, hS⟩
   refine zsk <| ztn <| zsr ?_
   refine zs2 ?_
   refine zlv (xix (kk := i) sl_22 hB.slh) ?_
   refine zlv (xlr (u := .int .i64 (g i)) pl_3 (hB.below hS.below)) ?_
   refine zlv xas ?_
   refine zlz ?_
   refine zs2 ?_
   refine zlc (xc0 cl_117) (c_cmpi (x := (f i)) (y := (g i)) w) ?_; rintro _ w ⟨c1, rfl, hc1, hS'⟩
   replace hS := hS.cmp hS'; clear hS'
   refine zlv xas ?_
   refine zlz ?_
   refine zs2 ?_
   refine zlt ?_
   refine zcif ?_ ?_ <;> intro hc
   ·
    refine zsr ?_
    refine zs2 ?_
    refine zlt <| zrt <| zbr <| ztr <| ztr <| zbr <| ztr <| zf1 ⟨_, rfl, ?_⟩
    exact ⟨c1, rfl, ⟨fun h => ahd_gt (j := i) (by omega) (by omega) (by omega) (fun k k0 k1 => (hall k k0 k1).symm) (by unfold CmpR at hc1; omega), fun h => by
        unfold CmpR at hc1
        by_cases h9 : c1 < 0
        · exact h9
        · exact absurd h (ahd_asym (ahd_gt (j := i) (by omega) (by omega) (by omega) (fun k k0 k1 => hall k k0 k1) (by omega)))⟩, hS⟩
   refine zsk <| zbn <| ztn <| zrg ?_
   refine zlv (xadd (r := i + 1)) ?_
   refine zlv xmv ?_
   refine zln <| zlq ⟨i + 1, rfl, (by omega), (by omega), (by omega), ?_, rfl, hS⟩
   ·
    intro k h0' h1'; rcases Int.lt_or_eq_of_le (show k ≤ i by omega) with hk | hk; exact hall k h0' hk; rw [hk]; (unfold CmpR at hc1; omega)
  refine zxt <| ztx <| ztx <| zbh <| ztn <| zsq <| zsr ?_
  refine zlv xmv ?_
  refine zlv (xln sl_22 hA.slh) ?_
  refine zlv xmv ?_
  refine zlv (xln sl_22 hB.slh) ?_
  refine zlv xlss ?_
  refine zlt ?_
  refine zcif ?_ ?_ <;> intro hc
  ·
   refine zsr ?_
   refine zlv xas ?_
   refine zlt <| zrt <| ztr <| zf1 ⟨_, rfl, ?_⟩
   exact ⟨(-1), rfl, ⟨fun _ => ahd_long (by omega) (by omega) (fun k k0 k1 => (hall k k0 (by omega)).symm), fun _ => by omega⟩, hS⟩
  refine zsk <| ztn <| zsr ?_
  refine zlv xas ?_
  refine zlt <| zrt <| zf1 ⟨_, rfl, ?_⟩
  exact ⟨0, rfl, ⟨fun h => by omega, fun h => absurd h (by rw [show n = m by omega]; exact ahd_same (fun k k0 k1 => (hall k k0 (by omega)).symm))⟩, hS⟩

set_option maxRecDepth 20000 in
theorem c_ncmp {vA vB : Value} {n m : Int} {f g : Int → Int} {a b : Int} (w0 : World) (hA : Row w0 vA 1 n (ints f)) (hB : Row w0 vB 1 m (ints g)) :
    Calls Try.prog 102 [.agg #[vA, .int .i64 a], .agg #[vB, .int .i64 b]].toArray w0 fun e w => ∃ v, e = .returned v ∧ ∃ c : Int, v = .int .i64 c ∧ (c < 0 ↔ ahd (lst n f) (lst m g)) ∧ Sat w0 w [] := by
  refine zenG Try.func102 Try.ntmps102 fun w hS => ?_
  refine zsr ?_
  refine zla (xbx (cs := [_, _]) hS) ?_; rintro _ w ⟨g1, rfl, hS⟩
  replace hS := hS.n1
  refine zla (xbx (cs := [_, _]) hS) ?_; rintro _ w ⟨g2, rfl, hS⟩
  replace hS := hS.n2
  refine zlv xas ?_
  refine zlz ?_
  refine zlv (xfb 0 fd_50_0) ?_
  refine zlv (xlb 1 pl_22 hS) ?_
  refine zlv (xfb 0 fd_50_0) ?_
  refine zlv (xlb 0 pl_22 hS) ?_
  refine zlc (xc0 cl_103) (c_scmp (n := m) (f := g) (m := n) (g := f) w (hB.below hS.below) (hA.below hS.below)) ?_; rintro _ w ⟨c1, rfl, hc1, hS'⟩
  replace hS := hS.cmp hS'; clear hS'
  refine zlv xas ?_
  refine zlt <| zrt <| zf1 ⟨_, rfl, ?_⟩
  exact ⟨_, rfl, hc1, hS.nl⟩

set_option maxRecDepth 20000 in
theorem c_eqs {vA vB : Value} {n m : Int} {f g : Int → Int} (w0 : World) (hA : Row w0 vA 1 n (ints f)) (hB : Row w0 vB 1 m (ints g)) :
    Calls Try.prog 98 [vA, vB].toArray w0 fun e w => ∃ v, e = .returned v ∧ v = B (lst n f = lst m g) ∧ Sat w0 w [] := by
  have hn := hA.slh.n0; have hn1 := hA.slh.n1; have hm := hB.slh.n0; have hm1 := hB.slh.n1
  refine zenG Try.func98 Try.ntmps98 fun w hS => ?_
  refine zsr ?_
  refine zlv xas ?_
  refine zlt <| zsq <| zsr ?_
  refine zlv xmv ?_
  refine zlv (xln sl_22 hA.slh) ?_
  refine zlv xmv ?_
  refine zlv (xln sl_22 hB.slh) ?_
  refine zlv xneq ?_
  refine zlt ?_
  refine zcif ?_ ?_ <;> intro hc
  ·
   refine zsr ?_
   refine zlv xas ?_
   refine zlt <| zrt <| ztr <| zf1 ⟨_, rfl, ?_⟩
   exact ⟨false_B (by intro hh; have h9 := (lst_eq hn hm).1 hh; first | omega | (have := h9.2 i h0 (by omega); omega)), hS⟩
  refine zsk <| ztn <| zsq <| zsr ?_
  refine zlv xmv ?_
  refine zlv (xln sl_22 hA.slh) ?_
  refine zlv xmv ?_
  refine zlt <| zbk <| zlp (fun mm M w => ∃ (i : Int), mm = ((n - i).toNat) ∧ (0 ≤ i) ∧ (i ≤ n) ∧ (∀ k, 0 ≤ k → k < i → f k = g k) ∧ M = [(0, vA), (1, vB), (12, .int .i64 n), (13, .int .i64 i)] ∧ Sat w0 w []) ⟨0, rfl, (by omega), (by omega), ?_, rfl, hS⟩ ?_
  ·
   intro k h0 h1; omega
  clear hS w
  rintro mm M w ⟨i, rfl, h0, h1, hall, rfl, hS⟩
  refine zsr ?_
  refine zlv xlss ?_
  refine zlt <| zsq ?_
  refine zcif ?_ ?_ <;> intro hc
  ·
   refine zsk <| ztn <| zsq <| zbk <| zsr ?_
   refine zs2 ?_
   refine zlt <| zsq ?_
   refine zdst [] [] 1000 mx_ hS ?_; clear hS; intro w hS
   refine zdv 0 (fun _ => xmv) ?_
   refine zdv 1 (fun _ => xmv) ?_
   refine zdv 2 (fun _ => (xix (kk := i) sl_22 hA.slh)) ?_
   refine zdla 3 (fun w hS => (xlr (u := .int .i64 (f i)) pl_3 (hA.below hS.below))) ?_
   refine zdv 4 (fun _ => xmv) ?_
   refine zdv 5 (fun _ => xmv) ?_
   refine zdv 6 (fun _ => (xix (kk := i) sl_22 hB.slh)) ?_
   refine zdla 7 (fun w hS => (xlr (u := .int .i64 (g i)) pl_3 (hB.below hS.below))) ?_
   refine zdv 8 (fun _ => xneq) ?_
   refine zdd <| ztn ?_
   refine zcif ?_ ?_ <;> intro hc
   ·
    refine zsr ?_
    refine zlv xas ?_
    refine zlt <| zrt <| zbr <| ztr <| ztr <| zbr <| ztr <| zf1 ⟨_, rfl, ?_⟩
    exact ⟨false_B (by intro hh; have h9 := (lst_eq hn hm).1 hh; first | omega | (have := h9.2 i h0 (by omega); omega)), hS⟩
   refine zsk <| zbn <| ztn <| zrg ?_
   refine zlv (xadd (r := i + 1)) ?_
   refine zlv xmv ?_
   refine zln <| zlq ⟨i + 1, rfl, (by omega), (by omega), ?_, rfl, hS⟩
   ·
    intro k h0' h1'; rcases Int.lt_or_eq_of_le (show k ≤ i by omega) with hk | hk; exact hall k h0' hk; rw [hk]; omega
  refine zxt <| ztx <| ztx <| zbh <| ztn <| zsr ?_
  refine zlv xas ?_
  refine zlt <| zrt <| zf1 ⟨_, rfl, ?_⟩
  exact ⟨true_B (by exact (lst_eq hn hm).2 ⟨by omega, fun k k0 k1 => hall k k0 (by omega)⟩), hS⟩

set_option maxRecDepth 20000 in
theorem c_nn1 {vB : Value} {m b : Int} {g : Int → Int} {vA : Value} {n a : Int} {f : Int → Int} {gu : Nat} (w0 : World) (hG : (Ent.blk gu [vA, .int .i64 a]).holds w0) (hA : Row w0 vA 1 n (ints f)) (hB : Row w0 vB 1 m (ints g)) :
    Calls Try.prog 97 [.agg #[vB, .int .i64 b], .pointer (some ⟨gu, 0, none⟩)].toArray w0 fun e w => ∃ v, e = .returned v ∧ v = B (lst n f = lst m g) ∧ Sat w0 w [] := by
  refine zenG Try.func97 Try.ntmps97 fun w hS => ?_
  refine zsr ?_
  refine zla (xbx (cs := [_, _]) hS) ?_; rintro _ w ⟨g1, rfl, hS⟩
  replace hS := hS.n1
  refine zlv xas ?_
  refine zlz ?_
  refine zlv (xfb 0 fd_50_0) ?_
  refine zlv (xlf pl_22 (Ent.holds.cell hG (o := 0) rfl) hS) ?_
  refine zlv (xfb 0 fd_50_0) ?_
  refine zlv (xlb 0 pl_22 hS) ?_
  refine zlc (xc0 cl_98) (c_eqs (n := n) (f := f) (m := m) (g := g) w (hA.below hS.below) (hB.below hS.below)) ?_; rintro _ w ⟨rfl, hS'⟩
  replace hS := hS.cmp hS'; clear hS'
  refine zlv xas ?_
  refine zlt <| zrt <| zf1 ⟨_, rfl, ?_⟩
  exact ⟨rfl, hS.nl⟩

set_option maxRecDepth 20000 in
theorem c_ixn1 {vV : Value} {u : Int} {pv : Int → Value} {ln : Int → Int} {pt : Int → Int → Int} {cnt : Int → Int} {vA : Value} {n a : Int} {f : Int → Int} {gu : Nat} (w0 : World) (hV : VAt w0 vV u pv ln pt cnt) (hG : (Ent.blk gu [vA, .int .i64 a]).holds w0) (hA : Row w0 vA 1 n (ints f)) :
    Calls Try.prog 96 [vV, .func (.func 97) #[] #[.pointer (some ⟨gu, 0, none⟩)]].toArray w0 fun e w => ∃ v, e = .returned v ∧ ∃ r : Int, v = .int .i64 r ∧ ((r = -1 ∧ ∀ k, 0 ≤ k → k < u → ¬ (lst n f = lst (ln k) (pt k))) ∨ (0 ≤ r ∧ r < u ∧ (lst n f = lst (ln r) (pt r)) ∧ ∀ k, 0 ≤ k → k < r → ¬ (lst n f = lst (ln k) (pt k)))) ∧ Sat w0 w [] := by
  have hn := hV.row.slh.n0; have hn1 := hV.row.slh.n1
  refine zenG Try.func96 Try.ntmps96 fun w hS => ?_
  refine zsr ?_
  refine zlv xas ?_
  refine zlt <| zsq <| zsr ?_
  refine zlv xmv ?_
  refine zlv (xln sl_43 hV.row.slh) ?_
  refine zlv xmv ?_
  refine zlt <| zbk <| zlp (fun mm M w => ∃ (i : Int), mm = ((u - i).toNat) ∧ (0 ≤ i) ∧ (i ≤ u) ∧ (∀ k, 0 ≤ k → k < i → ¬ (lst n f = lst (ln k) (pt k))) ∧ M = [(0, vV), (1, .func (.func 97) #[] #[.pointer (some ⟨gu, 0, none⟩)]), (7, .int .i64 u), (8, .int .i64 i)] ∧ Sat w0 w []) ⟨0, rfl, (by omega), (by omega), ?_, rfl, hS⟩ ?_
  ·
   intro k h0 h1; omega
  clear hS w
  rintro mm M w ⟨i, rfl, h0, h1, hall, rfl, hS⟩
  refine zsr ?_
  refine zlv xlss ?_
  refine zlt <| zsq ?_
  refine zcif ?_ ?_ <;> intro hc
  ·
   refine zsk <| ztn <| zsq <| zbk <| zsr ?_
   refine zs2 ?_
   refine zlz ?_
   refine zs3 ?_
   refine zlv (xix (kk := 2 * i) sl_43 hV.row.slh) ?_
   refine zlv (xlw (cs := [(pv i), .int .i64 (cnt i)]) st_50 (hV.row.below hS.below) (ucells_at (k := 2 * i) (i := i) pv cnt (by omega))) ?_
   refine zlc (xcc (vs := [_]) cl_97) (c_nn1 (n := n) (f := f) (m := (ln i)) (g := (pt i)) w (Sat.oldblk hS hG) (hA.below hS.below) ((hV.p i (by omega) (by omega)).below hS.below)) ?_; rintro _ w ⟨rfl, hS'⟩
   replace hS := hS.cmp hS'; clear hS'
   refine zlt ?_
   refine zcif ?_ ?_ <;> intro hc
   ·
    refine zsr ?_
    refine zs2 ?_
    refine zlt <| zrt <| zbr <| ztr <| ztr <| zbr <| ztr <| zf1 ⟨_, rfl, ?_⟩
    exact ⟨i, rfl, .inr ⟨by omega, by omega, ‹lst n f = lst (ln i) (pt i)›, hall⟩, hS⟩
   refine zsk <| zbn <| ztn <| zrg ?_
   refine zlv (xadd (r := i + 1)) ?_
   refine zlv xmv ?_
   refine zln <| zlq ⟨i + 1, rfl, (by omega), (by omega), ?_, rfl, hS⟩
   ·
    intro k h0' h1'; rcases Int.lt_or_eq_of_le (show k ≤ i by omega) with hk | hk; exact hall k h0' hk; rw [hk]; assumption
  refine zxt <| ztx <| ztx <| zbh <| ztn <| zsr ?_
  refine zlv xas ?_
  refine zlt <| zrt <| zf1 ⟨_, rfl, ?_⟩
  exact ⟨-1, rfl, .inl ⟨rfl, fun k h0 h1 => hall k h0 (by omega)⟩, hS⟩

set_option maxRecDepth 20000 in
theorem c_nn2 {vB : Value} {m b : Int} {g : Int → Int} (w0 : World) (hB : Row w0 vB 1 m (ints g)) :
    Calls Try.prog 100 [.agg #[vB, .int .i64 b]].toArray w0 fun e w => ∃ v, e = .returned v ∧ v = B (b < 1) ∧ Sat w0 w [] := by
  refine zenG Try.func100 Try.ntmps100 fun w hS => ?_
  refine zsr ?_
  refine zla (xbx (cs := [_, _]) hS) ?_; rintro _ w ⟨g1, rfl, hS⟩
  replace hS := hS.n1
  refine zlv xas ?_
  refine zlz ?_
  refine zlv (xfb 1 fd_50_1) ?_
  refine zlv (xlb 0 pl_3 hS) ?_
  refine zs2 ?_
  refine zlt <| zrt <| zf1 ⟨_, rfl, ?_⟩
  exact ⟨rfl, hS.nl⟩

set_option maxRecDepth 20000 in
theorem c_ixn2 {vV : Value} {u : Int} {pv : Int → Value} {ln : Int → Int} {pt : Int → Int → Int} {cnt : Int → Int} (w0 : World) (hV : VAt w0 vV u pv ln pt cnt) (hpc : ∀ k, 0 ≤ k → k < u → 1 ≤ cnt k) :
    Calls Try.prog 96 [vV, .func (.func 100) #[] #[]].toArray w0 fun e w => ∃ v, e = .returned v ∧ v = .int .i64 (-1) ∧ Sat w0 w [] := by
  have hn := hV.row.slh.n0; have hn1 := hV.row.slh.n1
  refine zenG Try.func96 Try.ntmps96 fun w hS => ?_
  refine zsr ?_
  refine zlv xas ?_
  refine zlt <| zsq <| zsr ?_
  refine zlv xmv ?_
  refine zlv (xln sl_43 hV.row.slh) ?_
  refine zlv xmv ?_
  refine zlt <| zbk <| zlp (fun mm M w => ∃ (i : Int), mm = ((u - i).toNat) ∧ (0 ≤ i) ∧ (i ≤ u) ∧ M = [(0, vV), (1, .func (.func 100) #[] #[]), (7, .int .i64 u), (8, .int .i64 i)] ∧ Sat w0 w []) ⟨0, rfl, (by omega), (by omega), rfl, hS⟩ ?_
  clear hS w
  rintro mm M w ⟨i, rfl, h0, h1, rfl, hS⟩
  refine zsr ?_
  refine zlv xlss ?_
  refine zlt <| zsq ?_
  refine zcif ?_ ?_ <;> intro hc
  ·
   refine zsk <| ztn <| zsq <| zbk <| zsr ?_
   refine zs2 ?_
   refine zlz ?_
   refine zs3 ?_
   refine zlv (xix (kk := 2 * i) sl_43 hV.row.slh) ?_
   refine zlv (xlw (cs := [(pv i), .int .i64 (cnt i)]) st_50 (hV.row.below hS.below) (ucells_at (k := 2 * i) (i := i) pv cnt (by omega))) ?_
   refine zlc (xc0 cl_100) (c_nn2 (b := (cnt i)) w ((hV.p i (by omega) (by omega)).below hS.below)) ?_; rintro _ w ⟨rfl, hS'⟩
   replace hS := hS.cmp hS'; clear hS'
   refine zlt ?_
   refine zcif ?_ ?_ <;> intro hc
   ·
    refine zsr ?_
    refine zs2 ?_
    refine zlt <| zrt <| zbr <| ztr <| ztr <| zbr <| ztr <| zf1 ⟨_, rfl, ?_⟩
    have := hpc i h0 (by omega)
    omega
   refine zsk <| zbn <| ztn <| zrg ?_
   refine zlv (xadd (r := i + 1)) ?_
   refine zlv xmv ?_
   refine zln <| zlq ⟨i + 1, rfl, (by omega), (by omega), rfl, hS⟩
  refine zxt <| ztx <| ztx <| zbh <| ztn <| zsr ?_
  refine zlv xas ?_
  refine zlt <| zrt <| zf1 ⟨_, rfl, ?_⟩
  exact ⟨rfl, hS⟩

set_option maxRecDepth 20000 in
theorem c_delu {vV : Value} {u : Int} {pv : Int → Value} {ln : Int → Int} {pt : Int → Int → Int} {cnt : Int → Int} (w0 : World) (hV : VAt w0 vV u pv ln pt cnt) (hpc : ∀ k, 0 ≤ k → k < u → 1 ≤ cnt k) :
    Calls Try.prog 99 [vV, .func (.func 100) #[] #[]].toArray w0 fun e w => ∃ v, e = .returned v ∧ vV = v ∧ Sat w0 w [] := by
  refine zenG Try.func99 Try.ntmps99 fun w hS => ?_
  refine zsr ?_
  refine zlv xas ?_
  refine zlz ?_
  refine zs2 ?_
  refine zlc (xc0 cl_96) (c_ixn2 (u := u) (pv := pv) (ln := ln) (pt := pt) (cnt := cnt) w (hV.below hS.below) hpc) ?_; rintro _ w ⟨rfl, hS'⟩
  replace hS := hS.cmp hS'; clear hS'
  refine zlv xas ?_
  refine zlt <| zsq <| zsr ?_
  refine zlv xmv ?_
  refine zlv (xkt xeql) ?_
  refine zlt <| zct <| zsr ?_
  refine zs2 ?_
  refine zlt <| zrt <| ztr <| zf1 ⟨_, rfl, ?_⟩
  exact ⟨rfl, hS⟩

theorem norm_new {nO i : Int} {lO ln cO cnt : Int → Int} {gO pt : Int → Int → Int} (n0 : 0 ≤ nO) (i0 : 0 ≤ i) (hs : plL nO lO gO cO = sums (plL i ln pt cnt)) (hne : ∀ k, 0 ≤ k → k < nO → ¬ (lst (ln i) (pt i) = lst (lO k) (gO k))) :
    plL (nO + 1) (gsn lO nO (ln i)) (gsn gO nO (pt i)) (snoc cO nO (cnt i)) = sums (plL (i + 1) ln pt cnt) := by
  rw [plL_next i0, sums_snoc, ← hs, addU_new fun v hv e => by
    obtain ⟨j, hj⟩ := List.mem_iff_getElem?.1 hv
    rw [plL_get] at hj
    split at hj
    · injection hj with hj
      rw [← hj] at e
      exact hne j (by omega) (by assumption) e.symm
    · cases hj]
  exact plL_snoc n0 (fun k k0 k1 => ⟨gsn_lt k1, snoc_lt k1, gsn_lt k1⟩) (gsn_at (by omega)) (snoc_at (by omega)) (gsn_at (by omega))
theorem norm_at {nO i r : Int} {lO ln cO cnt : Int → Int} {gO pt : Int → Int → Int} (i0 : 0 ≤ i) (hs : plL nO lO gO cO = sums (plL i ln pt cnt)) (r0 : 0 ≤ r) (r1 : r < nO) (e : lst (ln i) (pt i) = lst (lO r) (gO r)) (hne : ∀ k, 0 ≤ k → k < r → ¬ (lst (ln i) (pt i) = lst (lO k) (gO k))) :
    plL nO lO gO (upd cO r (cO r + cnt i)) = sums (plL (i + 1) ln pt cnt) := by
  rw [plL_next i0, sums_snoc, ← hs, addU_at (j := r.toNat) (v := (lst (lO r) (gO r), cO r)) (by rw [plL_get, Int.toNat_of_nonneg r0, if_pos r1]) e.symm fun k hk w hw h => by
    rw [plL_get, if_pos (by omega)] at hw
    injection hw with hw
    rw [← hw] at h
    exact hne k (by omega) (by omega) h.symm]
  apply List.ext_getElem?
  intro k
  rw [List.getElem?_set, plL_get, plL_get, plL_len]
  unfold upd
  by_cases hk : (k : Int) < nO
  · rw [if_pos hk, if_pos hk]
    by_cases hr : r.toNat = k
    · have hr' : (k : Int) = r := by omega
      rw [if_pos hr', if_pos hr, if_pos (by omega), hr']
    · have hr' : ¬ (k : Int) = r := by omega
      rw [if_neg hr', if_neg hr]
  · rw [if_neg hk, if_neg hk, if_neg (by omega)]
theorem nb_new {cC : Int → Int} {nC B C x : Int} (h : ∀ k, 0 ≤ k → k < nC → 1 ≤ cC k ∧ cC k ≤ B) (hB : B ≤ C) (x1 : 1 ≤ x) (x2 : x ≤ C) : ∀ k, 0 ≤ k → k < nC + 1 → 1 ≤ snoc cC nC x k ∧ snoc cC nC x k ≤ C := fun k k0 k1 => by
  by_cases e : k < nC
  · rw [snoc_lt e]; have := h k k0 e; omega
  · rw [snoc_at e]; omega
theorem nb_at {cC : Int → Int} {nC B C x r : Int} (h : ∀ k, 0 ≤ k → k < nC → 1 ≤ cC k ∧ cC k ≤ B) (hB : B ≤ C) (x1 : 1 ≤ x) (x2 : x ≤ C) : ∀ k, 0 ≤ k → k < nC → 1 ≤ upd cC r x k ∧ upd cC r x k ≤ C := fun k k0 k1 => by
  unfold upd
  by_cases e : k = r
  · rw [if_pos e]; omega
  · rw [if_neg e]; have := h k k0 k1; omega

set_option maxHeartbeats 4000000 in
set_option maxRecDepth 20000 in
theorem c_norm {vV : Value} {u : Int} {pv : Int → Value} {ln : Int → Int} {pt : Int → Int → Int} {cnt : Int → Int} (w0 : World) (hV : VAt w0 vV u pv ln pt cnt) (hn5 : u ≤ 10000000) (hlc : ∀ k, 0 ≤ k → k < u → ln k ≤ 100000) (hpc : ∀ k, 0 ≤ k → k < u → 1 ≤ cnt k ∧ cnt k ≤ 1000) :
    Calls Try.prog 80 [vV].toArray w0 fun e w => ∃ v, e = .returned v ∧ ∃ r n2 pv2 ln2 pt2 cnt2, v = r ∧ NormR (plL u ln pt cnt) (plL n2 ln2 pt2 cnt2) ∧ 0 ≤ n2 ∧ n2 ≤ u ∧ (∀ k, 0 ≤ k → k < n2 → 1 ≤ cnt2 k ∧ cnt2 k ≤ 1000 * u) ∧ Slh r n2 ∧ Sat w0 w [.own r 2 50 n2 (ucells pv2 cnt2), .sem (Frame.rows 3 n2 pv2 ln2 pt2)] := by
  have hn := hV.row.slh.n0; have hn1 := hV.row.slh.n1
  refine zenG Try.func80 Try.ntmps80 fun w hS => ?_
  refine zsr ?_
  refine zlv xas ?_
  refine zlz ?_
  refine zlv xas ?_
  refine zlt <| zsq <| zsr ?_
  refine zlv xmv ?_
  refine zlv (xln sl_43 hV.row.slh) ?_
  refine zlv xmv ?_
  refine zlt <| zbk ?_
  replace hS := hS.addnil 2 50 (ucells (fun _ => Value.slice none 0 0) (fun _ => 0))
  replace hS := hS.n1
  replace hS := hS.addrows 3 (fun _ => Value.slice none 0 0) (fun _ => 0) (fun _ _ => 0)
  replace hS := hS.n2
  replace hS := hS.n2
  have hrs0 := fun k (k0 : 0 ≤ k) (k1 : k < 0) => hS.slhIn 1 rfl k0 k1
  refine zlp (fun mm M w => ∃ (nC : Int) (wv : Int → Value) (lC : Int → Int) (gC : Int → Int → Int) (cC : Int → Int) (i : Int) (wC : Value), mm = ((u - i).toNat) ∧ (0 ≤ i) ∧ (i ≤ u) ∧ (0 ≤ nC ∧ nC ≤ i) ∧ (plL nC lC gC cC = sums (plL i ln pt cnt)) ∧ (∀ k, 0 ≤ k → k < nC → 1 ≤ cC k ∧ cC k ≤ 1000 * i) ∧ (∀ x, (wv x).oneCell' = true) ∧ (Slh wC nC) ∧ M = [(2, .slice none 0 0), (3, wC), (7, vV), (8, .int .i64 u), (9, .int .i64 i)] ∧ Sat w0 w [.own wC 2 50 nC (ucells wv cC), .sem (Frame.rows 3 nC wv lC gC)]) ⟨0, (fun _ => Value.slice none 0 0), (fun _ => 0), (fun _ _ => 0), (fun _ => 0), 0, (.slice none 0 0), rfl, (by omega), (by omega), (by omega), ?_, ?_, ?_, ?_, rfl, hS⟩ ?_
  ·
   rfl
  ·
   intro k k0 k1; omega
  ·
   intro x; rfl
  ·
   exact slh_nil
  clear hS w
  rintro mm M w ⟨nC, wv, lC, gC, cC, i, wC, rfl, h0, h1, hnC, hs, hbc, hone, hwC, rfl, hS⟩
  have hrs1 := fun k (k0 : 0 ≤ k) (k1 : k < nC) => hS.slhIn 1 rfl k0 k1
  refine zsr ?_
  refine zlv xlss ?_
  refine zlt <| zsq ?_
  refine zcif ?_ ?_ <;> intro hc
  ·
   refine zsk <| ztn <| zsq <| zbk <| zsr ?_
   refine zlv (xix (kk := 2 * i) sl_43 hV.row.slh) ?_
   refine zlv (xlw (cs := [(pv i), .int .i64 (cnt i)]) st_50 (hV.row.below hS.below) (ucells_at (k := 2 * i) (i := i) pv cnt (by omega))) ?_
   have hci := hpc i h0 (by omega)
   have hli := hlc i h0 (by omega)
   refine zla (xal (cs := [_, _]) el_50 hS) ?_; rintro _ w ⟨g1, rfl, hS⟩
   replace hS := hS.n3
   refine zle (xsw 2 st_50 hS (hd := (ones_cons (hV.p i (by omega) (by omega)).slh.one (ones_cons rfl ones_nil)))) ?_; clear hS; rintro w hS
   replace hS := hS.n3
   refine zlz ?_
   refine zlv xmv ?_
   refine zlv xmf ?_
   refine zlc (xc0 cl_96) (c_ixn1 (u := nC) (pv := wv) (ln := lC) (pt := gC) (cnt := cC) (n := (ln i)) (f := (pt i)) w (⟨(hS.rowN 0 rfl), fun k k0 k1 => hS.rowIn 1 rfl k0 k1, fun k k0 k1 => hS.roomIn 1 rfl k0 k1⟩ : VAt _ wC nC wv lC gC cC) (hS.holds _ (List.mem_of_getElem? (i := 2) rfl)) ((hV.p i (by omega) (by omega)).below hS.below)) ?_; rintro _ w ⟨r1, rfl, hr1, hS'⟩
   replace hS := hS.cmp hS'; clear hS'
   have hbr : 0 ≤ r1 → 1 ≤ cC r1 ∧ cC r1 ≤ 1000 * i := fun h => hbc r1 h (by rcases hr1 with ⟨h2, _⟩ | ⟨_, h2, _⟩ <;> omega)
   have hrr : r1 = -1 ∨ (0 ≤ r1 ∧ r1 < nC) := by rcases hr1 with ⟨h2, _⟩ | ⟨h2, h3, _⟩ <;> omega
   refine zlv xas ?_
   refine zlz ?_
   refine zs2 ?_
   refine zlt ?_
   refine zcif ?_ ?_ <;> intro hc
   ·
    refine zdst [0, 1, 2] [1, 2] 10 mx_ hS ?_; clear hS; intro w hS
    refine zdv 0 (fun _ => xmv) ?_
    refine zdv 1 (fun _ => xmv) ?_
    refine zdv 2 (fun _ => (xix (kk := 2 * r1) sl_43 hwC)) ?_
    refine zdv 3 (fun _ => (xfc (kk := 2 * r1 + 1) fd_50_1 hwC)) ?_
    refine zdl 4 (fun w hS => (xlr (u := .int .i64 (cC r1)) pl_3 (hS.rowN 0 rfl) (e := (ucells1 wv cC (by omega))))) ?_
    refine zdv 5 (fun _ => (xfb 1 fd_50_1)) ?_
    refine zdla 6 (fun w hS => (xlb 1 pl_3 hS)) ?_
    refine zdv 7 (fun _ => (xadd (r := (cC r1) + (cnt i)))) ?_
    refine zdv 8 (fun _ => (xix (kk := 2 * r1) sl_43 hwC)) ?_
    refine zdv 9 (fun _ => (xfc (kk := 2 * r1 + 1) fd_50_1 hwC)) ?_
    refine zde 10 (xso 0 pl_3 hS (upd_ucells1 (k := 2 * r1 + 1) (i := r1) _ _ (by omega))) ?_; clear hS; rintro w hS
    replace hS := hS.n3
    refine ⟨⟨fun h => absurd h (by decide), hS.pk [1, 2]⟩, ?_⟩
    refine zdd <| zbn <| ztn <| zrg ?_
    refine zlv (xadd (r := i + 1)) ?_
    refine zlv xmv ?_
    refine zln <| zlq ⟨nC, wv, lC, gC, (upd cC r1 ((cC r1) + (cnt i))), i + 1, wC, rfl, (by omega), (by omega), (by omega), ?_, ?_, ?_, ?_, rfl, hS.pk [0, 1]⟩
    ·
     first | exact norm_new (by omega) h0 hs (hr1.resolve_right (fun h => by omega)).2 | (have hr9 := hr1.resolve_left (fun h => by omega); exact norm_at h0 hs hr9.1 hr9.2.1 hr9.2.2.1 hr9.2.2.2)
    ·
     first | exact nb_new hbc (by omega) (by omega) (by omega) | exact nb_at hbc (by omega) (by omega) (by omega)
    ·
     first | exact hone | exact gsn_one hone ‹Slh _ _›.one
    ·
     exact hwC
   refine zdst [2] [2] 1000 mx_ hS ?_; clear hS; intro w hS
   refine zdv 0 (fun _ => xmv) ?_
   refine zdv 1 (fun _ => (xfb 0 fd_50_0)) ?_
   refine zdla 2 (fun w hS => (xlb 0 pl_22 hS)) ?_
   refine zdv 4 (fun _ => (xfb 1 fd_50_1)) ?_
   refine zdla 5 (fun w hS => (xlb 0 pl_3 hS)) ?_
   refine zdc 3 (xc0 cl_42) (c_clone (n := (ln i)) (f := (pt i)) w ((hV.p i (by omega) (by omega)).below hS.below) (by omega)) ?_; rintro vq1 w ⟨_, rfl, hslq1, hS'⟩
   replace hS : Sat w0 w [.own wC 2 50 nC (ucells wv cC), .sem (Frame.rows 3 nC wv lC gC), .blk g1 [(pv i), .int .i64 (cnt i)], .own vq1 1 3 (ln i) (ints (pt i))] := hS.comp hS'; clear hS'
   refine ⟨⟨fun _ => hS.pk [2], hS.pk [2]⟩, ?_⟩
   refine zdv 6 (fun _ => (xany (v := .agg #[vq1, .int .i64 (cnt i)]) (hr := by obtain ⟨_, _, _, _, rfl, _⟩ := hslq1; kernel_rfl))) ?_
   refine zda 7 (xli (n := 1) (len := 1) (pv := [(0, .agg #[vq1, .int .i64 (cnt i)])]) (cs := [vq1, .int .i64 (cnt i)]) (c := ucells (fun _ => vq1) (fun _ => (cnt i))) sl_43 el_50 hS (hf := by obtain ⟨_, _, _, _, rfl, _⟩ := hslq1; kernel_rfl)) ?_; rintro v1 w ⟨hS, hv1⟩
   replace hS := hS.n5
   refine ⟨⟨fun _ => hS.pk [2], hS.pk [2]⟩, ?_⟩
   refine zda 8 (xap 0 (r := nC + 1) sl_43 el_50 hS (hS.rowN 4 rfl) (cat_ucells _ _ _ _ _) (h1 := fun k _ _ => ucells_one (fun _ => hslq1.one) k)) ?_; rintro v2 w ⟨hS, hv2⟩
   replace hS := hS.n5
   replace hS := Sat.merge (l1 := [_]) (l2 := [_]) (l3 := [_]) hS (by omega)
   have hrs2 := fun k (k0 : 0 ≤ k) (k1 : k < nC + 1) => hS.slhIn 1 rfl k0 k1
   replace hS := hS.n4
   refine ⟨⟨fun _ => hS.pk [2], hS.pk [2]⟩, ?_⟩
   refine zdv 9 (fun _ => xas) ?_
   refine zdd <| zbn <| ztn <| zrg ?_
   refine zlv (xadd (r := i + 1)) ?_
   refine zlv xmv ?_
   refine zln <| zlq ⟨nC + 1, gsn wv nC vq1, gsn lC nC (ln i), gsn gC nC (pt i), (snoc cC nC (cnt i)), i + 1, v2, rfl, (by omega), (by omega), (by omega), ?_, ?_, ?_, ?_, rfl, hS.pk [0, 1]⟩
   ·
    first | exact norm_new (by omega) h0 hs (hr1.resolve_right (fun h => by omega)).2 | (have hr9 := hr1.resolve_left (fun h => by omega); exact norm_at h0 hs hr9.1 hr9.2.1 hr9.2.2.1 hr9.2.2.2)
   ·
    first | exact nb_new hbc (by omega) (by omega) (by omega) | exact nb_at hbc (by omega) (by omega) (by omega)
   ·
    first | exact hone | exact gsn_one hone ‹Slh _ _›.one
   ·
    exact hv2
  refine zxt <| ztx <| ztx <| zbh <| ztn <| zsr ?_
  refine zlv xmv ?_
  refine zlc (xc0 cl_99) (c_delu (u := nC) (pv := wv) (ln := lC) (pt := gC) (cnt := cC) w (⟨(hS.rowN 0 rfl), fun k k0 k1 => hS.rowIn 1 rfl k0 k1, fun k k0 k1 => hS.roomIn 1 rfl k0 k1⟩ : VAt _ wC nC wv lC gC cC) (fun k k0 k1 => (hbc k k0 k1).1)) ?_; rintro _ w ⟨rfl, hS'⟩
  replace hS := hS.cmp hS'; clear hS'
  refine zlv xas ?_
  refine zlz ?_
  refine zlv xmv ?_
  refine zlc (xc0 cl_101) (c_sortsU (vd := wC) (n := nC) (nm := nC) (s := fun k => k) (pv := wv) (cnt := cC) (lt := fun x y => ahd (lst (lC x) (gC x)) (lst (lC y) (gC y))) (F := Frame.rows 3 nC wv lC gC) w0 w (hS.pk [0, 1]) hwC (by omega) hone (fun w x y x0 x1 y0 y1 _ hF => c_ncmp w (hF.1 x x0 x1).row (hF.1 y y0 y1).row) (fun k k0 k1 => ⟨k0, k1⟩) (swo_ahd fun x => lst (lC x) (gC x)) (fun i j _ h _ => h)) ?_; rintro _ w ⟨rfl, t1, hpt1, hst1, hS⟩
  replace hS := hS.pmrows 1 hpt1
  replace hS : Sat w0 w [.own wC 2 50 nC (ucells (fun k => wv (t1 k)) (fun k => cC (t1 k))), .sem (Frame.rows 3 nC (fun k => wv (t1 k)) (fun k => lC (t1 k)) (fun k => gC (t1 k)))] := hS
  refine zlz ?_
  refine zs2 ?_
  refine zlt <| zrt <| zf1 ⟨_, rfl, ?_⟩
  obtain rfl : i = u := by omega
  exact ⟨_, _, _, _, _, _, rfl, .of_names hnC.1 hs hpt1 hst1, hnC.1, hnC.2, fun k k0 k1 => (by obtain ⟨q, q0, q1, q2⟩ := hpt1.fr k0 k1; rw [show t1 k = q from q2]; exact hbc q q0 q1), hwC, hS⟩

end Go.Proofs.Ytopmifmfecfaaaa
