/- The walks of the stable sort, at uses. -/
import Derived.Test.YtopmifmfecfaaaaGv
import Derived.Test.YtopmifmfecfaaaaSh
import Derived.Test.YtopmifmfecfaaaaGz
namespace Go.Proofs.Ytopmifmfecfaaaa
open Go Go.RowKit Go.Proofs.Gw
set_option linter.unusedVariables false

theorem cl_102 : calledT Try.prog 102 = true := by kernel_rfl
theorem cl_116 : calledT Try.prog 116 = true := by kernel_rfl
theorem cl_125 : calledT Try.prog 125 = true := by kernel_rfl
theorem cl_126 : calledT Try.prog 126 = true := by kernel_rfl
theorem cl_133 : calledT Try.prog 133 = true := by kernel_rfl
theorem cl_137 : calledT Try.prog 137 = true := by kernel_rfl
theorem it_112 : Try.prog.underlying 112 = some (.int .u64) := by kernel_rfl
theorem it_3 : Try.prog.underlying 3 = some (.int .i64) := by kernel_rfl
theorem mx_ : Try.prog.follows .mixedOrders = true := by kernel_rfl
theorem sl_42 : sliceT Try.prog 42 = some (50, 2) := by kernel_rfl
theorem sl_43 : sliceT Try.prog 43 = some (50, 2) := by kernel_rfl
theorem so_112 : (Try.prog.underlying 112).isSome = true := by kernel_rfl
theorem so_3 : (Try.prog.underlying 3).isSome = true := by kernel_rfl
theorem st_50 : structT Try.prog 50 = some 2 := by kernel_rfl
set_option maxRecDepth 20000 in
theorem c_swrU {vd : Value} {n : Int} {s : Int → Int} {pv : Int → Value} {cnt : Int → Int} {F : Go.Proofs.Gw.Frame} {a b m : Int} (w0 w : World) (hS : Sat w0 w [.own vd 2 50 n (ucells (fun z9 => pv (s z9)) (fun z9 => cnt (s z9))), .sem F]) (hsl : Slh vd n) (hn8 : n ≤ 100000000) (hone : ∀ x, (pv x).oneCell' = true) (a0 : 0 ≤ a) (m0 : 0 ≤ m) (ab : a + m ≤ b) (bn : b + m ≤ n) :
    Calls Try.prog 137 [vd, .int .i64 a, .int .i64 b, .int .i64 m, .func (.func 102) #[] #[]].toArray w fun e w => ∃ v, e = .returned v ∧ v = .tuple #[] ∧ Sat w0 w [.own vd 2 50 n (ucells (fun z9 => pv ((swr s a b m) z9)) (fun z9 => cnt ((swr s a b m) z9))), .sem F] := by
  refine zenF Try.func137 Try.ntmps137 ?_
  refine zsr ?_
  refine zlv xas ?_
  refine zlt <| zbk <| zlp (fun mm M w => ∃ (t : Int → Int) (i : Int), mm = ((m - i).toNat) ∧ (0 ≤ i) ∧ (i ≤ m) ∧ (t = swr s a b i) ∧ M = [(0, vd), (1, .int .i64 a), (2, .int .i64 b), (3, .int .i64 m), (10, .int .i64 i)] ∧ Sat w0 w [.own vd 2 50 n (ucells (fun z9 => pv (t z9)) (fun z9 => cnt (t z9))), .sem F]) ⟨s, 0, rfl, (by omega), (by omega), ?_, rfl, hS⟩ ?_
  ·
   exact (swr_zero s a b).symm
  clear hS w
  rintro mm M w ⟨t, i, rfl, i0, i1, ht, rfl, hS⟩
  refine zsq <| zsr ?_
  refine zs3 ?_
  refine zlt ?_
  refine zcif ?_ ?_ <;> intro hc
  ·
   refine zsk <| ztn <| zsq <| zbk ?_
   refine zdst [0, 1] [1] 21 mx_ hS ?_; clear hS; intro w hS
   refine zdv 0 (fun _ => xmv) ?_
   refine zdv 1 (fun _ => xmv) ?_
   refine zdv 2 (fun _ => xmv) ?_
   refine zdv 3 (fun _ => (xadd (r := a + i))) ?_
   refine zdv 4 (fun _ => xmv) ?_
   refine zdv 5 (fun _ => xmv) ?_
   refine zdv 6 (fun _ => xmv) ?_
   refine zdv 7 (fun _ => (xadd (r := b + i))) ?_
   refine zdv 8 (fun _ => xmv) ?_
   refine zdv 9 (fun _ => xmv) ?_
   refine zdv 10 (fun _ => xmv) ?_
   refine zdv 11 (fun _ => (xadd (r := b + i))) ?_
   refine zdv 12 (fun _ => (xix (kk := 2 * b + 2 * i) sl_42 hsl)) ?_
   refine zdl 13 (fun w hS => (xlw (cs := [(pv (t (b + i))), .int .i64 (cnt (t (b + i)))]) st_50 (hS.rowN 0 rfl) (ucells_at (k := 2 * b + 2 * i) (i := b + i) (fun z9 => pv (t z9)) (fun z9 => cnt (t z9)) (by omega)))) ?_
   refine zdv 14 (fun _ => xmv) ?_
   refine zdv 15 (fun _ => xmv) ?_
   refine zdv 16 (fun _ => xmv) ?_
   refine zdv 17 (fun _ => (xadd (r := a + i))) ?_
   refine zdv 18 (fun _ => (xix (kk := 2 * a + 2 * i) sl_42 hsl)) ?_
   refine zdl 19 (fun w hS => (xlw (cs := [(pv (t (a + i))), .int .i64 (cnt (t (a + i)))]) st_50 (hS.rowN 0 rfl) (ucells_at (k := 2 * a + 2 * i) (i := a + i) (fun z9 => pv (t z9)) (fun z9 => cnt (t z9)) (by omega)))) ?_
   refine zdv 20 (fun _ => (xix (kk := 2 * a + 2 * i) sl_42 hsl)) ?_
   refine zde 21 (xso2 0 st_50 hS (upd_use (i := a + i) (k := 2 * a + 2 * i) _ _ _ _ (by omega)) (hv := hone _)) ?_; clear hS; rintro w hS
   replace hS := hS.n2
   refine ⟨⟨fun h => absurd h (by decide), hS.pk [1]⟩, ?_⟩
   refine zdv 22 (fun _ => (xix (kk := 2 * b + 2 * i) sl_42 hsl)) ?_
   refine zde 23 (xso2 0 st_50 hS (Eq.trans (upd_use (i := b + i) (k := 2 * b + 2 * i) _ _ _ _ (by omega)) (ucells_swp pv cnt t (a + i) (b + i))) (hv := hone _)) ?_; clear hS; rintro w hS
   replace hS := hS.n2
   refine ⟨⟨fun h => absurd h (by decide), hS.pk [1]⟩, ?_⟩
   refine zdd <| zbn <| ztn <| zrg ?_
   refine zlv xmv ?_
   refine zlv (xadd (r := i + 1)) ?_
   refine zlv xas ?_
   refine zln <| zlq ⟨swp t (a + i) (b + i), i + 1, rfl, (by omega), (by omega), ?_, rfl, hS⟩
   ·
    rw [ht]; exact swr_next i0 (by omega) (by omega) (by omega)
  refine zxt <| ztx <| ztx <| zbh <| zfn0 ⟨_, rfl, ?_⟩
  obtain rfl : i = m := by omega
  subst ht
  exact ⟨rfl, hS⟩

set_option maxRecDepth 20000 in
theorem c_rotU {vd : Value} {n : Int} {s : Int → Int} {pv : Int → Value} {cnt : Int → Int} {F : Go.Proofs.Gw.Frame} {a m b : Int} (w0 w : World) (hS : Sat w0 w [.own vd 2 50 n (ucells (fun z9 => pv (s z9)) (fun z9 => cnt (s z9))), .sem F]) (hsl : Slh vd n) (hn8 : n ≤ 100000000) (hone : ∀ x, (pv x).oneCell' = true) (a0 : 0 ≤ a) (am : a < m) (mb : m < b) (bn : b ≤ n) :
    Calls Try.prog 133 [vd, .int .i64 a, .int .i64 m, .int .i64 b, .func (.func 102) #[] #[]].toArray w fun e w => ∃ v, e = .returned v ∧ v = .tuple #[] ∧ Sat w0 w [.own vd 2 50 n (ucells (fun z9 => pv ((rot s a m b) z9)) (fun z9 => cnt ((rot s a m b) z9))), .sem F] := by
  refine zenF Try.func133 Try.ntmps133 ?_
  refine zsr ?_
  refine zs2 ?_
  refine zlv (xsub (r := m - a)) ?_
  refine zlv xas ?_
  refine zlz ?_
  refine zs2 ?_
  refine zlv (xsub (r := b - m)) ?_
  refine zlv xas ?_
  refine zlt <| zsq <| zbk <| zlp (fun mm M w => ∃ (t : Int → Int) (i : Int) (j : Int), mm = ((i + j).toNat) ∧ (1 ≤ i) ∧ (1 ≤ j) ∧ (a ≤ m - i) ∧ (m + j ≤ b) ∧ (rot t (m - i) m (m + j) = rot s a m b) ∧ M = [(0, vd), (2, .int .i64 m), (4, .func (.func 102) #[] #[]), (10, .int .i64 i), (11, .int .i64 j)] ∧ Sat w0 w [.own vd 2 50 n (ucells (fun z9 => pv (t z9)) (fun z9 => cnt (t z9))), .sem F]) ⟨s, m - a, b - m, rfl, (by omega), (by omega), (by omega), (by omega), ?_, rfl, hS⟩ ?_
  ·
   rw [show m - (m - a) = a by omega, show m + (b - m) = b by omega]
  clear hS w
  rintro mm M w ⟨t, i, j, rfl, i0, j0, ia, jb, hr, rfl, hS⟩
  refine zsq <| zsr ?_
  refine zs3 ?_
  refine zlt ?_
  refine zcif ?_ ?_ <;> intro hc
  ·
   refine zsk <| ztn <| zbk <| zsr ?_
   refine zs3 ?_
   refine zlt ?_
   refine zcif ?_ ?_ <;> intro hc
   ·
    refine zsr ?_
    refine zs3 ?_
    refine zlv (xsub (r := m - i)) ?_
    refine zs3 ?_
    refine zlc (xc0 cl_137) (c_swrU (s := t) (a := m - i) (b := m) (m := j) w0 w hS hsl hn8 hone (by omega) (by omega) (by omega) (by omega)) ?_; rintro _ w ⟨rfl, hS⟩
    replace hS := hS.n2
    refine zlt <| zrg ?_
    refine zs2 ?_
    refine zlv (xsub (r := i - j)) ?_
    refine zlv xas ?_
    refine zln <| zbn <| zlq ⟨(swr t (m - i) m j), i - j, j, rfl, (by omega), (by omega), (by omega), (by omega), ?_, rfl, hS⟩
    ·
     first | (rw [← hr, show m - (i - j) = m - i + j by omega]; exact rot_left (by omega) (by omega)) | (rw [← hr, show m + (j - i) = m + j - i by omega]; exact rot_right (by omega) (by omega))
   refine zsr ?_
   refine zs3 ?_
   refine zlv (xsub (r := m - i)) ?_
   refine zs2 ?_
   refine zlv (xadd (r := m + j)) ?_
   refine zlv xmv ?_
   refine zlv (xsub (r := m + j - i)) ?_
   refine zs2 ?_
   refine zlc (xc0 cl_137) (c_swrU (s := t) (a := m - i) (b := m + j - i) (m := i) w0 w hS hsl hn8 hone (by omega) (by omega) (by omega) (by omega)) ?_; rintro _ w ⟨rfl, hS⟩
   replace hS := hS.n2
   refine zlt <| zrg ?_
   refine zs2 ?_
   refine zlv (xsub (r := j - i)) ?_
   refine zlv xas ?_
   refine zln <| zbn <| zlq ⟨(swr t (m - i) (m + j - i) i), i, j - i, rfl, (by omega), (by omega), (by omega), (by omega), ?_, rfl, hS⟩
   ·
    first | (rw [← hr, show m - (i - j) = m - i + j by omega]; exact rot_left (by omega) (by omega)) | (rw [← hr, show m + (j - i) = m + j - i by omega]; exact rot_right (by omega) (by omega))
  refine zxt <| ztx <| ztx <| zbh <| ztn <| zrg ?_
  refine zs3 ?_
  refine zlv (xsub (r := m - i)) ?_
  refine zs3 ?_
  refine zlc (xc0 cl_137) (c_swrU (s := t) (a := m - i) (b := m) (m := i) w0 w hS hsl hn8 hone (by omega) (by omega) (by omega) (by omega)) ?_; rintro _ w ⟨rfl, hS⟩
  replace hS := hS.n2
  refine zln <| zfn0 ⟨_, rfl, ?_⟩
  have hz : (swr t (m - i) m i) = rot s a m b := by
    rw [← hr, show j = i by omega]; exact rot_even (by omega)
  rw [hz] at hS
  exact ⟨rfl, hS⟩

set_option maxRecDepth 20000 in
theorem c_insU {vd : Value} {n nm : Int} {s : Int → Int} {pv : Int → Value} {cnt : Int → Int} {lt : Int → Int → Prop} {F : Go.Proofs.Gw.Frame} {a b : Int} (w0 w : World) (hS : Sat w0 w [.own vd 2 50 n (ucells (fun z9 => pv (s z9)) (fun z9 => cnt (s z9))), .sem F]) (hsl : Slh vd n) (hn8 : n ≤ 100000000) (hone : ∀ x, (pv x).oneCell' = true) (hcmp : ∀ (w : World) (x y : Int), 0 ≤ x → x < nm → 0 ≤ y → y < nm → F.holds w → Calls Try.prog 102 [.agg #[pv x, .int .i64 (cnt x)], .agg #[pv y, .int .i64 (cnt y)]].toArray w fun e w' => ∃ v, e = .returned v ∧ ∃ c : Int, v = .int .i64 c ∧ (c < 0 ↔ lt x y) ∧ Sat w w' []) (hd : ∀ k, 0 ≤ k → k < n → 0 ≤ s k ∧ s k < nm) (hw : Swo lt) (a0 : 0 ≤ a) (ab : a ≤ b) (bn : b ≤ n) (hinc : Incr a b s) :
    Calls Try.prog 125 [vd, .int .i64 a, .int .i64 b, .func (.func 102) #[] #[]].toArray w fun e w => ∃ v, e = .returned v ∧ v = .tuple #[] ∧ ∃ t : Int → Int, PermOn a b s t ∧ Srt (Tie lt) a b t ∧ Sat w0 w [.own vd 2 50 n (ucells (fun z9 => pv (t z9)) (fun z9 => cnt (t z9))), .sem F] := by
  refine zenF Try.func125 Try.ntmps125 ?_
  refine zsr ?_
  refine zlv xmv ?_
  refine zlv (xadd (r := a + 1)) ?_
  refine zlv xas ?_
  refine zlt <| zbk <| zlp (fun mm M w => ∃ (t : Int → Int) (i : Int), mm = ((b - i).toNat) ∧ (a + 1 ≤ i) ∧ (i ≤ b ∨ i = a + 1) ∧ (PermOn a i s t) ∧ (Srt (Tie lt) a i t) ∧ (∀ k, 0 ≤ k → k < n → 0 ≤ t k ∧ t k < nm) ∧ M = [(0, vd), (1, .int .i64 a), (2, .int .i64 b), (3, .func (.func 102) #[] #[]), (8, .int .i64 i)] ∧ Sat w0 w [.own vd 2 50 n (ucells (fun z9 => pv (t z9)) (fun z9 => cnt (t z9))), .sem F]) ⟨s, a + 1, rfl, (by omega), (by omega), ?_, ?_, ?_, rfl, hS⟩ ?_
  ·
   exact .refl _ _ _
  ·
   intro p q p0 pq q1; omega
  ·
   exact hd
  clear hS w
  rintro mm M w ⟨t, i, rfl, i0, i1, hp, hs, hd1, rfl, hS⟩
  refine zsq <| zsr ?_
  refine zs3 ?_
  refine zlt ?_
  refine zcif ?_ ?_ <;> intro hc
  ·
   refine zsk <| ztn <| zsq <| zbk <| zsr ?_
   refine zs2 ?_
   refine zlt <| zbk <| zlp (fun mm M w => ∃ (t2 : Int → Int) (j : Int), mm = ((j - a).toNat) ∧ (a ≤ j) ∧ (j ≤ i) ∧ (Ins lt a i j t t2) ∧ (∀ k, 0 ≤ k → k < n → 0 ≤ t2 k ∧ t2 k < nm) ∧ M = [(0, vd), (1, .int .i64 a), (2, .int .i64 b), (3, .func (.func 102) #[] #[]), (8, .int .i64 i), (9, .int .i64 j)] ∧ Sat w0 w [.own vd 2 50 n (ucells (fun z9 => pv (t2 z9)) (fun z9 => cnt (t2 z9))), .sem F]) ⟨t, i, rfl, (by omega), (by omega), ?_, ?_, rfl, hS⟩ ?_
   ·
    exact Ins.start (by omega) hs (ins_big hp hinc (by omega))
   ·
    exact hd1
   clear hS w
   rintro mm M w ⟨t2, j, rfl, j0, j1, hI, hd2, rfl, hS⟩
   refine zsq <| zsq ?_
   refine zdst [0, 1] [0, 1] 1000 mx_ hS ?_; clear hS; intro w hS
   refine zdv 0 (fun _ => xmv) ?_
   refine zdv 1 (fun _ => xmv) ?_
   refine zdv 2 (fun _ => xgtr) ?_
   refine zdv 3 (fun _ => xmv) ?_
   refine zdb 21 ?_ ?_ <;> intro hc
   ·
    refine zdv 4 (fun _ => xmv) ?_
    refine zdv 5 (fun _ => xmv) ?_
    refine zdv 6 (fun _ => xmv) ?_
    refine zdv 7 (fun _ => (xix (kk := 2 * j) sl_42 hsl)) ?_
    refine zdla 8 (fun w hS => (xlw (cs := [(pv (t2 j)), .int .i64 (cnt (t2 j))]) st_50 (hS.rowN 0 rfl) (ucells_at (k := 2 * j) (i := j) (fun z9 => pv (t2 z9)) (fun z9 => cnt (t2 z9)) (by omega)))) ?_
    refine zdv 9 (fun _ => xmv) ?_
    refine zdv 10 (fun _ => xmv) ?_
    refine zdv 11 (fun _ => (xsub (r := j - 1))) ?_
    refine zdv 12 (fun _ => (xix (kk := 2 * j - 2) sl_42 hsl)) ?_
    refine zdla 13 (fun w hS => (xlw (cs := [(pv (t2 (j - 1))), .int .i64 (cnt (t2 (j - 1)))]) st_50 (hS.rowN 0 rfl) (ucells_at (k := 2 * j - 2) (i := j - 1) (fun z9 => pv (t2 z9)) (fun z9 => cnt (t2 z9)) (by omega)))) ?_
    refine zdc 14 (xc0 cl_102) (hcmp w (t2 j) (t2 (j - 1)) (hd2 j (by omega) (by omega)).1 (hd2 j (by omega) (by omega)).2 (hd2 (j - 1) (by omega) (by omega)).1 (hd2 (j - 1) (by omega) (by omega)).2 (hS.holds _ (List.mem_of_getElem? (i := 1) rfl))) ?_; rintro _ w ⟨c1, rfl, hc1, hS'⟩
    replace hS := hS.cmp hS'; clear hS'
    refine ⟨⟨fun _ => hS, hS⟩, ?_⟩
    refine zdv 15 (fun _ => xlss) ?_
    refine zdv 16 (fun _ => xpt) ?_
    refine zdd <| ztn ?_
    refine zcif ?_ ?_ <;> intro hc
    ·
     refine zsk <| ztn <| zsq <| zbk ?_
     refine zdst [0, 1] [1] 15 mx_ hS ?_; clear hS; intro w hS
     refine zdv 0 (fun _ => xmv) ?_
     refine zdv 1 (fun _ => xmv) ?_
     refine zdv 2 (fun _ => xmv) ?_
     refine zdv 3 (fun _ => xmv) ?_
     refine zdv 4 (fun _ => (xsub (r := j - 1))) ?_
     refine zdv 5 (fun _ => xmv) ?_
     refine zdv 6 (fun _ => xmv) ?_
     refine zdv 7 (fun _ => (xsub (r := j - 1))) ?_
     refine zdv 8 (fun _ => (xix (kk := 2 * j - 2) sl_42 hsl)) ?_
     refine zdl 9 (fun w hS => (xlw (cs := [(pv (t2 (j - 1))), .int .i64 (cnt (t2 (j - 1)))]) st_50 (hS.rowN 0 rfl) (ucells_at (k := 2 * j - 2) (i := j - 1) (fun z9 => pv (t2 z9)) (fun z9 => cnt (t2 z9)) (by omega)))) ?_
     refine zdv 10 (fun _ => xmv) ?_
     refine zdv 11 (fun _ => xmv) ?_
     refine zdv 12 (fun _ => (xix (kk := 2 * j) sl_42 hsl)) ?_
     refine zdl 13 (fun w hS => (xlw (cs := [(pv (t2 j)), .int .i64 (cnt (t2 j))]) st_50 (hS.rowN 0 rfl) (ucells_at (k := 2 * j) (i := j) (fun z9 => pv (t2 z9)) (fun z9 => cnt (t2 z9)) (by omega)))) ?_
     refine zdv 14 (fun _ => (xix (kk := 2 * j) sl_42 hsl)) ?_
     refine zde 15 (xso2 0 st_50 hS (upd_use (i := j) (k := 2 * j) _ _ _ _ (by omega)) (hv := hone _)) ?_; clear hS; rintro w hS
     replace hS := hS.n2
     refine ⟨⟨fun h => absurd h (by decide), hS.pk [1]⟩, ?_⟩
     refine zdv 16 (fun _ => (xix (kk := 2 * j - 2) sl_42 hsl)) ?_
     refine zde 17 (xso2 0 st_50 hS (Eq.trans (upd_use (i := j - 1) (k := 2 * j - 2) _ _ _ _ (by omega)) (ucells_swp pv cnt t2 j (j - 1))) (hv := hone _)) ?_; clear hS; rintro w hS
     replace hS := hS.n2
     refine ⟨⟨fun h => absurd h (by decide), hS.pk [1]⟩, ?_⟩
     refine zdd <| zbn <| ztn <| zrg ?_
     refine zlv xmv ?_
     refine zlv (xsub (r := j - 1)) ?_
     refine zlv xas ?_
     refine zln <| zlq ⟨swp t2 j (j - 1), j - 1, rfl, (by omega), (by omega), ?_, ?_, rfl, hS⟩
     ·
      exact hI.step (by omega) (by omega) (hc1.1 ‹c1 < 0›)
     ·
      exact (swp_perm (lo := a) (hi := n) (by omega) (by omega) (by omega) (by omega)).dom a0 (.inl (by omega)) hd2
    refine zxt <| ztx <| ztx <| zbh <| zbn <| ztn <| zrg ?_
    refine zlv xmv ?_
    refine zlv (xadd (r := i + 1)) ?_
    refine zlv xas ?_
    refine zln <| zlq ⟨t2, i + 1, rfl, (by omega), (by omega), ?_, ?_, ?_, rfl, hS⟩
    ·
     exact (hp.mono (by omega) (by omega)).trans hI.perm
    ·
     exact hI.fin hw (by omega) (by omega) (by first | exact .inl (by omega) | exact .inr fun h => absurd (hc1.2 h) ‹¬ c1 < 0›)
    ·
     exact hd2
   refine zdof 4 ?_
   refine zdof 5 ?_
   refine zdof 6 ?_
   refine zdof 7 ?_
   refine zdof 8 ?_
   refine zdof 9 ?_
   refine zdof 10 ?_
   refine zdof 11 ?_
   refine zdof 12 ?_
   refine zdof 13 ?_
   refine zdof 14 ?_
   refine zdof 15 ?_
   refine zdv 16 (fun _ => xpf) ?_
   refine zdd <| ztn <| zcf <| zxt <| ztx <| ztx <| zbh <| zbn <| ztn <| zrg ?_
   refine zlv xmv ?_
   refine zlv (xadd (r := i + 1)) ?_
   refine zlv xas ?_
   refine zln <| zlq ⟨t2, i + 1, rfl, (by omega), (by omega), ?_, ?_, ?_, rfl, hS⟩
   ·
    exact (hp.mono (by omega) (by omega)).trans hI.perm
   ·
    exact hI.fin hw (by omega) (by omega) (by first | exact .inl (by omega) | exact .inr fun h => absurd (hc1.2 h) ‹¬ c1 < 0›)
   ·
    exact hd2
  refine zxt <| ztx <| ztx <| zbh <| zfn0 ⟨_, rfl, ?_⟩
  refine ⟨rfl, t, ?_, ?_, hS⟩
  · by_cases hab : i ≤ b
    · exact hp.mono (by omega) (by omega)
    · obtain ⟨p_, q_, e1, e2, e3⟩ := hp
      exact ⟨p_, q_, e1, fun k hk => by
        by_cases hka : k = a
        · subst hka
          apply Classical.byContradiction; intro hne
          have h5 := e2 (p_ k) (by omega)
          have h6 := congrArg q_ h5
          rw [(e1 _).2, (e1 _).2] at h6; exact hne h6
        · exact e2 k (by omega), e3⟩
  · exact hs.mono (by omega) (by omega)

set_option maxHeartbeats 4000000 in
set_option maxRecDepth 20000 in
theorem c_symU {vd : Value} {n nm : Int} {pv : Int → Value} {cnt : Int → Int} {lt : Int → Int → Prop} {F : Go.Proofs.Gw.Frame} (hsl : Slh vd n) (hn8 : n ≤ 100000000) (hone : ∀ x, (pv x).oneCell' = true) (hcmp : ∀ (w : World) (x y : Int), 0 ≤ x → x < nm → 0 ≤ y → y < nm → F.holds w → Calls Try.prog 102 [.agg #[pv x, .int .i64 (cnt x)], .agg #[pv y, .int .i64 (cnt y)]].toArray w fun e w' => ∃ v, e = .returned v ∧ ∃ c : Int, v = .int .i64 c ∧ (c < 0 ↔ lt x y) ∧ Sat w w' []) (hw : Swo lt) (N : Nat) : ∀ {s : Int → Int} {a m b : Int} (w0 w : World) (hS : Sat w0 w [.own vd 2 50 n (ucells (fun z9 => pv (s z9)) (fun z9 => cnt (s z9))), .sem F]) (hd : ∀ k, 0 ≤ k → k < n → 0 ≤ s k ∧ s k < nm) (a0 : 0 ≤ a) (am : a < m) (mb : m < b) (bn : b ≤ n) (h1 : Srt (Tie lt) a m s) (h2 : Srt (Tie lt) m b s) (hp : Parted a m b s) (hN : (b - a).toNat < N),
    Calls Try.prog 126 [vd, .int .i64 a, .int .i64 m, .int .i64 b, .func (.func 102) #[] #[]].toArray w fun e w => ∃ v, e = .returned v ∧ v = .tuple #[] ∧ ∃ t : Int → Int, PermOn a b s t ∧ Srt (Tie lt) a b t ∧ Sat w0 w [.own vd 2 50 n (ucells (fun z9 => pv (t z9)) (fun z9 => cnt (t z9))), .sem F] := by
  induction N with
  | zero => intros; omega
  | succ N ih =>
    intro s a m b w0 w hS hd a0 am mb bn h1 h2 hp hN
    refine zenF Try.func126 Try.ntmps126 ?_
    refine zsq <| zsr ?_
    refine zs2 ?_
    refine zlv (xsub (r := m - a)) ?_
    refine zlv xeql ?_
    refine zlt ?_
    refine zcif ?_ ?_ <;> intro hc
    ·
     refine zsr ?_
     refine zs2 ?_
     refine zlz ?_
     refine zs2 ?_
     refine zlt <| zsq <| zbk <| zlp (fun mm M w => ∃ (i : Int) (j : Int), mm = ((j - i).toNat) ∧ (m ≤ i) ∧ (i ≤ j) ∧ (j ≤ b) ∧ (i = a + 1 ∨ lt (s (i - 1)) (s a)) ∧ (j = b ∨ ¬ lt (s j) (s a)) ∧ M = [(0, vd), (1, .int .i64 a), (2, .int .i64 m), (3, .int .i64 b), (4, .func (.func 102) #[] #[]), (10, .int .i64 i), (11, .int .i64 j)] ∧ Sat w0 w [.own vd 2 50 n (ucells (fun z9 => pv (s z9)) (fun z9 => cnt (s z9))), .sem F]) ⟨m, b, rfl, (by omega), (by omega), (by omega), ?_, ?_, rfl, hS⟩ ?_
     ·
      exact .inl (by omega)
     ·
      exact .inl rfl
     clear hS w
     rintro mm M w ⟨i, j, rfl, i0, ij, j1, hi, hj, rfl, hS⟩
     refine zsq <| zsr ?_
     refine zs3 ?_
     refine zlt ?_
     refine zcif ?_ ?_ <;> intro hc
     ·
      refine zsk <| ztn <| zbk <| zsr ?_
      refine zs2 ?_
      refine zlv (xadd (r := i + j)) ?_
      refine zlv (xcv so_3 it_112) ?_
      refine zlv (xshr1 (r := ((i + j) / 2))) ?_
      refine zlv (xcv so_112 it_3) ?_
      refine zlv xas ?_
      refine zlt <| zsq ?_
      refine zdst [0, 1] [0, 1] 1000 mx_ hS ?_; clear hS; intro w hS
      refine zdv 0 (fun _ => xmv) ?_
      refine zdv 1 (fun _ => xmv) ?_
      refine zdv 2 (fun _ => xmv) ?_
      refine zdv 3 (fun _ => (xix (kk := 2 * ((i + j) / 2)) sl_42 hsl)) ?_
      refine zdla 4 (fun w hS => (xlw (cs := [(pv (s ((i + j) / 2))), .int .i64 (cnt (s ((i + j) / 2)))]) st_50 (hS.rowN 0 rfl) (ucells_at (k := 2 * ((i + j) / 2)) (i := ((i + j) / 2)) (fun z9 => pv (s z9)) (fun z9 => cnt (s z9)) (by omega)))) ?_
      refine zdv 5 (fun _ => xmv) ?_
      refine zdv 6 (fun _ => xmv) ?_
      refine zdv 7 (fun _ => (xix (kk := 2 * a) sl_42 hsl)) ?_
      refine zdla 8 (fun w hS => (xlw (cs := [(pv (s a)), .int .i64 (cnt (s a))]) st_50 (hS.rowN 0 rfl) (ucells_at (k := 2 * a) (i := a) (fun z9 => pv (s z9)) (fun z9 => cnt (s z9)) (by omega)))) ?_
      refine zdc 9 (xc0 cl_102) (hcmp w (s ((i + j) / 2)) (s a) (hd ((i + j) / 2) (by omega) (by omega)).1 (hd ((i + j) / 2) (by omega) (by omega)).2 (hd a (by omega) (by omega)).1 (hd a (by omega) (by omega)).2 (hS.holds _ (List.mem_of_getElem? (i := 1) rfl))) ?_; rintro _ w ⟨c1, rfl, hc1, hS'⟩
      replace hS := hS.cmp hS'; clear hS'
      refine ⟨⟨fun _ => hS, hS⟩, ?_⟩
      refine zdv 10 (fun _ => xlss) ?_
      refine zdd <| ztn ?_
      refine zcif ?_ ?_ <;> intro hc
      ·
       refine zrg ?_
       refine zlv xmv ?_
       refine zlv (xadd (r := ((i + j) / 2) + 1)) ?_
       refine zlv xas ?_
       refine zln <| zbn <| zlq ⟨((i + j) / 2) + 1, j, rfl, (by omega), (by omega), (by omega), ?_, ?_, rfl, hS⟩
       ·
        first | exact hi | (right; rw [show (i + j) / 2 + 1 - 1 = (i + j) / 2 by omega]; exact hc1.1 ‹c1 < 0›)
       ·
        first | exact hj | exact .inr fun h => absurd (hc1.2 h) ‹¬ c1 < 0›
      refine zrg ?_
      refine zs2 ?_
      refine zln <| zbn <| zlq ⟨i, ((i + j) / 2), rfl, (by omega), (by omega), (by omega), ?_, ?_, rfl, hS⟩
      ·
       first | exact hi | (right; rw [show (i + j) / 2 + 1 - 1 = (i + j) / 2 by omega]; exact hc1.1 ‹c1 < 0›)
      ·
       first | exact hj | exact .inr fun h => absurd (hc1.2 h) ‹¬ c1 < 0›
     refine zxt <| ztx <| ztx <| zbh <| ztn <| zsq <| zsr ?_
     refine zs2 ?_
     refine zlt <| zbk <| zlp (fun mm M w => ∃ (t : Int → Int) (k : Int), mm = ((i - 1 - k).toNat) ∧ (a ≤ k) ∧ (k ≤ i - 1) ∧ (t = rot s a (a + 1) (k + 1)) ∧ M = [(0, vd), (1, .int .i64 a), (2, .int .i64 m), (3, .int .i64 b), (4, .func (.func 102) #[] #[]), (10, .int .i64 i), (13, .int .i64 k)] ∧ Sat w0 w [.own vd 2 50 n (ucells (fun z9 => pv (t z9)) (fun z9 => cnt (t z9))), .sem F]) ⟨s, a, rfl, (by omega), (by omega), ?_, rfl, hS⟩ ?_
     ·
      exact (shl_zero s a).symm
     clear hS w
     rintro mm M w ⟨t, k, rfl, k0, k1, ht, rfl, hS⟩
     refine zsq <| zsr ?_
     refine zs2 ?_
     refine zlv (xsub (r := i - 1)) ?_
     refine zlv xlss ?_
     refine zlt ?_
     refine zcif ?_ ?_ <;> intro hc
     ·
      refine zsk <| ztn <| zsq <| zbk ?_
      refine zdst [0, 1] [1] 15 mx_ hS ?_; clear hS; intro w hS
      refine zdv 0 (fun _ => xmv) ?_
      refine zdv 1 (fun _ => xmv) ?_
      refine zdv 2 (fun _ => xmv) ?_
      refine zdv 3 (fun _ => xmv) ?_
      refine zdv 4 (fun _ => (xadd (r := k + 1))) ?_
      refine zdv 5 (fun _ => xmv) ?_
      refine zdv 6 (fun _ => xmv) ?_
      refine zdv 7 (fun _ => (xadd (r := k + 1))) ?_
      refine zdv 8 (fun _ => (xix (kk := 2 * k + 2) sl_42 hsl)) ?_
      refine zdl 9 (fun w hS => (xlw (cs := [(pv (t (k + 1))), .int .i64 (cnt (t (k + 1)))]) st_50 (hS.rowN 0 rfl) (ucells_at (k := 2 * k + 2) (i := k + 1) (fun z9 => pv (t z9)) (fun z9 => cnt (t z9)) (by omega)))) ?_
      refine zdv 10 (fun _ => xmv) ?_
      refine zdv 11 (fun _ => xmv) ?_
      refine zdv 12 (fun _ => (xix (kk := 2 * k) sl_42 hsl)) ?_
      refine zdl 13 (fun w hS => (xlw (cs := [(pv (t k)), .int .i64 (cnt (t k))]) st_50 (hS.rowN 0 rfl) (ucells_at (k := 2 * k) (i := k) (fun z9 => pv (t z9)) (fun z9 => cnt (t z9)) (by omega)))) ?_
      refine zdv 14 (fun _ => (xix (kk := 2 * k) sl_42 hsl)) ?_
      refine zde 15 (xso2 0 st_50 hS (upd_use (i := k) (k := 2 * k) _ _ _ _ (by omega)) (hv := hone _)) ?_; clear hS; rintro w hS
      replace hS := hS.n2
      refine ⟨⟨fun h => absurd h (by decide), hS.pk [1]⟩, ?_⟩
      refine zdv 16 (fun _ => (xix (kk := 2 * k + 2) sl_42 hsl)) ?_
      refine zde 17 (xso2 0 st_50 hS (Eq.trans (upd_use (i := k + 1) (k := 2 * k + 2) _ _ _ _ (by omega)) (ucells_swp pv cnt t k (k + 1))) (hv := hone _)) ?_; clear hS; rintro w hS
      replace hS := hS.n2
      refine ⟨⟨fun h => absurd h (by decide), hS.pk [1]⟩, ?_⟩
      refine zdd <| zbn <| ztn <| zrg ?_
      refine zlv xmv ?_
      refine zlv (xadd (r := k + 1)) ?_
      refine zlv xas ?_
      refine zln <| zlq ⟨swp t k (k + 1), k + 1, rfl, (by omega), (by omega), ?_, rfl, hS⟩
      ·
       rw [ht]; exact shl_next (by omega)
     refine zxt <| ztx <| ztx <| zbh <| ztn <| zrt <| ztr <| zf0 ⟨_, rfl, ?_⟩
     have hki : k + 1 = i := by omega
     rw [hki] at ht
     refine ⟨rfl, t, ?_, ?_, hS⟩
     · rw [ht]; exact (rot_perm (by omega) (by omega)).mono (by omega) (by omega)
     · rw [ht]; obtain rfl : m = a + 1 := by omega
       exact merge_one hw h2 (fun j j0 j1 => hp a j (by omega) (by omega) j0 j1) (by omega) (by omega) hi (by rw [show i = j by omega]; exact hj)
    refine zsk <| ztn <| zsq <| zsr ?_
    refine zs2 ?_
    refine zlv (xsub (r := b - m)) ?_
    refine zlv xeql ?_
    refine zlt ?_
    refine zcif ?_ ?_ <;> intro hc
    ·
     refine zsr ?_
     refine zs2 ?_
     refine zlz ?_
     refine zs2 ?_
     refine zlt <| zsq <| zbk <| zlp (fun mm M w => ∃ (i : Int) (j : Int), mm = ((j - i).toNat) ∧ (a ≤ i) ∧ (i ≤ j) ∧ (j ≤ m) ∧ (i = a ∨ ¬ lt (s m) (s (i - 1))) ∧ (j = m ∨ lt (s m) (s j)) ∧ M = [(0, vd), (1, .int .i64 a), (2, .int .i64 m), (3, .int .i64 b), (4, .func (.func 102) #[] #[]), (14, .int .i64 i), (15, .int .i64 j)] ∧ Sat w0 w [.own vd 2 50 n (ucells (fun z9 => pv (s z9)) (fun z9 => cnt (s z9))), .sem F]) ⟨a, m, rfl, (by omega), (by omega), (by omega), ?_, ?_, rfl, hS⟩ ?_
     ·
      exact .inl rfl
     ·
      exact .inl rfl
     clear hS w
     rintro mm M w ⟨i, j, rfl, i0, ij, j1, hi, hj, rfl, hS⟩
     refine zsq <| zsr ?_
     refine zs3 ?_
     refine zlt ?_
     refine zcif ?_ ?_ <;> intro hc
     ·
      refine zsk <| ztn <| zbk <| zsr ?_
      refine zs2 ?_
      refine zlv (xadd (r := i + j)) ?_
      refine zlv (xcv so_3 it_112) ?_
      refine zlv (xshr1 (r := ((i + j) / 2))) ?_
      refine zlv (xcv so_112 it_3) ?_
      refine zlv xas ?_
      refine zlt <| zsq ?_
      refine zdst [0, 1] [0, 1] 1000 mx_ hS ?_; clear hS; intro w hS
      refine zdv 0 (fun _ => xmv) ?_
      refine zdv 1 (fun _ => xmv) ?_
      refine zdv 2 (fun _ => xmv) ?_
      refine zdv 3 (fun _ => (xix (kk := 2 * m) sl_42 hsl)) ?_
      refine zdla 4 (fun w hS => (xlw (cs := [(pv (s m)), .int .i64 (cnt (s m))]) st_50 (hS.rowN 0 rfl) (ucells_at (k := 2 * m) (i := m) (fun z9 => pv (s z9)) (fun z9 => cnt (s z9)) (by omega)))) ?_
      refine zdv 5 (fun _ => xmv) ?_
      refine zdv 6 (fun _ => xmv) ?_
      refine zdv 7 (fun _ => (xix (kk := 2 * ((i + j) / 2)) sl_42 hsl)) ?_
      refine zdla 8 (fun w hS => (xlw (cs := [(pv (s ((i + j) / 2))), .int .i64 (cnt (s ((i + j) / 2)))]) st_50 (hS.rowN 0 rfl) (ucells_at (k := 2 * ((i + j) / 2)) (i := ((i + j) / 2)) (fun z9 => pv (s z9)) (fun z9 => cnt (s z9)) (by omega)))) ?_
      refine zdc 9 (xc0 cl_102) (hcmp w (s m) (s ((i + j) / 2)) (hd m (by omega) (by omega)).1 (hd m (by omega) (by omega)).2 (hd ((i + j) / 2) (by omega) (by omega)).1 (hd ((i + j) / 2) (by omega) (by omega)).2 (hS.holds _ (List.mem_of_getElem? (i := 1) rfl))) ?_; rintro _ w ⟨c1, rfl, hc1, hS'⟩
      replace hS := hS.cmp hS'; clear hS'
      refine ⟨⟨fun _ => hS, hS⟩, ?_⟩
      refine zdv 10 (fun _ => xlss) ?_
      refine zdv 11 (fun _ => xnot) ?_
      refine zdd <| ztn ?_
      refine zcif ?_ ?_ <;> intro hc
      ·
       refine zrg ?_
       refine zlv xmv ?_
       refine zlv (xadd (r := ((i + j) / 2) + 1)) ?_
       refine zlv xas ?_
       refine zln <| zbn <| zlq ⟨((i + j) / 2) + 1, j, rfl, (by omega), (by omega), (by omega), ?_, ?_, rfl, hS⟩
       ·
        first | exact hi | (right; rw [show (i + j) / 2 + 1 - 1 = (i + j) / 2 by omega]; exact fun h => absurd (hc1.2 h) ‹¬ c1 < 0›)
       ·
        first | exact hj | exact .inr (hc1.1 (Classical.not_not.1 ‹_›))
      refine zrg ?_
      refine zs2 ?_
      refine zln <| zbn <| zlq ⟨i, ((i + j) / 2), rfl, (by omega), (by omega), (by omega), ?_, ?_, rfl, hS⟩
      ·
       first | exact hi | (right; rw [show (i + j) / 2 + 1 - 1 = (i + j) / 2 by omega]; exact fun h => absurd (hc1.2 h) ‹¬ c1 < 0›)
      ·
       first | exact hj | exact .inr (hc1.1 (Classical.not_not.1 ‹_›))
     refine zxt <| ztx <| ztx <| zbh <| ztn <| zsq <| zsr ?_
     refine zs2 ?_
     refine zlt <| zbk <| zlp (fun mm M w => ∃ (t : Int → Int) (k : Int), mm = ((k - i).toNat) ∧ (i ≤ k) ∧ (k ≤ m) ∧ (t = rot s k m (m + 1)) ∧ M = [(0, vd), (1, .int .i64 a), (2, .int .i64 m), (3, .int .i64 b), (4, .func (.func 102) #[] #[]), (14, .int .i64 i), (17, .int .i64 k)] ∧ Sat w0 w [.own vd 2 50 n (ucells (fun z9 => pv (t z9)) (fun z9 => cnt (t z9))), .sem F]) ⟨s, m, rfl, (by omega), (by omega), ?_, rfl, hS⟩ ?_
     ·
      exact (shr_zero s m).symm
     clear hS w
     rintro mm M w ⟨t, k, rfl, k0, k1, ht, rfl, hS⟩
     refine zsq <| zsr ?_
     refine zs3 ?_
     refine zlt ?_
     refine zcif ?_ ?_ <;> intro hc
     ·
      refine zsk <| ztn <| zsq <| zbk ?_
      refine zdst [0, 1] [1] 15 mx_ hS ?_; clear hS; intro w hS
      refine zdv 0 (fun _ => xmv) ?_
      refine zdv 1 (fun _ => xmv) ?_
      refine zdv 2 (fun _ => xmv) ?_
      refine zdv 3 (fun _ => xmv) ?_
      refine zdv 4 (fun _ => (xsub (r := k - 1))) ?_
      refine zdv 5 (fun _ => xmv) ?_
      refine zdv 6 (fun _ => xmv) ?_
      refine zdv 7 (fun _ => (xsub (r := k - 1))) ?_
      refine zdv 8 (fun _ => (xix (kk := 2 * k - 2) sl_42 hsl)) ?_
      refine zdl 9 (fun w hS => (xlw (cs := [(pv (t (k - 1))), .int .i64 (cnt (t (k - 1)))]) st_50 (hS.rowN 0 rfl) (ucells_at (k := 2 * k - 2) (i := k - 1) (fun z9 => pv (t z9)) (fun z9 => cnt (t z9)) (by omega)))) ?_
      refine zdv 10 (fun _ => xmv) ?_
      refine zdv 11 (fun _ => xmv) ?_
      refine zdv 12 (fun _ => (xix (kk := 2 * k) sl_42 hsl)) ?_
      refine zdl 13 (fun w hS => (xlw (cs := [(pv (t k)), .int .i64 (cnt (t k))]) st_50 (hS.rowN 0 rfl) (ucells_at (k := 2 * k) (i := k) (fun z9 => pv (t z9)) (fun z9 => cnt (t z9)) (by omega)))) ?_
      refine zdv 14 (fun _ => (xix (kk := 2 * k) sl_42 hsl)) ?_
      refine zde 15 (xso2 0 st_50 hS (upd_use (i := k) (k := 2 * k) _ _ _ _ (by omega)) (hv := hone _)) ?_; clear hS; rintro w hS
      replace hS := hS.n2
      refine ⟨⟨fun h => absurd h (by decide), hS.pk [1]⟩, ?_⟩
      refine zdv 16 (fun _ => (xix (kk := 2 * k - 2) sl_42 hsl)) ?_
      refine zde 17 (xso2 0 st_50 hS (Eq.trans (upd_use (i := k - 1) (k := 2 * k - 2) _ _ _ _ (by omega)) (ucells_swp pv cnt t k (k - 1))) (hv := hone _)) ?_; clear hS; rintro w hS
      replace hS := hS.n2
      refine ⟨⟨fun h => absurd h (by decide), hS.pk [1]⟩, ?_⟩
      refine zdd <| zbn <| ztn <| zrg ?_
      refine zlv xmv ?_
      refine zlv (xsub (r := k - 1)) ?_
      refine zlv xas ?_
      refine zln <| zlq ⟨swp t k (k - 1), k - 1, rfl, (by omega), (by omega), ?_, rfl, hS⟩
      ·
       rw [ht]; exact shr_next (by omega)
     refine zxt <| ztx <| ztx <| zbh <| ztn <| zrt <| ztr <| zf0 ⟨_, rfl, ?_⟩
     have hki : k = i := by omega
     rw [hki] at ht
     refine ⟨rfl, t, ?_, ?_, hS⟩
     · rw [ht]; exact (rot_perm (by omega) (by omega)).mono (by omega) (by omega)
     · rw [ht]; obtain rfl : b = m + 1 := by omega
       exact merge_last hw h1 (fun i i0 i1 => hp i m i0 i1 (by omega) (by omega)) (by omega) (by omega) hi (by rw [show i = j by omega]; exact hj)
    refine zsk <| ztn <| zsr ?_
    refine zs2 ?_
    refine zlv (xadd (r := a + b)) ?_
    refine zlv (xcv so_3 it_112) ?_
    refine zlv (xshr1 (r := ((a + b) / 2))) ?_
    refine zlv (xcv so_112 it_3) ?_
    refine zlv xas ?_
    refine zlz ?_
    refine zs2 ?_
    refine zlv (xadd (r := ((a + b) / 2) + m)) ?_
    refine zlv xas ?_
    refine zlz ?_
    refine zs2 ?_
    refine zlt <| zsq <| ?_
    refine zgcut (fun M w => ∃ (mid : Int) (s0 : Int) (r0 : Int), (mid = ((a + b) / 2)) ∧ ((mid < m ∧ s0 = mid + m - b ∧ r0 = mid) ∨ (m ≤ mid ∧ s0 = a ∧ r0 = m)) ∧ M = [(0, vd), (1, .int .i64 a), (2, .int .i64 m), (3, .int .i64 b), (4, .func (.func 102) #[] #[]), (25, .int .i64 m), (26, .int .i64 a), (27, .int .i64 (m - a)), (28, B (m - a = 1)), (77, .int .i64 b), (78, .int .i64 m), (79, .int .i64 (b - m)), (80, B (b - m = 1)), (129, .int .i64 a), (130, .int .i64 b), (131, .int .i64 (a + b)), (132, .int .u64 (a + b)), (133, .int .u64 ((a + b) / 2)), (134, .int .i64 ((a + b) / 2)), (18, .int .i64 mid), (135, .int .i64 ((a + b) / 2)), (136, .int .i64 m), (137, .int .i64 (((a + b) / 2) + m)), (19, .int .i64 (mid + m)), (20, .int .i64 s0), (21, .int .i64 r0)] ∧ Sat w0 w [.own vd 2 50 n (ucells (fun z9 => pv (s z9)) (fun z9 => cnt (s z9))), .sem F]) ?_ ?_
    ·
     refine zsr ?_
     refine zs3 ?_
     refine zlt ?_
     refine zcif ?_ ?_ <;> intro hc
     ·
      refine zsr ?_
      refine zs2 ?_
      refine zlv (xsub (r := ((a + b) / 2) + m - b)) ?_
      refine zlv xas ?_
      refine zlt <| zrg ?_
      refine zs2 ?_
      refine zln <| zgj ⟨((a + b) / 2), (((a + b) / 2) + m - b), ((a + b) / 2), rfl, (by omega), rfl, hS⟩
     refine zsr ?_
     refine zs2 ?_
     refine zlt <| zrg ?_
     refine zs2 ?_
     refine zln <| zgj ⟨((a + b) / 2), a, m, rfl, (by omega), rfl, hS⟩
    clear hS w; rintro M w ⟨mid, s0, r0, hmid, hq, rfl, hS⟩
    refine ztn <| zsr ?_
    refine zlv xmv ?_
    refine zlv (xsub (r := mid + m - 1)) ?_
    refine zlv xas ?_
    refine zlt <| zsq <| zbk <| zlp (fun mm M w => ∃ (x : Int) (y : Int), mm = ((y - x).toNat) ∧ (s0 ≤ x) ∧ (x ≤ y) ∧ (y ≤ r0) ∧ (x = s0 ∨ ¬ lt (s (mid + m - x)) (s (x - 1))) ∧ (y = r0 ∨ lt (s (mid + m - y - 1)) (s y)) ∧ M = [(0, vd), (1, .int .i64 a), (2, .int .i64 m), (3, .int .i64 b), (4, .func (.func 102) #[] #[]), (18, .int .i64 mid), (19, .int .i64 (mid + m)), (20, .int .i64 x), (21, .int .i64 y), (22, .int .i64 (mid + m - 1))] ∧ Sat w0 w [.own vd 2 50 n (ucells (fun z9 => pv (s z9)) (fun z9 => cnt (s z9))), .sem F]) ⟨s0, r0, rfl, (by omega), (by omega), (by omega), ?_, ?_, rfl, hS⟩ ?_
    ·
     exact .inl rfl
    ·
     exact .inl rfl
    clear hS w
    rintro mm M w ⟨x, y, rfl, x0, xy, y1, hx, hy, rfl, hS⟩
    refine zsq <| zsr ?_
    refine zs3 ?_
    refine zlt ?_
    refine zcif ?_ ?_ <;> intro hc
    ·
     refine zsk <| ztn <| zbk <| zsr ?_
     refine zs2 ?_
     refine zlv (xadd (r := x + y)) ?_
     refine zlv (xcv so_3 it_112) ?_
     refine zlv (xshr1 (r := ((x + y) / 2))) ?_
     refine zlv (xcv so_112 it_3) ?_
     refine zlv xas ?_
     refine zlt <| zsq ?_
     refine zdst [0, 1] [0, 1] 1000 mx_ hS ?_; clear hS; intro w hS
     refine zdv 0 (fun _ => xmv) ?_
     refine zdv 1 (fun _ => xmv) ?_
     refine zdv 2 (fun _ => xmv) ?_
     refine zdv 3 (fun _ => xmv) ?_
     refine zdv 4 (fun _ => (xsub (r := mid + m - ((x + y) / 2) - 1))) ?_
     refine zdv 5 (fun _ => (xix (kk := 2 * mid + 2 * m - 2 * ((x + y) / 2) - 2) sl_42 hsl)) ?_
     refine zdla 6 (fun w hS => (xlw (cs := [(pv (s (mid + m - ((x + y) / 2) - 1))), .int .i64 (cnt (s (mid + m - ((x + y) / 2) - 1)))]) st_50 (hS.rowN 0 rfl) (ucells_at (k := 2 * mid + 2 * m - 2 * ((x + y) / 2) - 2) (i := mid + m - ((x + y) / 2) - 1) (fun z9 => pv (s z9)) (fun z9 => cnt (s z9)) (by omega)))) ?_
     refine zdv 7 (fun _ => xmv) ?_
     refine zdv 8 (fun _ => xmv) ?_
     refine zdv 9 (fun _ => (xix (kk := 2 * ((x + y) / 2)) sl_42 hsl)) ?_
     refine zdla 10 (fun w hS => (xlw (cs := [(pv (s ((x + y) / 2))), .int .i64 (cnt (s ((x + y) / 2)))]) st_50 (hS.rowN 0 rfl) (ucells_at (k := 2 * ((x + y) / 2)) (i := ((x + y) / 2)) (fun z9 => pv (s z9)) (fun z9 => cnt (s z9)) (by omega)))) ?_
     refine zdc 11 (xc0 cl_102) (hcmp w (s (mid + m - ((x + y) / 2) - 1)) (s ((x + y) / 2)) (hd (mid + m - ((x + y) / 2) - 1) (by omega) (by omega)).1 (hd (mid + m - ((x + y) / 2) - 1) (by omega) (by omega)).2 (hd ((x + y) / 2) (by omega) (by omega)).1 (hd ((x + y) / 2) (by omega) (by omega)).2 (hS.holds _ (List.mem_of_getElem? (i := 1) rfl))) ?_; rintro _ w ⟨c1, rfl, hc1, hS'⟩
     replace hS := hS.cmp hS'; clear hS'
     refine ⟨⟨fun _ => hS, hS⟩, ?_⟩
     refine zdv 12 (fun _ => xlss) ?_
     refine zdv 13 (fun _ => xnot) ?_
     refine zdd <| ztn ?_
     refine zcif ?_ ?_ <;> intro hc
     ·
      refine zrg ?_
      refine zlv xmv ?_
      refine zlv (xadd (r := ((x + y) / 2) + 1)) ?_
      refine zlv xas ?_
      refine zln <| zbn <| zlq ⟨((x + y) / 2) + 1, y, rfl, (by omega), (by omega), (by omega), ?_, ?_, rfl, hS⟩
      ·
       first | exact hx | (right; rw [show mid + m - ((x + y) / 2 + 1) = mid + m - (x + y) / 2 - 1 by omega, show (x + y) / 2 + 1 - 1 = (x + y) / 2 by omega]; exact fun h => absurd (hc1.2 h) ‹¬ c1 < 0›)
      ·
       first | exact hy | exact .inr (hc1.1 (Classical.not_not.1 ‹_›))
     refine zrg ?_
     refine zs2 ?_
     refine zln <| zbn <| zlq ⟨x, ((x + y) / 2), rfl, (by omega), (by omega), (by omega), ?_, ?_, rfl, hS⟩
     ·
      first | exact hx | (right; rw [show mid + m - ((x + y) / 2 + 1) = mid + m - (x + y) / 2 - 1 by omega, show (x + y) / 2 + 1 - 1 = (x + y) / 2 by omega]; exact fun h => absurd (hc1.2 h) ‹¬ c1 < 0›)
     ·
      first | exact hy | exact .inr (hc1.1 (Classical.not_not.1 ‹_›))
    refine zxt <| ztx <| ztx <| zbh <| ztn <| zsr ?_
    refine zs2 ?_
    refine zlv (xsub (r := mid + m - x)) ?_
    refine zlv xas ?_
    refine zlt <| zsq <| ?_
    refine zgcut (fun M w => ∃ (t : Int → Int), (t = rot s x m (mid + m - x)) ∧ M = [(0, vd), (1, .int .i64 a), (2, .int .i64 m), (3, .int .i64 b), (4, .func (.func 102) #[] #[]), (18, .int .i64 mid), (19, .int .i64 (mid + m)), (20, .int .i64 x), (21, .int .i64 y), (22, .int .i64 (mid + m - 1)), (149, .int .i64 x), (150, .int .i64 y), (151, B (x < y)), (175, .int .i64 (mid + m)), (176, .int .i64 x), (177, .int .i64 (mid + m - x)), (24, .int .i64 (mid + m - x))] ∧ Sat w0 w [.own vd 2 50 n (ucells (fun z9 => pv (t z9)) (fun z9 => cnt (t z9))), .sem F]) ?_ ?_
    ·
     refine zsr ?_
     refine zs4 ?_
     refine zlb 181 ?_ ?_ <;> intro hc
     ·
      refine zs4 ?_
      refine zlt ?_
      refine zcif ?_ ?_ <;> intro hc
      ·
       refine zrg ?_
       refine zs5 ?_
       refine zlc (xc0 cl_133) (c_rotU (s := s) (a := x) (m := m) (b := mid + m - x) w0 w hS hsl hn8 hone (by omega) (by omega) (by omega) (by omega)) ?_; rintro _ w ⟨rfl, hS⟩
       replace hS := hS.n2
       refine zln <| zgj ⟨(rot s x m (mid + m - x)), rfl, rfl, hS⟩
      refine zsk <| zgj ⟨s, (rot_triv (by omega) (by omega) (by omega)).symm, rfl, hS⟩
     iterate 3 refine zlo ?_
     refine zlv xpf ?_
     refine zlt <| zcf <| zsk <| zgj ⟨s, (rot_triv (by omega) (by omega) (by omega)).symm, rfl, hS⟩
    clear hS w; rintro M w ⟨t, ht, rfl, hS⟩
    have hdt := (rot_perm (a := s) (lo := x) (c := m) (hi := mid + m - x) (by omega) (by omega)).dom (n := n) (N := nm) (by omega) (.inl (by omega)) hd
    rw [← ht] at hdt
    have hH := merge_halves hw h1 h2 hp (s := x) (mid := mid) (e := mid + m - x) (by omega) (by omega) (by omega) (by omega) (by omega) (by rcases hq with hq | hq <;> rcases hx with hx | hx <;> first | exact .inl (by omega) | exact .inr (.inl (by omega)) | exact .inr (.inr hx)) (by rcases hq with hq | hq <;> rcases hy with hy | hy <;> first | exact .inl (by omega) | exact .inr (.inl (by omega)) | (refine .inr (.inr ?_); rw [show x = y by omega]; exact hy))
    rw [← ht] at hH
    refine ztn <| zsq <| ?_
    refine zgcut (fun M w => ∃ (t1 : Int → Int), (PermOn a mid t t1) ∧ (Srt (Tie lt) a mid t1) ∧ (∀ k, 0 ≤ k → k < n → 0 ≤ t1 k ∧ t1 k < nm) ∧ M = [(0, vd), (1, .int .i64 a), (2, .int .i64 m), (3, .int .i64 b), (4, .func (.func 102) #[] #[]), (18, .int .i64 mid), (19, .int .i64 (mid + m)), (20, .int .i64 x), (21, .int .i64 y), (22, .int .i64 (mid + m - 1)), (149, .int .i64 x), (150, .int .i64 y), (151, B (x < y)), (175, .int .i64 (mid + m)), (176, .int .i64 x), (177, .int .i64 (mid + m - x)), (24, .int .i64 (mid + m - x))] ∧ Sat w0 w [.own vd 2 50 n (ucells (fun z9 => pv (t1 z9)) (fun z9 => cnt (t1 z9))), .sem F]) ?_ ?_
    ·
     refine zsr ?_
     refine zs4 ?_
     refine zlb 195 ?_ ?_ <;> intro hc
     ·
      refine zs4 ?_
      refine zlt ?_
      refine zcif ?_ ?_ <;> intro hc
      ·
       refine zrg ?_
       refine zs5 ?_
       refine zlc (xc0 cl_126) (ih (s := t) (a := a) (m := x) (b := mid) w0 w hS hdt (by omega) (by omega) (by omega) (by omega) (hH.l1) (hH.l2) (hH.pl) (by omega)) ?_; rintro _ w ⟨rfl, u1, hpu1, hsu1, hS⟩
       have hdu1 := hpu1.dom (by omega) (.inl (by omega)) hdt
       replace hS := hS.n2
       refine zln <| zgj ⟨u1, hpu1, hsu1, hdu1, rfl, hS⟩
      refine zsk <| zgj ⟨t, (.refl _ _ _), (hH.left (by first | omega | (rintro ⟨h3, h4⟩; omega)) (by omega) (by omega)), hdt, rfl, hS⟩
     iterate 3 refine zlo ?_
     refine zlv xpf ?_
     refine zlt <| zcf <| zsk <| zgj ⟨t, (.refl _ _ _), (hH.left (by first | omega | (rintro ⟨h3, h4⟩; omega)) (by omega) (by omega)), hdt, rfl, hS⟩
    clear hS w; rintro M w ⟨t1, hq1, hq2, hdt1, rfl, hS⟩
    have hH2 : Halves lt a a mid (mid + m - x) b t1 := Halves.after hH hq1 hq2 (by omega) (by omega)
    refine ztn <| zsr ?_
    refine zs4 ?_
    refine zlb 209 ?_ ?_ <;> intro hc
    ·
     refine zs4 ?_
     refine zlt ?_
     refine zcif ?_ ?_ <;> intro hc
     ·
      refine zrg ?_
      refine zs5 ?_
      refine zlc (xc0 cl_126) (ih (s := t1) (a := mid) (m := mid + m - x) (b := b) w0 w hS hdt1 (by omega) (by omega) (by omega) (by omega) (hH2.r1) (hH2.r2) (hH2.pr) (by omega)) ?_; rintro _ w ⟨rfl, u1, hpu1, hsu1, hS⟩
      have hdu1 := hpu1.dom (by omega) (.inl (by omega)) hdt1
      replace hS := hS.n2
      refine zln <| zfn0 ⟨_, rfl, ?_⟩
      refine ⟨rfl, u1, ((((rot_perm (a := s) (lo := x) (c := m) (hi := mid + m - x) (by omega) (by omega)).mono (by omega) (by omega) : PermOn a b s _)).trans (ht ▸ hq1.mono (by omega) (by omega))).trans (hpu1.mono (by omega) (by omega)), ?_, hS⟩
      exact hH.join hw (by omega) (by omega) hq1 hq2 hpu1 hsu1
     refine zsk <| zfn0 ⟨_, rfl, ?_⟩
     refine ⟨rfl, t1, (((rot_perm (a := s) (lo := x) (c := m) (hi := mid + m - x) (by omega) (by omega)).mono (by omega) (by omega) : PermOn a b s _)).trans (ht ▸ hq1.mono (by omega) (by omega)), ?_, hS⟩
     exact hH.join hw (by omega) (by omega) hq1 hq2 (.refl _ _ _) (hH2.right (by first | omega | (rintro ⟨h3, h4⟩; omega)) (by omega) (by omega))
    iterate 3 refine zlo ?_
    refine zlv xpf ?_
    refine zlt <| zcf <| zsk <| zfn0 ⟨_, rfl, ?_⟩
    refine ⟨rfl, t1, (((rot_perm (a := s) (lo := x) (c := m) (hi := mid + m - x) (by omega) (by omega)).mono (by omega) (by omega) : PermOn a b s _)).trans (ht ▸ hq1.mono (by omega) (by omega)), ?_, hS⟩
    exact hH.join hw (by omega) (by omega) hq1 hq2 (.refl _ _ _) (hH2.right (by first | omega | (rintro ⟨h3, h4⟩; omega)) (by omega) (by omega))

set_option maxHeartbeats 4000000 in
set_option maxRecDepth 20000 in
theorem c_stableU {vd : Value} {n nm : Int} {s : Int → Int} {pv : Int → Value} {cnt : Int → Int} {lt : Int → Int → Prop} {F : Go.Proofs.Gw.Frame} (w0 w : World) (hS : Sat w0 w [.own vd 2 50 n (ucells (fun z9 => pv (s z9)) (fun z9 => cnt (s z9))), .sem F]) (hsl : Slh vd n) (hn8 : n ≤ 100000000) (hone : ∀ x, (pv x).oneCell' = true) (hcmp : ∀ (w : World) (x y : Int), 0 ≤ x → x < nm → 0 ≤ y → y < nm → F.holds w → Calls Try.prog 102 [.agg #[pv x, .int .i64 (cnt x)], .agg #[pv y, .int .i64 (cnt y)]].toArray w fun e w' => ∃ v, e = .returned v ∧ ∃ c : Int, v = .int .i64 c ∧ (c < 0 ↔ lt x y) ∧ Sat w w' []) (hd : ∀ k, 0 ≤ k → k < n → 0 ≤ s k ∧ s k < nm) (hw : Swo lt) (hinc : Incr 0 n s) :
    Calls Try.prog 116 [vd, .int .i64 n, .func (.func 102) #[] #[]].toArray w fun e w => ∃ v, e = .returned v ∧ v = .tuple #[] ∧ ∃ t : Int → Int, PermOn 0 n s t ∧ Srt (Tie lt) 0 n t ∧ Sat w0 w [.own vd 2 50 n (ucells (fun z9 => pv (t z9)) (fun z9 => cnt (t z9))), .sem F] := by
  have hn0 := hsl.n0
  refine zenF Try.func116 Try.ntmps116 ?_
  refine zsr ?_
  refine zlv xas ?_
  refine zlz ?_
  refine zs3 ?_
  refine zlt <| zsq <| zbk <| zlp (fun mm M w => ∃ (t : Int → Int) (a : Int) (b : Int), mm = ((n - a).toNat) ∧ (0 ≤ a) ∧ (a ≤ n) ∧ (b = a + 20) ∧ ((20 : Int) ∣ a) ∧ (PermOn 0 a s t) ∧ (Runs_ lt 20 n 0 a t) ∧ (∀ k, 0 ≤ k → k < n → 0 ≤ t k ∧ t k < nm) ∧ M = [(0, vd), (1, .int .i64 n), (2, .func (.func 102) #[] #[]), (6, .int .i64 20), (7, .int .i64 a), (8, .int .i64 b)] ∧ Sat w0 w [.own vd 2 50 n (ucells (fun z9 => pv (t z9)) (fun z9 => cnt (t z9))), .sem F]) ⟨s, 0, 20, rfl, (by omega), (by omega), (by omega), ?_, ?_, ?_, ?_, rfl, hS⟩ ?_
  ·
   exact Int.dvd_zero 20
  ·
   exact .refl _ _ _
  ·
   intro c c0 c1; omega
  ·
   exact hd
  clear hS w
  rintro mm M w ⟨t, a, b, rfl, a0, a1, hb, hda, hp, hr, hd1, rfl, hS⟩
  refine zsq <| zsr ?_
  refine zs3 ?_
  refine zlt ?_
  refine zcif ?_ ?_ <;> intro hc
  ·
   refine zsk <| ztn <| zbk <| zsr ?_
   refine zs4 ?_
   refine zlc (xc0 cl_125) (c_insU (s := t) (a := a) (b := b) w0 w hS hsl hn8 hone hcmp hd1 hw (by omega) (by omega) (by omega) (incr_keep hp hinc (by omega) (by omega) (by omega))) ?_; rintro _ w ⟨rfl, u1, hpu1, hsu1, hS⟩
   have hdu1 := hpu1.dom (by omega) (.inl (by omega)) hd1
   replace hS := hS.n2
   refine zlz ?_
   refine zs2 ?_
   refine zlt <| zrg ?_
   refine zs2 ?_
   refine zlv (xadd (r := b + 20)) ?_
   refine zlv xas ?_
   refine zln <| zbn <| zlq ⟨u1, b, b + 20, rfl, (by omega), (by omega), (by omega), ?_, ?_, ?_, ?_, rfl, hS⟩
   ·
    rw [hb]; exact Int.dvd_add hda (Int.dvd_refl 20)
   ·
    exact (hp.mono (by omega) (by omega)).trans (hpu1.mono (by omega) (by omega))
   ·
    exact runs_first (by omega) hinc hr a0 hda hp hpu1 hsu1 (.inl ⟨hb, by omega⟩) (by omega)
   ·
    exact hdu1
  refine zxt <| ztx <| ztx <| zbh <| ztn <| zsr ?_
  refine zs4 ?_
  refine zlc (xc0 cl_125) (c_insU (s := t) (a := a) (b := n) w0 w hS hsl hn8 hone hcmp hd1 hw (by omega) (by omega) (by omega) (incr_keep hp hinc (by omega) (by omega) (by omega))) ?_; rintro _ w ⟨rfl, u1, hpu1, hsu1, hS⟩
  have hdu1 := hpu1.dom (by omega) (.inl (by omega)) hd1
  replace hS := hS.n2
  refine zlt <| zbk <| zlp (fun mm M w => ∃ (t2 : Int → Int) (z : Int), mm = ((n - z).toNat) ∧ (20 ≤ z) ∧ (z ≤ 2 * n + 20) ∧ (PermOn 0 n s t2) ∧ (Runs_ lt z n 0 n t2) ∧ (∀ k, 0 ≤ k → k < n → 0 ≤ t2 k ∧ t2 k < nm) ∧ M = [(0, vd), (1, .int .i64 n), (2, .func (.func 102) #[] #[]), (6, .int .i64 z)] ∧ Sat w0 w [.own vd 2 50 n (ucells (fun z9 => pv (t2 z9)) (fun z9 => cnt (t2 z9))), .sem F]) ⟨u1, 20, rfl, (by omega), (by omega), ?_, ?_, ?_, rfl, hS⟩ ?_
  ·
   exact (hp.mono (by omega) (by omega)).trans (hpu1.mono (by omega) (by omega))
  ·
   exact runs_first (by omega) hinc hr a0 hda hp hpu1 hsu1 (.inr ⟨rfl, by omega⟩) (by omega)
  ·
   exact hdu1
  clear hS w
  rintro mm M w ⟨t2, z, rfl, z0, z1, hp2, hr2, hd2, rfl, hS⟩
  refine zsq <| zsr ?_
  refine zs3 ?_
  refine zlt ?_
  refine zcif ?_ ?_ <;> intro hc
  ·
   refine zsk <| ztn <| zbk <| zsr ?_
   refine zlv xmv ?_
   refine zlv (xmul (r := 2 * z)) ?_
   refine zs2 ?_
   refine zlt <| zsq <| zbk <| zlp (fun mm M w => ∃ (t3 : Int → Int) (a3 : Int) (b3 : Int), mm = ((n - a3).toNat) ∧ (0 ≤ a3) ∧ (a3 ≤ n) ∧ (b3 = a3 + 2 * z) ∧ (2 * z ∣ a3) ∧ (PermOn 0 n s t3) ∧ (Runs_ lt (2 * z) n 0 a3 t3) ∧ (Runs_ lt z n a3 n t3) ∧ (∀ k, 0 ≤ k → k < n → 0 ≤ t3 k ∧ t3 k < nm) ∧ M = [(0, vd), (1, .int .i64 n), (2, .func (.func 102) #[] #[]), (6, .int .i64 z), (7, .int .i64 a3), (8, .int .i64 b3)] ∧ Sat w0 w [.own vd 2 50 n (ucells (fun z9 => pv (t3 z9)) (fun z9 => cnt (t3 z9))), .sem F]) ⟨t2, 0, 2 * z, rfl, (by omega), (by omega), (by omega), ?_, ?_, ?_, ?_, ?_, rfl, hS⟩ ?_
   ·
    exact Int.dvd_zero _
   ·
    exact hp2
   ·
    intro c c0 c1; omega
   ·
    exact hr2
   ·
    exact hd2
   clear hS w
   rintro mm M w ⟨t3, a3, b3, rfl, a30, a31, hb3, hda3, hp3, hA, hB, hd3, rfl, hS⟩
   refine zsq <| zsr ?_
   refine zs3 ?_
   refine zlt ?_
   refine zcif ?_ ?_ <;> intro hc
   ·
    refine zsk <| ztn <| zbk <| zsr ?_
    refine zs4 ?_
    refine zlv (xadd (r := a3 + z)) ?_
    refine zs2 ?_
    have hk := runs_pre (lt := lt) (z := z) (n := n) (a := a3) (b := b3) (t := t3) (by omega) a30 (Int.dvd_trans (Int.dvd_mul_left 2 z) hda3) hB (by omega) (by omega) (by omega)
    refine zlc (xc0 cl_126) (c_symU (nm := nm) (lt := lt) hsl hn8 hone hcmp hw _ (s := t3) (a := a3) (m := a3 + z) (b := b3) w0 w hS hd3 (by omega) (by omega) (by omega) (by omega) hk.1 hk.2.1 hk.2.2 (Nat.lt_succ_self _)) ?_; rintro _ w ⟨rfl, u2, hpu2, hsu2, hS⟩
    have hdu2 := hpu2.dom (by omega) (.inl (by omega)) hd3
    replace hS := hS.n2
    refine zlz ?_
    refine zs2 ?_
    refine zlt <| zrg ?_
    refine zs2 ?_
    refine zlv (xmul (r := 2 * z)) ?_
    refine zlv (xadd (r := b3 + 2 * z)) ?_
    refine zlv xas ?_
    refine zln <| zbn <| zlq ⟨u2, b3, b3 + 2 * z, rfl, (by omega), (by omega), (by omega), ?_, ?_, ?_, ?_, ?_, rfl, hS⟩
    ·
     rw [hb3]; exact Int.dvd_add hda3 (Int.dvd_refl _)
    ·
     exact hp3.trans (hpu2.mono (by omega) (by omega))
    ·
     exact (runs_merge (by omega) a30 hda3 hA hB hpu2 hsu2 (.inl ⟨hb3, by omega⟩) (by omega)).1
    ·
     exact (runs_merge (by omega) a30 hda3 hA hB hpu2 hsu2 (.inl ⟨hb3, by omega⟩) (by omega)).2
    ·
     exact hdu2
   refine zxt <| ztx <| ztx <| zbh <| ztn <| zsq <| zsr ?_
   refine zs2 ?_
   refine zlv (xadd (r := a3 + z)) ?_
   refine zlv xas ?_
   refine zlz ?_
   refine zs3 ?_
   refine zlt ?_
   refine zcif ?_ ?_ <;> intro hc
   ·
    refine zrg ?_
    refine zs5 ?_
    have hk := runs_pre (lt := lt) (z := z) (n := n) (a := a3) (b := n) (t := t3) (by omega) a30 (Int.dvd_trans (Int.dvd_mul_left 2 z) hda3) hB (by omega) (by omega) (by omega)
    refine zlc (xc0 cl_126) (c_symU (nm := nm) (lt := lt) hsl hn8 hone hcmp hw _ (s := t3) (a := a3) (m := a3 + z) (b := n) w0 w hS hd3 (by omega) (by omega) (by omega) (by omega) hk.1 hk.2.1 hk.2.2 (Nat.lt_succ_self _)) ?_; rintro _ w ⟨rfl, u2, hpu2, hsu2, hS⟩
    have hdu2 := hpu2.dom (by omega) (.inl (by omega)) hd3
    replace hS := hS.n2
    refine zlt <| zrg ?_
    refine zlv xmv ?_
    refine zlv (xmul (r := 2 * z)) ?_
    refine zlv xas ?_
    refine zln <| zbn <| zlq ⟨u2, 2 * z, rfl, (by omega), (by omega), ?_, ?_, ?_, rfl, hS⟩
    ·
     first | exact hp3.trans (hpu2.mono (by omega) (by omega)) | exact hp3
    ·
     first | exact (runs_merge (by omega) a30 hda3 hA hB hpu2 hsu2 (.inr ⟨rfl, by omega⟩) (by omega)).1 | exact runs_end (by omega) a30 hda3 hA hB (by omega) (by omega)
    ·
     first | exact hdu2 | exact hd3
   refine zsk <| ztn <| zrg ?_
   refine zlv xmv ?_
   refine zlv (xmul (r := 2 * z)) ?_
   refine zlv xas ?_
   refine zln <| zbn <| zlq ⟨t3, 2 * z, rfl, (by omega), (by omega), ?_, ?_, ?_, rfl, hS⟩
   ·
    first | exact hp3.trans (hpu2.mono (by omega) (by omega)) | exact hp3
   ·
    first | exact (runs_merge (by omega) a30 hda3 hA hB hpu2 hsu2 (.inr ⟨rfl, by omega⟩) (by omega)).1 | exact runs_end (by omega) a30 hda3 hA hB (by omega) (by omega)
   ·
    first | exact hdu2 | exact hd3
  refine zxt <| ztx <| ztx <| zbh <| zfn0 ⟨_, rfl, ?_⟩
  exact ⟨rfl, t2, hp2, runs_all hr2 (by omega), hS⟩

set_option maxRecDepth 20000 in
theorem c_sortsU {vd : Value} {n nm : Int} {s : Int → Int} {pv : Int → Value} {cnt : Int → Int} {lt : Int → Int → Prop} {F : Go.Proofs.Gw.Frame} (w0 w : World) (hS : Sat w0 w [.own vd 2 50 n (ucells (fun z9 => pv (s z9)) (fun z9 => cnt (s z9))), .sem F]) (hsl : Slh vd n) (hn8 : n ≤ 100000000) (hone : ∀ x, (pv x).oneCell' = true) (hcmp : ∀ (w : World) (x y : Int), 0 ≤ x → x < nm → 0 ≤ y → y < nm → F.holds w → Calls Try.prog 102 [.agg #[pv x, .int .i64 (cnt x)], .agg #[pv y, .int .i64 (cnt y)]].toArray w fun e w' => ∃ v, e = .returned v ∧ ∃ c : Int, v = .int .i64 c ∧ (c < 0 ↔ lt x y) ∧ Sat w w' []) (hd : ∀ k, 0 ≤ k → k < n → 0 ≤ s k ∧ s k < nm) (hw : Swo lt) (hinc : Incr 0 n s) :
    Calls Try.prog 101 [vd, .func (.func 102) #[] #[]].toArray w fun e w => ∃ v, e = .returned v ∧ v = .tuple #[] ∧ ∃ t : Int → Int, PermOn 0 n s t ∧ Srt (Tie lt) 0 n t ∧ Sat w0 w [.own vd 2 50 n (ucells (fun z9 => pv (t z9)) (fun z9 => cnt (t z9))), .sem F] := by
  refine zenF Try.func101 Try.ntmps101 ?_
  refine zrg ?_
  refine zs2 ?_
  refine zlv (xln sl_43 hsl) ?_
  refine zlv xmv ?_
  refine zlc (xc0 cl_116) (c_stableU (s := s) w0 w hS hsl hn8 hone hcmp hd hw hinc) ?_; rintro _ w ⟨rfl, u1, hpu1, hsu1, hS⟩
  replace hS := hS.n2
  refine zln <| zfn0 ⟨_, rfl, ?_⟩
  exact ⟨rfl, u1, hpu1, hsu1, hS⟩

end Go.Proofs.Ytopmifmfecfaaaa
