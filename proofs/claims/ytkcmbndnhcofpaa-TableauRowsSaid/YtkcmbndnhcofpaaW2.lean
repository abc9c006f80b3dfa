/- The walks of the library functions on iterators and slices of slices. -/
import Derived.Test.YtkcmbndnhcofpaaGv
import Derived.Test.YtkcmbndnhcofpaaW1
namespace Go.Proofs.Ytkcmbndnhcofpaa
open Go Go.RowKit Go.Proofs.Gw
set_option linter.unusedVariables false

theorem cl_34 : calledT Try.prog 34 = true := by kernel_rfl
theorem cl_35 : calledT Try.prog 35 = true := by kernel_rfl
theorem cl_37 : calledT Try.prog 37 = true := by kernel_rfl
theorem cl_39 : calledT Try.prog 39 = true := by kernel_rfl
theorem el_3 : elemT Try.prog 3 = some (.int .i64 0, 1, 8) := by kernel_rfl
theorem pl_22 : plainT Try.prog 22 = true := by kernel_rfl
theorem sl_23 : sliceT Try.prog 23 = some (22, 1) := by kernel_rfl
set_option maxRecDepth 20000 in
theorem c_grow {n : Int} (w0 : World) (h0 : 0 ≤ n) (h1 : n ≤ 1000000) :
    Calls Try.prog 37 [.slice none 0 0, .int .i64 n].toArray w0 fun e w => ∃ v, e = .returned v ∧ ∃ r, v = r ∧ Slh r 0 ∧ Sat w0 w [.own r 1 3 0 (ints (fun _ => 0))] := by
  refine zenG Try.func37 Try.ntmps37 fun w hS => ?_
  refine zsr ?_
  refine zlv xas ?_
  refine zlt <| zsq <| zsr ?_
  refine zlv xmv ?_
  refine zlv (xkf xlss) ?_
  refine zlt <| zcf <| zsk <| ztn <| zsq <| zsr ?_
  refine zs2 ?_
  refine zlvr rfl rfl rfl (ex_cap_nil rfl sl_22 rfl) ?_
  refine zlv xmv ?_
  refine zlv (xln sl_22 slh_nil) ?_
  refine zlv (xsub (r := 0)) ?_
  refine zlv (xsub (r := n)) ?_
  refine zlv xas ?_
  refine zlz ?_
  refine zs2 ?_
  refine zlt ?_
  refine zcif ?_ ?_ <;> intro hc
  ·
   refine zrg ?_
   refine zs2 ?_
   refine zlvr rfl rfl rfl (ex_cap_nil rfl sl_22 rfl) ?_
   refine zlv (xany (v := .slice none 0 0)) ?_
   refine zlv xmv ?_
   refine zlar rfl rfl rfl (ex_append_make rfl sl_22 Try.underlying3 el_3 rfl (by omega) rfl rfl (by omega) (by omega) hS) ?_; rintro v1 w ⟨hS, hv1⟩
   replace hS := hS.n1
   refine zlv xmv ?_
   refine zlv (xln sl_22 slh_nil) ?_
   refine zlvr rfl rfl rfl (ex_slice_cut rfl sl_22 rfl rfl hv1) ?_
   replace hS := hS.cut 0 rfl (ints (fun _ => 0))
   replace hS := hS.n1
   refine zlv xas ?_
   refine zlz ?_
   refine zs2 ?_
   refine zlt <| zrt <| zf1 ⟨_, rfl, ?_⟩
   exact ⟨_, rfl, (cut_slh hv1), hS⟩
  refine zsk <| ztn <| zsr ?_
  refine zs2 ?_
  refine zlt <| zrt <| zf1 ⟨_, rfl, ?_⟩
  exact ⟨_, rfl, slh_nil, (hS.addnil 1 3 (ints fun _ => 0)).sub (.cons_cons _ .slnil)⟩

set_option maxRecDepth 20000 in
theorem c_concat {v : Value} {n : Int} {vv : Int → Value} {ln : Int → Int} {f : Int → Int → Int} (w0 : World) (hM : NAt w0 v n vv ln f) (ht : ∀ k, 0 ≤ k → k ≤ n → tot ln k.toNat ≤ 100000) :
    Calls Try.prog 28 [v].toArray w0 fun e w => ∃ v, e = .returned v ∧ ∃ r, v = r ∧ Slh r (tot ln n.toNat) ∧ Sat w0 w [.own r 1 3 (tot ln n.toNat) (ints (catN ln f n.toNat))] := by
  have hn := hM.row.slh.n0; have hn1 := hM.row.slh.n1
  refine zenG Try.func28 Try.ntmps28 fun w hS => ?_
  refine zsr ?_
  refine zlv xas ?_
  refine zlz ?_
  refine zlv xas ?_
  refine zlt <| zsq <| zsr ?_
  refine zlv xmv ?_
  refine zlv (xln sl_23 hM.row.slh) ?_
  refine zlv xmv ?_
  refine zlt <| zbk <| zlp (fun mm M w => ∃ (s : Int) (i : Int), mm = ((n - i).toNat) ∧ (0 ≤ i) ∧ (i ≤ n) ∧ (s = tot ln i.toNat) ∧ (0 ≤ s) ∧ M = [(0, v), (2, .slice none 0 0), (3, .int .i64 s), (9, v), (10, .int .i64 n), (11, .int .i64 i)] ∧ Sat w0 w []) ⟨0, 0, rfl, (by omega), (by omega), ?_, (by omega), rfl, hS⟩ ?_
  ·
   rfl
  clear hS w
  rintro mm M w ⟨s, i, rfl, h0, h1, hs, hs0, rfl, hS⟩
  refine zsr ?_
  refine zlv xlss ?_
  refine zlt <| zsq ?_
  refine zcif ?_ ?_ <;> intro hc
  ·
   refine zsk <| ztn <| zsq <| zbk <| zsr ?_
   refine zlv (xix (kk := i) sl_23 hM.row.slh) ?_
   refine zlv (xlr (u := (vv i)) pl_22 (hM.row.below hS.below)) ?_
   have hl := (hM.p i h0 (by omega)).slh.n0; have ht1 := ht (i + 1) (by omega) (by omega); rw [tot_next ln h0] at ht1
   refine zlv xas ?_
   refine zlz ?_
   refine zs2 ?_
   refine zlv (xln sl_22 (hM.p i (by omega) (by omega)).slh) ?_
   refine zlv (xadd (r := s + (ln i))) ?_
   refine zlv xas ?_
   refine zlz ?_
   refine zlv xmv ?_
   refine zlv (xkf xlss) ?_
   refine zlt <| zcf <| zsk <| zbn <| ztn <| zrg ?_
   refine zlv (xadd (r := i + 1)) ?_
   refine zlv xmv ?_
   refine zln <| zlq ⟨s + (ln i), i + 1, rfl, (by omega), (by omega), ?_, (by omega), rfl, hS⟩
   ·
    rw [tot_next ln h0, hs]
  refine zxt <| ztx <| ztx <| zbh <| ztn <| zsr ?_
  refine zlv xmv ?_
  have hin : i = n := by omega
  have ht2 := ht n hn (Int.le_refl _); rw [← hin] at ht2
  refine zlc (xc0 cl_37) (c_grow (n := s) w (by omega) (by omega)) ?_; rintro vq1 w ⟨_, rfl, hslq1, hS'⟩
  replace hS : Sat w0 w [.own vq1 1 3 0 (ints (fun _ => 0))] := hS.comp hS'; clear hS'
  refine zlv xas ?_
  refine zlt <| zsq <| zsr ?_
  refine zlv xmv ?_
  refine zlv (xln sl_23 hM.row.slh) ?_
  refine zlv xmv ?_
  refine zlt <| zbk <| zlp (fun mm M w => ∃ (m : Int) (j : Int) (vb : Value) (g : Int → Int), mm = ((n - j).toNat) ∧ (0 ≤ j) ∧ (j ≤ n) ∧ (m = tot ln j.toNat) ∧ (0 ≤ m) ∧ (g = catN ln f j.toNat) ∧ (Slh vb m) ∧ M = [(2, .slice none 0 0), (6, vb), (25, v), (26, .int .i64 n), (27, .int .i64 j)] ∧ Sat w0 w [.own vb 1 3 m (ints g)]) ⟨0, 0, vq1, (fun _ => 0), rfl, (by omega), (by omega), ?_, (by omega), ?_, ?_, rfl, hS⟩ ?_
  ·
   rfl
  ·
   rfl
  ·
   exact hslq1
  clear hS w
  rintro mm M w ⟨m, j, vb, g, rfl, h0, h1, hm, hm0, hg, hvb, rfl, hS⟩
  refine zsr ?_
  refine zlv xlss ?_
  refine zlt <| zsq ?_
  refine zcif ?_ ?_ <;> intro hc
  ·
   refine zsk <| ztn <| zsq <| zbk <| zsr ?_
   refine zlv (xix (kk := j) sl_23 hM.row.slh) ?_
   refine zlv (xlr (u := (vv j)) pl_22 (hM.row.below hS.below)) ?_
   have hl := (hM.p j h0 (by omega)).slh.n0; have ht1 := ht (j + 1) (by omega) (by omega); rw [tot_next ln h0] at ht1
   refine zlv xas ?_
   refine zlt <| zrg ?_
   refine zs2 ?_
   refine zla (xap 0 (r := m + (ln j)) (f := ints (cat m g (f j))) sl_22 el_3 hS ((hM.p j (by omega) (by omega)).below hS.below) (by exact cat_ints1 _ _ _)) ?_; rintro v1 w ⟨hS, hv1⟩
   replace hS := hS.n1
   refine zlv xas ?_
   refine zln <| zbn <| ztn <| zrg ?_
   refine zlv (xadd (r := j + 1)) ?_
   refine zlv xmv ?_
   refine zln <| zlq ⟨m + (ln j), j + 1, v1, (cat m g (f j)), rfl, (by omega), (by omega), ?_, (by omega), ?_, ?_, rfl, hS⟩
   ·
    rw [tot_next ln h0, hm]
   ·
    rw [catN_next ln f h0, ← hg, ← hm]
   ·
    exact hv1
  refine zxt <| ztx <| ztx <| zbh <| ztn <| zsr ?_
  refine zs2 ?_
  refine zlt <| zrt <| zf1 ⟨_, rfl, ?_⟩
  obtain rfl : j = n := by omega
  subst hg; subst hm
  exact ⟨_, rfl, hvb, hS⟩

theorem c_values {vs : Value} {n : Int} (w0 : World) (hsl : Slh vs n) :
    Calls Try.prog 27 [vs].toArray w0 fun e w => ∃ v, e = .returned v ∧ ∃ g, v = .func (.func 36) #[] #[.pointer (some ⟨g, 0, none⟩)] ∧ Sat w0 w [.blk g [vs]] := by
  refine zenG Try.func27 Try.ntmps27 fun w hS => ?_
  refine zsr ?_
  refine zla (xbx (cs := [_]) hS (hc := Slh.cells hsl)) ?_; rintro _ w ⟨g1, rfl, hS⟩
  replace hS := hS.n1
  refine zlv xas ?_
  refine zlz ?_
  refine zlv xmf ?_
  refine zlv xas ?_
  refine zlt <| zrt <| zf1 ⟨_, rfl, ?_⟩
  exact ⟨_, rfl, hS⟩

theorem c_collect {v : Value} {n : Int} {f : Int → Int} {Bs : Nat} {E : TypeId} (w0 : World) (hcs : w0.cell? ⟨Bs, 0, none⟩ = some v) (ho : (Ent.own v 1 E n (ints f)).holds w0) (hn : n ≤ 1000000) :
    Calls Try.prog 34 [.func (.func 36) #[] #[.pointer (some (⟨Bs, 0, none⟩))]].toArray w0 fun e w => ∃ v, e = .returned v ∧ ∃ r, v = r ∧ Slh r n ∧ Sat w0 w [.own r 1 3 n (ints f)] := by
  refine zenG Try.func34 Try.ntmps34 fun w hS => ?_
  refine zsr ?_
  refine zlv xas ?_
  refine zlz ?_
  refine zlv xmv ?_
  refine zlc (xc0 cl_39) (c_appendSeq (f := f) w (hS.ref hcs) (hS.kept ho) hn) ?_; rintro vq1 w ⟨_, rfl, hslq1, hS'⟩
  replace hS : Sat w0 w [.own vq1 1 3 n (ints f)] := hS.comp hS'; clear hS'
  refine zlv xas ?_
  refine zlt <| zrt <| zf1 ⟨_, rfl, ?_⟩
  exact ⟨_, rfl, hslq1, hS⟩

theorem c_sorted {v : Value} {n : Int} {f : Int → Int} {Bs : Nat} {E : TypeId} (w0 : World) (hcs : w0.cell? ⟨Bs, 0, none⟩ = some v) (ho : (Ent.own v 1 E n (ints f)).holds w0) (hn : n ≤ 1000000) :
    Calls Try.prog 26 [.func (.func 36) #[] #[.pointer (some (⟨Bs, 0, none⟩))]].toArray w0 fun e w => ∃ v, e = .returned v ∧ ∃ r g, v = r ∧ Slh r n ∧ listOf g n = ((listOf f n).mergeSort fun x y => decide (x ≤ y)) ∧ Sat w0 w [.own r 1 3 n (ints g)] := by
  refine zenG Try.func26 Try.ntmps26 fun w hS => ?_
  refine zsr ?_
  refine zlv xas ?_
  refine zlz ?_
  refine zlv xmv ?_
  refine zlc (xc0 cl_34) (c_collect (f := f) w (hS.ref hcs) (hS.kept ho) hn) ?_; rintro vq1 w ⟨_, rfl, hslq1, hS'⟩
  replace hS : Sat w0 w [.own vq1 1 3 n (ints f)] := hS.comp hS'; clear hS'
  refine zlv xas ?_
  refine zlz ?_
  refine zlv xmv ?_
  refine zlc (xc0 cl_35) (sort_satx (fun p cap w => slices_Sort_int_none p cap w) (fun blk off cap zs w => slices_Sort_int blk off cap zs w) (l1 := []) (l2 := []) hS) ?_; rintro _ w ⟨rfl, sg1, hsosg1, hS⟩
  replace hS := hS.n1
  refine zlz ?_
  refine zs2 ?_
  refine zlt <| zrt <| zf1 ⟨_, rfl, ?_⟩
  exact ⟨_, _, rfl, hslq1, hsosg1, hS⟩

end Go.Proofs.Ytkcmbndnhcofpaa
