/- The walks of the library functions on iterators and slices of slices. -/
import Derived.Test.YtakgjpmhbfieeaaW1
namespace Go.Proofs.Ytakgjpmhbfieeaa
open Go Go.RowKit Go.Proofs.Gw
set_option linter.unusedVariables false

theorem cl_68 : calledT Try.prog 68 = true := by kernel_rfl
theorem cl_69 : calledT Try.prog 69 = true := by kernel_rfl
theorem cl_71 : calledT Try.prog 71 = true := by kernel_rfl
theorem cl_72 : calledT Try.prog 72 = true := by kernel_rfl
theorem el_3 : elemT Try.prog 3 = some (.int .i64 0, 1, 8) := by kernel_rfl
theorem pl_22 : plainT Try.prog 22 = true := by kernel_rfl
theorem sl_23 : sliceT Try.prog 23 = some (22, 1) := by kernel_rfl
set_option maxRecDepth 20000 in
theorem c_grow {n : Int} (w0 : World) (h0 : 0 ≤ n) (h1 : n ≤ 1000000) :
    Calls Try.prog 71 [.slice none 0 0, .int .i64 n].toArray w0 fun e w => ∃ v, e = .returned v ∧ ∃ r, v = r ∧ Slh r 0 ∧ Sat w0 w [.own r 1 3 0 (ints (fun _ => 0))] := by
  refine enterS (vs := [.slice none 0 0, .int .i64 n]) Try.func71 rfl Try.ntmps71 rfl ?_
  intro a w hS hF
  refine cw_seq ?_
  refine wp_region_lit ?_
  refine ls_val hF (.free rfl) rfl rfl (ex_assign rfl rfl) ?_; clear hF a; intro a hF
  refine ls_nil ?_
  refine then_normal ?_
  refine cw_seq ?_
  refine cw_seq ?_
  refine wp_region_lit ?_
  refine ls_val hF (.free rfl) rfl rfl (ex_move rfl rfl) ?_; clear hF a; intro a hF
  refine ls_val hF (.free rfl) rfl rfl (known_f (ex_lss rfl rfl rfl) (by omega)) ?_; clear hF a; intro a hF
  refine ls_nil ?_
  refine then_normal ?_
  refine cw_f hF rfl ?_
  refine wp_skip ?_
  refine then_normal ?_
  refine cw_seq ?_
  refine cw_seq ?_
  refine wp_region_lit ?_
  refine ls_val hF (.free rfl) rfl rfl (ex_move rfl rfl) ?_; clear hF a; intro a hF
  refine ls_val hF (.free rfl) rfl rfl (ex_move rfl rfl) ?_; clear hF a; intro a hF
  refine ls_val hF (.free rfl) rfl rfl (ex_cap_nil rfl sl_22 rfl) ?_; clear hF a; intro a hF
  refine ls_val hF (.free rfl) rfl rfl (ex_move rfl rfl) ?_; clear hF a; intro a hF
  refine ls_val hF (.free rfl) rfl rfl (ex_len rfl sl_22 rfl slh_nil) ?_; clear hF a; intro a hF
  refine ls_val hF (.free rfl) rfl rfl (ex_sub (r := 0) rfl rfl rfl (by omega) (by unfold I64; omega)) ?_; clear hF a; intro a hF
  refine ls_val hF (.free rfl) rfl rfl (ex_sub (r := n) rfl rfl rfl (by omega) (by unfold I64; omega)) ?_; clear hF a; intro a hF
  refine ls_val hF (.free rfl) rfl rfl (ex_assign rfl rfl) ?_; clear hF a; intro a hF
  refine ls_nil ?_
  refine then_normal ?_
  refine cw_seq ?_
  refine wp_region_lit ?_
  refine ls_val hF (.free rfl) rfl rfl (ex_move rfl rfl) ?_; clear hF a; intro a hF
  refine ls_val hF (.free rfl) rfl rfl (ex_gtr rfl rfl rfl) ?_; clear hF a; intro a hF
  refine ls_nil ?_
  refine then_normal ?_
  refine cw_if hF rfl (fun hc => ?_) (fun hc => ?_)
  ·
   refine wp_region_lit ?_
   refine ls_val hF (.free rfl) rfl rfl (ex_move rfl rfl) ?_; clear hF a; intro a hF
   refine ls_val hF (.free rfl) rfl rfl (ex_move rfl rfl) ?_; clear hF a; intro a hF
   refine ls_val hF (.free rfl) rfl rfl (ex_cap_nil rfl sl_22 rfl) ?_; clear hF a; intro a hF
   refine ls_val hF (.free rfl) rfl rfl (ex_any (w' := w) (r := .value (.slice none 0 0)) (by intro _ _ h; cases h) rfl (by kernel_rfl)) ?_; clear hF a; intro a hF
   refine ls_val hF (.free rfl) rfl rfl (ex_move rfl rfl) ?_; clear hF a; intro a hF
   refine ls_any hF (.free rfl) rfl rfl (ex_append_make rfl sl_22 Try.underlying3 el_3 rfl (by omega) rfl rfl (by omega) (by omega) hS) ?_; clear hF; rintro v1 w ⟨hS, hv1⟩ a hF
   replace hS : Sat w0 w [.own v1 1 3 n (ints (fun _ => 0))] := hS
   refine ls_val hF (.free rfl) rfl rfl (ex_move rfl rfl) ?_; clear hF a; intro a hF
   refine ls_val hF (.free rfl) rfl rfl (ex_len rfl sl_22 rfl slh_nil) ?_; clear hF a; intro a hF
   refine ls_val hF (.free rfl) rfl rfl (ex_slice_cut rfl sl_22 rfl rfl hv1) ?_; clear hF a; intro a hF
   replace hS := hS.cut 0 rfl (ints (fun _ => 0))
   replace hS : Sat w0 w [.own (cutV v1) 1 3 0 (ints (fun _ => 0))] := hS
   refine ls_val hF (.free rfl) rfl rfl (ex_assign rfl rfl) ?_; clear hF a; intro a hF
   refine ls_nil ?_
   refine then_normal ?_
   refine cw_seq ?_
   refine wp_region_lit ?_
   refine ls_val hF (.free rfl) rfl rfl (ex_move rfl rfl) ?_; clear hF a; intro a hF
   refine ls_val hF (.free rfl) rfl rfl (ex_assign rfl rfl) ?_; clear hF a; intro a hF
   refine ls_nil ?_
   refine then_normal ?_
   refine wp_ret ?_
   refine (fin1 hF rfl rfl ⟨_, rfl, ?_⟩)
   exact ⟨_, rfl, (cut_slh hv1), hS⟩
  ·
   refine wp_skip ?_
   refine then_normal ?_
   refine cw_seq ?_
   refine wp_region_lit ?_
   refine ls_val hF (.free rfl) rfl rfl (ex_move rfl rfl) ?_; clear hF a; intro a hF
   refine ls_val hF (.free rfl) rfl rfl (ex_assign rfl rfl) ?_; clear hF a; intro a hF
   refine ls_nil ?_
   refine then_normal ?_
   refine wp_ret ?_
   refine (fin1 hF rfl rfl ⟨_, rfl, ?_⟩)
   exact ⟨_, rfl, slh_nil, (hS.addnil 1 3 (ints fun _ => 0)).sub (.cons_cons _ .slnil)⟩

set_option maxRecDepth 20000 in
theorem c_concat {v : Value} {n : Int} {vv : Int → Value} {ln : Int → Int} {f : Int → Int → Int} (w0 : World) (hM : NAt w0 v n vv ln f) (ht : ∀ k, 0 ≤ k → k ≤ n → tot ln k.toNat ≤ 100000) :
    Calls Try.prog 64 [v].toArray w0 fun e w => ∃ v, e = .returned v ∧ ∃ r, v = r ∧ Slh r (tot ln n.toNat) ∧ Sat w0 w [.own r 1 3 (tot ln n.toNat) (ints (catN ln f n.toNat))] := by
  have hn := hM.row.slh.n0; have hn1 := hM.row.slh.n1
  refine enterS (vs := [v]) Try.func64 rfl Try.ntmps64 rfl ?_
  intro a w hS hF
  refine cw_seq ?_
  refine wp_region_lit ?_
  refine ls_val hF (.free rfl) rfl rfl (ex_assign rfl rfl) ?_; clear hF a; intro a hF
  refine ls_nil ?_
  refine then_normal ?_
  refine cw_seq ?_
  refine wp_region_lit ?_
  refine ls_val hF (.free rfl) rfl rfl (ex_assign rfl rfl) ?_; clear hF a; intro a hF
  refine ls_nil ?_
  refine then_normal ?_
  refine cw_seq ?_
  refine cw_seq ?_
  refine wp_region_lit ?_
  refine ls_val hF (.free rfl) rfl rfl (ex_move rfl rfl) ?_; clear hF a; intro a hF
  refine ls_val hF (.free rfl) rfl rfl (ex_len rfl sl_23 rfl hM.row.slh) ?_; clear hF a; intro a hF
  refine ls_val hF (.free rfl) rfl rfl (ex_move rfl rfl) ?_; clear hF a; intro a hF
  refine ls_nil ?_
  refine then_normal ?_
  refine wp_block ?_
  refine cw_loop (fun mm a w => ∃ (s : Int) (i : Int), mm = ((n - i).toNat) ∧ (0 ≤ i) ∧ (i ≤ n) ∧ (s = tot ln i.toNat) ∧ (0 ≤ s) ∧ Fr a 36 [(0, v), (2, .slice none 0 0), (3, .int .i64 s), (9, v), (10, .int .i64 n), (11, .int .i64 i)] ∧ Sat w0 w []) ?_ ?_ (m := ((n - 0).toNat))
  ·
   refine ⟨0, 0, rfl, (by omega), (by omega), ?_, (by omega), (hF.pick (hF.pick (hF.pick (hF.pick (hF.pick (hF.pick hF.nil 11 rfl) 10 rfl) 9 rfl) 3 rfl) 2 rfl) 0 rfl), hS⟩
   ·
    rfl
  ·
   clear hF hS a w
   rintro mm a w ⟨s, i, rfl, h0, h1, hs, hs0, hF, hS⟩
   refine cw_seq ?_
   refine wp_region_lit ?_
   refine ls_val hF (.free rfl) rfl rfl (ex_lss rfl rfl rfl) ?_; clear hF a; intro a hF
   refine ls_nil ?_
   refine then_normal ?_
   refine cw_seq ?_
   refine cw_if hF rfl (fun hc => ?_) (fun hc => ?_)
   ·
    refine wp_skip ?_
    refine then_normal ?_
    refine cw_seq ?_
    refine wp_block ?_
    refine cw_seq ?_
    refine wp_region_lit ?_
    refine ls_val hF (.free rfl) rfl rfl (ex_index (k := i) rfl sl_23 rfl rfl hM.row.slh (by omega) (by omega) (by omega)) ?_; clear hF a; intro a hF
    refine ls_val hF (.free rfl) rfl rfl (ex_load_row (u := (vv i)) rfl pl_22 rfl (hM.row.below hS.below) (by omega) (by omega) rfl) ?_; clear hF a; intro a hF
    have hl := (hM.p i h0 (by omega)).slh.n0; have ht1 := ht (i + 1) (by omega) (by omega); rw [tot_next ln h0] at ht1
    refine ls_val hF (.free rfl) rfl rfl (ex_assign rfl rfl) ?_; clear hF a; intro a hF
    refine ls_nil ?_
    refine then_normal ?_
    refine cw_seq ?_
    refine wp_region_lit ?_
    refine ls_val hF (.free rfl) rfl rfl (ex_move rfl rfl) ?_; clear hF a; intro a hF
    refine ls_val hF (.free rfl) rfl rfl (ex_move rfl rfl) ?_; clear hF a; intro a hF
    refine ls_val hF (.free rfl) rfl rfl (ex_len rfl sl_22 rfl (hM.p i (by omega) (by omega)).slh) ?_; clear hF a; intro a hF
    refine ls_val hF (.free rfl) rfl rfl (ex_add (r := s + (ln i)) rfl rfl rfl (by omega) (by unfold I64; omega)) ?_; clear hF a; intro a hF
    refine ls_val hF (.free rfl) rfl rfl (ex_assign rfl rfl) ?_; clear hF a; intro a hF
    refine ls_nil ?_
    refine then_normal ?_
    refine cw_seq ?_
    refine wp_region_lit ?_
    refine ls_val hF (.free rfl) rfl rfl (ex_move rfl rfl) ?_; clear hF a; intro a hF
    refine ls_val hF (.free rfl) rfl rfl (known_f (ex_lss rfl rfl rfl) (by omega)) ?_; clear hF a; intro a hF
    refine ls_nil ?_
    refine then_normal ?_
    refine cw_f hF rfl ?_
    refine wp_skip ?_
    refine inb_normal ?_
    refine then_normal ?_
    refine wp_region_lit ?_
    refine ls_val hF (.free rfl) rfl rfl (ex_add (r := i + 1) rfl rfl rfl (by omega) (by unfold I64; omega)) ?_; clear hF a; intro a hF
    refine ls_val hF (.free rfl) rfl rfl (ex_move rfl rfl) ?_; clear hF a; intro a hF
    refine ls_nil ?_
    refine then_normal ?_
    refine ⟨_, (by omega), s + (ln i), i + 1, rfl, (by omega), (by omega), ?_, (by omega), (hF.pick (hF.pick (hF.pick (hF.pick (hF.pick (hF.pick hF.nil 11 rfl) 10 rfl) 9 rfl) 3 rfl) 2 rfl) 0 rfl), hS⟩
    ·
     rw [tot_next ln h0, hs]
   ·
    refine wp_exit ?_
    refine then_exit ?_
    refine then_exit ?_
    refine inb_hit ?_
    refine then_normal ?_
    refine cw_seq ?_
    refine wp_region_lit ?_
    refine ls_val hF (.free rfl) rfl rfl (ex_move rfl rfl) ?_; clear hF a; intro a hF
    have hin : i = n := by omega
    have ht2 := ht n hn (Int.le_refl _); rw [← hin] at ht2
    refine ls_call hF (.free rfl) rfl rfl (ex_call0 rfl rfl cl_71 (args_cons rfl (args_cons rfl args0))) (c_grow (n := s) w (by omega) (by omega)) ?_; clear hF; rintro vq1 w ⟨_, rfl, hslq1, hS'⟩ a hF
    replace hS : Sat w0 w [.own vq1 1 3 0 (ints (fun _ => 0))] := hS.comp hS'; clear hS'
    refine ls_val hF (.free rfl) rfl rfl (ex_assign rfl rfl) ?_; clear hF a; intro a hF
    refine ls_nil ?_
    refine then_normal ?_
    refine cw_seq ?_
    refine cw_seq ?_
    refine wp_region_lit ?_
    refine ls_val hF (.free rfl) rfl rfl (ex_move rfl rfl) ?_; clear hF a; intro a hF
    refine ls_val hF (.free rfl) rfl rfl (ex_len rfl sl_23 rfl hM.row.slh) ?_; clear hF a; intro a hF
    refine ls_val hF (.free rfl) rfl rfl (ex_move rfl rfl) ?_; clear hF a; intro a hF
    refine ls_nil ?_
    refine then_normal ?_
    refine wp_block ?_
    refine cw_loop (fun mm a w => ∃ (m : Int) (j : Int) (vb : Value) (g : Int → Int), mm = ((n - j).toNat) ∧ (0 ≤ j) ∧ (j ≤ n) ∧ (m = tot ln j.toNat) ∧ (0 ≤ m) ∧ (g = catN ln f j.toNat) ∧ (Slh vb m) ∧ Fr a 36 [(2, .slice none 0 0), (6, vb), (25, v), (26, .int .i64 n), (27, .int .i64 j)] ∧ Sat w0 w [.own vb 1 3 m (ints g)]) ?_ ?_ (m := ((n - 0).toNat))
    ·
     refine ⟨0, 0, vq1, (fun _ => 0), rfl, (by omega), (by omega), ?_, (by omega), ?_, ?_, (hF.pick (hF.pick (hF.pick (hF.pick (hF.pick hF.nil 27 rfl) 26 rfl) 25 rfl) 6 rfl) 2 rfl), hS⟩
     ·
      rfl
     ·
      rfl
     ·
      exact hslq1
    ·
     clear hF hS a w
     rintro mm a w ⟨m, j, vb, g, rfl, h0, h1, hm, hm0, hg, hvb, hF, hS⟩
     refine cw_seq ?_
     refine wp_region_lit ?_
     refine ls_val hF (.free rfl) rfl rfl (ex_lss rfl rfl rfl) ?_; clear hF a; intro a hF
     refine ls_nil ?_
     refine then_normal ?_
     refine cw_seq ?_
     refine cw_if hF rfl (fun hc => ?_) (fun hc => ?_)
     ·
      refine wp_skip ?_
      refine then_normal ?_
      refine cw_seq ?_
      refine wp_block ?_
      refine cw_seq ?_
      refine wp_region_lit ?_
      refine ls_val hF (.free rfl) rfl rfl (ex_index (k := j) rfl sl_23 rfl rfl hM.row.slh (by omega) (by omega) (by omega)) ?_; clear hF a; intro a hF
      refine ls_val hF (.free rfl) rfl rfl (ex_load_row (u := (vv j)) rfl pl_22 rfl (hM.row.below hS.below) (by omega) (by omega) rfl) ?_; clear hF a; intro a hF
      have hl := (hM.p j h0 (by omega)).slh.n0; have ht1 := ht (j + 1) (by omega) (by omega); rw [tot_next ln h0] at ht1
      refine ls_val hF (.free rfl) rfl rfl (ex_assign rfl rfl) ?_; clear hF a; intro a hF
      refine ls_nil ?_
      refine then_normal ?_
      refine wp_region_lit ?_
      refine ls_val hF (.free rfl) rfl rfl (ex_move rfl rfl) ?_; clear hF a; intro a hF
      refine ls_val hF (.free rfl) rfl rfl (ex_move rfl rfl) ?_; clear hF a; intro a hF
      refine ls_any hF (.free rfl) rfl rfl (ap_own 0 (r := m + (ln j)) (f := ints (cat m g (f j))) rfl sl_22 el_3 rfl (by decide) hS rfl rfl rfl ((hM.p j (by omega) (by omega)).below hS.below) (fun _ _ _ => rfl) (by omega) (by omega) (by omega) (by exact cat_ints1 _ _ _)) ?_; clear hF; rintro v1 w ⟨hS, hv1⟩ a hF
      replace hS : Sat w0 w [.own v1 1 3 (m + (ln j)) (ints (cat m g (f j)))] := hS
      refine ls_val hF (.free rfl) rfl rfl (ex_assign rfl rfl) ?_; clear hF a; intro a hF
      refine ls_nil ?_
      refine inb_normal ?_
      refine then_normal ?_
      refine wp_region_lit ?_
      refine ls_val hF (.free rfl) rfl rfl (ex_add (r := j + 1) rfl rfl rfl (by omega) (by unfold I64; omega)) ?_; clear hF a; intro a hF
      refine ls_val hF (.free rfl) rfl rfl (ex_move rfl rfl) ?_; clear hF a; intro a hF
      refine ls_nil ?_
      refine then_normal ?_
      refine ⟨_, (by omega), m + (ln j), j + 1, v1, (cat m g (f j)), rfl, (by omega), (by omega), ?_, (by omega), ?_, ?_, (hF.pick (hF.pick (hF.pick (hF.pick (hF.pick hF.nil 27 rfl) 26 rfl) 25 rfl) 6 rfl) 2 rfl), hS⟩
      ·
       rw [tot_next ln h0, hm]
      ·
       rw [catN_next ln f h0, ← hg, ← hm]
      ·
       exact hv1
     ·
      refine wp_exit ?_
      refine then_exit ?_
      refine then_exit ?_
      refine inb_hit ?_
      refine then_normal ?_
      refine cw_seq ?_
      refine wp_region_lit ?_
      refine ls_val hF (.free rfl) rfl rfl (ex_move rfl rfl) ?_; clear hF a; intro a hF
      refine ls_val hF (.free rfl) rfl rfl (ex_assign rfl rfl) ?_; clear hF a; intro a hF
      refine ls_nil ?_
      refine then_normal ?_
      refine wp_ret ?_
      refine (fin1 hF rfl rfl ⟨_, rfl, ?_⟩)
      obtain rfl : j = n := by omega
      subst hg; subst hm
      exact ⟨_, rfl, hvb, hS⟩

theorem c_values {vs : Value} {n : Int} (w0 : World) (hsl : Slh vs n) :
    Calls Try.prog 63 [vs].toArray w0 fun e w => ∃ v, e = .returned v ∧ ∃ g, v = .func (.func 70) #[] #[.pointer (some ⟨g, 0, none⟩)] ∧ Sat w0 w [.blk g [vs]] := by
  refine enterS (vs := [vs]) Try.func63 rfl Try.ntmps63 rfl ?_
  intro a w hS hF
  refine cw_seq ?_
  refine wp_region_lit ?_
  refine ls_any hF (.free rfl) rfl rfl (ex_box (cs := [vs]) rfl hS rfl (Slh.cells hsl)) ?_; clear hF; rintro _ w ⟨g1, rfl, hS⟩ a hF
  replace hS : Sat w0 w [.blk g1 [vs]] := hS
  refine ls_val hF (.free rfl) rfl rfl (ex_assign rfl rfl) ?_; clear hF a; intro a hF
  refine ls_nil ?_
  refine then_normal ?_
  refine cw_seq ?_
  refine wp_region_lit ?_
  refine ls_val hF (.free rfl) rfl rfl (ex_makeFunc rfl (args_cons rfl args0)) ?_; clear hF a; intro a hF
  refine ls_val hF (.free rfl) rfl rfl (ex_assign rfl rfl) ?_; clear hF a; intro a hF
  refine ls_nil ?_
  refine then_normal ?_
  refine wp_ret ?_
  refine (fin1 hF rfl rfl ⟨_, rfl, ?_⟩)
  exact ⟨_, rfl, hS⟩

theorem c_collect {v : Value} {n : Int} {f : Int → Int} {Bs : Nat} {E : TypeId} (w0 : World) (hcs : w0.cell? ⟨Bs, 0, none⟩ = some v) (ho : (Ent.own v 1 E n (ints f)).holds w0) (hn : n ≤ 1000000) :
    Calls Try.prog 68 [.func (.func 70) #[] #[.pointer (some (⟨Bs, 0, none⟩))]].toArray w0 fun e w => ∃ v, e = .returned v ∧ ∃ r, v = r ∧ Slh r n ∧ Sat w0 w [.own r 1 3 n (ints f)] := by
  refine enterS (vs := [.func (.func 70) #[] #[.pointer (some (⟨Bs, 0, none⟩))]]) Try.func68 rfl Try.ntmps68 rfl ?_
  intro a w hS hF
  refine cw_seq ?_
  refine wp_region_lit ?_
  refine ls_val hF (.free rfl) rfl rfl (ex_assign rfl rfl) ?_; clear hF a; intro a hF
  refine ls_nil ?_
  refine then_normal ?_
  refine cw_seq ?_
  refine wp_region_lit ?_
  refine ls_val hF (.free rfl) rfl rfl (ex_move rfl rfl) ?_; clear hF a; intro a hF
  refine ls_call hF (.free rfl) rfl rfl (ex_call0 rfl rfl cl_72 (args_cons rfl (args_cons rfl args0))) (c_appendSeq (f := f) w (hS.ref hcs) (hS.kept ho) hn) ?_; clear hF; rintro vq1 w ⟨_, rfl, hslq1, hS'⟩ a hF
  replace hS : Sat w0 w [.own vq1 1 3 n (ints f)] := hS.comp hS'; clear hS'
  refine ls_val hF (.free rfl) rfl rfl (ex_assign rfl rfl) ?_; clear hF a; intro a hF
  refine ls_nil ?_
  refine then_normal ?_
  refine wp_ret ?_
  refine (fin1 hF rfl rfl ⟨_, rfl, ?_⟩)
  exact ⟨_, rfl, hslq1, hS⟩

theorem c_sorted {v : Value} {n : Int} {f : Int → Int} {Bs : Nat} {E : TypeId} (w0 : World) (hcs : w0.cell? ⟨Bs, 0, none⟩ = some v) (ho : (Ent.own v 1 E n (ints f)).holds w0) (hn : n ≤ 1000000) :
    Calls Try.prog 62 [.func (.func 70) #[] #[.pointer (some (⟨Bs, 0, none⟩))]].toArray w0 fun e w => ∃ v, e = .returned v ∧ ∃ r g, v = r ∧ Slh r n ∧ listOf g n = ((listOf f n).mergeSort fun x y => decide (x ≤ y)) ∧ Sat w0 w [.own r 1 3 n (ints g)] := by
  refine enterS (vs := [.func (.func 70) #[] #[.pointer (some (⟨Bs, 0, none⟩))]]) Try.func62 rfl Try.ntmps62 rfl ?_
  intro a w hS hF
  refine cw_seq ?_
  refine wp_region_lit ?_
  refine ls_val hF (.free rfl) rfl rfl (ex_assign rfl rfl) ?_; clear hF a; intro a hF
  refine ls_nil ?_
  refine then_normal ?_
  refine cw_seq ?_
  refine wp_region_lit ?_
  refine ls_val hF (.free rfl) rfl rfl (ex_move rfl rfl) ?_; clear hF a; intro a hF
  refine ls_call hF (.free rfl) rfl rfl (ex_call0 rfl rfl cl_68 (args_cons rfl args0)) (c_collect (f := f) w (hS.ref hcs) (hS.kept ho) hn) ?_; clear hF; rintro vq1 w ⟨_, rfl, hslq1, hS'⟩ a hF
  replace hS : Sat w0 w [.own vq1 1 3 n (ints f)] := hS.comp hS'; clear hS'
  refine ls_val hF (.free rfl) rfl rfl (ex_assign rfl rfl) ?_; clear hF a; intro a hF
  refine ls_nil ?_
  refine then_normal ?_
  refine cw_seq ?_
  refine wp_region_lit ?_
  refine ls_val hF (.free rfl) rfl rfl (ex_move rfl rfl) ?_; clear hF a; intro a hF
  refine ls_call hF (.free rfl) rfl rfl (ex_call0 rfl rfl cl_69 (args_cons rfl args0)) (sort_satx (fun p cap w => slices_Sort_int_none p cap w) (fun blk off cap zs w => slices_Sort_int blk off cap zs w) (l1 := []) (l2 := []) hS) ?_; clear hF; rintro _ w ⟨rfl, sg1, hsosg1, hS⟩ a hF
  replace hS : Sat w0 w [.own vq1 1 3 n (ints sg1)] := hS
  refine ls_nil ?_
  refine then_normal ?_
  refine cw_seq ?_
  refine wp_region_lit ?_
  refine ls_val hF (.free rfl) rfl rfl (ex_move rfl rfl) ?_; clear hF a; intro a hF
  refine ls_val hF (.free rfl) rfl rfl (ex_assign rfl rfl) ?_; clear hF a; intro a hF
  refine ls_nil ?_
  refine then_normal ?_
  refine wp_ret ?_
  refine (fin1 hF rfl rfl ⟨_, rfl, ?_⟩)
  exact ⟨_, _, rfl, hslq1, hsosg1, hS⟩

end Go.Proofs.Ytakgjpmhbfieeaa
