/- The walks of the statements RectValue and RectApply. -/
import Derived.Test.YtmlfpniaknmmfaaW8
import Derived.Test.YtmlfpniaknmmfaaFe
namespace Go.Proofs.Ytmlfpniaknmmfaa
open Go Go.RowKit Go.Proofs.Gw
set_option linter.unusedVariables false

theorem cl_10 : calledT Try.prog 10 = true := by kernel_rfl
theorem cl_11 : calledT Try.prog 11 = true := by kernel_rfl
theorem cl_12 : calledT Try.prog 12 = true := by kernel_rfl
theorem cl_13 : calledT Try.prog 13 = true := by kernel_rfl
theorem cl_14 : calledT Try.prog 14 = true := by kernel_rfl
theorem cl_16 : calledT Try.prog 16 = true := by kernel_rfl
theorem cl_21 : calledT Try.prog 21 = true := by kernel_rfl
theorem fd_24_0 : fieldT Try.prog 24 0 = some 0 := by kernel_rfl
theorem fd_24_1 : fieldT Try.prog 24 1 = some 1 := by kernel_rfl
theorem fd_24_2 : fieldT Try.prog 24 2 = some 2 := by kernel_rfl
theorem fd_24_3 : fieldT Try.prog 24 3 = some 3 := by kernel_rfl
theorem pl_22 : plainT Try.prog 22 = true := by kernel_rfl
set_option maxRecDepth 20000 in
theorem c_awake  (w0 : World) :
    Calls Try.prog 10 [].toArray w0 fun e w => ∃ v, e = .returned v ∧ v = .bool true ∧ Sat w0 w [] := by
  refine enterS (vs := []) Try.func10 rfl Try.ntmps10 rfl ?_
  intro a w hS hF
  refine cw_seq ?_
  refine wp_region_lit ?_
  refine ls_val hF (.free rfl) rfl rfl (ex_assign rfl rfl) ?_; clear hF a; intro a hF
  refine ls_nil ?_
  refine then_normal ?_
  refine cw_seq ?_
  refine wp_region_lit ?_
  refine ls_val hF (.free rfl) rfl rfl (ex_any (w' := w) (r := .value (.agg #[.int .i64 6, .int .i64 6, .int .i64 5])) (by intro _ _ h; cases h) rfl (by kernel_rfl)) ?_; clear hF a; intro a hF
  refine ls_any hF (.free rfl) rfl rfl (ex_lit (n := 1) (len := 1) (pv := [(0, .agg #[.int .i64 6, .int .i64 6, .int .i64 5])]) (cs := [.int .i64 6, .int .i64 6, .int .i64 5]) (c := dcells (fun _ => 6) (fun _ => 6) (fun _ => 5)) rfl sl_38 el_60 hS (parts_cons rfl parts0) (by kernel_rfl) (by decide) (by decide) rfl rfl (fun k hk => by rcases k with _ | _ | _ | k <;> first | rfl | (exfalso; omega)) (by omega)) ?_; clear hF; rintro v1 w ⟨hS, hv1⟩ a hF
  replace hS : Sat w0 w [.own v1 3 60 1 (dcells (fun _ => 6) (fun _ => 6) (fun _ => 5))] := hS
  refine ls_call hF (.free rfl) rfl rfl (ex_call0 rfl rfl cl_16 (args_cons rfl (args_cons rfl (args_cons rfl (args_cons rfl args0))))) (c_Best (d := ⟨1, (fun _ => 6), (fun _ => 6), (fun _ => 5)⟩) (s := ⟨10, 10, 0⟩) w (⟨(hS.rowN 0 rfl), (fun i => by (try dsimp only); omega), (fun i => by (try dsimp only); omega), (fun i => by (try dsimp only); omega)⟩ : DAt _ _ 1 (fun _ => 6) (fun _ => 6) (fun _ => 5)) (by (try dsimp only); omega)) ?_; clear hF; rintro _ w ⟨ab1, fab1, fpb1, fbb1, fqb1, eb1, rfl, hrb1, hS'⟩ a hF
  replace hS : Sat w0 w [.own v1 3 60 1 (dcells (fun _ => 6) (fun _ => 6) (fun _ => 5))] := hS.comp hS'; clear hS'
  have haw := awake_best hrb1
  have haw1 := haw.1; have haw2 := haw.2
  refine ls_val hF (.free rfl) rfl rfl (ex_move rfl rfl) ?_; clear hF a; intro a hF
  refine ls_val hF (.free rfl) rfl rfl (ex_extract rfl rfl rfl) ?_; clear hF a; intro a hF
  refine ls_val hF (.free rfl) rfl rfl (ex_extract rfl rfl rfl) ?_; clear hF a; intro a hF
  refine ls_val hF (.free rfl) rfl rfl (ex_extract rfl rfl rfl) ?_; clear hF a; intro a hF
  refine ls_any hF (.free rfl) rfl rfl (ex_alloc (cs := [.int .i64 0, .int .i64 0, .int .i64 0, .int .i64 0]) rfl el_36 hS rfl) ?_; clear hF; rintro _ w ⟨g1, rfl, hS⟩ a hF
  replace hS : Sat w0 w [.own v1 3 60 1 (dcells (fun _ => 6) (fun _ => 6) (fun _ => 5)), .blk g1 [.int .i64 0, .int .i64 0, .int .i64 0, .int .i64 0]] := hS
  refine ls_val hF (.free rfl) rfl rfl (ex_assign rfl rfl) ?_; clear hF a; intro a hF
  refine ls_effx hF (.free rfl) rfl (st_blks 1 (ds := [.int .i64 fab1, .int .i64 fpb1, .int .i64 fbb1, .int .i64 fqb1]) rfl st_36 hS rfl rfl rfl rfl (ones_cons rfl (ones_cons rfl (ones_cons rfl (ones_cons rfl ones_nil))))) ?_; clear hS; rintro w hS
  replace hS : Sat w0 w [.own v1 3 60 1 (dcells (fun _ => 6) (fun _ => 6) (fun _ => 5)), .blk g1 [.int .i64 fab1, .int .i64 fpb1, .int .i64 fbb1, .int .i64 fqb1]] := hS
  refine ls_val hF (.free rfl) rfl rfl (ex_assign rfl rfl) ?_; clear hF a; intro a hF
  refine ls_nil ?_
  refine then_normal ?_
  refine cw_seq ?_
  refine wp_region_lit ?_
  refine ls_val hF (.free rfl) rfl rfl (ex_any (w' := w) (r := .value (.agg #[.int .i64 1, .int .i64 2])) (by intro _ _ h; cases h) rfl (by kernel_rfl)) ?_; clear hF a; intro a hF
  refine ls_val hF (.free rfl) rfl rfl (ex_any (w' := w) (r := .value (.agg #[.int .i64 1, .int .i64 2])) (by intro _ _ h; cases h) rfl (by kernel_rfl)) ?_; clear hF a; intro a hF
  refine ls_val hF (.free rfl) rfl rfl (ex_any (w' := w) (r := .value (.agg #[.int .i64 1, .int .i64 2, .int .i64 1, .int .i64 2])) (by intro _ _ h; cases h) rfl (by kernel_rfl)) ?_; clear hF a; intro a hF
  refine ls_val hF (.free rfl) rfl rfl (ex_any (w' := w) (r := .value (.agg #[.int .i64 4, .int .i64 4, .int .i64 9])) (by intro _ _ h; cases h) rfl (by kernel_rfl)) ?_; clear hF a; intro a hF
  refine ls_any hF (.free rfl) rfl rfl (ex_lit (n := 1) (len := 1) (pv := [(0, .agg #[.int .i64 4, .int .i64 4, .int .i64 9])]) (cs := [.int .i64 4, .int .i64 4, .int .i64 9]) (c := dcells (fun _ => 4) (fun _ => 4) (fun _ => 9)) rfl sl_38 el_60 hS (parts_cons rfl parts0) (by kernel_rfl) (by decide) (by decide) rfl rfl (fun k hk => by rcases k with _ | _ | _ | k <;> first | rfl | (exfalso; omega)) (by omega)) ?_; clear hF; rintro v2 w ⟨hS, hv2⟩ a hF
  replace hS : Sat w0 w [.own v1 3 60 1 (dcells (fun _ => 6) (fun _ => 6) (fun _ => 5)), .blk g1 [.int .i64 fab1, .int .i64 fpb1, .int .i64 fbb1, .int .i64 fqb1], .own v2 3 60 1 (dcells (fun _ => 4) (fun _ => 4) (fun _ => 9))] := hS
  refine ls_call hF (.free rfl) rfl rfl (ex_call0 rfl rfl cl_12 (args_cons rfl (args_cons rfl (args_cons rfl (args_cons rfl (args_cons rfl args0)))))) (c_Value (x := ⟨1, 2, 1, 2⟩) (d := ⟨1, (fun _ => 4), (fun _ => 4), (fun _ => 9)⟩) (s := ⟨10, 10, 0⟩) w (⟨(hS.rowN 2 rfl), (fun i => by (try dsimp only); omega), (fun i => by (try dsimp only); omega), (fun i => by (try dsimp only); omega)⟩ : DAt _ _ 1 (fun _ => 4) (fun _ => 4) (fun _ => 9)) (by (try dsimp only); omega) (by (try dsimp only); omega)) ?_; clear hF; rintro _ w ⟨az1, ez1, rfl, hrz1, hS'⟩ a hF
  replace hS : Sat w0 w [.own v1 3 60 1 (dcells (fun _ => 6) (fun _ => 6) (fun _ => 5)), .blk g1 [.int .i64 fab1, .int .i64 fpb1, .int .i64 fbb1, .int .i64 fqb1], .own v2 3 60 1 (dcells (fun _ => 4) (fun _ => 4) (fun _ => 9))] := hS.comp hS'; clear hS'
  have haz := awake_value hrz1
  have haz1 := haz.1; have haz2 := haz.2
  refine ls_val hF (.free rfl) rfl rfl (ex_move rfl rfl) ?_; clear hF a; intro a hF
  refine ls_val hF (.free rfl) rfl rfl (ex_extract rfl rfl rfl) ?_; clear hF a; intro a hF
  refine ls_val hF (.free rfl) rfl rfl (ex_extract rfl rfl rfl) ?_; clear hF a; intro a hF
  refine ls_val hF (.free rfl) rfl rfl (ex_assign rfl rfl) ?_; clear hF a; intro a hF
  refine ls_val hF (.free rfl) rfl rfl (ex_assign rfl rfl) ?_; clear hF a; intro a hF
  refine ls_nil ?_
  refine then_normal ?_
  refine cw_seq ?_
  refine wp_region_lit ?_
  refine ls_val hF (.free rfl) rfl rfl (ex_move rfl rfl) ?_; clear hF a; intro a hF
  refine ls_val hF (.free rfl) rfl rfl (known_t (ex_eql rfl rfl rfl) (by omega)) ?_; clear hF a; intro a hF
  refine ls_val hF (.free rfl) rfl rfl (ex_move rfl rfl) ?_; clear hF a; intro a hF
  refine ls_val hF (.on rfl rfl rfl rfl rfl) rfl rfl (ex_move rfl rfl) ?_; clear hF a; intro a hF
  refine ls_val hF (.on rfl rfl rfl rfl rfl) rfl rfl (known_t (ex_eql rfl rfl rfl) (by omega)) ?_; clear hF a; intro a hF
  refine ls_val hF (.free rfl) rfl rfl (ex_pick_t rfl rfl rfl) ?_; clear hF a; intro a hF
  refine ls_val hF (.free rfl) rfl rfl (ex_move rfl rfl) ?_; clear hF a; intro a hF
  refine ls_val hF (.on rfl rfl rfl rfl rfl) rfl rfl (ex_move rfl rfl) ?_; clear hF a; intro a hF
  refine ls_val hF (.on rfl rfl rfl rfl rfl) rfl rfl (known_t (ex_eql rfl rfl rfl) (by omega)) ?_; clear hF a; intro a hF
  refine ls_val hF (.free rfl) rfl rfl (ex_pick_t rfl rfl rfl) ?_; clear hF a; intro a hF
  refine ls_val hF (.free rfl) rfl rfl (ex_move rfl rfl) ?_; clear hF a; intro a hF
  refine ls_val hF (.on rfl rfl rfl rfl rfl) rfl rfl (ex_move rfl rfl) ?_; clear hF a; intro a hF
  refine ls_val hF (.on rfl rfl rfl rfl rfl) rfl rfl (known_t (ex_eql rfl rfl rfl) (by omega)) ?_; clear hF a; intro a hF
  refine ls_val hF (.free rfl) rfl rfl (ex_pick_t rfl rfl rfl) ?_; clear hF a; intro a hF
  refine ls_val hF (.free rfl) rfl rfl (ex_assign rfl rfl) ?_; clear hF a; intro a hF
  refine ls_nil ?_
  refine then_normal ?_
  refine wp_ret ?_
  refine (fin1 hF rfl rfl ⟨_, rfl, ?_⟩)
  exact ⟨rfl, hS.sub (.cons _ (.cons _ (.cons _ .slnil)))⟩

set_option maxRecDepth 20000 in
theorem law_value {x : Crt} {vD : Value} {d : Dem} {s : Sht} (w0 : World) (hD : DAt w0 vD d.n d.W d.H d.N) (hs : (-9223372036854775808 ≤ s.w ∧ s.w ≤ 9223372036854775807) ∧ (-9223372036854775808 ≤ s.h ∧ s.h ≤ 9223372036854775807) ∧ (-9223372036854775808 ≤ s.kf ∧ s.kf ≤ 9223372036854775807)) (hx : (-9223372036854775808 ≤ x.a ∧ x.a ≤ 9223372036854775807) ∧ (-9223372036854775808 ≤ x.p ∧ x.p ≤ 9223372036854775807) ∧ (-9223372036854775808 ≤ x.b ∧ x.b ≤ 9223372036854775807) ∧ (-9223372036854775808 ≤ x.q ∧ x.q ≤ 9223372036854775807)) :
    Calls Try.prog 3 [.agg #[vD, .int .i64 s.w, .int .i64 s.h, .int .i64 s.kf], .agg #[.int .i64 x.a, .int .i64 x.p, .int .i64 x.b, .int .i64 x.q]].toArray w0 fun e w => ∃ v, e = .returned v ∧ v = .bool true ∧ Sat w0 w [] := by
  have hn := hD.row.slh.n0
  refine enterS (vs := [.agg #[vD, .int .i64 s.w, .int .i64 s.h, .int .i64 s.kf], .agg #[.int .i64 x.a, .int .i64 x.p, .int .i64 x.b, .int .i64 x.q]]) Try.func3 rfl Try.ntmps3 rfl ?_
  intro a w hS hF
  refine cw_seq ?_
  refine wp_region_lit ?_
  refine ls_any hF (.free rfl) rfl rfl (ex_box (cs := [vD, .int .i64 s.w, .int .i64 s.h, .int .i64 s.kf]) rfl hS rfl rfl) ?_; clear hF; rintro _ w ⟨g1, rfl, hS⟩ a hF
  replace hS : Sat w0 w [.blk g1 [vD, .int .i64 s.w, .int .i64 s.h, .int .i64 s.kf]] := hS
  refine ls_any hF (.free rfl) rfl rfl (ex_box (cs := [.int .i64 x.a, .int .i64 x.p, .int .i64 x.b, .int .i64 x.q]) rfl hS rfl rfl) ?_; clear hF; rintro _ w ⟨g2, rfl, hS⟩ a hF
  replace hS : Sat w0 w [.blk g1 [vD, .int .i64 s.w, .int .i64 s.h, .int .i64 s.kf], .blk g2 [.int .i64 x.a, .int .i64 x.p, .int .i64 x.b, .int .i64 x.q]] := hS
  refine ls_val hF (.free rfl) rfl rfl (ex_assign rfl rfl) ?_; clear hF a; intro a hF
  refine ls_nil ?_
  refine then_normal ?_
  refine cw_seq ?_
  refine cw_seq ?_
  refine wp_region_lit ?_
  refine ls_call hF (.free rfl) rfl rfl (ex_call0 rfl rfl cl_10 args0) (c_awake w) ?_; clear hF; rintro _ w ⟨rfl, hS'⟩ a hF
  replace hS : Sat w0 w [.blk g1 [vD, .int .i64 s.w, .int .i64 s.h, .int .i64 s.kf], .blk g2 [.int .i64 x.a, .int .i64 x.p, .int .i64 x.b, .int .i64 x.q]] := hS.comp hS'; clear hS'
  refine ls_val hF (.free rfl) rfl rfl (ex_not_t rfl rfl) ?_; clear hF a; intro a hF
  refine ls_nil ?_
  refine then_normal ?_
  refine cw_f hF rfl ?_
  refine wp_skip ?_
  refine then_normal ?_
  refine cw_seq ?_
  refine cw_seq ?_
  refine wp_region_lit ?_
  refine ls_val hF (.free rfl) rfl rfl (ex_field (b := ⟨g1, 0, none⟩) rfl fd_24_0 rfl rfl) ?_; clear hF a; intro a hF
  refine ls_val hF (.free rfl) rfl rfl (ex_load_blk 0 rfl pl_22 rfl hS rfl rfl) ?_; clear hF a; intro a hF
  refine ls_call hF (.free rfl) rfl rfl (ex_call0 rfl rfl cl_11 (args_cons rfl args0)) (c_few (d := d) w (hD.below hS.below)) ?_; clear hF; rintro _ w ⟨rfl, hS'⟩ a hF
  replace hS : Sat w0 w [.blk g1 [vD, .int .i64 s.w, .int .i64 s.h, .int .i64 s.kf], .blk g2 [.int .i64 x.a, .int .i64 x.p, .int .i64 x.b, .int .i64 x.q]] := hS.comp hS'; clear hS'
  refine ls_val hF (.free rfl) rfl rfl (ex_not rfl rfl) ?_; clear hF a; intro a hF
  refine ls_nil ?_
  refine then_normal ?_
  refine cw_if hF rfl (fun hc => ?_) (fun hc => ?_)
  ·
   refine cw_seq ?_
   refine wp_region_lit ?_
   refine ls_val hF (.free rfl) rfl rfl (ex_assign rfl rfl) ?_; clear hF a; intro a hF
   refine ls_nil ?_
   refine then_normal ?_
   refine wp_ret ?_
   refine then_ret ((fin1 hF rfl rfl ⟨_, rfl, ?_⟩))
   exact ⟨rfl, hS.sub (.cons _ (.cons _ .slnil))⟩
  ·
   refine wp_skip ?_
   refine then_normal ?_
   refine cw_seq ?_
   refine dr_sat (m0 := [.blk g1 [vD, .int .i64 s.w, .int .i64 s.h, .int .i64 s.kf], .blk g2 [.int .i64 x.a, .int .i64 x.p, .int .i64 x.b, .int .i64 x.q]]) (m1 := [.blk g1 [vD, .int .i64 s.w, .int .i64 s.h, .int .i64 s.kf], .blk g2 [.int .i64 x.a, .int .i64 x.p, .int .i64 x.b, .int .i64 x.q]]) 1000 mx_ hS (.cons_cons _ (.cons_cons _ .slnil)) (.cons_cons _ (.cons_cons _ .slnil)) rfl ?_; clear hS; intro w hS hcl hB
   refine dr_loadA hF hcl hB 0 rfl (.free rfl) rfl rfl (by kernel_rfl) rfl (fun w hS => (ex_loads_blk 1 rfl st_28 rfl hS rfl rfl)) ?_; clear hF a hcl hB; intro a hF hcl hB
   refine dr_val hF hcl hB 2 rfl (.free rfl) rfl rfl (by kernel_rfl) rfl (fun w => (ex_field (b := ⟨g1, 0, none⟩) rfl fd_24_0 rfl rfl)) ?_; clear hF a hcl hB; intro a hF hcl hB
   refine dr_loadA hF hcl hB 3 rfl (.free rfl) rfl rfl (by kernel_rfl) rfl (fun w hS => (ex_load_blk 0 rfl pl_22 rfl hS rfl rfl)) ?_; clear hF a hcl hB; intro a hF hcl hB
   refine dr_val hF hcl hB 5 rfl (.free rfl) rfl rfl (by kernel_rfl) rfl (fun w => (ex_field (b := ⟨g1, 1, none⟩) rfl fd_24_1 rfl rfl)) ?_; clear hF a hcl hB; intro a hF hcl hB
   refine dr_loadA hF hcl hB 6 rfl (.free rfl) rfl rfl (by kernel_rfl) rfl (fun w hS => (ex_load_blk 0 rfl pl_3 rfl hS rfl rfl)) ?_; clear hF a hcl hB; intro a hF hcl hB
   refine dr_val hF hcl hB 7 rfl (.free rfl) rfl rfl (by kernel_rfl) rfl (fun w => (ex_field (b := ⟨g1, 2, none⟩) rfl fd_24_2 rfl rfl)) ?_; clear hF a hcl hB; intro a hF hcl hB
   refine dr_loadA hF hcl hB 8 rfl (.free rfl) rfl rfl (by kernel_rfl) rfl (fun w hS => (ex_load_blk 0 rfl pl_3 rfl hS rfl rfl)) ?_; clear hF a hcl hB; intro a hF hcl hB
   refine dr_val hF hcl hB 9 rfl (.free rfl) rfl rfl (by kernel_rfl) rfl (fun w => (ex_field (b := ⟨g1, 3, none⟩) rfl fd_24_3 rfl rfl)) ?_; clear hF a hcl hB; intro a hF hcl hB
   refine dr_loadA hF hcl hB 10 rfl (.free rfl) rfl rfl (by kernel_rfl) rfl (fun w hS => (ex_load_blk 0 rfl pl_3 rfl hS rfl rfl)) ?_; clear hF a hcl hB; intro a hF hcl hB
   refine dr_call hF hcl 1 rfl (.free rfl) rfl rfl (by kernel_rfl) (ex_call0 rfl rfl cl_13 (args_cons rfl args0)) (c_cert (x := x) w) ?_; clear hF hB; rintro _ w ⟨rfl, hS'⟩ a hF hcl
   replace hS : Sat w0 w [.blk g1 [vD, .int .i64 s.w, .int .i64 s.h, .int .i64 s.kf], .blk g2 [.int .i64 x.a, .int .i64 x.p, .int .i64 x.b, .int .i64 x.q]] := hS.comp hS'; clear hS'
   refine ⟨⟨(fun _ => hS.sub (.cons_cons _ (.cons_cons _ .slnil))), hS.sub (.cons_cons _ (.cons_cons _ .slnil))⟩, fun hB => ?_⟩
   refine dr_call hF hcl 4 rfl (.free rfl) rfl rfl (by kernel_rfl) (ex_call0 rfl rfl cl_14 (args_cons rfl args0)) (c_own (d := d) w (hD.below hS.below) (by omega)) ?_; clear hF hB; rintro vo1 w ⟨_, rfl, hslo1, hS'⟩ a hF hcl
   replace hS : Sat w0 w [.blk g1 [vD, .int .i64 s.w, .int .i64 s.h, .int .i64 s.kf], .blk g2 [.int .i64 x.a, .int .i64 x.p, .int .i64 x.b, .int .i64 x.q], .own vo1 3 60 d.n (dcells d.W d.H d.N)] := hS.comp hS'; clear hS'
   refine ⟨⟨(fun _ => hS.sub (.cons_cons _ (.cons_cons _ (.cons _ .slnil)))), hS.sub (.cons_cons _ (.cons_cons _ (.cons _ .slnil)))⟩, fun hB => ?_⟩
   refine dr_call hF hcl 11 rfl (.free rfl) rfl rfl (by kernel_rfl) (ex_call0 rfl rfl cl_12 (args_cons rfl (args_cons rfl (args_cons rfl (args_cons rfl (args_cons rfl args0)))))) (c_Value (x := x) (d := d) (s := s) w (⟨(hS.rowN 2 rfl), hD.bw, hD.bh, hD.bn⟩ : DAt _ _ d.n d.W d.H d.N) hs hx) ?_; clear hF hB; rintro _ w ⟨az1, ez1, rfl, hrz1, hS'⟩ a hF hcl
   replace hS : Sat w0 w [.blk g1 [vD, .int .i64 s.w, .int .i64 s.h, .int .i64 s.kf], .blk g2 [.int .i64 x.a, .int .i64 x.p, .int .i64 x.b, .int .i64 x.q], .own vo1 3 60 d.n (dcells d.W d.H d.N)] := hS.comp hS'; clear hS'
   refine ⟨⟨(fun _ => hS.sub (.cons_cons _ (.cons_cons _ (.cons _ .slnil)))), hS.sub (.cons_cons _ (.cons_cons _ (.cons _ .slnil)))⟩, fun hB => ?_⟩
   refine dr_val hF hcl hB 12 rfl (.free rfl) rfl rfl (by kernel_rfl) rfl (fun w => (ex_move rfl rfl)) ?_; clear hF a hcl hB; intro a hF hcl hB
   refine dr_val hF hcl hB 13 rfl (.free rfl) rfl rfl (by kernel_rfl) rfl (fun w => (ex_extract rfl rfl rfl)) ?_; clear hF a hcl hB; intro a hF hcl hB
   refine dr_val hF hcl hB 14 rfl (.free rfl) rfl rfl (by kernel_rfl) rfl (fun w => (ex_extract rfl rfl rfl)) ?_; clear hF a hcl hB; intro a hF hcl hB
   refine dr_val hF hcl hB 15 rfl (.free rfl) rfl rfl (by kernel_rfl) rfl (fun w => (ex_assign rfl rfl)) ?_; clear hF a hcl hB; intro a hF hcl hB
   refine dr_val hF hcl hB 16 rfl (.free rfl) rfl rfl (by kernel_rfl) rfl (fun w => (ex_assign rfl rfl)) ?_; clear hF a hcl hB; intro a hF hcl hB
   refine dr_done (by kernel_rfl) ?_; clear hcl hB
   refine then_normal ?_
   refine cw_seq ?_
   refine wp_region_lit ?_
   refine ls_val hF (.free rfl) rfl rfl (ex_loads_blk 1 rfl st_28 rfl hS rfl rfl) ?_; clear hF a; intro a hF
   refine ls_val hF (.free rfl) rfl rfl (ex_field (b := ⟨g1, 0, none⟩) rfl fd_24_0 rfl rfl) ?_; clear hF a; intro a hF
   refine ls_val hF (.free rfl) rfl rfl (ex_load_blk 0 rfl pl_22 rfl hS rfl rfl) ?_; clear hF a; intro a hF
   refine ls_val hF (.free rfl) rfl rfl (ex_field (b := ⟨g1, 1, none⟩) rfl fd_24_1 rfl rfl) ?_; clear hF a; intro a hF
   refine ls_val hF (.free rfl) rfl rfl (ex_load_blk 0 rfl pl_3 rfl hS rfl rfl) ?_; clear hF a; intro a hF
   refine ls_val hF (.free rfl) rfl rfl (ex_field (b := ⟨g1, 2, none⟩) rfl fd_24_2 rfl rfl) ?_; clear hF a; intro a hF
   refine ls_val hF (.free rfl) rfl rfl (ex_load_blk 0 rfl pl_3 rfl hS rfl rfl) ?_; clear hF a; intro a hF
   refine ls_val hF (.free rfl) rfl rfl (ex_field (b := ⟨g1, 3, none⟩) rfl fd_24_3 rfl rfl) ?_; clear hF a; intro a hF
   refine ls_val hF (.free rfl) rfl rfl (ex_load_blk 0 rfl pl_3 rfl hS rfl rfl) ?_; clear hF a; intro a hF
   refine ls_call hF (.free rfl) rfl rfl (ex_call0 rfl rfl cl_15 (args_cons rfl (args_cons rfl (args_cons rfl (args_cons rfl (args_cons rfl args0)))))) (c_rValue (x := x) (d := d) (s := s) w (hD.below hS.below) hs hx) ?_; clear hF; rintro _ w ⟨az2, ez2, rfl, hrz2, hS'⟩ a hF
   replace hS : Sat w0 w [.blk g1 [vD, .int .i64 s.w, .int .i64 s.h, .int .i64 s.kf], .blk g2 [.int .i64 x.a, .int .i64 x.p, .int .i64 x.b, .int .i64 x.q], .own vo1 3 60 d.n (dcells d.W d.H d.N)] := hS.comp hS'; clear hS'
   have hsm := ValueR.same hrz1 hrz2
   have hsm1 := hsm.1; have hsm2 := hsm.2
   refine ls_val hF (.free rfl) rfl rfl (ex_move rfl rfl) ?_; clear hF a; intro a hF
   refine ls_val hF (.free rfl) rfl rfl (ex_extract rfl rfl rfl) ?_; clear hF a; intro a hF
   refine ls_val hF (.free rfl) rfl rfl (ex_extract rfl rfl rfl) ?_; clear hF a; intro a hF
   refine ls_val hF (.free rfl) rfl rfl (ex_assign rfl rfl) ?_; clear hF a; intro a hF
   refine ls_val hF (.free rfl) rfl rfl (ex_assign rfl rfl) ?_; clear hF a; intro a hF
   refine ls_nil ?_
   refine then_normal ?_
   refine cw_seq ?_
   refine wp_region_lit ?_
   refine ls_val hF (.free rfl) rfl rfl (ex_move rfl rfl) ?_; clear hF a; intro a hF
   refine ls_val hF (.free rfl) rfl rfl (ex_move rfl rfl) ?_; clear hF a; intro a hF
   refine ls_val hF (.free rfl) rfl rfl (known_t (ex_eql rfl rfl rfl) (by omega)) ?_; clear hF a; intro a hF
   refine ls_val hF (.free rfl) rfl rfl (ex_move rfl rfl) ?_; clear hF a; intro a hF
   refine ls_val hF (.on rfl rfl rfl rfl rfl) rfl rfl (ex_move rfl rfl) ?_; clear hF a; intro a hF
   refine ls_val hF (.on rfl rfl rfl rfl rfl) rfl rfl (ex_move rfl rfl) ?_; clear hF a; intro a hF
   refine ls_val hF (.on rfl rfl rfl rfl rfl) rfl rfl (known_t (ex_eql rfl rfl rfl) (by omega)) ?_; clear hF a; intro a hF
   refine ls_val hF (.free rfl) rfl rfl (ex_pick_t rfl rfl rfl) ?_; clear hF a; intro a hF
   refine ls_val hF (.free rfl) rfl rfl (ex_assign rfl rfl) ?_; clear hF a; intro a hF
   refine ls_nil ?_
   refine then_normal ?_
   refine wp_ret ?_
   refine (fin1 hF rfl rfl ⟨_, rfl, ?_⟩)
   exact ⟨rfl, hS.sub (.cons _ (.cons _ (.cons _ .slnil)))⟩

set_option maxRecDepth 20000 in
theorem law_apply {kind k x c : Int} (w0 : World) (hx : (-9223372036854775808 ≤ x ∧ x ≤ 9223372036854775807)) (hc : (-9223372036854775808 ≤ c ∧ c ≤ 9223372036854775807)) :
    Calls Try.prog 8 [.agg #[.int .i64 kind, .int .i64 k], .int .i64 x, .int .i64 c].toArray w0 fun e w => ∃ v, e = .returned v ∧ v = .bool true ∧ Sat w0 w [] := by
  refine enterS (vs := [.agg #[.int .i64 kind, .int .i64 k], .int .i64 x, .int .i64 c]) Try.func8 rfl Try.ntmps8 rfl ?_
  intro a w hS hF
  refine cw_seq ?_
  refine wp_region_lit ?_
  refine ls_any hF (.free rfl) rfl rfl (ex_box (cs := [.int .i64 kind, .int .i64 k]) rfl hS rfl rfl) ?_; clear hF; rintro _ w ⟨g1, rfl, hS⟩ a hF
  replace hS : Sat w0 w [.blk g1 [.int .i64 kind, .int .i64 k]] := hS
  refine ls_val hF (.free rfl) rfl rfl (ex_assign rfl rfl) ?_; clear hF a; intro a hF
  refine ls_nil ?_
  refine then_normal ?_
  refine cw_seq ?_
  refine cw_seq ?_
  refine wp_region_lit ?_
  refine ls_call hF (.free rfl) rfl rfl (ex_call0 rfl rfl cl_10 args0) (c_awake w) ?_; clear hF; rintro _ w ⟨rfl, hS'⟩ a hF
  replace hS : Sat w0 w [.blk g1 [.int .i64 kind, .int .i64 k]] := hS.comp hS'; clear hS'
  refine ls_val hF (.free rfl) rfl rfl (ex_not_t rfl rfl) ?_; clear hF a; intro a hF
  refine ls_nil ?_
  refine then_normal ?_
  refine cw_f hF rfl ?_
  refine wp_skip ?_
  refine then_normal ?_
  refine cw_seq ?_
  refine wp_region_lit ?_
  refine ls_val hF (.free rfl) rfl rfl (ex_loads_blk 0 rfl st_26 rfl hS rfl rfl) ?_; clear hF a; intro a hF
  refine ls_val hF (.free rfl) rfl rfl (ex_move rfl rfl) ?_; clear hF a; intro a hF
  refine ls_val hF (.free rfl) rfl rfl (ex_move rfl rfl) ?_; clear hF a; intro a hF
  refine ls_call hF (.free rfl) rfl rfl (ex_call0 rfl rfl cl_21 (args_cons rfl (args_cons rfl (args_cons rfl args0)))) (c_apply (kind := kind) (k := k) (x := x) (c := c) w (by omega) (by omega)) ?_; clear hF; rintro _ w ⟨ap1, ep1, rfl, hrp1, hS'⟩ a hF
  replace hS : Sat w0 w [.blk g1 [.int .i64 kind, .int .i64 k]] := hS.comp hS'; clear hS'
  refine ls_val hF (.free rfl) rfl rfl (ex_move rfl rfl) ?_; clear hF a; intro a hF
  refine ls_val hF (.free rfl) rfl rfl (ex_extract rfl rfl rfl) ?_; clear hF a; intro a hF
  refine ls_val hF (.free rfl) rfl rfl (ex_extract rfl rfl rfl) ?_; clear hF a; intro a hF
  refine ls_val hF (.free rfl) rfl rfl (ex_assign rfl rfl) ?_; clear hF a; intro a hF
  refine ls_val hF (.free rfl) rfl rfl (ex_assign rfl rfl) ?_; clear hF a; intro a hF
  refine ls_nil ?_
  refine then_normal ?_
  refine cw_seq ?_
  refine wp_region_lit ?_
  refine ls_val hF (.free rfl) rfl rfl (ex_loads_blk 0 rfl st_26 rfl hS rfl rfl) ?_; clear hF a; intro a hF
  refine ls_val hF (.free rfl) rfl rfl (ex_move rfl rfl) ?_; clear hF a; intro a hF
  refine ls_val hF (.free rfl) rfl rfl (ex_move rfl rfl) ?_; clear hF a; intro a hF
  refine ls_call hF (.free rfl) rfl rfl (ex_call0 rfl rfl cl_22 (args_cons rfl (args_cons rfl (args_cons rfl args0)))) (c_rapply (kind := kind) (k := k) (x := x) (c := c) w (by omega) (by omega)) ?_; clear hF; rintro _ w ⟨ap2, ep2, rfl, hrp2, hS'⟩ a hF
  replace hS : Sat w0 w [.blk g1 [.int .i64 kind, .int .i64 k]] := hS.comp hS'; clear hS'
  have hsm := ApplyR.same hrp1 hrp2
  have hsm1 := hsm.1; have hsm2 := hsm.2
  refine ls_val hF (.free rfl) rfl rfl (ex_move rfl rfl) ?_; clear hF a; intro a hF
  refine ls_val hF (.free rfl) rfl rfl (ex_extract rfl rfl rfl) ?_; clear hF a; intro a hF
  refine ls_val hF (.free rfl) rfl rfl (ex_extract rfl rfl rfl) ?_; clear hF a; intro a hF
  refine ls_val hF (.free rfl) rfl rfl (ex_assign rfl rfl) ?_; clear hF a; intro a hF
  refine ls_val hF (.free rfl) rfl rfl (ex_assign rfl rfl) ?_; clear hF a; intro a hF
  refine ls_nil ?_
  refine then_normal ?_
  refine cw_seq ?_
  refine wp_region_lit ?_
  refine ls_val hF (.free rfl) rfl rfl (ex_move rfl rfl) ?_; clear hF a; intro a hF
  refine ls_val hF (.free rfl) rfl rfl (ex_move rfl rfl) ?_; clear hF a; intro a hF
  refine ls_val hF (.free rfl) rfl rfl (known_t (ex_eql rfl rfl rfl) (by omega)) ?_; clear hF a; intro a hF
  refine ls_val hF (.free rfl) rfl rfl (ex_move rfl rfl) ?_; clear hF a; intro a hF
  refine ls_val hF (.on rfl rfl rfl rfl rfl) rfl rfl (ex_move rfl rfl) ?_; clear hF a; intro a hF
  refine ls_val hF (.on rfl rfl rfl rfl rfl) rfl rfl (ex_move rfl rfl) ?_; clear hF a; intro a hF
  refine ls_val hF (.on rfl rfl rfl rfl rfl) rfl rfl (known_t (ex_eql rfl rfl rfl) (by omega)) ?_; clear hF a; intro a hF
  refine ls_val hF (.free rfl) rfl rfl (ex_pick_t rfl rfl rfl) ?_; clear hF a; intro a hF
  refine ls_val hF (.free rfl) rfl rfl (ex_assign rfl rfl) ?_; clear hF a; intro a hF
  refine ls_nil ?_
  refine then_normal ?_
  refine wp_ret ?_
  refine (fin1 hF rfl rfl ⟨_, rfl, ?_⟩)
  exact ⟨rfl, hS.sub (.cons _ .slnil)⟩

end Go.Proofs.Ytmlfpniaknmmfaa
