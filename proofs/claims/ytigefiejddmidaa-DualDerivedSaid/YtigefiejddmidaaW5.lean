/- The walks of Check, Bound and Few of layer 32, of its reference and of that of layer 28. -/
import Derived.Test.YtigefiejddmidaaW2
import Derived.Test.YtigefiejddmidaaW3
import Derived.Test.YtigefiejddmidaaW4
namespace Go.Proofs.Ytigefiejddmidaa
open Go Go.RowKit Go.Proofs.Gw
set_option linter.unusedVariables false

set_option maxRecDepth 20000 in
theorem c_check {vL vD vy : Value} {p : Prob} {n q : Int} {y : Int → Int} (w0 : World) (h : PAt w0 vL vD p) (hY : IAt w0 vy n y) (hq : -9223372036854775808 ≤ q ∧ q ≤ 9223372036854775807) :
    Calls Try.prog 13 [.agg #[vL, vD, .int .i64 p.stock, .int .i64 p.kerf], .agg #[vy, .int .i64 q]].toArray w0 fun e w => ∃ v, e = .returned v ∧ v = .int .i64 (Chk p n y q) ∧ Sat w0 w [] := by
  have hn := hY.n0; have hn1 := hY.n1
  refine enterS (vs := [.agg #[vL, vD, .int .i64 p.stock, .int .i64 p.kerf], .agg #[vy, .int .i64 q]]) Try.func13 rfl Try.ntmps13 rfl ?_
  intro a w hS hF
  refine cw_seq ?_
  refine wp_region_lit ?_
  refine ls_any hF (.free rfl) rfl rfl (ex_box (cs := [vL, vD, .int .i64 p.stock, .int .i64 p.kerf]) rfl hS rfl rfl) ?_; clear hF; rintro _ w ⟨g1, rfl, hS⟩ a hF
  replace hS : Sat w0 w [.blk g1 [vL, vD, .int .i64 p.stock, .int .i64 p.kerf]] := hS
  refine ls_any hF (.free rfl) rfl rfl (ex_box (cs := [vy, .int .i64 q]) rfl hS rfl rfl) ?_; clear hF; rintro _ w ⟨g2, rfl, hS⟩ a hF
  replace hS : Sat w0 w [.blk g1 [vL, vD, .int .i64 p.stock, .int .i64 p.kerf], .blk g2 [vy, .int .i64 q]] := hS
  refine ls_val hF (.free rfl) rfl rfl (ex_assign rfl rfl) ?_; clear hF a; intro a hF
  refine ls_nil ?_
  refine then_normal ?_
  refine cw_seq ?_
  refine wp_block ?_
  refine cw_seq ?_
  refine wp_region_lit ?_
  refine ls_val hF (.free rfl) rfl rfl (ex_loads_blk 0 rfl st_33 rfl hS rfl rfl) ?_; clear hF a; intro a hF
  refine ls_call hF (.free rfl) rfl rfl (ex_call0 rfl rfl cl_25 (args_cons rfl args0)) (c_pvalid (p := p) w (h.below hS.below)) ?_; clear hF; rintro _ w ⟨rfl, hS'⟩ a hF
  replace hS : Sat w0 w [.blk g1 [vL, vD, .int .i64 p.stock, .int .i64 p.kerf], .blk g2 [vy, .int .i64 q]] := hS.comp hS'; clear hS'
  refine ls_val hF (.free rfl) rfl rfl (ex_not rfl rfl) ?_; clear hF a; intro a hF
  refine ls_val hF (.free rfl) rfl rfl (ex_move rfl rfl) ?_; clear hF a; intro a hF
  refine by_slot hF (d := 9) rfl ?_ ?_ <;> clear hF <;> intro hc hF
  ·
   refine ls_off hF (.on rfl rfl rfl rfl rfl) rfl rfl ?_; clear hF a; intro a hF
   refine ls_off hF (.on rfl rfl rfl rfl rfl) rfl rfl ?_; clear hF a; intro a hF
   refine ls_off hF (.on rfl rfl rfl rfl rfl) rfl rfl ?_; clear hF a; intro a hF
   refine ls_val hF (.free rfl) rfl rfl (ex_pick_t rfl rfl rfl) ?_; clear hF a; intro a hF
   refine ls_val hF (.free rfl) rfl rfl (ex_move rfl rfl) ?_; clear hF a; intro a hF
   refine ls_off hF (.on rfl rfl rfl rfl rfl) rfl rfl ?_; clear hF a; intro a hF
   refine ls_off hF (.on rfl rfl rfl rfl rfl) rfl rfl ?_; clear hF a; intro a hF
   refine ls_off hF (.on rfl rfl rfl rfl rfl) rfl rfl ?_; clear hF a; intro a hF
   refine ls_off hF (.on rfl rfl rfl rfl rfl) rfl rfl ?_; clear hF a; intro a hF
   refine ls_off hF (.on rfl rfl rfl rfl rfl) rfl rfl ?_; clear hF a; intro a hF
   refine ls_off hF (.on rfl rfl rfl rfl rfl) rfl rfl ?_; clear hF a; intro a hF
   refine ls_off hF (.on rfl rfl rfl rfl rfl) rfl rfl ?_; clear hF a; intro a hF
   refine ls_val hF (.free rfl) rfl rfl (ex_pick_t rfl rfl rfl) ?_; clear hF a; intro a hF
   refine ls_val hF (.free rfl) rfl rfl (ex_assign rfl rfl) ?_; clear hF a; intro a hF
   refine ls_nil ?_
   refine then_normal ?_
   refine cw_t hF rfl ?_
   refine cw_seq ?_
   refine wp_region_lit ?_
   refine ls_val hF (.free rfl) rfl rfl (ex_assign rfl rfl) ?_; clear hF a; intro a hF
   refine ls_nil ?_
   refine then_normal ?_
   refine wp_ret ?_
   refine inb_ret (then_ret ((fin1 hF rfl rfl ⟨_, rfl, ?_⟩)))
   exact ⟨congrArg (Value.int .i64) (Eq.symm (by first | exact chk1 (.inl ‹¬ p.Ok›) | exact chk1 (.inr (.inl ‹¬ Formed n y q›)) | exact chk1 (.inr (.inr (by omega))))), hS.sub (.cons _ (.cons _ .slnil))⟩
  ·
   refine ls_val hF (.on rfl rfl rfl rfl rfl) rfl rfl (ex_loads_blk 1 rfl st_34 rfl hS rfl rfl) ?_; clear hF a; intro a hF
   refine ls_call hF (.on rfl rfl rfl rfl rfl) rfl rfl (ex_call0 rfl rfl cl_26 (args_cons rfl args0)) (c_formed w (hY.below hS.below) (by omega)) ?_; clear hF; rintro _ w ⟨rfl, hS'⟩ a hF
   replace hS : Sat w0 w [.blk g1 [vL, vD, .int .i64 p.stock, .int .i64 p.kerf], .blk g2 [vy, .int .i64 q]] := hS.comp hS'; clear hS'
   refine ls_val hF (.on rfl rfl rfl rfl rfl) rfl rfl (ex_not rfl rfl) ?_; clear hF a; intro a hF
   refine ls_val hF (.free rfl) rfl rfl (ex_pick_f rfl rfl rfl) ?_; clear hF a; intro a hF
   refine ls_val hF (.free rfl) rfl rfl (ex_move rfl rfl) ?_; clear hF a; intro a hF
   refine by_slot hF (d := 14) rfl ?_ ?_ <;> clear hF <;> intro hc hF
   ·
    refine ls_off hF (.on rfl rfl rfl rfl rfl) rfl rfl ?_; clear hF a; intro a hF
    refine ls_off hF (.on rfl rfl rfl rfl rfl) rfl rfl ?_; clear hF a; intro a hF
    refine ls_off hF (.on rfl rfl rfl rfl rfl) rfl rfl ?_; clear hF a; intro a hF
    refine ls_off hF (.on rfl rfl rfl rfl rfl) rfl rfl ?_; clear hF a; intro a hF
    refine ls_off hF (.on rfl rfl rfl rfl rfl) rfl rfl ?_; clear hF a; intro a hF
    refine ls_off hF (.on rfl rfl rfl rfl rfl) rfl rfl ?_; clear hF a; intro a hF
    refine ls_off hF (.on rfl rfl rfl rfl rfl) rfl rfl ?_; clear hF a; intro a hF
    refine ls_val hF (.free rfl) rfl rfl (ex_pick_t rfl rfl rfl) ?_; clear hF a; intro a hF
    refine ls_val hF (.free rfl) rfl rfl (ex_assign rfl rfl) ?_; clear hF a; intro a hF
    refine ls_nil ?_
    refine then_normal ?_
    refine cw_t hF rfl ?_
    refine cw_seq ?_
    refine wp_region_lit ?_
    refine ls_val hF (.free rfl) rfl rfl (ex_assign rfl rfl) ?_; clear hF a; intro a hF
    refine ls_nil ?_
    refine then_normal ?_
    refine wp_ret ?_
    refine inb_ret (then_ret ((fin1 hF rfl rfl ⟨_, rfl, ?_⟩)))
    exact ⟨congrArg (Value.int .i64) (Eq.symm (by first | exact chk1 (.inl ‹¬ p.Ok›) | exact chk1 (.inr (.inl ‹¬ Formed n y q›)) | exact chk1 (.inr (.inr (by omega))))), hS.sub (.cons _ (.cons _ .slnil))⟩
   ·
    refine ls_val hF (.on rfl rfl rfl rfl rfl) rfl rfl (ex_field (b := ⟨g2, 0, none⟩) rfl fd_34_0 rfl rfl) ?_; clear hF a; intro a hF
    refine ls_val hF (.on rfl rfl rfl rfl rfl) rfl rfl (ex_load_blk 1 rfl pl_22 rfl hS rfl rfl) ?_; clear hF a; intro a hF
    refine ls_val hF (.on rfl rfl rfl rfl rfl) rfl rfl (ex_len rfl sl_22 rfl hY.row.slh) ?_; clear hF a; intro a hF
    refine ls_val hF (.on rfl rfl rfl rfl rfl) rfl rfl (ex_field (b := ⟨g1, 0, none⟩) rfl fd_33_0 rfl rfl) ?_; clear hF a; intro a hF
    refine ls_val hF (.on rfl rfl rfl rfl rfl) rfl rfl (ex_load_blk 0 rfl pl_22 rfl hS rfl rfl) ?_; clear hF a; intro a hF
    refine ls_val hF (.on rfl rfl rfl rfl rfl) rfl rfl (ex_len rfl sl_22 rfl h.L.slh) ?_; clear hF a; intro a hF
    refine ls_val hF (.on rfl rfl rfl rfl rfl) rfl rfl (ex_neq rfl rfl rfl) ?_; clear hF a; intro a hF
    refine ls_val hF (.free rfl) rfl rfl (ex_pick_f rfl rfl rfl) ?_; clear hF a; intro a hF
    refine ls_val hF (.free rfl) rfl rfl (ex_assign rfl rfl) ?_; clear hF a; intro a hF
    refine ls_nil ?_
    refine then_normal ?_
    refine cw_if hF rfl (fun hc => ?_) (fun hc => ?_)
    ·
     refine cw_seq ?_
     refine wp_region_lit ?_
     refine ls_val hF (.free rfl) rfl rfl (ex_assign rfl rfl) ?_; clear hF a; intro a hF
     refine ls_nil ?_
     refine then_normal ?_
     refine wp_ret ?_
     refine inb_ret (then_ret ((fin1 hF rfl rfl ⟨_, rfl, ?_⟩)))
     exact ⟨congrArg (Value.int .i64) (Eq.symm (by first | exact chk1 (.inl ‹¬ p.Ok›) | exact chk1 (.inr (.inl ‹¬ Formed n y q›)) | exact chk1 (.inr (.inr (by omega))))), hS.sub (.cons _ (.cons _ .slnil))⟩
    ·
     refine cw_seq ?_
     refine dr_sat (m0 := [.blk g1 [vL, vD, .int .i64 p.stock, .int .i64 p.kerf], .blk g2 [vy, .int .i64 q]]) 1000 mx_ hS (.cons_cons _ (.cons_cons _ .slnil)) rfl ?_; clear hS; intro w hS hcl hB
     refine dr_load hF hcl hB 0 rfl (.free rfl) rfl rfl (by kernel_rfl) rfl (by kernel_rfl) (fun w hS => (ex_loads_blk 0 rfl st_33 rfl hS rfl rfl)) ?_; clear hF a hcl hB; intro a hF hcl hB
     refine dr_val hF hcl hB 1 rfl (.free rfl) rfl rfl (by kernel_rfl) rfl (fun w => (ex_field (b := ⟨g2, 0, none⟩) rfl fd_34_0 rfl rfl)) ?_; clear hF a hcl hB; intro a hF hcl hB
     refine dr_load hF hcl hB 2 rfl (.free rfl) rfl rfl (by kernel_rfl) rfl (by kernel_rfl) (fun w hS => (ex_load_blk 1 rfl pl_22 rfl hS rfl rfl)) ?_; clear hF a hcl hB; intro a hF hcl hB
     refine dr_val hF hcl hB 4 rfl (.free rfl) rfl rfl (by kernel_rfl) rfl (fun w => (ex_field (b := ⟨g2, 1, none⟩) rfl fd_34_1 rfl rfl)) ?_; clear hF a hcl hB; intro a hF hcl hB
     refine dr_load hF hcl hB 5 rfl (.free rfl) rfl rfl (by kernel_rfl) rfl (by kernel_rfl) (fun w hS => (ex_load_blk 1 rfl pl_3 rfl hS rfl rfl)) ?_; clear hF a hcl hB; intro a hF hcl hB
     refine dr_call hF hcl 3 rfl (.free rfl) rfl rfl (by kernel_rfl) (ex_call0 rfl rfl cl_27 (args_cons rfl (args_cons rfl args0))) (c_dearest (p := p) w (h.below hS.below) (Classical.not_not.1 ‹¬ ¬ (p.Ok)›) (hY.below hS.below) (by omega) (Formed.priced (Classical.not_not.1 ‹¬ ¬ (Formed n y q)›) (by omega))) ?_; clear hF hB; rintro _ w ⟨rfl, hS'⟩ a hF hcl
     replace hS : Sat w0 w [.blk g1 [vL, vD, .int .i64 p.stock, .int .i64 p.kerf], .blk g2 [vy, .int .i64 q]] := hS.comp hS'; clear hS'
     refine ⟨(fun _ => hS.sub (.cons_cons _ (.cons_cons _ .slnil))), fun hB => ?_⟩
     refine dr_val hF hcl hB 6 rfl (.free rfl) rfl rfl (by kernel_rfl) rfl (fun w => (ex_gtr rfl rfl rfl)) ?_; clear hF a hcl hB; intro a hF hcl hB
     refine dr_val hF hcl hB 7 rfl (.free rfl) rfl rfl (by kernel_rfl) rfl (fun w => (ex_assign rfl rfl)) ?_; clear hF a hcl hB; intro a hF hcl hB
     refine dr_done (by kernel_rfl) ?_; clear hcl hB
     refine then_normal ?_
     refine cw_if hF rfl (fun hc => ?_) (fun hc => ?_)
     ·
      refine cw_seq ?_
      refine wp_region_lit ?_
      refine ls_val hF (.free rfl) rfl rfl (ex_assign rfl rfl) ?_; clear hF a; intro a hF
      refine ls_nil ?_
      refine then_normal ?_
      refine wp_ret ?_
      refine inb_ret (then_ret ((fin1 hF rfl rfl ⟨_, rfl, ?_⟩)))
      exact ⟨congrArg (Value.int .i64) (Eq.symm (by exact chk21 (Classical.not_not.1 ‹¬ ¬ (p.Ok)›) (Classical.not_not.1 ‹¬ ¬ (Formed n y q)›) (by omega) ‹_›)), hS.sub (.cons _ (.cons _ .slnil))⟩
     ·
      refine wp_skip ?_
      refine inb_normal ?_
      refine then_normal ?_
      refine cw_seq ?_
      refine wp_region_lit ?_
      refine ls_val hF (.free rfl) rfl rfl (ex_assign rfl rfl) ?_; clear hF a; intro a hF
      refine ls_nil ?_
      refine then_normal ?_
      refine wp_ret ?_
      refine (fin1 hF rfl rfl ⟨_, rfl, ?_⟩)
      exact ⟨congrArg (Value.int .i64) (Eq.symm (by exact chk0 (Classical.not_not.1 ‹¬ ¬ (p.Ok)›) (Classical.not_not.1 ‹¬ ¬ (Formed n y q)›) (by omega) ‹_›)), hS.sub (.cons _ (.cons _ .slnil))⟩

set_option maxRecDepth 20000 in
theorem c_rcheck {vL vD vy : Value} {p : Prob} {n q : Int} {y : Int → Int} (w0 : World) (h : PAt w0 vL vD p) (hY : IAt w0 vy n y) (hq : -9223372036854775808 ≤ q ∧ q ≤ 9223372036854775807) :
    Calls Try.prog 14 [.agg #[vL, vD, .int .i64 p.stock, .int .i64 p.kerf], .agg #[vy, .int .i64 q]].toArray w0 fun e w => ∃ v, e = .returned v ∧ v = .int .i64 (Chk p n y q) ∧ Sat w0 w [] := by
  have hn := hY.n0; have hn1 := hY.n1
  refine enterS (vs := [.agg #[vL, vD, .int .i64 p.stock, .int .i64 p.kerf], .agg #[vy, .int .i64 q]]) Try.func14 rfl Try.ntmps14 rfl ?_
  intro a w hS hF
  refine cw_seq ?_
  refine wp_region_lit ?_
  refine ls_any hF (.free rfl) rfl rfl (ex_box (cs := [vL, vD, .int .i64 p.stock, .int .i64 p.kerf]) rfl hS rfl rfl) ?_; clear hF; rintro _ w ⟨g1, rfl, hS⟩ a hF
  replace hS : Sat w0 w [.blk g1 [vL, vD, .int .i64 p.stock, .int .i64 p.kerf]] := hS
  refine ls_any hF (.free rfl) rfl rfl (ex_box (cs := [vy, .int .i64 q]) rfl hS rfl rfl) ?_; clear hF; rintro _ w ⟨g2, rfl, hS⟩ a hF
  replace hS : Sat w0 w [.blk g1 [vL, vD, .int .i64 p.stock, .int .i64 p.kerf], .blk g2 [vy, .int .i64 q]] := hS
  refine ls_val hF (.free rfl) rfl rfl (ex_assign rfl rfl) ?_; clear hF a; intro a hF
  refine ls_nil ?_
  refine then_normal ?_
  refine cw_seq ?_
  refine wp_block ?_
  refine cw_seq ?_
  refine wp_region_lit ?_
  refine ls_val hF (.free rfl) rfl rfl (ex_loads_blk 0 rfl st_24 rfl hS rfl rfl) ?_; clear hF a; intro a hF
  refine ls_call hF (.free rfl) rfl rfl (ex_call0 rfl rfl cl_24 (args_cons rfl args0)) (c_rvalid (p := p) w (h.below hS.below)) ?_; clear hF; rintro _ w ⟨rfl, hS'⟩ a hF
  replace hS : Sat w0 w [.blk g1 [vL, vD, .int .i64 p.stock, .int .i64 p.kerf], .blk g2 [vy, .int .i64 q]] := hS.comp hS'; clear hS'
  refine ls_val hF (.free rfl) rfl rfl (ex_not rfl rfl) ?_; clear hF a; intro a hF
  refine ls_val hF (.free rfl) rfl rfl (ex_move rfl rfl) ?_; clear hF a; intro a hF
  refine by_slot hF (d := 9) rfl ?_ ?_ <;> clear hF <;> intro hc hF
  ·
   refine ls_off hF (.on rfl rfl rfl rfl rfl) rfl rfl ?_; clear hF a; intro a hF
   refine ls_off hF (.on rfl rfl rfl rfl rfl) rfl rfl ?_; clear hF a; intro a hF
   refine ls_off hF (.on rfl rfl rfl rfl rfl) rfl rfl ?_; clear hF a; intro a hF
   refine ls_val hF (.free rfl) rfl rfl (ex_pick_t rfl rfl rfl) ?_; clear hF a; intro a hF
   refine ls_val hF (.free rfl) rfl rfl (ex_move rfl rfl) ?_; clear hF a; intro a hF
   refine ls_off hF (.on rfl rfl rfl rfl rfl) rfl rfl ?_; clear hF a; intro a hF
   refine ls_off hF (.on rfl rfl rfl rfl rfl) rfl rfl ?_; clear hF a; intro a hF
   refine ls_off hF (.on rfl rfl rfl rfl rfl) rfl rfl ?_; clear hF a; intro a hF
   refine ls_off hF (.on rfl rfl rfl rfl rfl) rfl rfl ?_; clear hF a; intro a hF
   refine ls_off hF (.on rfl rfl rfl rfl rfl) rfl rfl ?_; clear hF a; intro a hF
   refine ls_off hF (.on rfl rfl rfl rfl rfl) rfl rfl ?_; clear hF a; intro a hF
   refine ls_off hF (.on rfl rfl rfl rfl rfl) rfl rfl ?_; clear hF a; intro a hF
   refine ls_val hF (.free rfl) rfl rfl (ex_pick_t rfl rfl rfl) ?_; clear hF a; intro a hF
   refine ls_val hF (.free rfl) rfl rfl (ex_assign rfl rfl) ?_; clear hF a; intro a hF
   refine ls_nil ?_
   refine then_normal ?_
   refine cw_t hF rfl ?_
   refine cw_seq ?_
   refine wp_region_lit ?_
   refine ls_val hF (.free rfl) rfl rfl (ex_assign rfl rfl) ?_; clear hF a; intro a hF
   refine ls_nil ?_
   refine then_normal ?_
   refine wp_ret ?_
   refine inb_ret (then_ret ((fin1 hF rfl rfl ⟨_, rfl, ?_⟩)))
   exact ⟨congrArg (Value.int .i64) (Eq.symm (by first | exact chk1 (.inl ‹¬ p.Ok›) | exact chk1 (.inr (.inl ‹¬ Formed n y q›)) | exact chk1 (.inr (.inr (by omega))))), hS.sub (.cons _ (.cons _ .slnil))⟩
  ·
   refine ls_val hF (.on rfl rfl rfl rfl rfl) rfl rfl (ex_loads_blk 1 rfl st_26 rfl hS rfl rfl) ?_; clear hF a; intro a hF
   refine ls_call hF (.on rfl rfl rfl rfl rfl) rfl rfl (ex_call0 rfl rfl cl_28 (args_cons rfl args0)) (c_rformed w (hY.below hS.below) (by omega)) ?_; clear hF; rintro _ w ⟨rfl, hS'⟩ a hF
   replace hS : Sat w0 w [.blk g1 [vL, vD, .int .i64 p.stock, .int .i64 p.kerf], .blk g2 [vy, .int .i64 q]] := hS.comp hS'; clear hS'
   refine ls_val hF (.on rfl rfl rfl rfl rfl) rfl rfl (ex_not rfl rfl) ?_; clear hF a; intro a hF
   refine ls_val hF (.free rfl) rfl rfl (ex_pick_f rfl rfl rfl) ?_; clear hF a; intro a hF
   refine ls_val hF (.free rfl) rfl rfl (ex_move rfl rfl) ?_; clear hF a; intro a hF
   refine by_slot hF (d := 14) rfl ?_ ?_ <;> clear hF <;> intro hc hF
   ·
    refine ls_off hF (.on rfl rfl rfl rfl rfl) rfl rfl ?_; clear hF a; intro a hF
    refine ls_off hF (.on rfl rfl rfl rfl rfl) rfl rfl ?_; clear hF a; intro a hF
    refine ls_off hF (.on rfl rfl rfl rfl rfl) rfl rfl ?_; clear hF a; intro a hF
    refine ls_off hF (.on rfl rfl rfl rfl rfl) rfl rfl ?_; clear hF a; intro a hF
    refine ls_off hF (.on rfl rfl rfl rfl rfl) rfl rfl ?_; clear hF a; intro a hF
    refine ls_off hF (.on rfl rfl rfl rfl rfl) rfl rfl ?_; clear hF a; intro a hF
    refine ls_off hF (.on rfl rfl rfl rfl rfl) rfl rfl ?_; clear hF a; intro a hF
    refine ls_val hF (.free rfl) rfl rfl (ex_pick_t rfl rfl rfl) ?_; clear hF a; intro a hF
    refine ls_val hF (.free rfl) rfl rfl (ex_assign rfl rfl) ?_; clear hF a; intro a hF
    refine ls_nil ?_
    refine then_normal ?_
    refine cw_t hF rfl ?_
    refine cw_seq ?_
    refine wp_region_lit ?_
    refine ls_val hF (.free rfl) rfl rfl (ex_assign rfl rfl) ?_; clear hF a; intro a hF
    refine ls_nil ?_
    refine then_normal ?_
    refine wp_ret ?_
    refine inb_ret (then_ret ((fin1 hF rfl rfl ⟨_, rfl, ?_⟩)))
    exact ⟨congrArg (Value.int .i64) (Eq.symm (by first | exact chk1 (.inl ‹¬ p.Ok›) | exact chk1 (.inr (.inl ‹¬ Formed n y q›)) | exact chk1 (.inr (.inr (by omega))))), hS.sub (.cons _ (.cons _ .slnil))⟩
   ·
    refine ls_val hF (.on rfl rfl rfl rfl rfl) rfl rfl (ex_field (b := ⟨g2, 0, none⟩) rfl fd_26_0 rfl rfl) ?_; clear hF a; intro a hF
    refine ls_val hF (.on rfl rfl rfl rfl rfl) rfl rfl (ex_load_blk 1 rfl pl_22 rfl hS rfl rfl) ?_; clear hF a; intro a hF
    refine ls_val hF (.on rfl rfl rfl rfl rfl) rfl rfl (ex_len rfl sl_22 rfl hY.row.slh) ?_; clear hF a; intro a hF
    refine ls_val hF (.on rfl rfl rfl rfl rfl) rfl rfl (ex_field (b := ⟨g1, 0, none⟩) rfl fd_24_0 rfl rfl) ?_; clear hF a; intro a hF
    refine ls_val hF (.on rfl rfl rfl rfl rfl) rfl rfl (ex_load_blk 0 rfl pl_22 rfl hS rfl rfl) ?_; clear hF a; intro a hF
    refine ls_val hF (.on rfl rfl rfl rfl rfl) rfl rfl (ex_len rfl sl_22 rfl h.L.slh) ?_; clear hF a; intro a hF
    refine ls_val hF (.on rfl rfl rfl rfl rfl) rfl rfl (ex_neq rfl rfl rfl) ?_; clear hF a; intro a hF
    refine ls_val hF (.free rfl) rfl rfl (ex_pick_f rfl rfl rfl) ?_; clear hF a; intro a hF
    refine ls_val hF (.free rfl) rfl rfl (ex_assign rfl rfl) ?_; clear hF a; intro a hF
    refine ls_nil ?_
    refine then_normal ?_
    refine cw_if hF rfl (fun hc => ?_) (fun hc => ?_)
    ·
     refine cw_seq ?_
     refine wp_region_lit ?_
     refine ls_val hF (.free rfl) rfl rfl (ex_assign rfl rfl) ?_; clear hF a; intro a hF
     refine ls_nil ?_
     refine then_normal ?_
     refine wp_ret ?_
     refine inb_ret (then_ret ((fin1 hF rfl rfl ⟨_, rfl, ?_⟩)))
     exact ⟨congrArg (Value.int .i64) (Eq.symm (by first | exact chk1 (.inl ‹¬ p.Ok›) | exact chk1 (.inr (.inl ‹¬ Formed n y q›)) | exact chk1 (.inr (.inr (by omega))))), hS.sub (.cons _ (.cons _ .slnil))⟩
    ·
     refine cw_seq ?_
     refine dr_sat (m0 := [.blk g1 [vL, vD, .int .i64 p.stock, .int .i64 p.kerf], .blk g2 [vy, .int .i64 q]]) 1000 mx_ hS (.cons_cons _ (.cons_cons _ .slnil)) rfl ?_; clear hS; intro w hS hcl hB
     refine dr_load hF hcl hB 0 rfl (.free rfl) rfl rfl (by kernel_rfl) rfl (by kernel_rfl) (fun w hS => (ex_loads_blk 0 rfl st_24 rfl hS rfl rfl)) ?_; clear hF a hcl hB; intro a hF hcl hB
     refine dr_val hF hcl hB 1 rfl (.free rfl) rfl rfl (by kernel_rfl) rfl (fun w => (ex_field (b := ⟨g2, 0, none⟩) rfl fd_26_0 rfl rfl)) ?_; clear hF a hcl hB; intro a hF hcl hB
     refine dr_load hF hcl hB 2 rfl (.free rfl) rfl rfl (by kernel_rfl) rfl (by kernel_rfl) (fun w hS => (ex_load_blk 1 rfl pl_22 rfl hS rfl rfl)) ?_; clear hF a hcl hB; intro a hF hcl hB
     refine dr_val hF hcl hB 4 rfl (.free rfl) rfl rfl (by kernel_rfl) rfl (fun w => (ex_field (b := ⟨g2, 1, none⟩) rfl fd_26_1 rfl rfl)) ?_; clear hF a hcl hB; intro a hF hcl hB
     refine dr_load hF hcl hB 5 rfl (.free rfl) rfl rfl (by kernel_rfl) rfl (by kernel_rfl) (fun w hS => (ex_load_blk 1 rfl pl_3 rfl hS rfl rfl)) ?_; clear hF a hcl hB; intro a hF hcl hB
     refine dr_call hF hcl 3 rfl (.free rfl) rfl rfl (by kernel_rfl) (ex_call0 rfl rfl cl_29 (args_cons rfl (args_cons rfl args0))) (c_worth (p := p) w (h.below hS.below) (Classical.not_not.1 ‹¬ ¬ (p.Ok)›) (hY.below hS.below) (by omega) (Formed.priced (Classical.not_not.1 ‹¬ ¬ (Formed n y q)›) (by omega))) ?_; clear hF hB; rintro _ w ⟨rfl, hS'⟩ a hF hcl
     replace hS : Sat w0 w [.blk g1 [vL, vD, .int .i64 p.stock, .int .i64 p.kerf], .blk g2 [vy, .int .i64 q]] := hS.comp hS'; clear hS'
     refine ⟨(fun _ => hS.sub (.cons_cons _ (.cons_cons _ .slnil))), fun hB => ?_⟩
     refine dr_val hF hcl hB 6 rfl (.free rfl) rfl rfl (by kernel_rfl) rfl (fun w => (ex_gtr rfl rfl rfl)) ?_; clear hF a hcl hB; intro a hF hcl hB
     refine dr_val hF hcl hB 7 rfl (.free rfl) rfl rfl (by kernel_rfl) rfl (fun w => (ex_assign rfl rfl)) ?_; clear hF a hcl hB; intro a hF hcl hB
     refine dr_done (by kernel_rfl) ?_; clear hcl hB
     refine then_normal ?_
     refine cw_if hF rfl (fun hc => ?_) (fun hc => ?_)
     ·
      refine cw_seq ?_
      refine wp_region_lit ?_
      refine ls_val hF (.free rfl) rfl rfl (ex_assign rfl rfl) ?_; clear hF a; intro a hF
      refine ls_nil ?_
      refine then_normal ?_
      refine wp_ret ?_
      refine inb_ret (then_ret ((fin1 hF rfl rfl ⟨_, rfl, ?_⟩)))
      exact ⟨congrArg (Value.int .i64) (Eq.symm (by exact chk21 (Classical.not_not.1 ‹¬ ¬ (p.Ok)›) (Classical.not_not.1 ‹¬ ¬ (Formed n y q)›) (by omega) ‹_›)), hS.sub (.cons _ (.cons _ .slnil))⟩
     ·
      refine wp_skip ?_
      refine inb_normal ?_
      refine then_normal ?_
      refine cw_seq ?_
      refine wp_region_lit ?_
      refine ls_val hF (.free rfl) rfl rfl (ex_assign rfl rfl) ?_; clear hF a; intro a hF
      refine ls_nil ?_
      refine then_normal ?_
      refine wp_ret ?_
      refine (fin1 hF rfl rfl ⟨_, rfl, ?_⟩)
      exact ⟨congrArg (Value.int .i64) (Eq.symm (by exact chk0 (Classical.not_not.1 ‹¬ ¬ (p.Ok)›) (Classical.not_not.1 ‹¬ ¬ (Formed n y q)›) (by omega) ‹_›)), hS.sub (.cons _ (.cons _ .slnil))⟩

set_option maxRecDepth 20000 in
theorem c_bound {vL vD vy : Value} {p : Prob} {n q : Int} {y : Int → Int} (w0 : World) (h : PAt w0 vL vD p) (hY : IAt w0 vy n y) (hq : -9223372036854775808 ≤ q ∧ q ≤ 9223372036854775807) :
    Calls Try.prog 11 [.agg #[vL, vD, .int .i64 p.stock, .int .i64 p.kerf], .agg #[vy, .int .i64 q]].toArray w0 fun e w => ∃ v, e = .returned v ∧ v = .tuple #[.int .i64 (BndOf p n y q), .int .i64 (Chk p n y q)] ∧ Sat w0 w [] := by
  have hn := hY.n0; have hn1 := hY.n1
  refine enterS (vs := [.agg #[vL, vD, .int .i64 p.stock, .int .i64 p.kerf], .agg #[vy, .int .i64 q]]) Try.func11 rfl Try.ntmps11 rfl ?_
  intro a w hS hF
  refine cw_seq ?_
  refine wp_region_lit ?_
  refine ls_any hF (.free rfl) rfl rfl (ex_box (cs := [vL, vD, .int .i64 p.stock, .int .i64 p.kerf]) rfl hS rfl rfl) ?_; clear hF; rintro _ w ⟨g1, rfl, hS⟩ a hF
  replace hS : Sat w0 w [.blk g1 [vL, vD, .int .i64 p.stock, .int .i64 p.kerf]] := hS
  refine ls_any hF (.free rfl) rfl rfl (ex_box (cs := [vy, .int .i64 q]) rfl hS rfl rfl) ?_; clear hF; rintro _ w ⟨g2, rfl, hS⟩ a hF
  replace hS : Sat w0 w [.blk g1 [vL, vD, .int .i64 p.stock, .int .i64 p.kerf], .blk g2 [vy, .int .i64 q]] := hS
  refine ls_val hF (.free rfl) rfl rfl (ex_assign rfl rfl) ?_; clear hF a; intro a hF
  refine ls_val hF (.free rfl) rfl rfl (ex_assign rfl rfl) ?_; clear hF a; intro a hF
  refine ls_nil ?_
  refine then_normal ?_
  refine cw_seq ?_
  refine cw_seq ?_
  refine wp_region_lit ?_
  refine ls_val hF (.free rfl) rfl rfl (ex_loads_blk 0 rfl st_33 rfl hS rfl rfl) ?_; clear hF a; intro a hF
  refine ls_val hF (.free rfl) rfl rfl (ex_loads_blk 1 rfl st_34 rfl hS rfl rfl) ?_; clear hF a; intro a hF
  refine ls_call hF (.free rfl) rfl rfl (ex_call0 rfl rfl cl_13 (args_cons rfl (args_cons rfl args0))) (c_check (p := p) w (h.below hS.below) (hY.below hS.below) (by omega)) ?_; clear hF; rintro _ w ⟨rfl, hS'⟩ a hF
  replace hS : Sat w0 w [.blk g1 [vL, vD, .int .i64 p.stock, .int .i64 p.kerf], .blk g2 [vy, .int .i64 q]] := hS.comp hS'; clear hS'
  refine ls_val hF (.free rfl) rfl rfl (ex_assign rfl rfl) ?_; clear hF a; intro a hF
  refine ls_nil ?_
  refine then_normal ?_
  refine cw_seq ?_
  refine wp_region_lit ?_
  refine ls_val hF (.free rfl) rfl rfl (ex_move rfl rfl) ?_; clear hF a; intro a hF
  refine ls_val hF (.free rfl) rfl rfl (ex_neq rfl rfl rfl) ?_; clear hF a; intro a hF
  refine ls_nil ?_
  refine then_normal ?_
  refine cw_if hF rfl (fun hc => ?_) (fun hc => ?_)
  ·
   refine cw_seq ?_
   refine wp_region_lit ?_
   refine ls_val hF (.free rfl) rfl rfl (ex_move rfl rfl) ?_; clear hF a; intro a hF
   refine ls_val hF (.free rfl) rfl rfl (ex_assign rfl rfl) ?_; clear hF a; intro a hF
   refine ls_val hF (.free rfl) rfl rfl (ex_assign rfl rfl) ?_; clear hF a; intro a hF
   refine ls_nil ?_
   refine then_normal ?_
   refine wp_ret ?_
   refine then_ret ((fin2 hF rfl rfl rfl ⟨_, rfl, ?_⟩))
   exact ⟨by rw [bnd_no ‹_›], hS.sub (.cons _ (.cons _ .slnil))⟩
  ·
   refine wp_skip ?_
   refine then_normal ?_
   refine cw_seq ?_
   refine wp_region_lit ?_
   refine ls_val hF (.free rfl) rfl rfl (ex_assign rfl rfl) ?_; clear hF a; intro a hF
   refine ls_nil ?_
   refine then_normal ?_
   refine cw_seq ?_
   refine cw_seq ?_
   refine wp_region_lit ?_
   refine ls_val hF (.free rfl) rfl rfl (ex_field (b := ⟨g1, 1, none⟩) rfl fd_33_1 rfl rfl) ?_; clear hF a; intro a hF
   obtain ⟨hp, hfm, hnm, hw⟩ := chk_ok (by omega : Chk p n y q = 0); have hq1 := hfm.1; have hq2 := hfm.2.1; have hd := hp.d; have hm1 := hp.m1; have hm2 := hp.m2; have hpr := hfm.priced hnm
   refine ls_val hF (.free rfl) rfl rfl (ex_load_blk 0 rfl pl_22 rfl hS rfl rfl) ?_; clear hF a; intro a hF
   refine ls_val hF (.free rfl) rfl rfl (ex_len rfl sl_22 rfl h.D.slh) ?_; clear hF a; intro a hF
   refine ls_val hF (.free rfl) rfl rfl (ex_move rfl rfl) ?_; clear hF a; intro a hF
   refine ls_nil ?_
   refine then_normal ?_
   refine wp_block ?_
   refine cw_loop (fun mm a w => ∃ (t : Int) (i : Int), mm = ((p.m - i).toNat) ∧ (0 ≤ i) ∧ (i ≤ p.m) ∧ (t = Tot p.D y i.toNat) ∧ Fr a 42 [(3, .pointer (some ⟨g2, 0, none⟩)), (4, .int .i64 0), (5, .int .i64 0), (7, .int .i64 t), (17, vD), (18, .int .i64 p.d), (19, .int .i64 i)] ∧ Sat w0 w [.blk g1 [vL, vD, .int .i64 p.stock, .int .i64 p.kerf], .blk g2 [vy, .int .i64 q]]) ?_ ?_ (m := ((p.m - 0).toNat))
   ·
    refine ⟨0, 0, rfl, (by omega), (by omega), ?_, (hF.pick (hF.pick (hF.pick (hF.pick (hF.pick (hF.pick (hF.pick hF.nil 19 rfl) 18 rfl) 17 rfl) 7 rfl) 5 rfl) 4 rfl) 3 rfl), hS⟩
    ·
     rfl
   ·
    clear hF hS a w
    rintro mm a w ⟨t, i, rfl, h0, h1, ht, hF, hS⟩
    refine cw_seq ?_
    refine wp_region_lit ?_
    refine ls_val hF (.free rfl) rfl rfl (ex_lss rfl rfl rfl) ?_; clear hF a; intro a hF
    refine ls_nil ?_
    refine then_normal ?_
    refine cw_seq ?_
    refine cw_if hF rfl (fun hc => ?_) (fun hc => ?_)
    ·
     refine wp_skip ?_
     refine then_normal ?_
     refine cw_seq ?_
     refine wp_block ?_
     refine cw_seq ?_
     refine wp_region_lit ?_
     refine ls_val hF (.free rfl) rfl rfl (ex_move rfl rfl) ?_; clear hF a; intro a hF
     refine ls_val hF (.free rfl) rfl rfl (ex_index (k := i) rfl sl_22 rfl rfl h.D.slh (by omega) (by omega) (by omega)) ?_; clear hF a; intro a hF
     refine ls_val hF (.free rfl) rfl rfl (ex_load_row (u := .int .i64 (p.D i)) rfl pl_3 rfl (h.D.below hS.below) (by omega) (by omega) rfl) ?_; clear hF a; intro a hF
     have hbv := h.iD i
     refine ls_val hF (.free rfl) rfl rfl (ex_assign rfl rfl) ?_; clear hF a; intro a hF
     refine ls_val hF (.free rfl) rfl rfl (ex_assign rfl rfl) ?_; clear hF a; intro a hF
     refine ls_nil ?_
     refine then_normal ?_
     refine wp_region_lit ?_
     refine ls_val hF (.free rfl) rfl rfl (ex_move rfl rfl) ?_; clear hF a; intro a hF
     have hb1 := tot_bd hp hpr i h0 (by omega); have hb2 := tot_rng hp hpr i h0 (by omega)
     refine ls_val hF (.free rfl) rfl rfl (ex_move rfl rfl) ?_; clear hF a; intro a hF
     refine ls_val hF (.free rfl) rfl rfl (ex_field (b := ⟨g2, 0, none⟩) rfl fd_34_0 rfl rfl) ?_; clear hF a; intro a hF
     refine ls_val hF (.free rfl) rfl rfl (ex_load_blk 1 rfl pl_22 rfl hS rfl rfl) ?_; clear hF a; intro a hF
     refine ls_val hF (.free rfl) rfl rfl (ex_move rfl rfl) ?_; clear hF a; intro a hF
     refine ls_val hF (.free rfl) rfl rfl (ex_index (k := i) rfl sl_22 rfl rfl hY.row.slh (by omega) (by omega) (by omega)) ?_; clear hF a; intro a hF
     refine ls_val hF (.free rfl) rfl rfl (ex_load_row (u := .int .i64 (y i)) rfl pl_3 rfl (hY.row.below hS.below) (by omega) (by omega) rfl) ?_; clear hF a; intro a hF
     have hbv := hY.i i
     refine ls_val hF (.free rfl) rfl rfl (ex_mul (r := ((p.D i) * (y i))) rfl rfl rfl rfl (by unfold I64; omega)) ?_; clear hF a; intro a hF
     refine ls_val hF (.free rfl) rfl rfl (ex_add (r := t + ((p.D i) * (y i))) rfl rfl rfl (by omega) (by unfold I64; omega)) ?_; clear hF a; intro a hF
     refine ls_val hF (.free rfl) rfl rfl (ex_assign rfl rfl) ?_; clear hF a; intro a hF
     refine ls_nil ?_
     refine inb_normal ?_
     refine then_normal ?_
     refine wp_region_lit ?_
     refine ls_val hF (.free rfl) rfl rfl (ex_add (r := i + 1) rfl rfl rfl (by omega) (by unfold I64; omega)) ?_; clear hF a; intro a hF
     refine ls_val hF (.free rfl) rfl rfl (ex_move rfl rfl) ?_; clear hF a; intro a hF
     refine ls_nil ?_
     refine then_normal ?_
     refine ⟨_, (by omega), t + ((p.D i) * (y i)), i + 1, rfl, (by omega), (by omega), ?_, (hF.pick (hF.pick (hF.pick (hF.pick (hF.pick (hF.pick (hF.pick hF.nil 19 rfl) 18 rfl) 17 rfl) 7 rfl) 5 rfl) 4 rfl) 3 rfl), hS⟩
     ·
      rw [Tot_next _ _ h0, ← ht]
    ·
     refine wp_exit ?_
     refine then_exit ?_
     refine then_exit ?_
     refine inb_hit ?_
     refine then_normal ?_
     refine cw_seq ?_
     refine wp_region_lit ?_
     refine ls_val hF (.free rfl) rfl rfl (ex_move rfl rfl) ?_; clear hF a; intro a hF
     have hb1 := tot_bd hp hpr i h0 (by omega); have hq3 := quo_facts (a := t + q - 1) (b := q) (by omega) (by omega)
     refine ls_val hF (.free rfl) rfl rfl (ex_field (b := ⟨g2, 1, none⟩) rfl fd_34_1 rfl rfl) ?_; clear hF a; intro a hF
     refine ls_val hF (.free rfl) rfl rfl (ex_load_blk 1 rfl pl_3 rfl hS rfl rfl) ?_; clear hF a; intro a hF
     refine ls_val hF (.free rfl) rfl rfl (ex_add (r := t + q) rfl rfl rfl (by omega) (by unfold I64; omega)) ?_; clear hF a; intro a hF
     refine ls_val hF (.free rfl) rfl rfl (ex_sub (r := t + q - 1) rfl rfl rfl (by omega) (by unfold I64; omega)) ?_; clear hF a; intro a hF
     refine ls_val hF (.free rfl) rfl rfl (ex_field (b := ⟨g2, 1, none⟩) rfl fd_34_1 rfl rfl) ?_; clear hF a; intro a hF
     refine ls_val hF (.free rfl) rfl rfl (ex_load_blk 1 rfl pl_3 rfl hS rfl rfl) ?_; clear hF a; intro a hF
     refine ls_val hF (.free rfl) rfl rfl (ex_quo (r := (Int.tdiv (t + q - 1) q)) rfl rfl rfl (by omega) rfl (by unfold I64; omega)) ?_; clear hF a; intro a hF
     refine ls_val hF (.free rfl) rfl rfl (ex_assign rfl rfl) ?_; clear hF a; intro a hF
     refine ls_val hF (.free rfl) rfl rfl (ex_assign rfl rfl) ?_; clear hF a; intro a hF
     refine ls_nil ?_
     refine then_normal ?_
     refine wp_ret ?_
     refine (fin2 hF rfl rfl rfl ⟨_, rfl, ?_⟩)
     obtain rfl : i = p.m := by omega
     have hz : Chk p n y q = 0 := by omega
     exact ⟨by rw [hz, bnd_ok hz]; unfold Bnd; rw [← ht], hS.sub (.cons _ (.cons _ .slnil))⟩

set_option maxRecDepth 20000 in
theorem c_rbound {vL vD vy : Value} {p : Prob} {n q : Int} {y : Int → Int} (w0 : World) (h : PAt w0 vL vD p) (hY : IAt w0 vy n y) (hq : -9223372036854775808 ≤ q ∧ q ≤ 9223372036854775807) :
    Calls Try.prog 12 [.agg #[vL, vD, .int .i64 p.stock, .int .i64 p.kerf], .agg #[vy, .int .i64 q]].toArray w0 fun e w => ∃ v, e = .returned v ∧ v = .tuple #[.int .i64 (BndOf p n y q), .int .i64 (Chk p n y q)] ∧ Sat w0 w [] := by
  have hn := hY.n0; have hn1 := hY.n1
  refine enterS (vs := [.agg #[vL, vD, .int .i64 p.stock, .int .i64 p.kerf], .agg #[vy, .int .i64 q]]) Try.func12 rfl Try.ntmps12 rfl ?_
  intro a w hS hF
  refine cw_seq ?_
  refine wp_region_lit ?_
  refine ls_any hF (.free rfl) rfl rfl (ex_box (cs := [vL, vD, .int .i64 p.stock, .int .i64 p.kerf]) rfl hS rfl rfl) ?_; clear hF; rintro _ w ⟨g1, rfl, hS⟩ a hF
  replace hS : Sat w0 w [.blk g1 [vL, vD, .int .i64 p.stock, .int .i64 p.kerf]] := hS
  refine ls_any hF (.free rfl) rfl rfl (ex_box (cs := [vy, .int .i64 q]) rfl hS rfl rfl) ?_; clear hF; rintro _ w ⟨g2, rfl, hS⟩ a hF
  replace hS : Sat w0 w [.blk g1 [vL, vD, .int .i64 p.stock, .int .i64 p.kerf], .blk g2 [vy, .int .i64 q]] := hS
  refine ls_val hF (.free rfl) rfl rfl (ex_assign rfl rfl) ?_; clear hF a; intro a hF
  refine ls_val hF (.free rfl) rfl rfl (ex_assign rfl rfl) ?_; clear hF a; intro a hF
  refine ls_nil ?_
  refine then_normal ?_
  refine cw_seq ?_
  refine cw_seq ?_
  refine wp_region_lit ?_
  refine ls_val hF (.free rfl) rfl rfl (ex_loads_blk 0 rfl st_24 rfl hS rfl rfl) ?_; clear hF a; intro a hF
  refine ls_val hF (.free rfl) rfl rfl (ex_loads_blk 1 rfl st_26 rfl hS rfl rfl) ?_; clear hF a; intro a hF
  refine ls_call hF (.free rfl) rfl rfl (ex_call0 rfl rfl cl_14 (args_cons rfl (args_cons rfl args0))) (c_rcheck (p := p) w (h.below hS.below) (hY.below hS.below) (by omega)) ?_; clear hF; rintro _ w ⟨rfl, hS'⟩ a hF
  replace hS : Sat w0 w [.blk g1 [vL, vD, .int .i64 p.stock, .int .i64 p.kerf], .blk g2 [vy, .int .i64 q]] := hS.comp hS'; clear hS'
  refine ls_val hF (.free rfl) rfl rfl (ex_assign rfl rfl) ?_; clear hF a; intro a hF
  refine ls_nil ?_
  refine then_normal ?_
  refine cw_seq ?_
  refine wp_region_lit ?_
  refine ls_val hF (.free rfl) rfl rfl (ex_move rfl rfl) ?_; clear hF a; intro a hF
  refine ls_val hF (.free rfl) rfl rfl (ex_neq rfl rfl rfl) ?_; clear hF a; intro a hF
  refine ls_nil ?_
  refine then_normal ?_
  refine cw_if hF rfl (fun hc => ?_) (fun hc => ?_)
  ·
   refine cw_seq ?_
   refine wp_region_lit ?_
   refine ls_val hF (.free rfl) rfl rfl (ex_move rfl rfl) ?_; clear hF a; intro a hF
   refine ls_val hF (.free rfl) rfl rfl (ex_assign rfl rfl) ?_; clear hF a; intro a hF
   refine ls_val hF (.free rfl) rfl rfl (ex_assign rfl rfl) ?_; clear hF a; intro a hF
   refine ls_nil ?_
   refine then_normal ?_
   refine wp_ret ?_
   refine then_ret ((fin2 hF rfl rfl rfl ⟨_, rfl, ?_⟩))
   exact ⟨by rw [bnd_no ‹_›], hS.sub (.cons _ (.cons _ .slnil))⟩
  ·
   refine wp_skip ?_
   refine then_normal ?_
   refine cw_seq ?_
   refine wp_region_lit ?_
   refine ls_val hF (.free rfl) rfl rfl (ex_assign rfl rfl) ?_; clear hF a; intro a hF
   obtain ⟨hp, hfm, hnm, hw⟩ := chk_ok (by omega : Chk p n y q = 0); have hq1 := hfm.1; have hq2 := hfm.2.1; have hd := hp.d; have hm1 := hp.m1; have hm2 := hp.m2; have hpr := hfm.priced hnm
   refine ls_nil ?_
   refine then_normal ?_
   refine cw_seq ?_
   refine cw_seq ?_
   refine wp_region_lit ?_
   refine ls_val hF (.free rfl) rfl rfl (ex_assign rfl rfl) ?_; clear hF a; intro a hF
   refine ls_nil ?_
   refine then_normal ?_
   refine wp_block ?_
   refine cw_loop (fun mm a w => ∃ (t : Int) (i : Int), mm = ((p.m - i).toNat) ∧ (0 ≤ i) ∧ (i ≤ p.m) ∧ (t = Tot p.D y i.toNat) ∧ Fr a 43 [(2, .pointer (some ⟨g1, 0, none⟩)), (3, .pointer (some ⟨g2, 0, none⟩)), (4, .int .i64 0), (5, .int .i64 0), (7, .int .i64 t), (8, .int .i64 i)] ∧ Sat w0 w [.blk g1 [vL, vD, .int .i64 p.stock, .int .i64 p.kerf], .blk g2 [vy, .int .i64 q]]) ?_ ?_ (m := ((p.m - 0).toNat))
   ·
    refine ⟨0, 0, rfl, (by omega), (by omega), ?_, (hF.pick (hF.pick (hF.pick (hF.pick (hF.pick (hF.pick hF.nil 8 rfl) 7 rfl) 5 rfl) 4 rfl) 3 rfl) 2 rfl), hS⟩
    ·
     rfl
   ·
    clear hF hS a w
    rintro mm a w ⟨t, i, rfl, h0, h1, ht, hF, hS⟩
    refine cw_seq ?_
    refine cw_seq ?_
    refine wp_region_lit ?_
    refine ls_val hF (.free rfl) rfl rfl (ex_move rfl rfl) ?_; clear hF a; intro a hF
    refine ls_val hF (.free rfl) rfl rfl (ex_field (b := ⟨g2, 0, none⟩) rfl fd_26_0 rfl rfl) ?_; clear hF a; intro a hF
    refine ls_val hF (.free rfl) rfl rfl (ex_load_blk 1 rfl pl_22 rfl hS rfl rfl) ?_; clear hF a; intro a hF
    refine ls_val hF (.free rfl) rfl rfl (ex_len rfl sl_22 rfl hY.row.slh) ?_; clear hF a; intro a hF
    refine ls_val hF (.free rfl) rfl rfl (ex_lss rfl rfl rfl) ?_; clear hF a; intro a hF
    refine ls_nil ?_
    refine then_normal ?_
    refine cw_if hF rfl (fun hc => ?_) (fun hc => ?_)
    ·
     refine wp_skip ?_
     refine then_normal ?_
     refine cw_seq ?_
     refine wp_block ?_
     refine dr_sat (m0 := [.blk g1 [vL, vD, .int .i64 p.stock, .int .i64 p.kerf], .blk g2 [vy, .int .i64 q]]) 1000 mx_ hS (.cons_cons _ (.cons_cons _ .slnil)) rfl ?_; clear hS; intro w hS hcl hB
     refine dr_val hF hcl hB 0 rfl (.free rfl) rfl rfl (by kernel_rfl) rfl (fun w => (ex_move rfl rfl)) ?_; clear hF a hcl hB; intro a hF hcl hB
     have hb1 := tot_bd hp hpr i h0 (by omega); have hb2 := tot_rng hp hpr i h0 (by omega)
     refine dr_val hF hcl hB 1 rfl (.free rfl) rfl rfl (by kernel_rfl) rfl (fun w => (ex_field (b := ⟨g1, 1, none⟩) rfl fd_24_1 rfl rfl)) ?_; clear hF a hcl hB; intro a hF hcl hB
     refine dr_load hF hcl hB 2 rfl (.free rfl) rfl rfl (by kernel_rfl) rfl (by kernel_rfl) (fun w hS => (ex_load_blk 0 rfl pl_22 rfl hS rfl rfl)) ?_; clear hF a hcl hB; intro a hF hcl hB
     refine dr_val hF hcl hB 3 rfl (.free rfl) rfl rfl (by kernel_rfl) rfl (fun w => (ex_move rfl rfl)) ?_; clear hF a hcl hB; intro a hF hcl hB
     refine dr_val hF hcl hB 4 rfl (.free rfl) rfl rfl (by kernel_rfl) rfl (fun w => (ex_index (k := i) rfl sl_22 rfl rfl h.D.slh (by omega) (by omega) (by omega))) ?_; clear hF a hcl hB; intro a hF hcl hB
     refine dr_load hF hcl hB 5 rfl (.free rfl) rfl rfl (by kernel_rfl) rfl (by kernel_rfl) (fun w hS => (ex_load_row (u := .int .i64 (p.D i)) rfl pl_3 rfl (h.D.below hS.below) (by omega) (by omega) rfl)) ?_; clear hF a hcl hB; intro a hF hcl hB
     have hbv := h.iD i
     refine dr_val hF hcl hB 6 rfl (.free rfl) rfl rfl (by kernel_rfl) rfl (fun w => (ex_field (b := ⟨g2, 0, none⟩) rfl fd_26_0 rfl rfl)) ?_; clear hF a hcl hB; intro a hF hcl hB
     refine dr_load hF hcl hB 7 rfl (.free rfl) rfl rfl (by kernel_rfl) rfl (by kernel_rfl) (fun w hS => (ex_load_blk 1 rfl pl_22 rfl hS rfl rfl)) ?_; clear hF a hcl hB; intro a hF hcl hB
     refine dr_val hF hcl hB 8 rfl (.free rfl) rfl rfl (by kernel_rfl) rfl (fun w => (ex_move rfl rfl)) ?_; clear hF a hcl hB; intro a hF hcl hB
     refine dr_val hF hcl hB 9 rfl (.free rfl) rfl rfl (by kernel_rfl) rfl (fun w => (ex_index (k := i) rfl sl_22 rfl rfl hY.row.slh (by omega) (by omega) (by omega))) ?_; clear hF a hcl hB; intro a hF hcl hB
     refine dr_load hF hcl hB 10 rfl (.free rfl) rfl rfl (by kernel_rfl) rfl (by kernel_rfl) (fun w hS => (ex_load_row (u := .int .i64 (y i)) rfl pl_3 rfl (hY.row.below hS.below) (by omega) (by omega) rfl)) ?_; clear hF a hcl hB; intro a hF hcl hB
     have hbv := hY.i i
     refine dr_val hF hcl hB 11 rfl (.free rfl) rfl rfl (by kernel_rfl) rfl (fun w => (ex_mul (r := ((p.D i) * (y i))) rfl rfl rfl rfl (by unfold I64; omega))) ?_; clear hF a hcl hB; intro a hF hcl hB
     refine dr_val hF hcl hB 12 rfl (.free rfl) rfl rfl (by kernel_rfl) rfl (fun w => (ex_add (r := t + ((p.D i) * (y i))) rfl rfl rfl (by omega) (by unfold I64; omega))) ?_; clear hF a hcl hB; intro a hF hcl hB
     refine dr_val hF hcl hB 13 rfl (.free rfl) rfl rfl (by kernel_rfl) rfl (fun w => (ex_assign rfl rfl)) ?_; clear hF a hcl hB; intro a hF hcl hB
     obtain ⟨hp, hfm, hnm, hw⟩ := chk_ok (by omega : Chk p n y q = 0); have hq1 := hfm.1; have hq2 := hfm.2.1; have hd := hp.d; have hm1 := hp.m1; have hm2 := hp.m2; have hpr := hfm.priced hnm
     refine dr_done (by kernel_rfl) ?_; clear hcl hB
     refine inb_normal ?_
     refine then_normal ?_
     refine wp_region_lit ?_
     refine ls_val hF (.free rfl) rfl rfl (ex_move rfl rfl) ?_; clear hF a; intro a hF
     refine ls_val hF (.free rfl) rfl rfl (ex_add (r := i + 1) rfl rfl rfl (by omega) (by unfold I64; omega)) ?_; clear hF a; intro a hF
     refine ls_val hF (.free rfl) rfl rfl (ex_assign rfl rfl) ?_; clear hF a; intro a hF
     refine ls_nil ?_
     refine then_normal ?_
     refine ⟨_, (by omega), t + ((p.D i) * (y i)), i + 1, rfl, (by omega), (by omega), ?_, (hF.pick (hF.pick (hF.pick (hF.pick (hF.pick (hF.pick hF.nil 8 rfl) 7 rfl) 5 rfl) 4 rfl) 3 rfl) 2 rfl), hS⟩
     ·
      rw [Tot_next _ _ h0, ← ht]
    ·
     refine wp_exit ?_
     refine then_exit ?_
     refine then_exit ?_
     refine inb_hit ?_
     refine then_normal ?_
     refine cw_seq ?_
     refine wp_region_lit ?_
     refine ls_val hF (.free rfl) rfl rfl (ex_move rfl rfl) ?_; clear hF a; intro a hF
     have hb1 := tot_bd hp hpr i h0 (by omega); have hq3 := quo_facts (a := t + q - 1) (b := q) (by omega) (by omega)
     refine ls_val hF (.free rfl) rfl rfl (ex_field (b := ⟨g2, 1, none⟩) rfl fd_26_1 rfl rfl) ?_; clear hF a; intro a hF
     refine ls_val hF (.free rfl) rfl rfl (ex_load_blk 1 rfl pl_3 rfl hS rfl rfl) ?_; clear hF a; intro a hF
     refine ls_val hF (.free rfl) rfl rfl (ex_add (r := t + q) rfl rfl rfl (by omega) (by unfold I64; omega)) ?_; clear hF a; intro a hF
     refine ls_val hF (.free rfl) rfl rfl (ex_sub (r := t + q - 1) rfl rfl rfl (by omega) (by unfold I64; omega)) ?_; clear hF a; intro a hF
     refine ls_val hF (.free rfl) rfl rfl (ex_field (b := ⟨g2, 1, none⟩) rfl fd_26_1 rfl rfl) ?_; clear hF a; intro a hF
     refine ls_val hF (.free rfl) rfl rfl (ex_load_blk 1 rfl pl_3 rfl hS rfl rfl) ?_; clear hF a; intro a hF
     refine ls_val hF (.free rfl) rfl rfl (ex_quo (r := (Int.tdiv (t + q - 1) q)) rfl rfl rfl (by omega) rfl (by unfold I64; omega)) ?_; clear hF a; intro a hF
     refine ls_val hF (.free rfl) rfl rfl (ex_assign rfl rfl) ?_; clear hF a; intro a hF
     refine ls_val hF (.free rfl) rfl rfl (ex_assign rfl rfl) ?_; clear hF a; intro a hF
     refine ls_nil ?_
     refine then_normal ?_
     refine wp_ret ?_
     refine (fin2 hF rfl rfl rfl ⟨_, rfl, ?_⟩)
     obtain rfl : i = p.m := by omega
     have hz : Chk p n y q = 0 := by omega
     exact ⟨by rw [hz, bnd_ok hz]; unfold Bnd; rw [← ht], hS.sub (.cons _ (.cons _ .slnil))⟩

set_option maxRecDepth 20000 in
theorem c_few28 {vL vD : Value} {p : Prob} (w0 : World) (h : PAt w0 vL vD p) :
    Calls Try.prog 9 [.agg #[vL, vD, .int .i64 p.stock, .int .i64 p.kerf]].toArray w0 fun e w => ∃ v, e = .returned v ∧ v = B (Few28 p) ∧ Sat w0 w [] := by
  have hm := h.L.slh.n0; have hm1 := h.L.slh.n1; have hd := h.D.slh.n0; have hd1 := h.D.slh.n1; have hs := h.is; have hk := h.ik
  refine enterS (vs := [.agg #[vL, vD, .int .i64 p.stock, .int .i64 p.kerf]]) Try.func9 rfl Try.ntmps9 rfl ?_
  intro a w hS hF
  refine cw_seq ?_
  refine wp_region_lit ?_
  refine ls_any hF (.free rfl) rfl rfl (ex_box (cs := [vL, vD, .int .i64 p.stock, .int .i64 p.kerf]) rfl hS rfl rfl) ?_; clear hF; rintro _ w ⟨g1, rfl, hS⟩ a hF
  replace hS : Sat w0 w [.blk g1 [vL, vD, .int .i64 p.stock, .int .i64 p.kerf]] := hS
  refine ls_val hF (.free rfl) rfl rfl (ex_assign rfl rfl) ?_; clear hF a; intro a hF
  refine ls_nil ?_
  refine then_normal ?_
  refine cw_seq ?_
  refine cw_seq ?_
  refine wp_region_lit ?_
  refine ls_val hF (.free rfl) rfl rfl (ex_field (b := ⟨g1, 0, none⟩) rfl fd_24_0 rfl rfl) ?_; clear hF a; intro a hF
  refine ls_val hF (.free rfl) rfl rfl (ex_load_blk 0 rfl pl_22 rfl hS rfl rfl) ?_; clear hF a; intro a hF
  refine ls_val hF (.free rfl) rfl rfl (ex_len rfl sl_22 rfl h.L.slh) ?_; clear hF a; intro a hF
  refine ls_val hF (.free rfl) rfl rfl (ex_gtr rfl rfl rfl) ?_; clear hF a; intro a hF
  refine ls_val hF (.free rfl) rfl rfl (ex_move rfl rfl) ?_; clear hF a; intro a hF
  refine by_slot hF (d := 8) rfl ?_ ?_ <;> clear hF <;> intro hc hF
  ·
   refine ls_off hF (.on rfl rfl rfl rfl rfl) rfl rfl ?_; clear hF a; intro a hF
   refine ls_off hF (.on rfl rfl rfl rfl rfl) rfl rfl ?_; clear hF a; intro a hF
   refine ls_off hF (.on rfl rfl rfl rfl rfl) rfl rfl ?_; clear hF a; intro a hF
   refine ls_off hF (.on rfl rfl rfl rfl rfl) rfl rfl ?_; clear hF a; intro a hF
   refine ls_val hF (.free rfl) rfl rfl (ex_pick_t rfl rfl rfl) ?_; clear hF a; intro a hF
   refine ls_nil ?_
   refine then_normal ?_
   refine cw_t hF rfl ?_
   refine cw_seq ?_
   refine wp_region_lit ?_
   refine ls_val hF (.free rfl) rfl rfl (ex_assign rfl rfl) ?_; clear hF a; intro a hF
   refine ls_nil ?_
   refine then_normal ?_
   refine wp_ret ?_
   refine then_ret ((fin1 hF rfl rfl ⟨_, rfl, ?_⟩))
   exact ⟨false_B (by rintro ⟨h2, h3, h4⟩; first | omega | (have h5 := (h4 (Classical.not_not.1 ‹¬ ¬ (p.Ok)›)).1 i (by omega) (by omega); omega) | (have h5 := (h4 (Classical.not_not.1 ‹¬ ¬ (p.Ok)›)).2; omega)), hS.sub (.cons _ .slnil)⟩
  ·
   refine ls_val hF (.on rfl rfl rfl rfl rfl) rfl rfl (ex_field (b := ⟨g1, 1, none⟩) rfl fd_24_1 rfl rfl) ?_; clear hF a; intro a hF
   refine ls_val hF (.on rfl rfl rfl rfl rfl) rfl rfl (ex_load_blk 0 rfl pl_22 rfl hS rfl rfl) ?_; clear hF a; intro a hF
   refine ls_val hF (.on rfl rfl rfl rfl rfl) rfl rfl (ex_len rfl sl_22 rfl h.D.slh) ?_; clear hF a; intro a hF
   refine ls_val hF (.on rfl rfl rfl rfl rfl) rfl rfl (ex_gtr rfl rfl rfl) ?_; clear hF a; intro a hF
   refine ls_val hF (.free rfl) rfl rfl (ex_pick_f rfl rfl rfl) ?_; clear hF a; intro a hF
   refine ls_nil ?_
   refine then_normal ?_
   refine cw_if hF rfl (fun hc => ?_) (fun hc => ?_)
   ·
    refine cw_seq ?_
    refine wp_region_lit ?_
    refine ls_val hF (.free rfl) rfl rfl (ex_assign rfl rfl) ?_; clear hF a; intro a hF
    refine ls_nil ?_
    refine then_normal ?_
    refine wp_ret ?_
    refine then_ret ((fin1 hF rfl rfl ⟨_, rfl, ?_⟩))
    exact ⟨false_B (by rintro ⟨h2, h3, h4⟩; first | omega | (have h5 := (h4 (Classical.not_not.1 ‹¬ ¬ (p.Ok)›)).1 i (by omega) (by omega); omega) | (have h5 := (h4 (Classical.not_not.1 ‹¬ ¬ (p.Ok)›)).2; omega)), hS.sub (.cons _ .slnil)⟩
   ·
    refine wp_skip ?_
    refine then_normal ?_
    refine cw_seq ?_
    refine cw_seq ?_
    refine wp_region_lit ?_
    refine ls_val hF (.free rfl) rfl rfl (ex_loads_blk 0 rfl st_24 rfl hS rfl rfl) ?_; clear hF a; intro a hF
    refine ls_call hF (.free rfl) rfl rfl (ex_call0 rfl rfl cl_24 (args_cons rfl args0)) (c_rvalid (p := p) w (h.below hS.below)) ?_; clear hF; rintro _ w ⟨rfl, hS'⟩ a hF
    replace hS : Sat w0 w [.blk g1 [vL, vD, .int .i64 p.stock, .int .i64 p.kerf]] := hS.comp hS'; clear hS'
    refine ls_val hF (.free rfl) rfl rfl (ex_not rfl rfl) ?_; clear hF a; intro a hF
    refine ls_nil ?_
    refine then_normal ?_
    refine cw_if hF rfl (fun hc => ?_) (fun hc => ?_)
    ·
     refine cw_seq ?_
     refine wp_region_lit ?_
     refine ls_val hF (.free rfl) rfl rfl (ex_assign rfl rfl) ?_; clear hF a; intro a hF
     refine ls_nil ?_
     refine then_normal ?_
     refine wp_ret ?_
     refine then_ret ((fin1 hF rfl rfl ⟨_, rfl, ?_⟩))
     exact ⟨true_B (by first | exact ⟨by omega, by omega, fun hk => absurd hk ‹¬ p.Ok›⟩), hS.sub (.cons _ .slnil)⟩
    ·
     refine wp_skip ?_
     refine then_normal ?_
     refine cw_seq ?_
     refine cw_seq ?_
     refine wp_region_lit ?_
     refine ls_val hF (.free rfl) rfl rfl (ex_assign rfl rfl) ?_; clear hF a; intro a hF
     refine ls_nil ?_
     refine then_normal ?_
     refine wp_block ?_
     refine cw_loop (fun mm a w => ∃ (i : Int), mm = ((p.d - i).toNat) ∧ (0 ≤ i) ∧ (i ≤ p.d) ∧ (∀ k, 0 ≤ k → k < i → p.D k ≤ 30) ∧ Fr a 48 [(1, .pointer (some ⟨g1, 0, none⟩)), (3, .int .i64 i)] ∧ Sat w0 w [.blk g1 [vL, vD, .int .i64 p.stock, .int .i64 p.kerf]]) ?_ ?_ (m := ((p.d - 0).toNat))
     ·
      refine ⟨0, rfl, (by omega), (by omega), ?_, (hF.pick (hF.pick hF.nil 3 rfl) 1 rfl), hS⟩
      ·
       intro k h0 h1; omega
     ·
      clear hF hS a w
      rintro mm a w ⟨i, rfl, h0, h1, hall, hF, hS⟩
      refine cw_seq ?_
      refine cw_seq ?_
      refine wp_region_lit ?_
      refine ls_val hF (.free rfl) rfl rfl (ex_move rfl rfl) ?_; clear hF a; intro a hF
      refine ls_val hF (.free rfl) rfl rfl (ex_field (b := ⟨g1, 1, none⟩) rfl fd_24_1 rfl rfl) ?_; clear hF a; intro a hF
      refine ls_val hF (.free rfl) rfl rfl (ex_load_blk 0 rfl pl_22 rfl hS rfl rfl) ?_; clear hF a; intro a hF
      refine ls_val hF (.free rfl) rfl rfl (ex_len rfl sl_22 rfl h.D.slh) ?_; clear hF a; intro a hF
      refine ls_val hF (.free rfl) rfl rfl (ex_lss rfl rfl rfl) ?_; clear hF a; intro a hF
      refine ls_nil ?_
      refine then_normal ?_
      refine cw_if hF rfl (fun hc => ?_) (fun hc => ?_)
      ·
       refine wp_skip ?_
       refine then_normal ?_
       refine cw_seq ?_
       refine wp_block ?_
       refine cw_seq ?_
       refine wp_region_lit ?_
       refine ls_val hF (.free rfl) rfl rfl (ex_field (b := ⟨g1, 1, none⟩) rfl fd_24_1 rfl rfl) ?_; clear hF a; intro a hF
       refine ls_val hF (.free rfl) rfl rfl (ex_load_blk 0 rfl pl_22 rfl hS rfl rfl) ?_; clear hF a; intro a hF
       refine ls_val hF (.free rfl) rfl rfl (ex_move rfl rfl) ?_; clear hF a; intro a hF
       refine ls_val hF (.free rfl) rfl rfl (ex_index (k := i) rfl sl_22 rfl rfl h.D.slh (by omega) (by omega) (by omega)) ?_; clear hF a; intro a hF
       refine ls_val hF (.free rfl) rfl rfl (ex_load_row (u := .int .i64 (p.D i)) rfl pl_3 rfl (h.D.below hS.below) (by omega) (by omega) rfl) ?_; clear hF a; intro a hF
       have hbv := h.iD i
       refine ls_val hF (.free rfl) rfl rfl (ex_gtr rfl rfl rfl) ?_; clear hF a; intro a hF
       refine ls_nil ?_
       refine then_normal ?_
       refine cw_if hF rfl (fun hc => ?_) (fun hc => ?_)
       ·
        refine cw_seq ?_
        refine wp_region_lit ?_
        refine ls_val hF (.free rfl) rfl rfl (ex_assign rfl rfl) ?_; clear hF a; intro a hF
        refine ls_nil ?_
        refine then_normal ?_
        refine wp_ret ?_
        refine inb_ret (then_ret (then_ret (inb_ret (then_ret ((fin1 hF rfl rfl ⟨_, rfl, ?_⟩))))))
        exact ⟨false_B (by rintro ⟨h2, h3, h4⟩; first | omega | (have h5 := (h4 (Classical.not_not.1 ‹¬ ¬ (p.Ok)›)).1 i (by omega) (by omega); omega) | (have h5 := (h4 (Classical.not_not.1 ‹¬ ¬ (p.Ok)›)).2; omega)), hS.sub (.cons _ .slnil)⟩
       ·
        refine wp_skip ?_
        refine inb_normal ?_
        refine then_normal ?_
        refine wp_region_lit ?_
        refine ls_val hF (.free rfl) rfl rfl (ex_move rfl rfl) ?_; clear hF a; intro a hF
        refine ls_val hF (.free rfl) rfl rfl (ex_add (r := i + 1) rfl rfl rfl (by omega) (by unfold I64; omega)) ?_; clear hF a; intro a hF
        refine ls_val hF (.free rfl) rfl rfl (ex_assign rfl rfl) ?_; clear hF a; intro a hF
        refine ls_nil ?_
        refine then_normal ?_
        refine ⟨_, (by omega), i + 1, rfl, (by omega), (by omega), ?_, (hF.pick (hF.pick hF.nil 3 rfl) 1 rfl), hS⟩
        ·
         intro k h0' h1'; rcases Int.lt_or_eq_of_le (show k ≤ i by omega) with hk | hk; exact hall k h0' hk; rw [hk]; omega
      ·
       refine wp_exit ?_
       refine then_exit ?_
       refine then_exit ?_
       refine inb_hit ?_
       refine then_normal ?_
       refine cw_seq ?_
       refine dr_sat (m0 := [.blk g1 [vL, vD, .int .i64 p.stock, .int .i64 p.kerf]]) 1000 mx_ hS (.cons_cons _ .slnil) rfl ?_; clear hS; intro w hS hcl hB
       refine dr_val hF hcl hB 0 rfl (.free rfl) rfl rfl (by kernel_rfl) rfl (fun w => (ex_field (b := ⟨g1, 0, none⟩) rfl fd_24_0 rfl rfl)) ?_; clear hF a hcl hB; intro a hF hcl hB
       have hp := (Classical.not_not.1 ‹¬ ¬ (p.Ok)›); have hm2 := hp.m1; have hL := (hp.all (p.m - 1) (by omega) (by omega)); unfold Prob.each at hL; have hs2 := hp.s2
       refine dr_load hF hcl hB 1 rfl (.free rfl) rfl rfl (by kernel_rfl) rfl (by kernel_rfl) (fun w hS => (ex_load_blk 0 rfl pl_22 rfl hS rfl rfl)) ?_; clear hF a hcl hB; intro a hF hcl hB
       refine dr_val hF hcl hB 2 rfl (.free rfl) rfl rfl (by kernel_rfl) rfl (fun w => (ex_len rfl sl_22 rfl h.L.slh)) ?_; clear hF a hcl hB; intro a hF hcl hB
       refine dr_val hF hcl hB 3 rfl (.free rfl) rfl rfl (by kernel_rfl) rfl (fun w => (ex_leq rfl rfl rfl)) ?_; clear hF a hcl hB; intro a hF hcl hB
       refine dr_val hF hcl hB 4 rfl (.free rfl) rfl rfl (by kernel_rfl) rfl (fun w => (ex_move rfl rfl)) ?_; clear hF a hcl hB; intro a hF hcl hB
       refine by_slot hF (d := 34) rfl ?_ ?_ <;> clear hF <;> intro hc hF
       ·
        refine dr_val hF hcl hB 5 rfl (.on rfl rfl rfl rfl rfl) rfl rfl (by kernel_rfl) rfl (fun w => (ex_field (b := ⟨g1, 2, none⟩) rfl fd_24_2 rfl rfl)) ?_; clear hF a hcl hB; intro a hF hcl hB
        refine dr_load hF hcl hB 6 rfl (.on rfl rfl rfl rfl rfl) rfl rfl (by kernel_rfl) rfl (by kernel_rfl) (fun w hS => (ex_load_blk 0 rfl pl_3 rfl hS rfl rfl)) ?_; clear hF a hcl hB; intro a hF hcl hB
        refine dr_val hF hcl hB 7 rfl (.on rfl rfl rfl rfl rfl) rfl rfl (by kernel_rfl) rfl (fun w => (ex_field (b := ⟨g1, 0, none⟩) rfl fd_24_0 rfl rfl)) ?_; clear hF a hcl hB; intro a hF hcl hB
        refine dr_load hF hcl hB 8 rfl (.on rfl rfl rfl rfl rfl) rfl rfl (by kernel_rfl) rfl (by kernel_rfl) (fun w hS => (ex_load_blk 0 rfl pl_22 rfl hS rfl rfl)) ?_; clear hF a hcl hB; intro a hF hcl hB
        refine dr_val hF hcl hB 9 rfl (.on rfl rfl rfl rfl rfl) rfl rfl (by kernel_rfl) rfl (fun w => (ex_field (b := ⟨g1, 0, none⟩) rfl fd_24_0 rfl rfl)) ?_; clear hF a hcl hB; intro a hF hcl hB
        refine dr_load hF hcl hB 10 rfl (.on rfl rfl rfl rfl rfl) rfl rfl (by kernel_rfl) rfl (by kernel_rfl) (fun w hS => (ex_load_blk 0 rfl pl_22 rfl hS rfl rfl)) ?_; clear hF a hcl hB; intro a hF hcl hB
        refine dr_val hF hcl hB 11 rfl (.on rfl rfl rfl rfl rfl) rfl rfl (by kernel_rfl) rfl (fun w => (ex_len rfl sl_22 rfl h.L.slh)) ?_; clear hF a hcl hB; intro a hF hcl hB
        refine dr_val hF hcl hB 12 rfl (.on rfl rfl rfl rfl rfl) rfl rfl (by kernel_rfl) rfl (fun w => (ex_sub (r := p.m - 1) rfl rfl rfl (by omega) (by unfold I64; omega))) ?_; clear hF a hcl hB; intro a hF hcl hB
        refine dr_val hF hcl hB 13 rfl (.on rfl rfl rfl rfl rfl) rfl rfl (by kernel_rfl) rfl (fun w => (ex_index (k := p.m - 1) rfl sl_22 rfl rfl h.L.slh (by omega) (by omega) (by omega))) ?_; clear hF a hcl hB; intro a hF hcl hB
        refine dr_load hF hcl hB 14 rfl (.on rfl rfl rfl rfl rfl) rfl rfl (by kernel_rfl) rfl (by kernel_rfl) (fun w hS => (ex_load_row (u := .int .i64 (p.L (p.m - 1))) rfl pl_3 rfl (h.L.below hS.below) (by omega) (by omega) rfl)) ?_; clear hF a hcl hB; intro a hF hcl hB
        have hbv := h.iL (p.m - 1)
        refine dr_val hF hcl hB 15 rfl (.on rfl rfl rfl rfl rfl) rfl rfl (by kernel_rfl) rfl (fun w => (ex_mul (r := 12 * p.L (p.m - 1)) rfl rfl rfl (by omega) (by unfold I64; omega))) ?_; clear hF a hcl hB; intro a hF hcl hB
        refine dr_val hF hcl hB 16 rfl (.on rfl rfl rfl rfl rfl) rfl rfl (by kernel_rfl) rfl (fun w => (ex_leq rfl rfl rfl)) ?_; clear hF a hcl hB; intro a hF hcl hB
        refine dr_val hF hcl hB 17 rfl (.free rfl) rfl rfl (by kernel_rfl) rfl (fun w => (ex_pick_t rfl rfl rfl)) ?_; clear hF a hcl hB; intro a hF hcl hB
        refine dr_val hF hcl hB 18 rfl (.free rfl) rfl rfl (by kernel_rfl) rfl (fun w => (ex_assign rfl rfl)) ?_; clear hF a hcl hB; intro a hF hcl hB
        refine dr_done (by kernel_rfl) ?_; clear hcl hB
        refine then_normal ?_
        refine wp_ret ?_
        refine (fin1 hF rfl rfl ⟨_, rfl, ?_⟩)
        exact ⟨B_congr (by constructor; exact fun h5 => ⟨by omega, by omega, fun _ => ⟨fun k h6 h7 => hall k h6 (by omega), by omega, by omega⟩⟩; rintro ⟨h2, h3, h4⟩; have h5 := (h4 (Classical.not_not.1 ‹¬ ¬ (p.Ok)›)).2.2; omega), hS.sub (.cons _ .slnil)⟩
       ·
        refine dr_off hF hcl hB 5 rfl (.on rfl rfl rfl rfl rfl) rfl rfl (by kernel_rfl) rfl ?_; clear hF a hcl hB; intro a hF hcl hB
        refine dr_off hF hcl hB 6 rfl (.on rfl rfl rfl rfl rfl) rfl rfl (by kernel_rfl) rfl ?_; clear hF a hcl hB; intro a hF hcl hB
        refine dr_off hF hcl hB 7 rfl (.on rfl rfl rfl rfl rfl) rfl rfl (by kernel_rfl) rfl ?_; clear hF a hcl hB; intro a hF hcl hB
        refine dr_off hF hcl hB 8 rfl (.on rfl rfl rfl rfl rfl) rfl rfl (by kernel_rfl) rfl ?_; clear hF a hcl hB; intro a hF hcl hB
        refine dr_off hF hcl hB 9 rfl (.on rfl rfl rfl rfl rfl) rfl rfl (by kernel_rfl) rfl ?_; clear hF a hcl hB; intro a hF hcl hB
        refine dr_off hF hcl hB 10 rfl (.on rfl rfl rfl rfl rfl) rfl rfl (by kernel_rfl) rfl ?_; clear hF a hcl hB; intro a hF hcl hB
        refine dr_off hF hcl hB 11 rfl (.on rfl rfl rfl rfl rfl) rfl rfl (by kernel_rfl) rfl ?_; clear hF a hcl hB; intro a hF hcl hB
        refine dr_off hF hcl hB 12 rfl (.on rfl rfl rfl rfl rfl) rfl rfl (by kernel_rfl) rfl ?_; clear hF a hcl hB; intro a hF hcl hB
        refine dr_off hF hcl hB 13 rfl (.on rfl rfl rfl rfl rfl) rfl rfl (by kernel_rfl) rfl ?_; clear hF a hcl hB; intro a hF hcl hB
        refine dr_off hF hcl hB 14 rfl (.on rfl rfl rfl rfl rfl) rfl rfl (by kernel_rfl) rfl ?_; clear hF a hcl hB; intro a hF hcl hB
        refine dr_off hF hcl hB 15 rfl (.on rfl rfl rfl rfl rfl) rfl rfl (by kernel_rfl) rfl ?_; clear hF a hcl hB; intro a hF hcl hB
        refine dr_off hF hcl hB 16 rfl (.on rfl rfl rfl rfl rfl) rfl rfl (by kernel_rfl) rfl ?_; clear hF a hcl hB; intro a hF hcl hB
        refine dr_val hF hcl hB 17 rfl (.free rfl) rfl rfl (by kernel_rfl) rfl (fun w => (ex_pick_f rfl rfl rfl)) ?_; clear hF a hcl hB; intro a hF hcl hB
        refine dr_val hF hcl hB 18 rfl (.free rfl) rfl rfl (by kernel_rfl) rfl (fun w => (ex_assign rfl rfl)) ?_; clear hF a hcl hB; intro a hF hcl hB
        refine dr_done (by kernel_rfl) ?_; clear hcl hB
        refine then_normal ?_
        refine wp_ret ?_
        refine (fin1 hF rfl rfl ⟨_, rfl, ?_⟩)
        exact ⟨false_B (by rintro ⟨h2, h3, h4⟩; first | omega | (have h5 := (h4 (Classical.not_not.1 ‹¬ ¬ (p.Ok)›)).1 i (by omega) (by omega); omega) | (have h5 := (h4 (Classical.not_not.1 ‹¬ ¬ (p.Ok)›)).2; omega)), hS.sub (.cons _ .slnil)⟩

theorem c_few32 {vy : Value} {n q : Int} {y : Int → Int} (w0 : World) (h : IAt w0 vy n y) :
    Calls Try.prog 10 [.agg #[vy, .int .i64 q]].toArray w0 fun e w => ∃ v, e = .returned v ∧ v = B (n ≤ 25) ∧ Sat w0 w [] := by
  refine enterS (vs := [.agg #[vy, .int .i64 q]]) Try.func10 rfl Try.ntmps10 rfl ?_
  intro a w hS hF
  refine cw_seq ?_
  refine wp_region_lit ?_
  refine ls_any hF (.free rfl) rfl rfl (ex_box (cs := [vy, .int .i64 q]) rfl hS rfl rfl) ?_; clear hF; rintro _ w ⟨g1, rfl, hS⟩ a hF
  replace hS : Sat w0 w [.blk g1 [vy, .int .i64 q]] := hS
  refine ls_val hF (.free rfl) rfl rfl (ex_assign rfl rfl) ?_; clear hF a; intro a hF
  refine ls_nil ?_
  refine then_normal ?_
  refine cw_seq ?_
  refine wp_region_lit ?_
  refine ls_val hF (.free rfl) rfl rfl (ex_field (b := ⟨g1, 0, none⟩) rfl fd_26_0 rfl rfl) ?_; clear hF a; intro a hF
  refine ls_val hF (.free rfl) rfl rfl (ex_load_blk 0 rfl pl_22 rfl hS rfl rfl) ?_; clear hF a; intro a hF
  refine ls_val hF (.free rfl) rfl rfl (ex_len rfl sl_22 rfl h.row.slh) ?_; clear hF a; intro a hF
  refine ls_val hF (.free rfl) rfl rfl (ex_leq rfl rfl rfl) ?_; clear hF a; intro a hF
  refine ls_val hF (.free rfl) rfl rfl (ex_assign rfl rfl) ?_; clear hF a; intro a hF
  refine ls_nil ?_
  refine then_normal ?_
  refine wp_ret ?_
  refine (fin1 hF rfl rfl ⟨_, rfl, ?_⟩)
  exact ⟨B_congr (by omega), hS.sub (.cons _ .slnil)⟩

end Go.Proofs.Ytigefiejddmidaa
