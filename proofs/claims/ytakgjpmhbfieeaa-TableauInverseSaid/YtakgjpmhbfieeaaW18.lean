/- The walk of TableauProof. -/
import Derived.Test.YtakgjpmhbfieeaaW17
namespace Go.Proofs.Ytakgjpmhbfieeaa
open Go Go.RowKit Go.Proofs.Gw
set_option linter.unusedVariables false

theorem cl_30 : calledT Try.prog 30 = true := by kernel_rfl
theorem cl_31 : calledT Try.prog 31 = true := by kernel_rfl
theorem st_37 : structT Try.prog 37 = some 4 := by kernel_rfl
theorem eqlB (w : World) (a b : Bool) : (binOp .eql 4 (.bool a) (.bool b)).run Try.prog w = .ok (.bool (a == b)) w := by
  cases a <;> cases b <;> kernel_rfl
theorem ex_eqb {L : List (Nat × Value)} {w : World} {o : Oper} {x y : Operand} {T' : TypeId} {p q : Prop} (ho : o.op = .binOp .eql 4 x y T') (hx : evL L x = some (B p)) (hy : evL L y = some (B q)) : Runs Try.prog L w o (.value (B (p ↔ q))) w := fun ρ h => by
  by_cases hp : p <;> by_cases hq : q
  · rw [B_true hp] at hx; rw [B_true hq] at hy; rw [B_true (show p ↔ q from ⟨fun _ => hq, fun _ => hp⟩)]; simp [execOp, ho, h _ _ hx, h _ _ hy, eqlB]; rfl
  · rw [B_true hp] at hx; rw [B_false hq] at hy; rw [B_false (show ¬ (p ↔ q) from fun e => hq (e.1 hp))]; simp [execOp, ho, h _ _ hx, h _ _ hy, eqlB]; rfl
  · rw [B_false hp] at hx; rw [B_true hq] at hy; rw [B_false (show ¬ (p ↔ q) from fun e => hp (e.2 hq))]; simp [execOp, ho, h _ _ hx, h _ _ hy, eqlB]; rfl
  · rw [B_false hp] at hx; rw [B_false hq] at hy; rw [B_true (show p ↔ q from ⟨fun e => absurd e hp, fun e => absurd e hq⟩)]; simp [execOp, ho, h _ _ hx, h _ _ hy, eqlB]; rfl

set_option maxRecDepth 20000 in
theorem law_proof {vc vA vb : Value} {vq : Int → Value} {p : Lp} {vX vY : Value} {s : So} {vy : Value} {y : Int → Int} {my : Int} (w0 : World) (hL : LAt w0 vc vA vb vq p) (hX : Row w0 vX 1 s.n (ints s.X)) (hY : Row w0 vY 1 s.m (ints s.Y)) (hy : Row w0 vy 1 my (ints y)) :
    Calls Try.prog 9 [.agg #[vc, vA, vb], .agg #[vX, vY, .int .i64 s.val, .int .i64 s.den], vy].toArray w0 fun e w => ∃ v, e = .returned v ∧ v = .bool true ∧ Sat w0 w [] := by
  have hn := hL.c.slh.n0; have hn1 := hL.c.slh.n1; have hm := hL.A.row.slh.n0; have hm1 := hL.A.row.slh.n1; have hk := hL.b.slh.n0; have hk1 := hL.b.slh.n1
  refine enterS (vs := [.agg #[vc, vA, vb], .agg #[vX, vY, .int .i64 s.val, .int .i64 s.den], vy]) Try.func9 rfl Try.ntmps9 rfl ?_
  intro a w hS hF
  refine cw_seq ?_
  refine wp_region_lit ?_
  refine ls_any hF (.free rfl) rfl rfl (ex_box (cs := [vc, vA, vb]) rfl hS rfl rfl) ?_; clear hF; rintro _ w ⟨g1, rfl, hS⟩ a hF
  replace hS : Sat w0 w [.blk g1 [vc, vA, vb]] := hS
  refine ls_any hF (.free rfl) rfl rfl (ex_box (cs := [vX, vY, .int .i64 s.val, .int .i64 s.den]) rfl hS rfl rfl) ?_; clear hF; rintro _ w ⟨g2, rfl, hS⟩ a hF
  replace hS : Sat w0 w [.blk g1 [vc, vA, vb], .blk g2 [vX, vY, .int .i64 s.val, .int .i64 s.den]] := hS
  refine ls_val hF (.free rfl) rfl rfl (ex_assign rfl rfl) ?_; clear hF a; intro a hF
  refine ls_nil ?_
  refine then_normal ?_
  refine cw_seq ?_
  refine cw_seq ?_
  refine wp_region_lit ?_
  refine ls_call hF (.free rfl) rfl rfl (ex_call0 rfl rfl cl_12 args0) (c_awake w) ?_; clear hF; rintro _ w ⟨rfl, hS'⟩ a hF
  replace hS : Sat w0 w [.blk g1 [vc, vA, vb], .blk g2 [vX, vY, .int .i64 s.val, .int .i64 s.den]] := hS.comp hS'; clear hS'
  refine ls_val hF (.free rfl) rfl rfl (ex_not_t rfl rfl) ?_; clear hF a; intro a hF
  refine ls_val hF (.free rfl) rfl rfl (ex_move rfl rfl) ?_; clear hF a; intro a hF
  refine ls_val hF (.on rfl rfl rfl rfl rfl) rfl rfl (ex_loads_blk 0 rfl st_25 rfl hS rfl rfl) ?_; clear hF a; intro a hF
  refine ls_call hF (.on rfl rfl rfl rfl rfl) rfl rfl (ex_call0 rfl rfl cl_13 (args_cons rfl args0)) (c_few (p := p) w (hL.below hS.below)) ?_; clear hF; rintro _ w ⟨rfl, hS'⟩ a hF
  replace hS : Sat w0 w [.blk g1 [vc, vA, vb], .blk g2 [vX, vY, .int .i64 s.val, .int .i64 s.den]] := hS.comp hS'; clear hS'
  refine ls_val hF (.on rfl rfl rfl rfl rfl) rfl rfl (ex_not rfl rfl) ?_; clear hF a; intro a hF
  refine ls_val hF (.free rfl) rfl rfl (ex_pick_f rfl rfl rfl) ?_; clear hF a; intro a hF
  refine ls_val hF (.free rfl) rfl rfl (ex_move rfl rfl) ?_; clear hF a; intro a hF
  refine by_slot hF (d := 14) rfl ?_ ?_ <;> clear hF <;> intro hc hF
  ·
   refine ls_off hF (.on rfl rfl rfl rfl rfl) rfl rfl ?_; clear hF a; intro a hF
   refine ls_off hF (.on rfl rfl rfl rfl rfl) rfl rfl ?_; clear hF a; intro a hF
   refine ls_off hF (.on rfl rfl rfl rfl rfl) rfl rfl ?_; clear hF a; intro a hF
   refine ls_off hF (.on rfl rfl rfl rfl rfl) rfl rfl ?_; clear hF a; intro a hF
   refine ls_val hF (.free rfl) rfl rfl (ex_pick_t rfl rfl rfl) ?_; clear hF a; intro a hF
   refine ls_val hF (.free rfl) rfl rfl (ex_move rfl rfl) ?_; clear hF a; intro a hF
   refine ls_off hF (.on rfl rfl rfl rfl rfl) rfl rfl ?_; clear hF a; intro a hF
   refine ls_off hF (.on rfl rfl rfl rfl rfl) rfl rfl ?_; clear hF a; intro a hF
   refine ls_off hF (.on rfl rfl rfl rfl rfl) rfl rfl ?_; clear hF a; intro a hF
   refine ls_off hF (.on rfl rfl rfl rfl rfl) rfl rfl ?_; clear hF a; intro a hF
   refine ls_val hF (.free rfl) rfl rfl (ex_pick_t rfl rfl rfl) ?_; clear hF a; intro a hF
   refine ls_val hF (.free rfl) rfl rfl (ex_move rfl rfl) ?_; clear hF a; intro a hF
   refine ls_off hF (.on rfl rfl rfl rfl rfl) rfl rfl ?_; clear hF a; intro a hF
   refine ls_off hF (.on rfl rfl rfl rfl rfl) rfl rfl ?_; clear hF a; intro a hF
   refine ls_off hF (.on rfl rfl rfl rfl rfl) rfl rfl ?_; clear hF a; intro a hF
   refine ls_val hF (.free rfl) rfl rfl (ex_pick_t rfl rfl rfl) ?_; clear hF a; intro a hF
   refine ls_nil ?_
   refine then_normal ?_
   refine cw_t hF rfl ?_
   refine cw_seq ?_
   refine wp_region_lit ?_
   refine ls_call hF (.free rfl) rfl rfl (ex_call0 rfl rfl cl_12 args0) (c_awake w) ?_; clear hF; rintro _ w ⟨rfl, hS'⟩ a hF
   replace hS : Sat w0 w [.blk g1 [vc, vA, vb], .blk g2 [vX, vY, .int .i64 s.val, .int .i64 s.den]] := hS.comp hS'; clear hS'
   refine ls_val hF (.free rfl) rfl rfl (ex_assign rfl rfl) ?_; clear hF a; intro a hF
   refine ls_nil ?_
   refine then_normal ?_
   refine wp_ret ?_
   refine then_ret ((fin1 hF rfl rfl ⟨_, rfl, ?_⟩))
   exact ⟨rfl, hS.sub (.cons _ (.cons _ .slnil))⟩
  ·
   refine ls_val hF (.on rfl rfl rfl rfl rfl) rfl rfl (ex_field (b := ⟨g2, 0, none⟩) rfl fd_37_0 rfl rfl) ?_; clear hF a; intro a hF
   refine ls_val hF (.on rfl rfl rfl rfl rfl) rfl rfl (ex_load_blk 1 rfl pl_22 rfl hS rfl rfl) ?_; clear hF a; intro a hF
   refine ls_val hF (.on rfl rfl rfl rfl rfl) rfl rfl (ex_len rfl sl_22 rfl hX.slh) ?_; clear hF a; intro a hF
   refine ls_val hF (.on rfl rfl rfl rfl rfl) rfl rfl (ex_gtr rfl rfl rfl) ?_; clear hF a; intro a hF
   refine ls_val hF (.free rfl) rfl rfl (ex_pick_f rfl rfl rfl) ?_; clear hF a; intro a hF
   refine ls_val hF (.free rfl) rfl rfl (ex_move rfl rfl) ?_; clear hF a; intro a hF
   refine by_slot hF (d := 20) rfl ?_ ?_ <;> clear hF <;> intro hc hF
   ·
    refine ls_off hF (.on rfl rfl rfl rfl rfl) rfl rfl ?_; clear hF a; intro a hF
    refine ls_off hF (.on rfl rfl rfl rfl rfl) rfl rfl ?_; clear hF a; intro a hF
    refine ls_off hF (.on rfl rfl rfl rfl rfl) rfl rfl ?_; clear hF a; intro a hF
    refine ls_off hF (.on rfl rfl rfl rfl rfl) rfl rfl ?_; clear hF a; intro a hF
    refine ls_val hF (.free rfl) rfl rfl (ex_pick_t rfl rfl rfl) ?_; clear hF a; intro a hF
    refine ls_val hF (.free rfl) rfl rfl (ex_move rfl rfl) ?_; clear hF a; intro a hF
    refine ls_off hF (.on rfl rfl rfl rfl rfl) rfl rfl ?_; clear hF a; intro a hF
    refine ls_off hF (.on rfl rfl rfl rfl rfl) rfl rfl ?_; clear hF a; intro a hF
    refine ls_off hF (.on rfl rfl rfl rfl rfl) rfl rfl ?_; clear hF a; intro a hF
    refine ls_val hF (.free rfl) rfl rfl (ex_pick_t rfl rfl rfl) ?_; clear hF a; intro a hF
    refine ls_nil ?_
    refine then_normal ?_
    refine cw_t hF rfl ?_
    refine cw_seq ?_
    refine wp_region_lit ?_
    refine ls_call hF (.free rfl) rfl rfl (ex_call0 rfl rfl cl_12 args0) (c_awake w) ?_; clear hF; rintro _ w ⟨rfl, hS'⟩ a hF
    replace hS : Sat w0 w [.blk g1 [vc, vA, vb], .blk g2 [vX, vY, .int .i64 s.val, .int .i64 s.den]] := hS.comp hS'; clear hS'
    refine ls_val hF (.free rfl) rfl rfl (ex_assign rfl rfl) ?_; clear hF a; intro a hF
    refine ls_nil ?_
    refine then_normal ?_
    refine wp_ret ?_
    refine then_ret ((fin1 hF rfl rfl ⟨_, rfl, ?_⟩))
    exact ⟨rfl, hS.sub (.cons _ (.cons _ .slnil))⟩
   ·
    refine ls_val hF (.on rfl rfl rfl rfl rfl) rfl rfl (ex_field (b := ⟨g2, 1, none⟩) rfl fd_37_1 rfl rfl) ?_; clear hF a; intro a hF
    refine ls_val hF (.on rfl rfl rfl rfl rfl) rfl rfl (ex_load_blk 1 rfl pl_22 rfl hS rfl rfl) ?_; clear hF a; intro a hF
    refine ls_val hF (.on rfl rfl rfl rfl rfl) rfl rfl (ex_len rfl sl_22 rfl hY.slh) ?_; clear hF a; intro a hF
    refine ls_val hF (.on rfl rfl rfl rfl rfl) rfl rfl (ex_gtr rfl rfl rfl) ?_; clear hF a; intro a hF
    refine ls_val hF (.free rfl) rfl rfl (ex_pick_f rfl rfl rfl) ?_; clear hF a; intro a hF
    refine ls_val hF (.free rfl) rfl rfl (ex_move rfl rfl) ?_; clear hF a; intro a hF
    refine by_slot hF (d := 26) rfl ?_ ?_ <;> clear hF <;> intro hc hF
    ·
     refine ls_off hF (.on rfl rfl rfl rfl rfl) rfl rfl ?_; clear hF a; intro a hF
     refine ls_off hF (.on rfl rfl rfl rfl rfl) rfl rfl ?_; clear hF a; intro a hF
     refine ls_off hF (.on rfl rfl rfl rfl rfl) rfl rfl ?_; clear hF a; intro a hF
     refine ls_val hF (.free rfl) rfl rfl (ex_pick_t rfl rfl rfl) ?_; clear hF a; intro a hF
     refine ls_nil ?_
     refine then_normal ?_
     refine cw_t hF rfl ?_
     refine cw_seq ?_
     refine wp_region_lit ?_
     refine ls_call hF (.free rfl) rfl rfl (ex_call0 rfl rfl cl_12 args0) (c_awake w) ?_; clear hF; rintro _ w ⟨rfl, hS'⟩ a hF
     replace hS : Sat w0 w [.blk g1 [vc, vA, vb], .blk g2 [vX, vY, .int .i64 s.val, .int .i64 s.den]] := hS.comp hS'; clear hS'
     refine ls_val hF (.free rfl) rfl rfl (ex_assign rfl rfl) ?_; clear hF a; intro a hF
     refine ls_nil ?_
     refine then_normal ?_
     refine wp_ret ?_
     refine then_ret ((fin1 hF rfl rfl ⟨_, rfl, ?_⟩))
     exact ⟨rfl, hS.sub (.cons _ (.cons _ .slnil))⟩
    ·
     refine ls_val hF (.on rfl rfl rfl rfl rfl) rfl rfl (ex_move rfl rfl) ?_; clear hF a; intro a hF
     refine ls_val hF (.on rfl rfl rfl rfl rfl) rfl rfl (ex_len rfl sl_22 rfl hy.slh) ?_; clear hF a; intro a hF
     refine ls_val hF (.on rfl rfl rfl rfl rfl) rfl rfl (ex_gtr rfl rfl rfl) ?_; clear hF a; intro a hF
     refine ls_val hF (.free rfl) rfl rfl (ex_pick_f rfl rfl rfl) ?_; clear hF a; intro a hF
     refine ls_nil ?_
     refine then_normal ?_
     refine cw_if hF rfl (fun hc => ?_) (fun hc => ?_)
     ·
      refine cw_seq ?_
      refine wp_region_lit ?_
      refine ls_call hF (.free rfl) rfl rfl (ex_call0 rfl rfl cl_12 args0) (c_awake w) ?_; clear hF; rintro _ w ⟨rfl, hS'⟩ a hF
      replace hS : Sat w0 w [.blk g1 [vc, vA, vb], .blk g2 [vX, vY, .int .i64 s.val, .int .i64 s.den]] := hS.comp hS'; clear hS'
      refine ls_val hF (.free rfl) rfl rfl (ex_assign rfl rfl) ?_; clear hF a; intro a hF
      refine ls_nil ?_
      refine then_normal ?_
      refine wp_ret ?_
      refine then_ret ((fin1 hF rfl rfl ⟨_, rfl, ?_⟩))
      exact ⟨rfl, hS.sub (.cons _ (.cons _ .slnil))⟩
     ·
      refine wp_skip ?_
      refine then_normal ?_
      refine cw_seq ?_
      refine dr_sat (m0 := [.blk g1 [vc, vA, vb], .blk g2 [vX, vY, .int .i64 s.val, .int .i64 s.den]]) (m1 := [.blk g1 [vc, vA, vb], .blk g2 [vX, vY, .int .i64 s.val, .int .i64 s.den]]) 1000 mx_ hS (.cons_cons _ (.cons_cons _ .slnil)) (.cons_cons _ (.cons_cons _ .slnil)) rfl ?_; clear hS; intro w hS hcl hB
      refine dr_loadA hF hcl hB 0 rfl (.free rfl) rfl rfl (by kernel_rfl) rfl (fun w hS => (ex_loads_blk 0 rfl st_25 rfl hS rfl rfl)) ?_; clear hF a hcl hB; intro a hF hcl hB
      refine dr_loadA hF hcl hB 2 rfl (.free rfl) rfl rfl (by kernel_rfl) rfl (fun w hS => (ex_loads_blk 1 rfl st_37 rfl hS rfl rfl)) ?_; clear hF a hcl hB; intro a hF hcl hB
      refine dr_loadA hF hcl hB 4 rfl (.free rfl) rfl rfl (by kernel_rfl) rfl (fun w hS => (ex_loads_blk 0 rfl st_25 rfl hS rfl rfl)) ?_; clear hF a hcl hB; intro a hF hcl hB
      refine dr_loadA hF hcl hB 5 rfl (.free rfl) rfl rfl (by kernel_rfl) rfl (fun w hS => (ex_loads_blk 1 rfl st_37 rfl hS rfl rfl)) ?_; clear hF a hcl hB; intro a hF hcl hB
      refine dr_call hF hcl 1 rfl (.free rfl) rfl rfl (by kernel_rfl) (ex_call0 rfl rfl cl_16 (args_cons rfl args0)) (c_own (p := p) w (hL.below hS.below)) ?_; clear hF hB; rintro _ w ⟨rfl, hS'⟩ a hF hcl
      replace hS : Sat w0 w [.blk g1 [vc, vA, vb], .blk g2 [vX, vY, .int .i64 s.val, .int .i64 s.den]] := hS.comp hS'; clear hS'
      refine ⟨⟨(fun _ => hS.sub (.cons_cons _ (.cons_cons _ .slnil))), hS.sub (.cons_cons _ (.cons_cons _ .slnil))⟩, fun hB => ?_⟩
      refine dr_call hF hcl 3 rfl (.free rfl) rfl rfl (by kernel_rfl) (ex_call0 rfl rfl cl_18 (args_cons rfl (args_cons rfl args0))) (c_check (p := p) (s := s) w (hL.below hS.below) (hX.below hS.below) (hY.below hS.below)) ?_; clear hF hB; rintro _ w ⟨rfl, hS'⟩ a hF hcl
      replace hS : Sat w0 w [.blk g1 [vc, vA, vb], .blk g2 [vX, vY, .int .i64 s.val, .int .i64 s.den]] := hS.comp hS'; clear hS'
      refine ⟨⟨(fun _ => hS.sub (.cons_cons _ (.cons_cons _ .slnil))), hS.sub (.cons_cons _ (.cons_cons _ .slnil))⟩, fun hB => ?_⟩
      refine dr_call hF hcl 6 rfl (.free rfl) rfl rfl (by kernel_rfl) (ex_call0 rfl rfl cl_17 (args_cons rfl (args_cons rfl args0))) (c_rcheck (p := p) (s := s) w (hL.below hS.below) (hX.below hS.below) (hY.below hS.below)) ?_; clear hF hB; rintro _ w ⟨rfl, hS'⟩ a hF hcl
      replace hS : Sat w0 w [.blk g1 [vc, vA, vb], .blk g2 [vX, vY, .int .i64 s.val, .int .i64 s.den]] := hS.comp hS'; clear hS'
      refine ⟨⟨(fun _ => hS.sub (.cons_cons _ (.cons_cons _ .slnil))), hS.sub (.cons_cons _ (.cons_cons _ .slnil))⟩, fun hB => ?_⟩
      refine dr_val hF hcl hB 7 rfl (.free rfl) rfl rfl (by kernel_rfl) rfl (fun w => (ex_eqb rfl rfl rfl)) ?_; clear hF a hcl hB; intro a hF hcl hB
      refine dr_val hF hcl hB 8 rfl (.free rfl) rfl rfl (by kernel_rfl) rfl (fun w => (ex_move rfl rfl)) ?_; clear hF a hcl hB; intro a hF hcl hB
      refine by_slot hF (d := 40) rfl ?_ ?_ <;> clear hF <;> intro hc hF
      ·
       refine dr_loadA hF hcl hB 9 rfl (.on rfl rfl rfl rfl rfl) rfl rfl (by kernel_rfl) rfl (fun w hS => (ex_loads_blk 0 rfl st_25 rfl hS rfl rfl)) ?_; clear hF a hcl hB; intro a hF hcl hB
       refine dr_val hF hcl hB 11 rfl (.on rfl rfl rfl rfl rfl) rfl rfl (by kernel_rfl) rfl (fun w => (ex_move rfl rfl)) ?_; clear hF a hcl hB; intro a hF hcl hB
       refine dr_loadA hF hcl hB 13 rfl (.on rfl rfl rfl rfl rfl) rfl rfl (by kernel_rfl) rfl (fun w hS => (ex_loads_blk 0 rfl st_25 rfl hS rfl rfl)) ?_; clear hF a hcl hB; intro a hF hcl hB
       refine dr_val hF hcl hB 14 rfl (.on rfl rfl rfl rfl rfl) rfl rfl (by kernel_rfl) rfl (fun w => (ex_move rfl rfl)) ?_; clear hF a hcl hB; intro a hF hcl hB
       refine dr_call hF hcl 10 rfl (.on rfl rfl rfl rfl rfl) rfl rfl (by kernel_rfl) (ex_call0 rfl rfl cl_16 (args_cons rfl args0)) (c_own (p := p) w (hL.below hS.below)) ?_; clear hF hB; rintro _ w ⟨rfl, hS'⟩ a hF hcl
       replace hS : Sat w0 w [.blk g1 [vc, vA, vb], .blk g2 [vX, vY, .int .i64 s.val, .int .i64 s.den]] := hS.comp hS'; clear hS'
       refine ⟨⟨(fun _ => hS.sub (.cons_cons _ (.cons_cons _ .slnil))), hS.sub (.cons_cons _ (.cons_cons _ .slnil))⟩, fun hB => ?_⟩
       refine dr_call hF hcl 12 rfl (.on rfl rfl rfl rfl rfl) rfl rfl (by kernel_rfl) (ex_call0 rfl rfl cl_30 (args_cons rfl (args_cons rfl args0))) (c_proves (p := p) (y := y) (my := my) w (hL.below hS.below) (hy.below hS.below)) ?_; clear hF hB; rintro _ w ⟨rfl, hS'⟩ a hF hcl
       replace hS : Sat w0 w [.blk g1 [vc, vA, vb], .blk g2 [vX, vY, .int .i64 s.val, .int .i64 s.den]] := hS.comp hS'; clear hS'
       refine ⟨⟨(fun _ => hS.sub (.cons_cons _ (.cons_cons _ .slnil))), hS.sub (.cons_cons _ (.cons_cons _ .slnil))⟩, fun hB => ?_⟩
       refine dr_call hF hcl 15 rfl (.on rfl rfl rfl rfl rfl) rfl rfl (by kernel_rfl) (ex_call0 rfl rfl cl_31 (args_cons rfl (args_cons rfl args0))) (c_rproves (p := p) (y := y) (my := my) w (hL.below hS.below) (hy.below hS.below)) ?_; clear hF hB; rintro _ w ⟨rfl, hS'⟩ a hF hcl
       replace hS : Sat w0 w [.blk g1 [vc, vA, vb], .blk g2 [vX, vY, .int .i64 s.val, .int .i64 s.den]] := hS.comp hS'; clear hS'
       refine ⟨⟨(fun _ => hS.sub (.cons_cons _ (.cons_cons _ .slnil))), hS.sub (.cons_cons _ (.cons_cons _ .slnil))⟩, fun hB => ?_⟩
       refine dr_val hF hcl hB 16 rfl (.on rfl rfl rfl rfl rfl) rfl rfl (by kernel_rfl) rfl (fun w => (ex_eqb rfl rfl rfl)) ?_; clear hF a hcl hB; intro a hF hcl hB
       refine dr_val hF hcl hB 17 rfl (.free rfl) rfl rfl (by kernel_rfl) rfl (fun w => (ex_pick_t rfl rfl rfl)) ?_; clear hF a hcl hB; intro a hF hcl hB
       refine dr_val hF hcl hB 18 rfl (.free rfl) rfl rfl (by kernel_rfl) rfl (fun w => (ex_assign rfl rfl)) ?_; clear hF a hcl hB; intro a hF hcl hB
       refine dr_done (by kernel_rfl) ?_; clear hcl hB
       refine then_normal ?_
       refine wp_ret ?_
       refine (fin1 hF rfl rfl ⟨_, rfl, ?_⟩)
       exact ⟨(true_B Iff.rfl).symm, hS.sub (.cons _ (.cons _ .slnil))⟩
      ·
       refine dr_off hF hcl hB 9 rfl (.on rfl rfl rfl rfl rfl) rfl rfl (by kernel_rfl) rfl ?_; clear hF a hcl hB; intro a hF hcl hB
       refine dr_off hF hcl hB 11 rfl (.on rfl rfl rfl rfl rfl) rfl rfl (by kernel_rfl) rfl ?_; clear hF a hcl hB; intro a hF hcl hB
       refine dr_off hF hcl hB 13 rfl (.on rfl rfl rfl rfl rfl) rfl rfl (by kernel_rfl) rfl ?_; clear hF a hcl hB; intro a hF hcl hB
       refine dr_off hF hcl hB 14 rfl (.on rfl rfl rfl rfl rfl) rfl rfl (by kernel_rfl) rfl ?_; clear hF a hcl hB; intro a hF hcl hB
       refine dr_off hF hcl hB 10 rfl (.on rfl rfl rfl rfl rfl) rfl rfl (by kernel_rfl) rfl ?_; clear hF a hcl hB; intro a hF hcl hB
       refine dr_off hF hcl hB 12 rfl (.on rfl rfl rfl rfl rfl) rfl rfl (by kernel_rfl) rfl ?_; clear hF a hcl hB; intro a hF hcl hB
       refine dr_off hF hcl hB 15 rfl (.on rfl rfl rfl rfl rfl) rfl rfl (by kernel_rfl) rfl ?_; clear hF a hcl hB; intro a hF hcl hB
       refine dr_off hF hcl hB 16 rfl (.on rfl rfl rfl rfl rfl) rfl rfl (by kernel_rfl) rfl ?_; clear hF a hcl hB; intro a hF hcl hB
       refine dr_val hF hcl hB 17 rfl (.free rfl) rfl rfl (by kernel_rfl) rfl (fun w => (ex_pick_f rfl rfl rfl)) ?_; clear hF a hcl hB; intro a hF hcl hB
       refine dr_val hF hcl hB 18 rfl (.free rfl) rfl rfl (by kernel_rfl) rfl (fun w => (ex_assign rfl rfl)) ?_; clear hF a hcl hB; intro a hF hcl hB
       refine dr_done (by kernel_rfl) ?_; clear hcl hB
       refine then_normal ?_
       refine wp_ret ?_
       refine (fin1 hF rfl rfl ⟨_, rfl, ?_⟩)
       exact absurd Iff.rfl ‹_›

end Go.Proofs.Ytakgjpmhbfieeaa
