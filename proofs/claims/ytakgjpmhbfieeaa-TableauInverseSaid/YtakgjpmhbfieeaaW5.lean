/- The walk of Pivot, of tableau. -/
import Derived.Test.YtakgjpmhbfieeaaW4
namespace Go.Proofs.Ytakgjpmhbfieeaa
open Go Go.RowKit Go.Proofs.Gw
set_option linter.unusedVariables false

theorem cl_48 : calledT Try.prog 48 = true := by kernel_rfl
theorem cl_49 : calledT Try.prog 49 = true := by kernel_rfl
theorem el_43 : elemT Try.prog 43 = some (.agg #[.int .i64 0, .int .i64 0, .slice none 0 0, .slice none 0 0, .slice none 0 0], 5, 88) := by kernel_rfl
set_option maxRecDepth 20000 in
theorem c_pivot {vB vF vC : Value} {vv : Int → Value} {t : Tb} {row col : Int} (w0 : World) (hT : TAt w0 vB vF vC vv t) (hrow0 : -9223372036854775808 ≤ row ∧ row ≤ 9223372036854775807) (hcol0 : -9223372036854775808 ≤ col ∧ col ≤ 9223372036854775807) :
    Calls Try.prog 21 [.agg #[.int .i64 t.vars, .int .i64 t.den, vB, vF, vC], .int .i64 row, .int .i64 col].toArray w0 fun e w => ∃ v, e = .returned v ∧ ∃ vB vF vC vv t' e, v = .tuple #[.agg #[.int .i64 t'.vars, .int .i64 t'.den, vB, vF, vC], .int .i64 e] ∧ PivR t row col t' e ∧ Slh vB t'.nb ∧ Slh vF t'.nf ∧ Slh vC t'.nc ∧ Sat w0 w [.own vB 1 3 t'.nb (ints t'.B), .own vF 1 3 t'.nf (ints t'.F), .own vC 1 22 t'.nc vv, .sem (Frame.rows 3 t'.nc vv t'.ln t'.C)] := by
  have hn := hT.F.slh.n0; have hn1 := hT.F.slh.n1; have hb := hT.B.slh.n0; have hb1 := hT.B.slh.n1; have hc0 := hT.C.row.slh.n0; have hc1 := hT.C.row.slh.n1
  refine enterS (vs := [.agg #[.int .i64 t.vars, .int .i64 t.den, vB, vF, vC], .int .i64 row, .int .i64 col]) Try.func21 rfl Try.ntmps21 rfl ?_
  intro a w hS hF
  refine cw_seq ?_
  refine wp_region_lit ?_
  refine ls_any hF (.free rfl) rfl rfl (ex_box (cs := [.int .i64 t.vars, .int .i64 t.den, vB, vF, vC]) rfl hS rfl rfl) ?_; clear hF; rintro _ w ⟨g1, rfl, hS⟩ a hF
  replace hS : Sat w0 w [.blk g1 [.int .i64 t.vars, .int .i64 t.den, vB, vF, vC]] := hS
  refine ls_any hF (.free rfl) rfl rfl (ex_alloc (cs := [.int .i64 0, .int .i64 0, .slice none 0 0, .slice none 0 0, .slice none 0 0]) rfl el_43 hS rfl) ?_; clear hF; rintro _ w ⟨g2, rfl, hS⟩ a hF
  replace hS : Sat w0 w [.blk g1 [.int .i64 t.vars, .int .i64 t.den, vB, vF, vC], .blk g2 [.int .i64 0, .int .i64 0, .slice none 0 0, .slice none 0 0, .slice none 0 0]] := hS
  refine ls_val hF (.free rfl) rfl rfl (ex_assign rfl rfl) ?_; clear hF a; intro a hF
  refine ls_nil ?_
  refine then_normal ?_
  refine cw_seq ?_
  refine cw_seq ?_
  refine wp_region_lit ?_
  refine ls_val hF (.free rfl) rfl rfl (ex_loads_blk 0 rfl st_43 rfl hS rfl rfl) ?_; clear hF a; intro a hF
  refine ls_call hF (.free rfl) rfl rfl (ex_call0 rfl rfl cl_47 (args_cons rfl args0)) (c_proper (t := t) w (hT.below hS.below)) ?_; clear hF; rintro _ w ⟨rfl, hS'⟩ a hF
  replace hS : Sat w0 w [.blk g1 [.int .i64 t.vars, .int .i64 t.den, vB, vF, vC], .blk g2 [.int .i64 0, .int .i64 0, .slice none 0 0, .slice none 0 0, .slice none 0 0]] := hS.comp hS'; clear hS'
  refine ls_val hF (.free rfl) rfl rfl (ex_not rfl rfl) ?_; clear hF a; intro a hF
  refine ls_val hF (.free rfl) rfl rfl (ex_move rfl rfl) ?_; clear hF a; intro a hF
  refine by_slot hF (d := 23) rfl ?_ ?_ <;> clear hF <;> intro hc hF
  ·
   refine ls_off hF (.on rfl rfl rfl rfl rfl) rfl rfl ?_; clear hF a; intro a hF
   refine ls_off hF (.on rfl rfl rfl rfl rfl) rfl rfl ?_; clear hF a; intro a hF
   refine ls_val hF (.free rfl) rfl rfl (ex_pick_t rfl rfl rfl) ?_; clear hF a; intro a hF
   refine ls_val hF (.free rfl) rfl rfl (ex_move rfl rfl) ?_; clear hF a; intro a hF
   refine ls_off hF (.on rfl rfl rfl rfl rfl) rfl rfl ?_; clear hF a; intro a hF
   refine ls_off hF (.on rfl rfl rfl rfl rfl) rfl rfl ?_; clear hF a; intro a hF
   refine ls_off hF (.on rfl rfl rfl rfl rfl) rfl rfl ?_; clear hF a; intro a hF
   refine ls_off hF (.on rfl rfl rfl rfl rfl) rfl rfl ?_; clear hF a; intro a hF
   refine ls_off hF (.on rfl rfl rfl rfl rfl) rfl rfl ?_; clear hF a; intro a hF
   refine ls_val hF (.free rfl) rfl rfl (ex_pick_t rfl rfl rfl) ?_; clear hF a; intro a hF
   refine ls_val hF (.free rfl) rfl rfl (ex_move rfl rfl) ?_; clear hF a; intro a hF
   refine ls_off hF (.on rfl rfl rfl rfl rfl) rfl rfl ?_; clear hF a; intro a hF
   refine ls_off hF (.on rfl rfl rfl rfl rfl) rfl rfl ?_; clear hF a; intro a hF
   refine ls_val hF (.free rfl) rfl rfl (ex_pick_t rfl rfl rfl) ?_; clear hF a; intro a hF
   refine ls_val hF (.free rfl) rfl rfl (ex_move rfl rfl) ?_; clear hF a; intro a hF
   refine ls_off hF (.on rfl rfl rfl rfl rfl) rfl rfl ?_; clear hF a; intro a hF
   refine ls_off hF (.on rfl rfl rfl rfl rfl) rfl rfl ?_; clear hF a; intro a hF
   refine ls_off hF (.on rfl rfl rfl rfl rfl) rfl rfl ?_; clear hF a; intro a hF
   refine ls_off hF (.on rfl rfl rfl rfl rfl) rfl rfl ?_; clear hF a; intro a hF
   refine ls_off hF (.on rfl rfl rfl rfl rfl) rfl rfl ?_; clear hF a; intro a hF
   refine ls_val hF (.free rfl) rfl rfl (ex_pick_t rfl rfl rfl) ?_; clear hF a; intro a hF
   refine ls_val hF (.free rfl) rfl rfl (ex_move rfl rfl) ?_; clear hF a; intro a hF
   refine ls_off hF (.on rfl rfl rfl rfl rfl) rfl rfl ?_; clear hF a; intro a hF
   refine ls_off hF (.on rfl rfl rfl rfl rfl) rfl rfl ?_; clear hF a; intro a hF
   refine ls_off hF (.on rfl rfl rfl rfl rfl) rfl rfl ?_; clear hF a; intro a hF
   refine ls_off hF (.on rfl rfl rfl rfl rfl) rfl rfl ?_; clear hF a; intro a hF
   refine ls_off hF (.on rfl rfl rfl rfl rfl) rfl rfl ?_; clear hF a; intro a hF
   refine ls_off hF (.on rfl rfl rfl rfl rfl) rfl rfl ?_; clear hF a; intro a hF
   refine ls_off hF (.on rfl rfl rfl rfl rfl) rfl rfl ?_; clear hF a; intro a hF
   refine ls_off hF (.on rfl rfl rfl rfl rfl) rfl rfl ?_; clear hF a; intro a hF
   refine ls_off hF (.on rfl rfl rfl rfl rfl) rfl rfl ?_; clear hF a; intro a hF
   refine ls_off hF (.on rfl rfl rfl rfl rfl) rfl rfl ?_; clear hF a; intro a hF
   refine ls_off hF (.on rfl rfl rfl rfl rfl) rfl rfl ?_; clear hF a; intro a hF
   refine ls_val hF (.free rfl) rfl rfl (ex_pick_t rfl rfl rfl) ?_; clear hF a; intro a hF
   refine ls_nil ?_
   refine then_normal ?_
   refine cw_t hF rfl ?_
   refine cw_seq ?_
   refine wp_region_lit ?_
   refine ls_val hF (.free rfl) rfl rfl (ex_any (w' := w) (r := .value (.agg #[.int .i64 0, .int .i64 0, .slice none 0 0, .slice none 0 0, .slice none 0 0])) (by intro _ _ h; cases h) rfl (by kernel_rfl)) ?_; clear hF a; intro a hF
   refine ls_effx hF (.free rfl) rfl (st_blks 1 (ds := [.int .i64 0, .int .i64 0, .slice none 0 0, .slice none 0 0, .slice none 0 0]) rfl st_43 hS rfl rfl rfl rfl (ones_cons rfl (ones_cons rfl (ones_cons rfl (ones_cons rfl (ones_cons rfl ones_nil)))))) ?_; clear hS; rintro w hS
   replace hS : Sat w0 w [.blk g1 [.int .i64 t.vars, .int .i64 t.den, vB, vF, vC], .blk g2 [.int .i64 0, .int .i64 0, .slice none 0 0, .slice none 0 0, .slice none 0 0]] := hS
   refine ls_val hF (.free rfl) rfl rfl (ex_assign rfl rfl) ?_; clear hF a; intro a hF
   refine ls_nil ?_
   refine then_normal ?_
   refine wp_ret ?_
   refine then_ret ((fin_ct 1 hF rfl rfl rfl st_43 hS rfl rfl ⟨_, rfl, ?_⟩))
   exact ⟨_, _, _, fun _ => undef, Tb.zero, 1, rfl, .inl ⟨by first | exact fun hh => absurd hh.1 ‹_› | (rintro ⟨_, p1, p2, p3, p4, p5⟩; omega), rfl, rfl⟩, slh_nil, slh_nil, slh_nil, ((((hS.sub (.cons _ (.cons _ .slnil))).addnil 1 3 (ints Tb.zero.B)).addnil 1 3 (ints Tb.zero.F)).addnil 1 22 (fun _ => undef)).addrows 3 (fun _ => undef) Tb.zero.ln Tb.zero.C⟩
  ·
   refine ls_val hF (.on rfl rfl rfl rfl rfl) rfl rfl (ex_move rfl rfl) ?_; clear hF a; intro a hF
   have hp := (Classical.not_not.1 ‹¬ ¬ (TPrp t)›)
   have b1 := hp.n1
   have b2 := hp.n2
   have b3 := hp.m2
   have b4 := hp.v
   have b5 := hp.d1
   have b6 := hp.d2
   have b7 := hp.c
   refine ls_val hF (.on rfl rfl rfl rfl rfl) rfl rfl (ex_lss rfl rfl rfl) ?_; clear hF a; intro a hF
   refine ls_val hF (.free rfl) rfl rfl (ex_pick_f rfl rfl rfl) ?_; clear hF a; intro a hF
   refine ls_val hF (.free rfl) rfl rfl (ex_move rfl rfl) ?_; clear hF a; intro a hF
   refine by_slot hF (d := 27) rfl ?_ ?_ <;> clear hF <;> intro hc hF
   ·
    refine ls_off hF (.on rfl rfl rfl rfl rfl) rfl rfl ?_; clear hF a; intro a hF
    refine ls_off hF (.on rfl rfl rfl rfl rfl) rfl rfl ?_; clear hF a; intro a hF
    refine ls_off hF (.on rfl rfl rfl rfl rfl) rfl rfl ?_; clear hF a; intro a hF
    refine ls_off hF (.on rfl rfl rfl rfl rfl) rfl rfl ?_; clear hF a; intro a hF
    refine ls_off hF (.on rfl rfl rfl rfl rfl) rfl rfl ?_; clear hF a; intro a hF
    refine ls_val hF (.free rfl) rfl rfl (ex_pick_t rfl rfl rfl) ?_; clear hF a; intro a hF
    refine ls_val hF (.free rfl) rfl rfl (ex_move rfl rfl) ?_; clear hF a; intro a hF
    refine ls_off hF (.on rfl rfl rfl rfl rfl) rfl rfl ?_; clear hF a; intro a hF
    refine ls_off hF (.on rfl rfl rfl rfl rfl) rfl rfl ?_; clear hF a; intro a hF
    refine ls_val hF (.free rfl) rfl rfl (ex_pick_t rfl rfl rfl) ?_; clear hF a; intro a hF
    refine ls_val hF (.free rfl) rfl rfl (ex_move rfl rfl) ?_; clear hF a; intro a hF
    refine ls_off hF (.on rfl rfl rfl rfl rfl) rfl rfl ?_; clear hF a; intro a hF
    refine ls_off hF (.on rfl rfl rfl rfl rfl) rfl rfl ?_; clear hF a; intro a hF
    refine ls_off hF (.on rfl rfl rfl rfl rfl) rfl rfl ?_; clear hF a; intro a hF
    refine ls_off hF (.on rfl rfl rfl rfl rfl) rfl rfl ?_; clear hF a; intro a hF
    refine ls_off hF (.on rfl rfl rfl rfl rfl) rfl rfl ?_; clear hF a; intro a hF
    refine ls_val hF (.free rfl) rfl rfl (ex_pick_t rfl rfl rfl) ?_; clear hF a; intro a hF
    refine ls_val hF (.free rfl) rfl rfl (ex_move rfl rfl) ?_; clear hF a; intro a hF
    refine ls_off hF (.on rfl rfl rfl rfl rfl) rfl rfl ?_; clear hF a; intro a hF
    refine ls_off hF (.on rfl rfl rfl rfl rfl) rfl rfl ?_; clear hF a; intro a hF
    refine ls_off hF (.on rfl rfl rfl rfl rfl) rfl rfl ?_; clear hF a; intro a hF
    refine ls_off hF (.on rfl rfl rfl rfl rfl) rfl rfl ?_; clear hF a; intro a hF
    refine ls_off hF (.on rfl rfl rfl rfl rfl) rfl rfl ?_; clear hF a; intro a hF
    refine ls_off hF (.on rfl rfl rfl rfl rfl) rfl rfl ?_; clear hF a; intro a hF
    refine ls_off hF (.on rfl rfl rfl rfl rfl) rfl rfl ?_; clear hF a; intro a hF
    refine ls_off hF (.on rfl rfl rfl rfl rfl) rfl rfl ?_; clear hF a; intro a hF
    refine ls_off hF (.on rfl rfl rfl rfl rfl) rfl rfl ?_; clear hF a; intro a hF
    refine ls_off hF (.on rfl rfl rfl rfl rfl) rfl rfl ?_; clear hF a; intro a hF
    refine ls_off hF (.on rfl rfl rfl rfl rfl) rfl rfl ?_; clear hF a; intro a hF
    refine ls_val hF (.free rfl) rfl rfl (ex_pick_t rfl rfl rfl) ?_; clear hF a; intro a hF
    refine ls_nil ?_
    refine then_normal ?_
    refine cw_t hF rfl ?_
    refine cw_seq ?_
    refine wp_region_lit ?_
    refine ls_val hF (.free rfl) rfl rfl (ex_any (w' := w) (r := .value (.agg #[.int .i64 0, .int .i64 0, .slice none 0 0, .slice none 0 0, .slice none 0 0])) (by intro _ _ h; cases h) rfl (by kernel_rfl)) ?_; clear hF a; intro a hF
    refine ls_effx hF (.free rfl) rfl (st_blks 1 (ds := [.int .i64 0, .int .i64 0, .slice none 0 0, .slice none 0 0, .slice none 0 0]) rfl st_43 hS rfl rfl rfl rfl (ones_cons rfl (ones_cons rfl (ones_cons rfl (ones_cons rfl (ones_cons rfl ones_nil)))))) ?_; clear hS; rintro w hS
    replace hS : Sat w0 w [.blk g1 [.int .i64 t.vars, .int .i64 t.den, vB, vF, vC], .blk g2 [.int .i64 0, .int .i64 0, .slice none 0 0, .slice none 0 0, .slice none 0 0]] := hS
    refine ls_val hF (.free rfl) rfl rfl (ex_assign rfl rfl) ?_; clear hF a; intro a hF
    refine ls_nil ?_
    refine then_normal ?_
    refine wp_ret ?_
    refine then_ret ((fin_ct 1 hF rfl rfl rfl st_43 hS rfl rfl ⟨_, rfl, ?_⟩))
    exact ⟨_, _, _, fun _ => undef, Tb.zero, 1, rfl, .inl ⟨by first | exact fun hh => absurd hh.1 ‹_› | (rintro ⟨_, p1, p2, p3, p4, p5⟩; omega), rfl, rfl⟩, slh_nil, slh_nil, slh_nil, ((((hS.sub (.cons _ (.cons _ .slnil))).addnil 1 3 (ints Tb.zero.B)).addnil 1 3 (ints Tb.zero.F)).addnil 1 22 (fun _ => undef)).addrows 3 (fun _ => undef) Tb.zero.ln Tb.zero.C⟩
   ·
    refine ls_val hF (.on rfl rfl rfl rfl rfl) rfl rfl (ex_move rfl rfl) ?_; clear hF a; intro a hF
    refine ls_val hF (.on rfl rfl rfl rfl rfl) rfl rfl (ex_field (b := ⟨g1, 2, none⟩) rfl fd_43_2 rfl rfl) ?_; clear hF a; intro a hF
    refine ls_val hF (.on rfl rfl rfl rfl rfl) rfl rfl (ex_load_blk 0 rfl pl_22 rfl hS rfl rfl) ?_; clear hF a; intro a hF
    refine ls_val hF (.on rfl rfl rfl rfl rfl) rfl rfl (ex_len rfl sl_22 rfl hT.B.slh) ?_; clear hF a; intro a hF
    refine ls_val hF (.on rfl rfl rfl rfl rfl) rfl rfl (ex_geq rfl rfl rfl) ?_; clear hF a; intro a hF
    refine ls_val hF (.free rfl) rfl rfl (ex_pick_f rfl rfl rfl) ?_; clear hF a; intro a hF
    refine ls_val hF (.free rfl) rfl rfl (ex_move rfl rfl) ?_; clear hF a; intro a hF
    refine by_slot hF (d := 34) rfl ?_ ?_ <;> clear hF <;> intro hc hF
    ·
     refine ls_off hF (.on rfl rfl rfl rfl rfl) rfl rfl ?_; clear hF a; intro a hF
     refine ls_off hF (.on rfl rfl rfl rfl rfl) rfl rfl ?_; clear hF a; intro a hF
     refine ls_val hF (.free rfl) rfl rfl (ex_pick_t rfl rfl rfl) ?_; clear hF a; intro a hF
     refine ls_val hF (.free rfl) rfl rfl (ex_move rfl rfl) ?_; clear hF a; intro a hF
     refine ls_off hF (.on rfl rfl rfl rfl rfl) rfl rfl ?_; clear hF a; intro a hF
     refine ls_off hF (.on rfl rfl rfl rfl rfl) rfl rfl ?_; clear hF a; intro a hF
     refine ls_off hF (.on rfl rfl rfl rfl rfl) rfl rfl ?_; clear hF a; intro a hF
     refine ls_off hF (.on rfl rfl rfl rfl rfl) rfl rfl ?_; clear hF a; intro a hF
     refine ls_off hF (.on rfl rfl rfl rfl rfl) rfl rfl ?_; clear hF a; intro a hF
     refine ls_val hF (.free rfl) rfl rfl (ex_pick_t rfl rfl rfl) ?_; clear hF a; intro a hF
     refine ls_val hF (.free rfl) rfl rfl (ex_move rfl rfl) ?_; clear hF a; intro a hF
     refine ls_off hF (.on rfl rfl rfl rfl rfl) rfl rfl ?_; clear hF a; intro a hF
     refine ls_off hF (.on rfl rfl rfl rfl rfl) rfl rfl ?_; clear hF a; intro a hF
     refine ls_off hF (.on rfl rfl rfl rfl rfl) rfl rfl ?_; clear hF a; intro a hF
     refine ls_off hF (.on rfl rfl rfl rfl rfl) rfl rfl ?_; clear hF a; intro a hF
     refine ls_off hF (.on rfl rfl rfl rfl rfl) rfl rfl ?_; clear hF a; intro a hF
     refine ls_off hF (.on rfl rfl rfl rfl rfl) rfl rfl ?_; clear hF a; intro a hF
     refine ls_off hF (.on rfl rfl rfl rfl rfl) rfl rfl ?_; clear hF a; intro a hF
     refine ls_off hF (.on rfl rfl rfl rfl rfl) rfl rfl ?_; clear hF a; intro a hF
     refine ls_off hF (.on rfl rfl rfl rfl rfl) rfl rfl ?_; clear hF a; intro a hF
     refine ls_off hF (.on rfl rfl rfl rfl rfl) rfl rfl ?_; clear hF a; intro a hF
     refine ls_off hF (.on rfl rfl rfl rfl rfl) rfl rfl ?_; clear hF a; intro a hF
     refine ls_val hF (.free rfl) rfl rfl (ex_pick_t rfl rfl rfl) ?_; clear hF a; intro a hF
     refine ls_nil ?_
     refine then_normal ?_
     refine cw_t hF rfl ?_
     refine cw_seq ?_
     refine wp_region_lit ?_
     refine ls_val hF (.free rfl) rfl rfl (ex_any (w' := w) (r := .value (.agg #[.int .i64 0, .int .i64 0, .slice none 0 0, .slice none 0 0, .slice none 0 0])) (by intro _ _ h; cases h) rfl (by kernel_rfl)) ?_; clear hF a; intro a hF
     refine ls_effx hF (.free rfl) rfl (st_blks 1 (ds := [.int .i64 0, .int .i64 0, .slice none 0 0, .slice none 0 0, .slice none 0 0]) rfl st_43 hS rfl rfl rfl rfl (ones_cons rfl (ones_cons rfl (ones_cons rfl (ones_cons rfl (ones_cons rfl ones_nil)))))) ?_; clear hS; rintro w hS
     replace hS : Sat w0 w [.blk g1 [.int .i64 t.vars, .int .i64 t.den, vB, vF, vC], .blk g2 [.int .i64 0, .int .i64 0, .slice none 0 0, .slice none 0 0, .slice none 0 0]] := hS
     refine ls_val hF (.free rfl) rfl rfl (ex_assign rfl rfl) ?_; clear hF a; intro a hF
     refine ls_nil ?_
     refine then_normal ?_
     refine wp_ret ?_
     refine then_ret ((fin_ct 1 hF rfl rfl rfl st_43 hS rfl rfl ⟨_, rfl, ?_⟩))
     exact ⟨_, _, _, fun _ => undef, Tb.zero, 1, rfl, .inl ⟨by first | exact fun hh => absurd hh.1 ‹_› | (rintro ⟨_, p1, p2, p3, p4, p5⟩; omega), rfl, rfl⟩, slh_nil, slh_nil, slh_nil, ((((hS.sub (.cons _ (.cons _ .slnil))).addnil 1 3 (ints Tb.zero.B)).addnil 1 3 (ints Tb.zero.F)).addnil 1 22 (fun _ => undef)).addrows 3 (fun _ => undef) Tb.zero.ln Tb.zero.C⟩
    ·
     refine ls_val hF (.on rfl rfl rfl rfl rfl) rfl rfl (ex_move rfl rfl) ?_; clear hF a; intro a hF
     refine ls_val hF (.on rfl rfl rfl rfl rfl) rfl rfl (ex_lss rfl rfl rfl) ?_; clear hF a; intro a hF
     refine ls_val hF (.free rfl) rfl rfl (ex_pick_f rfl rfl rfl) ?_; clear hF a; intro a hF
     refine ls_val hF (.free rfl) rfl rfl (ex_move rfl rfl) ?_; clear hF a; intro a hF
     refine by_slot hF (d := 38) rfl ?_ ?_ <;> clear hF <;> intro hc hF
     ·
      refine ls_off hF (.on rfl rfl rfl rfl rfl) rfl rfl ?_; clear hF a; intro a hF
      refine ls_off hF (.on rfl rfl rfl rfl rfl) rfl rfl ?_; clear hF a; intro a hF
      refine ls_off hF (.on rfl rfl rfl rfl rfl) rfl rfl ?_; clear hF a; intro a hF
      refine ls_off hF (.on rfl rfl rfl rfl rfl) rfl rfl ?_; clear hF a; intro a hF
      refine ls_off hF (.on rfl rfl rfl rfl rfl) rfl rfl ?_; clear hF a; intro a hF
      refine ls_val hF (.free rfl) rfl rfl (ex_pick_t rfl rfl rfl) ?_; clear hF a; intro a hF
      refine ls_val hF (.free rfl) rfl rfl (ex_move rfl rfl) ?_; clear hF a; intro a hF
      refine ls_off hF (.on rfl rfl rfl rfl rfl) rfl rfl ?_; clear hF a; intro a hF
      refine ls_off hF (.on rfl rfl rfl rfl rfl) rfl rfl ?_; clear hF a; intro a hF
      refine ls_off hF (.on rfl rfl rfl rfl rfl) rfl rfl ?_; clear hF a; intro a hF
      refine ls_off hF (.on rfl rfl rfl rfl rfl) rfl rfl ?_; clear hF a; intro a hF
      refine ls_off hF (.on rfl rfl rfl rfl rfl) rfl rfl ?_; clear hF a; intro a hF
      refine ls_off hF (.on rfl rfl rfl rfl rfl) rfl rfl ?_; clear hF a; intro a hF
      refine ls_off hF (.on rfl rfl rfl rfl rfl) rfl rfl ?_; clear hF a; intro a hF
      refine ls_off hF (.on rfl rfl rfl rfl rfl) rfl rfl ?_; clear hF a; intro a hF
      refine ls_off hF (.on rfl rfl rfl rfl rfl) rfl rfl ?_; clear hF a; intro a hF
      refine ls_off hF (.on rfl rfl rfl rfl rfl) rfl rfl ?_; clear hF a; intro a hF
      refine ls_off hF (.on rfl rfl rfl rfl rfl) rfl rfl ?_; clear hF a; intro a hF
      refine ls_val hF (.free rfl) rfl rfl (ex_pick_t rfl rfl rfl) ?_; clear hF a; intro a hF
      refine ls_nil ?_
      refine then_normal ?_
      refine cw_t hF rfl ?_
      refine cw_seq ?_
      refine wp_region_lit ?_
      refine ls_val hF (.free rfl) rfl rfl (ex_any (w' := w) (r := .value (.agg #[.int .i64 0, .int .i64 0, .slice none 0 0, .slice none 0 0, .slice none 0 0])) (by intro _ _ h; cases h) rfl (by kernel_rfl)) ?_; clear hF a; intro a hF
      refine ls_effx hF (.free rfl) rfl (st_blks 1 (ds := [.int .i64 0, .int .i64 0, .slice none 0 0, .slice none 0 0, .slice none 0 0]) rfl st_43 hS rfl rfl rfl rfl (ones_cons rfl (ones_cons rfl (ones_cons rfl (ones_cons rfl (ones_cons rfl ones_nil)))))) ?_; clear hS; rintro w hS
      replace hS : Sat w0 w [.blk g1 [.int .i64 t.vars, .int .i64 t.den, vB, vF, vC], .blk g2 [.int .i64 0, .int .i64 0, .slice none 0 0, .slice none 0 0, .slice none 0 0]] := hS
      refine ls_val hF (.free rfl) rfl rfl (ex_assign rfl rfl) ?_; clear hF a; intro a hF
      refine ls_nil ?_
      refine then_normal ?_
      refine wp_ret ?_
      refine then_ret ((fin_ct 1 hF rfl rfl rfl st_43 hS rfl rfl ⟨_, rfl, ?_⟩))
      exact ⟨_, _, _, fun _ => undef, Tb.zero, 1, rfl, .inl ⟨by first | exact fun hh => absurd hh.1 ‹_› | (rintro ⟨_, p1, p2, p3, p4, p5⟩; omega), rfl, rfl⟩, slh_nil, slh_nil, slh_nil, ((((hS.sub (.cons _ (.cons _ .slnil))).addnil 1 3 (ints Tb.zero.B)).addnil 1 3 (ints Tb.zero.F)).addnil 1 22 (fun _ => undef)).addrows 3 (fun _ => undef) Tb.zero.ln Tb.zero.C⟩
     ·
      refine ls_val hF (.on rfl rfl rfl rfl rfl) rfl rfl (ex_move rfl rfl) ?_; clear hF a; intro a hF
      refine ls_val hF (.on rfl rfl rfl rfl rfl) rfl rfl (ex_field (b := ⟨g1, 3, none⟩) rfl fd_43_3 rfl rfl) ?_; clear hF a; intro a hF
      refine ls_val hF (.on rfl rfl rfl rfl rfl) rfl rfl (ex_load_blk 0 rfl pl_22 rfl hS rfl rfl) ?_; clear hF a; intro a hF
      refine ls_val hF (.on rfl rfl rfl rfl rfl) rfl rfl (ex_len rfl sl_22 rfl hT.F.slh) ?_; clear hF a; intro a hF
      refine ls_val hF (.on rfl rfl rfl rfl rfl) rfl rfl (ex_geq rfl rfl rfl) ?_; clear hF a; intro a hF
      refine ls_val hF (.free rfl) rfl rfl (ex_pick_f rfl rfl rfl) ?_; clear hF a; intro a hF
      refine ls_val hF (.free rfl) rfl rfl (ex_move rfl rfl) ?_; clear hF a; intro a hF
      refine by_slot hF (d := 45) rfl ?_ ?_ <;> clear hF <;> intro hc hF
      ·
       refine ls_off hF (.on rfl rfl rfl rfl rfl) rfl rfl ?_; clear hF a; intro a hF
       refine ls_off hF (.on rfl rfl rfl rfl rfl) rfl rfl ?_; clear hF a; intro a hF
       refine ls_off hF (.on rfl rfl rfl rfl rfl) rfl rfl ?_; clear hF a; intro a hF
       refine ls_off hF (.on rfl rfl rfl rfl rfl) rfl rfl ?_; clear hF a; intro a hF
       refine ls_off hF (.on rfl rfl rfl rfl rfl) rfl rfl ?_; clear hF a; intro a hF
       refine ls_off hF (.on rfl rfl rfl rfl rfl) rfl rfl ?_; clear hF a; intro a hF
       refine ls_off hF (.on rfl rfl rfl rfl rfl) rfl rfl ?_; clear hF a; intro a hF
       refine ls_off hF (.on rfl rfl rfl rfl rfl) rfl rfl ?_; clear hF a; intro a hF
       refine ls_off hF (.on rfl rfl rfl rfl rfl) rfl rfl ?_; clear hF a; intro a hF
       refine ls_off hF (.on rfl rfl rfl rfl rfl) rfl rfl ?_; clear hF a; intro a hF
       refine ls_off hF (.on rfl rfl rfl rfl rfl) rfl rfl ?_; clear hF a; intro a hF
       refine ls_val hF (.free rfl) rfl rfl (ex_pick_t rfl rfl rfl) ?_; clear hF a; intro a hF
       refine ls_nil ?_
       refine then_normal ?_
       refine cw_t hF rfl ?_
       refine cw_seq ?_
       refine wp_region_lit ?_
       refine ls_val hF (.free rfl) rfl rfl (ex_any (w' := w) (r := .value (.agg #[.int .i64 0, .int .i64 0, .slice none 0 0, .slice none 0 0, .slice none 0 0])) (by intro _ _ h; cases h) rfl (by kernel_rfl)) ?_; clear hF a; intro a hF
       refine ls_effx hF (.free rfl) rfl (st_blks 1 (ds := [.int .i64 0, .int .i64 0, .slice none 0 0, .slice none 0 0, .slice none 0 0]) rfl st_43 hS rfl rfl rfl rfl (ones_cons rfl (ones_cons rfl (ones_cons rfl (ones_cons rfl (ones_cons rfl ones_nil)))))) ?_; clear hS; rintro w hS
       replace hS : Sat w0 w [.blk g1 [.int .i64 t.vars, .int .i64 t.den, vB, vF, vC], .blk g2 [.int .i64 0, .int .i64 0, .slice none 0 0, .slice none 0 0, .slice none 0 0]] := hS
       refine ls_val hF (.free rfl) rfl rfl (ex_assign rfl rfl) ?_; clear hF a; intro a hF
       refine ls_nil ?_
       refine then_normal ?_
       refine wp_ret ?_
       refine then_ret ((fin_ct 1 hF rfl rfl rfl st_43 hS rfl rfl ⟨_, rfl, ?_⟩))
       exact ⟨_, _, _, fun _ => undef, Tb.zero, 1, rfl, .inl ⟨by first | exact fun hh => absurd hh.1 ‹_› | (rintro ⟨_, p1, p2, p3, p4, p5⟩; omega), rfl, rfl⟩, slh_nil, slh_nil, slh_nil, ((((hS.sub (.cons _ (.cons _ .slnil))).addnil 1 3 (ints Tb.zero.B)).addnil 1 3 (ints Tb.zero.F)).addnil 1 22 (fun _ => undef)).addrows 3 (fun _ => undef) Tb.zero.ln Tb.zero.C⟩
      ·
       refine ls_val hF (.on rfl rfl rfl rfl rfl) rfl rfl (ex_field (b := ⟨g1, 4, none⟩) rfl fd_43_4 rfl rfl) ?_; clear hF a; intro a hF
       refine ls_val hF (.on rfl rfl rfl rfl rfl) rfl rfl (ex_load_blk 0 rfl pl_23 rfl hS rfl rfl) ?_; clear hF a; intro a hF
       refine ls_val hF (.on rfl rfl rfl rfl rfl) rfl rfl (ex_move rfl rfl) ?_; clear hF a; intro a hF
       refine ls_val hF (.on rfl rfl rfl rfl rfl) rfl rfl (ex_add (r := row + 1) rfl rfl rfl (by omega) (by unfold I64; omega)) ?_; clear hF a; intro a hF
       refine ls_val hF (.on rfl rfl rfl rfl rfl) rfl rfl (ex_index (k := row + 1) rfl sl_23 rfl rfl hT.C.row.slh (by omega) (by omega) (by omega)) ?_; clear hF a; intro a hF
       refine ls_val hF (.on rfl rfl rfl rfl rfl) rfl rfl (ex_load_row (u := (vv (row + 1))) rfl pl_22 rfl (hT.C.row.below hS.below) (by omega) (by omega) rfl) ?_; clear hF a; intro a hF
       have hlr := hp.len (i := row + 1) (by omega) (by omega)
       refine ls_val hF (.on rfl rfl rfl rfl rfl) rfl rfl (ex_move rfl rfl) ?_; clear hF a; intro a hF
       refine ls_val hF (.on rfl rfl rfl rfl rfl) rfl rfl (ex_add (r := col + 1) rfl rfl rfl (by omega) (by unfold I64; omega)) ?_; clear hF a; intro a hF
       refine ls_val hF (.on rfl rfl rfl rfl rfl) rfl rfl (ex_index (k := col + 1) rfl sl_22 rfl rfl (hT.C.p (row + 1) (by omega) (by omega)).slh (by omega) (by omega) (by omega)) ?_; clear hF a; intro a hF
       refine ls_val hF (.on rfl rfl rfl rfl rfl) rfl rfl (ex_load_row (u := .int .i64 ((t.C (row + 1)) (col + 1))) rfl pl_3 rfl ((hT.C.p (row + 1) (by omega) (by omega)).below hS.below) (by omega) (by omega) rfl) ?_; clear hF a; intro a hF
       refine ls_val hF (.on rfl rfl rfl rfl rfl) rfl rfl (ex_eql rfl rfl rfl) ?_; clear hF a; intro a hF
       refine ls_val hF (.free rfl) rfl rfl (ex_pick_f rfl rfl rfl) ?_; clear hF a; intro a hF
       refine ls_nil ?_
       refine then_normal ?_
       refine cw_if hF rfl (fun hc => ?_) (fun hc => ?_)
       ·
        refine cw_seq ?_
        refine wp_region_lit ?_
        refine ls_val hF (.free rfl) rfl rfl (ex_any (w' := w) (r := .value (.agg #[.int .i64 0, .int .i64 0, .slice none 0 0, .slice none 0 0, .slice none 0 0])) (by intro _ _ h; cases h) rfl (by kernel_rfl)) ?_; clear hF a; intro a hF
        refine ls_effx hF (.free rfl) rfl (st_blks 1 (ds := [.int .i64 0, .int .i64 0, .slice none 0 0, .slice none 0 0, .slice none 0 0]) rfl st_43 hS rfl rfl rfl rfl (ones_cons rfl (ones_cons rfl (ones_cons rfl (ones_cons rfl (ones_cons rfl ones_nil)))))) ?_; clear hS; rintro w hS
        replace hS : Sat w0 w [.blk g1 [.int .i64 t.vars, .int .i64 t.den, vB, vF, vC], .blk g2 [.int .i64 0, .int .i64 0, .slice none 0 0, .slice none 0 0, .slice none 0 0]] := hS
        refine ls_val hF (.free rfl) rfl rfl (ex_assign rfl rfl) ?_; clear hF a; intro a hF
        refine ls_nil ?_
        refine then_normal ?_
        refine wp_ret ?_
        refine then_ret ((fin_ct 1 hF rfl rfl rfl st_43 hS rfl rfl ⟨_, rfl, ?_⟩))
        exact ⟨_, _, _, fun _ => undef, Tb.zero, 1, rfl, .inl ⟨by first | exact fun hh => absurd hh.1 ‹_› | (rintro ⟨_, p1, p2, p3, p4, p5⟩; omega), rfl, rfl⟩, slh_nil, slh_nil, slh_nil, ((((hS.sub (.cons _ (.cons _ .slnil))).addnil 1 3 (ints Tb.zero.B)).addnil 1 3 (ints Tb.zero.F)).addnil 1 22 (fun _ => undef)).addrows 3 (fun _ => undef) Tb.zero.ln Tb.zero.C⟩
       ·
        refine wp_skip ?_
        refine then_normal ?_
        refine cw_seq ?_
        refine wp_region_lit ?_
        refine ls_val hF (.free rfl) rfl rfl (ex_move rfl rfl) ?_; clear hF a; intro a hF
        refine ls_val hF (.free rfl) rfl rfl (ex_add (r := row + 1) rfl rfl rfl (by omega) (by unfold I64; omega)) ?_; clear hF a; intro a hF
        have hnz : t.C (row + 1) (col + 1) ≠ 0 := by omega
        have hpb := hp.cell (i := row + 1) (j := col + 1) (by omega) (by omega) (by omega) (by omega)
        refine ls_val hF (.free rfl) rfl rfl (ex_move rfl rfl) ?_; clear hF a; intro a hF
        refine ls_val hF (.free rfl) rfl rfl (ex_add (r := col + 1) rfl rfl rfl (by omega) (by unfold I64; omega)) ?_; clear hF a; intro a hF
        refine ls_val hF (.free rfl) rfl rfl (ex_assign rfl rfl) ?_; clear hF a; intro a hF
        refine ls_val hF (.free rfl) rfl rfl (ex_assign rfl rfl) ?_; clear hF a; intro a hF
        refine ls_nil ?_
        refine then_normal ?_
        refine cw_seq ?_
        refine dr_sat (m0 := [.blk g1 [.int .i64 t.vars, .int .i64 t.den, vB, vF, vC], .blk g2 [.int .i64 0, .int .i64 0, .slice none 0 0, .slice none 0 0, .slice none 0 0]]) (m1 := [.blk g1 [.int .i64 t.vars, .int .i64 t.den, vB, vF, vC], .blk g2 [.int .i64 0, .int .i64 0, .slice none 0 0, .slice none 0 0, .slice none 0 0]]) 1000 mx_ hS (.cons_cons _ (.cons_cons _ .slnil)) (.cons_cons _ (.cons_cons _ .slnil)) rfl ?_; clear hS; intro w hS hcl hB
        refine dr_val hF hcl hB 0 rfl (.free rfl) rfl rfl (by kernel_rfl) rfl (fun w => (ex_field (b := ⟨g1, 4, none⟩) rfl fd_43_4 rfl rfl)) ?_; clear hF a hcl hB; intro a hF hcl hB
        refine dr_loadA hF hcl hB 1 rfl (.free rfl) rfl rfl (by kernel_rfl) rfl (fun w hS => (ex_load_blk 0 rfl pl_23 rfl hS rfl rfl)) ?_; clear hF a hcl hB; intro a hF hcl hB
        refine dr_val hF hcl hB 2 rfl (.free rfl) rfl rfl (by kernel_rfl) rfl (fun w => (ex_move rfl rfl)) ?_; clear hF a hcl hB; intro a hF hcl hB
        refine dr_val hF hcl hB 3 rfl (.free rfl) rfl rfl (by kernel_rfl) rfl (fun w => (ex_index (k := row + 1) rfl sl_23 rfl rfl hT.C.row.slh (by omega) (by omega) (by omega))) ?_; clear hF a hcl hB; intro a hF hcl hB
        refine dr_loadA hF hcl hB 4 rfl (.free rfl) rfl rfl (by kernel_rfl) rfl (fun w hS => (ex_load_row (u := (vv (row + 1))) rfl pl_22 rfl (hT.C.row.below hS.below) (by omega) (by omega) rfl)) ?_; clear hF a hcl hB; intro a hF hcl hB
        refine dr_val hF hcl hB 5 rfl (.free rfl) rfl rfl (by kernel_rfl) rfl (fun w => (ex_move rfl rfl)) ?_; clear hF a hcl hB; intro a hF hcl hB
        refine dr_val hF hcl hB 6 rfl (.free rfl) rfl rfl (by kernel_rfl) rfl (fun w => (ex_index (k := col + 1) rfl sl_22 rfl rfl (hT.C.p (row + 1) (by omega) (by omega)).slh (by omega) (by omega) (by omega))) ?_; clear hF a hcl hB; intro a hF hcl hB
        refine dr_loadA hF hcl hB 7 rfl (.free rfl) rfl rfl (by kernel_rfl) rfl (fun w hS => (ex_load_row (u := .int .i64 ((t.C (row + 1)) (col + 1))) rfl pl_3 rfl ((hT.C.p (row + 1) (by omega) (by omega)).below hS.below) (by omega) (by omega) rfl)) ?_; clear hF a hcl hB; intro a hF hcl hB
        refine dr_val hF hcl hB 8 rfl (.free rfl) rfl rfl (by kernel_rfl) rfl (fun w => (ex_field (b := ⟨g1, 1, none⟩) rfl fd_43_1 rfl rfl)) ?_; clear hF a hcl hB; intro a hF hcl hB
        refine dr_loadA hF hcl hB 9 rfl (.free rfl) rfl rfl (by kernel_rfl) rfl (fun w hS => (ex_load_blk 0 rfl pl_3 rfl hS rfl rfl)) ?_; clear hF a hcl hB; intro a hF hcl hB
        refine dr_val hF hcl hB 10 rfl (.free rfl) rfl rfl (by kernel_rfl) rfl (fun w => (ex_assign rfl rfl)) ?_; clear hF a hcl hB; intro a hF hcl hB
        refine dr_val hF hcl hB 11 rfl (.free rfl) rfl rfl (by kernel_rfl) rfl (fun w => (ex_assign rfl rfl)) ?_; clear hF a hcl hB; intro a hF hcl hB
        refine dr_done (by kernel_rfl) ?_; clear hcl hB
        refine then_normal ?_
        refine cw_seq ?_
        refine cw_cut (fun a w => ∃ (g3 : Nat) (vq1 : Value) (vq2 : Value) (voq3 : Value) (vwq3 : Int → Value), (Slh vq1 t.nb) ∧ (Slh vq2 t.nf) ∧ (Slh voq3 t.nc) ∧ (∀ k, 0 ≤ k → k < t.nc → Slh (vwq3 k) (t.ln k)) ∧ Fr a 206 [(0, .agg #[.int .i64 t.vars, .int .i64 t.den, vB, vF, vC]), (1, .int .i64 row), (2, .int .i64 col), (3, .pointer (some ⟨g1, 0, none⟩)), (6, .pointer (some ⟨g2, 0, none⟩)), (7, .int .i64 0), (20, .agg #[.int .i64 t.vars, .int .i64 t.den, vB, vF, vC]), (21, B (TPrp t)), (22, B (¬ (TPrp t))), (23, .bool false), (24, .int .i64 row), (25, B (row < 0)), (26, B (row < 0)), (27, .bool false), (28, .int .i64 row), (29, .pointer (some ⟨g1, 2, none⟩)), (30, vB), (31, .int .i64 t.nb), (32, B (t.nb ≤ row)), (33, B (t.nb ≤ row)), (34, .bool false), (35, .int .i64 col), (36, B (col < 0)), (37, B (col < 0)), (38, .bool false), (39, .int .i64 col), (40, .pointer (some ⟨g1, 3, none⟩)), (41, vF), (42, .int .i64 t.nf), (43, B (t.nf ≤ col)), (44, B (t.nf ≤ col)), (45, .bool false), (46, .pointer (some ⟨g1, 4, none⟩)), (47, vC), (48, .int .i64 row), (49, .int .i64 (row + 1)), (50, .pointer (some (cad vC (row + 1)))), (51, (vv (row + 1))), (52, .int .i64 col), (53, .int .i64 (col + 1)), (54, .pointer (some (cad (vv (row + 1)) (col + 1)))), (55, .int .i64 ((t.C (row + 1)) (col + 1))), (56, B (((t.C (row + 1)) (col + 1)) = 0)), (57, B (((t.C (row + 1)) (col + 1)) = 0)), (59, .int .i64 row), (60, .int .i64 (row + 1)), (61, .int .i64 col), (62, .int .i64 (col + 1)), (8, .int .i64 (row + 1)), (9, .int .i64 (col + 1)), (63, .pointer (some ⟨g1, 4, none⟩)), (64, vC), (65, .int .i64 (row + 1)), (66, .pointer (some (cad vC (row + 1)))), (67, (vv (row + 1))), (68, .int .i64 (col + 1)), (69, .pointer (some (cad (vv (row + 1)) (col + 1)))), (70, .int .i64 ((t.C (row + 1)) (col + 1))), (71, .pointer (some ⟨g1, 1, none⟩)), (72, .int .i64 t.den), (10, .int .i64 ((t.C (row + 1)) (col + 1))), (11, .int .i64 t.den), (73, .pointer (some ⟨g1, 0, none⟩)), (74, .int .i64 t.vars), (75, .int .i64 ((t.C (row + 1)) (col + 1))), (76, .pointer (some ⟨g1, 2, none⟩)), (77, vB), (79, .pointer (some ⟨g1, 3, none⟩)), (80, vF), (82, .pointer (some ⟨g1, 4, none⟩)), (83, vC), (78, vq1), (81, vq2), (84, voq3), (85, .agg #[.int .i64 t.vars, .int .i64 ((t.C (row + 1)) (col + 1)), vq1, vq2, voq3]), (12, .pointer (some ⟨g3, 0, none⟩))] ∧ Sat w0 w [.blk g1 [.int .i64 t.vars, .int .i64 t.den, vB, vF, vC], .blk g2 [.int .i64 0, .int .i64 0, .slice none 0 0, .slice none 0 0, .slice none 0 0], .own vq1 1 3 t.nb (ints t.B), .own vq2 1 3 t.nf (ints t.F), .own voq3 1 22 t.nc vwq3, .sem (Frame.rows 3 t.nc vwq3 t.ln t.C), .blk g3 [.int .i64 t.vars, .int .i64 ((t.C (row + 1)) (col + 1)), vq1, vq2, voq3]]) ?_ ?_
        ·
         refine dr_sat (m0 := [.blk g1 [.int .i64 t.vars, .int .i64 t.den, vB, vF, vC], .blk g2 [.int .i64 0, .int .i64 0, .slice none 0 0, .slice none 0 0, .slice none 0 0]]) (m1 := [.blk g1 [.int .i64 t.vars, .int .i64 t.den, vB, vF, vC], .blk g2 [.int .i64 0, .int .i64 0, .slice none 0 0, .slice none 0 0, .slice none 0 0]]) 14 mx_ hS (.cons_cons _ (.cons_cons _ .slnil)) (.cons_cons _ (.cons_cons _ .slnil)) rfl ?_; clear hS; intro w hS hcl hB
         refine dr_val hF hcl hB 0 rfl (.free rfl) rfl rfl (by kernel_rfl) rfl (fun w => (ex_field (b := ⟨g1, 0, none⟩) rfl fd_43_0 rfl rfl)) ?_; clear hF a hcl hB; intro a hF hcl hB
         refine dr_loadA hF hcl hB 1 rfl (.free rfl) rfl rfl (by kernel_rfl) rfl (fun w hS => (ex_load_blk 0 rfl pl_3 rfl hS rfl rfl)) ?_; clear hF a hcl hB; intro a hF hcl hB
         refine dr_val hF hcl hB 2 rfl (.free rfl) rfl rfl (by kernel_rfl) rfl (fun w => (ex_move rfl rfl)) ?_; clear hF a hcl hB; intro a hF hcl hB
         refine dr_val hF hcl hB 3 rfl (.free rfl) rfl rfl (by kernel_rfl) rfl (fun w => (ex_field (b := ⟨g1, 2, none⟩) rfl fd_43_2 rfl rfl)) ?_; clear hF a hcl hB; intro a hF hcl hB
         refine dr_loadA hF hcl hB 4 rfl (.free rfl) rfl rfl (by kernel_rfl) rfl (fun w hS => (ex_load_blk 0 rfl pl_22 rfl hS rfl rfl)) ?_; clear hF a hcl hB; intro a hF hcl hB
         refine dr_val hF hcl hB 6 rfl (.free rfl) rfl rfl (by kernel_rfl) rfl (fun w => (ex_field (b := ⟨g1, 3, none⟩) rfl fd_43_3 rfl rfl)) ?_; clear hF a hcl hB; intro a hF hcl hB
         refine dr_loadA hF hcl hB 7 rfl (.free rfl) rfl rfl (by kernel_rfl) rfl (fun w hS => (ex_load_blk 0 rfl pl_22 rfl hS rfl rfl)) ?_; clear hF a hcl hB; intro a hF hcl hB
         refine dr_val hF hcl hB 9 rfl (.free rfl) rfl rfl (by kernel_rfl) rfl (fun w => (ex_field (b := ⟨g1, 4, none⟩) rfl fd_43_4 rfl rfl)) ?_; clear hF a hcl hB; intro a hF hcl hB
         refine dr_loadA hF hcl hB 10 rfl (.free rfl) rfl rfl (by kernel_rfl) rfl (fun w hS => (ex_load_blk 0 rfl pl_23 rfl hS rfl rfl)) ?_; clear hF a hcl hB; intro a hF hcl hB
         refine dr_fork (r := [5, 13]) hcl (by decide) (by kernel_rfl) ((fk_cons ?_ (fk_cons ?_ fk_nil)))
         ·
          refine fk_call hF 5 rfl (.free rfl) rfl rfl (ex_call0 rfl rfl cl_48 (args_cons rfl args0)) (c_clone (n := t.nb) (f := t.B) w (hT.B.below hS.below) (by omega)) ?_; clear hF hB; rintro vq1 w ⟨_, rfl, hslq1, hS'⟩ a hF hcl
          replace hS : Sat w0 w [.blk g1 [.int .i64 t.vars, .int .i64 t.den, vB, vF, vC], .blk g2 [.int .i64 0, .int .i64 0, .slice none 0 0, .slice none 0 0, .slice none 0 0], .own vq1 1 3 t.nb (ints t.B)] := hS.comp hS'; clear hS'
          refine ⟨⟨(fun _ => hS.sub (.cons_cons _ (.cons_cons _ (.cons _ .slnil)))), hS.sub (.cons_cons _ (.cons_cons _ (.cons _ .slnil)))⟩, fun hB => ?_⟩
          refine dr_fork (r := [8, 13]) hcl (by decide) (by kernel_rfl) ((fk_cons ?_ (fk_cons ?_ fk_nil)))
          ·
           refine fk_call hF 8 rfl (.free rfl) rfl rfl (ex_call0 rfl rfl cl_48 (args_cons rfl args0)) (c_clone (n := t.nf) (f := t.F) w (hT.F.below hS.below) (by omega)) ?_; clear hF hB; rintro vq2 w ⟨_, rfl, hslq2, hS'⟩ a hF hcl
           replace hS : Sat w0 w [.blk g1 [.int .i64 t.vars, .int .i64 t.den, vB, vF, vC], .blk g2 [.int .i64 0, .int .i64 0, .slice none 0 0, .slice none 0 0, .slice none 0 0], .own vq1 1 3 t.nb (ints t.B), .own vq2 1 3 t.nf (ints t.F)] := hS.comp hS'; clear hS'
           refine ⟨⟨(fun _ => hS.sub (.cons_cons _ (.cons_cons _ (.cons _ (.cons _ .slnil))))), hS.sub (.cons_cons _ (.cons_cons _ (.cons _ (.cons _ .slnil))))⟩, fun hB => ?_⟩
           refine dr_fork (r := [11, 13]) hcl (by decide) (by kernel_rfl) ((fk_cons ?_ (fk_cons ?_ fk_nil)))
           ·
            refine fk_call hF 11 rfl (.free rfl) rfl rfl (ex_call0 rfl rfl cl_49 (args_cons rfl args0)) (c_cloned (n := t.nc) (vv := vv) (ln := t.ln) (f := t.C) w (hT.C.below hS.below) (by omega) (fun k k0 k1 => by have := hp.len (i := k) (by omega) (by omega); omega)) ?_; clear hF hB; rintro voq3 w ⟨_, vwq3, rfl, hslq3, hS'⟩ a hF hcl
            replace hS : Sat w0 w [.blk g1 [.int .i64 t.vars, .int .i64 t.den, vB, vF, vC], .blk g2 [.int .i64 0, .int .i64 0, .slice none 0 0, .slice none 0 0, .slice none 0 0], .own vq1 1 3 t.nb (ints t.B), .own vq2 1 3 t.nf (ints t.F), .own voq3 1 22 t.nc vwq3, .sem (Frame.rows 3 t.nc vwq3 t.ln t.C)] := hS.comp hS'; clear hS'
            have hrsq3 := fun k (k0 : 0 ≤ k) (k1 : k < t.nc) => hS.slhIn 5 rfl k0 k1
            refine ⟨⟨(fun _ => hS.sub (.cons_cons _ (.cons_cons _ (.cons _ (.cons _ (.cons _ (.cons _ .slnil))))))), hS.sub (.cons_cons _ (.cons_cons _ (.cons _ (.cons _ (.cons _ (.cons _ .slnil))))))⟩, fun hB => ?_⟩
            refine dr_val hF hcl hB 12 rfl (.free rfl) rfl rfl (by kernel_rfl) rfl (fun w => (ex_any (w' := w) (r := .value (.agg #[.int .i64 t.vars, .int .i64 ((t.C (row + 1)) (col + 1)), vq1, vq2, voq3])) (by intro _ _ h; cases h) rfl (by obtain ⟨_, _, _, _, rfl, _⟩ := hslq1; obtain ⟨_, _, _, _, rfl, _⟩ := hslq2; obtain ⟨_, _, _, _, rfl, _⟩ := hslq3; kernel_rfl))) ?_; clear hF a hcl hB; intro a hF hcl hB
            refine dr_any hF hcl 13 rfl (.free rfl) rfl rfl (by kernel_rfl) (ex_alloc (cs := [.int .i64 0, .int .i64 0, .slice none 0 0, .slice none 0 0, .slice none 0 0]) rfl el_43 hS rfl) ?_; clear hF hB; rintro _ w ⟨g3, rfl, hS⟩ a hF hcl
            replace hS : Sat w0 w [.blk g1 [.int .i64 t.vars, .int .i64 t.den, vB, vF, vC], .blk g2 [.int .i64 0, .int .i64 0, .slice none 0 0, .slice none 0 0, .slice none 0 0], .own vq1 1 3 t.nb (ints t.B), .own vq2 1 3 t.nf (ints t.F), .own voq3 1 22 t.nc vwq3, .sem (Frame.rows 3 t.nc vwq3 t.ln t.C), .blk g3 [.int .i64 0, .int .i64 0, .slice none 0 0, .slice none 0 0, .slice none 0 0]] := hS
            refine ⟨⟨(fun _ => hS.sub (.cons_cons _ (.cons_cons _ (.cons _ (.cons _ (.cons _ (.cons _ (.cons _ .slnil)))))))), hS.sub (.cons_cons _ (.cons_cons _ (.cons _ (.cons _ (.cons _ (.cons _ (.cons _ .slnil)))))))⟩, fun hB => ?_⟩
            refine dr_effx hF hcl 14 rfl (.free rfl) rfl (by kernel_rfl) (st_blks 6 (ds := [.int .i64 t.vars, .int .i64 ((t.C (row + 1)) (col + 1)), vq1, vq2, voq3]) rfl st_43 hS rfl rfl rfl rfl (ones_cons rfl (ones_cons rfl (ones_cons hslq1.one (ones_cons hslq2.one (ones_cons hslq3.one ones_nil)))))) ?_; clear hS hB; rintro w hS hcl
            replace hS : Sat w0 w [.blk g1 [.int .i64 t.vars, .int .i64 t.den, vB, vF, vC], .blk g2 [.int .i64 0, .int .i64 0, .slice none 0 0, .slice none 0 0, .slice none 0 0], .own vq1 1 3 t.nb (ints t.B), .own vq2 1 3 t.nf (ints t.F), .own voq3 1 22 t.nc vwq3, .sem (Frame.rows 3 t.nc vwq3 t.ln t.C), .blk g3 [.int .i64 t.vars, .int .i64 ((t.C (row + 1)) (col + 1)), vq1, vq2, voq3]] := hS
            refine ⟨⟨(fun h => absurd h (by decide)), hS.sub (.cons_cons _ (.cons_cons _ (.cons _ (.cons _ (.cons _ (.cons _ (.cons _ .slnil)))))))⟩, fun hB => ?_⟩
            refine dr_done (by kernel_rfl) ?_; clear hcl hB
            refine then_normal ?_
            exact ⟨g3, vq1, vq2, voq3, vwq3, hslq1, hslq2, hslq3, hrsq3, (hF.pick (hF.pick (hF.pick (hF.pick (hF.pick (hF.pick (hF.pick (hF.pick (hF.pick (hF.pick (hF.pick (hF.pick (hF.pick (hF.pick (hF.pick (hF.pick (hF.pick (hF.pick (hF.pick (hF.pick (hF.pick (hF.pick (hF.pick (hF.pick (hF.pick (hF.pick (hF.pick (hF.pick (hF.pick (hF.pick (hF.pick (hF.pick (hF.pick (hF.pick (hF.pick (hF.pick (hF.pick (hF.pick (hF.pick (hF.pick (hF.pick (hF.pick (hF.pick (hF.pick (hF.pick (hF.pick (hF.pick (hF.pick (hF.pick (hF.pick (hF.pick (hF.pick (hF.pick (hF.pick (hF.pick (hF.pick (hF.pick (hF.pick (hF.pick (hF.pick (hF.pick (hF.pick (hF.pick (hF.pick (hF.pick (hF.pick (hF.pick (hF.pick (hF.pick (hF.pick (hF.pick (hF.pick (hF.pick (hF.pick (hF.pick (hF.pick hF.nil 12 rfl) 85 rfl) 84 rfl) 81 rfl) 78 rfl) 83 rfl) 82 rfl) 80 rfl) 79 rfl) 77 rfl) 76 rfl) 75 rfl) 74 rfl) 73 rfl) 11 rfl) 10 rfl) 72 rfl) 71 rfl) 70 rfl) 69 rfl) 68 rfl) 67 rfl) 66 rfl) 65 rfl) 64 rfl) 63 rfl) 9 rfl) 8 rfl) 62 rfl) 61 rfl) 60 rfl) 59 rfl) 57 rfl) 56 rfl) 55 rfl) 54 rfl) 53 rfl) 52 rfl) 51 rfl) 50 rfl) 49 rfl) 48 rfl) 47 rfl) 46 rfl) 45 rfl) 44 rfl) 43 rfl) 42 rfl) 41 rfl) 40 rfl) 39 rfl) 38 rfl) 37 rfl) 36 rfl) 35 rfl) 34 rfl) 33 rfl) 32 rfl) 31 rfl) 30 rfl) 29 rfl) 28 rfl) 27 rfl) 26 rfl) 25 rfl) 24 rfl) 23 rfl) 22 rfl) 21 rfl) 20 rfl) 7 rfl) 6 rfl) 3 rfl) 2 rfl) 1 rfl) 0 rfl), hS⟩
           ·
            refine fk_any hF 13 rfl (.free rfl) rfl rfl (ex_alloc (cs := [.int .i64 0, .int .i64 0, .slice none 0 0, .slice none 0 0, .slice none 0 0]) rfl el_43 hS rfl) ?_; clear hF hB; rintro _ w ⟨g3, rfl, hS⟩ a hF hcl
            replace hS : Sat w0 w [.blk g1 [.int .i64 t.vars, .int .i64 t.den, vB, vF, vC], .blk g2 [.int .i64 0, .int .i64 0, .slice none 0 0, .slice none 0 0, .slice none 0 0], .own vq1 1 3 t.nb (ints t.B), .own vq2 1 3 t.nf (ints t.F), .blk g3 [.int .i64 0, .int .i64 0, .slice none 0 0, .slice none 0 0, .slice none 0 0]] := hS
            refine ⟨⟨(fun _ => hS.sub (.cons_cons _ (.cons_cons _ (.cons _ (.cons _ (.cons _ .slnil)))))), hS.sub (.cons_cons _ (.cons_cons _ (.cons _ (.cons _ (.cons _ .slnil)))))⟩, fun hB => ?_⟩
            refine dr_call hF hcl 11 rfl (.free rfl) rfl rfl (by kernel_rfl) (ex_call0 rfl rfl cl_49 (args_cons rfl args0)) (c_cloned (n := t.nc) (vv := vv) (ln := t.ln) (f := t.C) w (hT.C.below hS.below) (by omega) (fun k k0 k1 => by have := hp.len (i := k) (by omega) (by omega); omega)) ?_; clear hF hB; rintro voq3 w ⟨_, vwq3, rfl, hslq3, hS'⟩ a hF hcl
            replace hS : Sat w0 w [.blk g1 [.int .i64 t.vars, .int .i64 t.den, vB, vF, vC], .blk g2 [.int .i64 0, .int .i64 0, .slice none 0 0, .slice none 0 0, .slice none 0 0], .own vq1 1 3 t.nb (ints t.B), .own vq2 1 3 t.nf (ints t.F), .blk g3 [.int .i64 0, .int .i64 0, .slice none 0 0, .slice none 0 0, .slice none 0 0], .own voq3 1 22 t.nc vwq3, .sem (Frame.rows 3 t.nc vwq3 t.ln t.C)] := hS.comp hS'; clear hS'
            have hrsq3 := fun k (k0 : 0 ≤ k) (k1 : k < t.nc) => hS.slhIn 6 rfl k0 k1
            refine ⟨⟨(fun _ => hS.sub (.cons_cons _ (.cons_cons _ (.cons _ (.cons _ (.cons _ (.cons _ (.cons _ .slnil)))))))), hS.sub (.cons_cons _ (.cons_cons _ (.cons _ (.cons _ (.cons _ (.cons _ (.cons _ .slnil)))))))⟩, fun hB => ?_⟩
            refine dr_val hF hcl hB 12 rfl (.free rfl) rfl rfl (by kernel_rfl) rfl (fun w => (ex_any (w' := w) (r := .value (.agg #[.int .i64 t.vars, .int .i64 ((t.C (row + 1)) (col + 1)), vq1, vq2, voq3])) (by intro _ _ h; cases h) rfl (by obtain ⟨_, _, _, _, rfl, _⟩ := hslq1; obtain ⟨_, _, _, _, rfl, _⟩ := hslq2; obtain ⟨_, _, _, _, rfl, _⟩ := hslq3; kernel_rfl))) ?_; clear hF a hcl hB; intro a hF hcl hB
            refine dr_effx hF hcl 14 rfl (.free rfl) rfl (by kernel_rfl) (st_blks 4 (ds := [.int .i64 t.vars, .int .i64 ((t.C (row + 1)) (col + 1)), vq1, vq2, voq3]) rfl st_43 hS rfl rfl rfl rfl (ones_cons rfl (ones_cons rfl (ones_cons hslq1.one (ones_cons hslq2.one (ones_cons hslq3.one ones_nil)))))) ?_; clear hS hB; rintro w hS hcl
            replace hS : Sat w0 w [.blk g1 [.int .i64 t.vars, .int .i64 t.den, vB, vF, vC], .blk g2 [.int .i64 0, .int .i64 0, .slice none 0 0, .slice none 0 0, .slice none 0 0], .own vq1 1 3 t.nb (ints t.B), .own vq2 1 3 t.nf (ints t.F), .blk g3 [.int .i64 t.vars, .int .i64 ((t.C (row + 1)) (col + 1)), vq1, vq2, voq3], .own voq3 1 22 t.nc vwq3, .sem (Frame.rows 3 t.nc vwq3 t.ln t.C)] := hS
            refine ⟨⟨(fun h => absurd h (by decide)), hS.sub (.cons_cons _ (.cons_cons _ (.cons _ (.cons _ (.cons _ (.cons _ (.cons _ .slnil)))))))⟩, fun hB => ?_⟩
            refine dr_done (by kernel_rfl) ?_; clear hcl hB
            refine then_normal ?_
            exact ⟨g3, vq1, vq2, voq3, vwq3, hslq1, hslq2, hslq3, hrsq3, (hF.pick (hF.pick (hF.pick (hF.pick (hF.pick (hF.pick (hF.pick (hF.pick (hF.pick (hF.pick (hF.pick (hF.pick (hF.pick (hF.pick (hF.pick (hF.pick (hF.pick (hF.pick (hF.pick (hF.pick (hF.pick (hF.pick (hF.pick (hF.pick (hF.pick (hF.pick (hF.pick (hF.pick (hF.pick (hF.pick (hF.pick (hF.pick (hF.pick (hF.pick (hF.pick (hF.pick (hF.pick (hF.pick (hF.pick (hF.pick (hF.pick (hF.pick (hF.pick (hF.pick (hF.pick (hF.pick (hF.pick (hF.pick (hF.pick (hF.pick (hF.pick (hF.pick (hF.pick (hF.pick (hF.pick (hF.pick (hF.pick (hF.pick (hF.pick (hF.pick (hF.pick (hF.pick (hF.pick (hF.pick (hF.pick (hF.pick (hF.pick (hF.pick (hF.pick (hF.pick (hF.pick (hF.pick (hF.pick (hF.pick (hF.pick (hF.pick hF.nil 12 rfl) 85 rfl) 84 rfl) 81 rfl) 78 rfl) 83 rfl) 82 rfl) 80 rfl) 79 rfl) 77 rfl) 76 rfl) 75 rfl) 74 rfl) 73 rfl) 11 rfl) 10 rfl) 72 rfl) 71 rfl) 70 rfl) 69 rfl) 68 rfl) 67 rfl) 66 rfl) 65 rfl) 64 rfl) 63 rfl) 9 rfl) 8 rfl) 62 rfl) 61 rfl) 60 rfl) 59 rfl) 57 rfl) 56 rfl) 55 rfl) 54 rfl) 53 rfl) 52 rfl) 51 rfl) 50 rfl) 49 rfl) 48 rfl) 47 rfl) 46 rfl) 45 rfl) 44 rfl) 43 rfl) 42 rfl) 41 rfl) 40 rfl) 39 rfl) 38 rfl) 37 rfl) 36 rfl) 35 rfl) 34 rfl) 33 rfl) 32 rfl) 31 rfl) 30 rfl) 29 rfl) 28 rfl) 27 rfl) 26 rfl) 25 rfl) 24 rfl) 23 rfl) 22 rfl) 21 rfl) 20 rfl) 7 rfl) 6 rfl) 3 rfl) 2 rfl) 1 rfl) 0 rfl), hS.perm (List.Perm.cons _ (List.Perm.cons _ (List.Perm.cons _ (List.Perm.cons _ (perm_step (l1 := [.blk g3 [.int .i64 t.vars, .int .i64 ((t.C (row + 1)) (col + 1)), vq1, vq2, voq3]]) (l2 := [.sem (Frame.rows 3 t.nc vwq3 t.ln t.C)]) (perm_step (l1 := [.blk g3 [.int .i64 t.vars, .int .i64 ((t.C (row + 1)) (col + 1)), vq1, vq2, voq3]]) (l2 := []) (List.Perm.refl _)))))))⟩
          ·
           refine fk_any hF 13 rfl (.free rfl) rfl rfl (ex_alloc (cs := [.int .i64 0, .int .i64 0, .slice none 0 0, .slice none 0 0, .slice none 0 0]) rfl el_43 hS rfl) ?_; clear hF hB; rintro _ w ⟨g3, rfl, hS⟩ a hF hcl
           replace hS : Sat w0 w [.blk g1 [.int .i64 t.vars, .int .i64 t.den, vB, vF, vC], .blk g2 [.int .i64 0, .int .i64 0, .slice none 0 0, .slice none 0 0, .slice none 0 0], .own vq1 1 3 t.nb (ints t.B), .blk g3 [.int .i64 0, .int .i64 0, .slice none 0 0, .slice none 0 0, .slice none 0 0]] := hS
           refine ⟨⟨(fun _ => hS.sub (.cons_cons _ (.cons_cons _ (.cons _ (.cons _ .slnil))))), hS.sub (.cons_cons _ (.cons_cons _ (.cons _ (.cons _ .slnil))))⟩, fun hB => ?_⟩
           refine dr_call hF hcl 8 rfl (.free rfl) rfl rfl (by kernel_rfl) (ex_call0 rfl rfl cl_48 (args_cons rfl args0)) (c_clone (n := t.nf) (f := t.F) w (hT.F.below hS.below) (by omega)) ?_; clear hF hB; rintro vq2 w ⟨_, rfl, hslq2, hS'⟩ a hF hcl
           replace hS : Sat w0 w [.blk g1 [.int .i64 t.vars, .int .i64 t.den, vB, vF, vC], .blk g2 [.int .i64 0, .int .i64 0, .slice none 0 0, .slice none 0 0, .slice none 0 0], .own vq1 1 3 t.nb (ints t.B), .blk g3 [.int .i64 0, .int .i64 0, .slice none 0 0, .slice none 0 0, .slice none 0 0], .own vq2 1 3 t.nf (ints t.F)] := hS.comp hS'; clear hS'
           refine ⟨⟨(fun _ => hS.sub (.cons_cons _ (.cons_cons _ (.cons _ (.cons _ (.cons _ .slnil)))))), hS.sub (.cons_cons _ (.cons_cons _ (.cons _ (.cons _ (.cons _ .slnil)))))⟩, fun hB => ?_⟩
           refine dr_call hF hcl 11 rfl (.free rfl) rfl rfl (by kernel_rfl) (ex_call0 rfl rfl cl_49 (args_cons rfl args0)) (c_cloned (n := t.nc) (vv := vv) (ln := t.ln) (f := t.C) w (hT.C.below hS.below) (by omega) (fun k k0 k1 => by have := hp.len (i := k) (by omega) (by omega); omega)) ?_; clear hF hB; rintro voq3 w ⟨_, vwq3, rfl, hslq3, hS'⟩ a hF hcl
           replace hS : Sat w0 w [.blk g1 [.int .i64 t.vars, .int .i64 t.den, vB, vF, vC], .blk g2 [.int .i64 0, .int .i64 0, .slice none 0 0, .slice none 0 0, .slice none 0 0], .own vq1 1 3 t.nb (ints t.B), .blk g3 [.int .i64 0, .int .i64 0, .slice none 0 0, .slice none 0 0, .slice none 0 0], .own vq2 1 3 t.nf (ints t.F), .own voq3 1 22 t.nc vwq3, .sem (Frame.rows 3 t.nc vwq3 t.ln t.C)] := hS.comp hS'; clear hS'
           have hrsq3 := fun k (k0 : 0 ≤ k) (k1 : k < t.nc) => hS.slhIn 6 rfl k0 k1
           refine ⟨⟨(fun _ => hS.sub (.cons_cons _ (.cons_cons _ (.cons _ (.cons _ (.cons _ (.cons _ (.cons _ .slnil)))))))), hS.sub (.cons_cons _ (.cons_cons _ (.cons _ (.cons _ (.cons _ (.cons _ (.cons _ .slnil)))))))⟩, fun hB => ?_⟩
           refine dr_val hF hcl hB 12 rfl (.free rfl) rfl rfl (by kernel_rfl) rfl (fun w => (ex_any (w' := w) (r := .value (.agg #[.int .i64 t.vars, .int .i64 ((t.C (row + 1)) (col + 1)), vq1, vq2, voq3])) (by intro _ _ h; cases h) rfl (by obtain ⟨_, _, _, _, rfl, _⟩ := hslq1; obtain ⟨_, _, _, _, rfl, _⟩ := hslq2; obtain ⟨_, _, _, _, rfl, _⟩ := hslq3; kernel_rfl))) ?_; clear hF a hcl hB; intro a hF hcl hB
           refine dr_effx hF hcl 14 rfl (.free rfl) rfl (by kernel_rfl) (st_blks 3 (ds := [.int .i64 t.vars, .int .i64 ((t.C (row + 1)) (col + 1)), vq1, vq2, voq3]) rfl st_43 hS rfl rfl rfl rfl (ones_cons rfl (ones_cons rfl (ones_cons hslq1.one (ones_cons hslq2.one (ones_cons hslq3.one ones_nil)))))) ?_; clear hS hB; rintro w hS hcl
           replace hS : Sat w0 w [.blk g1 [.int .i64 t.vars, .int .i64 t.den, vB, vF, vC], .blk g2 [.int .i64 0, .int .i64 0, .slice none 0 0, .slice none 0 0, .slice none 0 0], .own vq1 1 3 t.nb (ints t.B), .blk g3 [.int .i64 t.vars, .int .i64 ((t.C (row + 1)) (col + 1)), vq1, vq2, voq3], .own vq2 1 3 t.nf (ints t.F), .own voq3 1 22 t.nc vwq3, .sem (Frame.rows 3 t.nc vwq3 t.ln t.C)] := hS
           refine ⟨⟨(fun h => absurd h (by decide)), hS.sub (.cons_cons _ (.cons_cons _ (.cons _ (.cons _ (.cons _ (.cons _ (.cons _ .slnil)))))))⟩, fun hB => ?_⟩
           refine dr_done (by kernel_rfl) ?_; clear hcl hB
           refine then_normal ?_
           exact ⟨g3, vq1, vq2, voq3, vwq3, hslq1, hslq2, hslq3, hrsq3, (hF.pick (hF.pick (hF.pick (hF.pick (hF.pick (hF.pick (hF.pick (hF.pick (hF.pick (hF.pick (hF.pick (hF.pick (hF.pick (hF.pick (hF.pick (hF.pick (hF.pick (hF.pick (hF.pick (hF.pick (hF.pick (hF.pick (hF.pick (hF.pick (hF.pick (hF.pick (hF.pick (hF.pick (hF.pick (hF.pick (hF.pick (hF.pick (hF.pick (hF.pick (hF.pick (hF.pick (hF.pick (hF.pick (hF.pick (hF.pick (hF.pick (hF.pick (hF.pick (hF.pick (hF.pick (hF.pick (hF.pick (hF.pick (hF.pick (hF.pick (hF.pick (hF.pick (hF.pick (hF.pick (hF.pick (hF.pick (hF.pick (hF.pick (hF.pick (hF.pick (hF.pick (hF.pick (hF.pick (hF.pick (hF.pick (hF.pick (hF.pick (hF.pick (hF.pick (hF.pick (hF.pick (hF.pick (hF.pick (hF.pick (hF.pick (hF.pick hF.nil 12 rfl) 85 rfl) 84 rfl) 81 rfl) 78 rfl) 83 rfl) 82 rfl) 80 rfl) 79 rfl) 77 rfl) 76 rfl) 75 rfl) 74 rfl) 73 rfl) 11 rfl) 10 rfl) 72 rfl) 71 rfl) 70 rfl) 69 rfl) 68 rfl) 67 rfl) 66 rfl) 65 rfl) 64 rfl) 63 rfl) 9 rfl) 8 rfl) 62 rfl) 61 rfl) 60 rfl) 59 rfl) 57 rfl) 56 rfl) 55 rfl) 54 rfl) 53 rfl) 52 rfl) 51 rfl) 50 rfl) 49 rfl) 48 rfl) 47 rfl) 46 rfl) 45 rfl) 44 rfl) 43 rfl) 42 rfl) 41 rfl) 40 rfl) 39 rfl) 38 rfl) 37 rfl) 36 rfl) 35 rfl) 34 rfl) 33 rfl) 32 rfl) 31 rfl) 30 rfl) 29 rfl) 28 rfl) 27 rfl) 26 rfl) 25 rfl) 24 rfl) 23 rfl) 22 rfl) 21 rfl) 20 rfl) 7 rfl) 6 rfl) 3 rfl) 2 rfl) 1 rfl) 0 rfl), hS.perm (List.Perm.cons _ (List.Perm.cons _ (List.Perm.cons _ (perm_step (l1 := [.blk g3 [.int .i64 t.vars, .int .i64 ((t.C (row + 1)) (col + 1)), vq1, vq2, voq3]]) (l2 := [.own voq3 1 22 t.nc vwq3, .sem (Frame.rows 3 t.nc vwq3 t.ln t.C)]) (perm_step (l1 := [.blk g3 [.int .i64 t.vars, .int .i64 ((t.C (row + 1)) (col + 1)), vq1, vq2, voq3]]) (l2 := [.sem (Frame.rows 3 t.nc vwq3 t.ln t.C)]) (perm_step (l1 := [.blk g3 [.int .i64 t.vars, .int .i64 ((t.C (row + 1)) (col + 1)), vq1, vq2, voq3]]) (l2 := []) (List.Perm.refl _)))))))⟩
         ·
          refine fk_any hF 13 rfl (.free rfl) rfl rfl (ex_alloc (cs := [.int .i64 0, .int .i64 0, .slice none 0 0, .slice none 0 0, .slice none 0 0]) rfl el_43 hS rfl) ?_; clear hF hB; rintro _ w ⟨g3, rfl, hS⟩ a hF hcl
          replace hS : Sat w0 w [.blk g1 [.int .i64 t.vars, .int .i64 t.den, vB, vF, vC], .blk g2 [.int .i64 0, .int .i64 0, .slice none 0 0, .slice none 0 0, .slice none 0 0], .blk g3 [.int .i64 0, .int .i64 0, .slice none 0 0, .slice none 0 0, .slice none 0 0]] := hS
          refine ⟨⟨(fun _ => hS.sub (.cons_cons _ (.cons_cons _ (.cons _ .slnil)))), hS.sub (.cons_cons _ (.cons_cons _ (.cons _ .slnil)))⟩, fun hB => ?_⟩
          refine dr_call hF hcl 5 rfl (.free rfl) rfl rfl (by kernel_rfl) (ex_call0 rfl rfl cl_48 (args_cons rfl args0)) (c_clone (n := t.nb) (f := t.B) w (hT.B.below hS.below) (by omega)) ?_; clear hF hB; rintro vq1 w ⟨_, rfl, hslq1, hS'⟩ a hF hcl
          replace hS : Sat w0 w [.blk g1 [.int .i64 t.vars, .int .i64 t.den, vB, vF, vC], .blk g2 [.int .i64 0, .int .i64 0, .slice none 0 0, .slice none 0 0, .slice none 0 0], .blk g3 [.int .i64 0, .int .i64 0, .slice none 0 0, .slice none 0 0, .slice none 0 0], .own vq1 1 3 t.nb (ints t.B)] := hS.comp hS'; clear hS'
          refine ⟨⟨(fun _ => hS.sub (.cons_cons _ (.cons_cons _ (.cons _ (.cons _ .slnil))))), hS.sub (.cons_cons _ (.cons_cons _ (.cons _ (.cons _ .slnil))))⟩, fun hB => ?_⟩
          refine dr_call hF hcl 8 rfl (.free rfl) rfl rfl (by kernel_rfl) (ex_call0 rfl rfl cl_48 (args_cons rfl args0)) (c_clone (n := t.nf) (f := t.F) w (hT.F.below hS.below) (by omega)) ?_; clear hF hB; rintro vq2 w ⟨_, rfl, hslq2, hS'⟩ a hF hcl
          replace hS : Sat w0 w [.blk g1 [.int .i64 t.vars, .int .i64 t.den, vB, vF, vC], .blk g2 [.int .i64 0, .int .i64 0, .slice none 0 0, .slice none 0 0, .slice none 0 0], .blk g3 [.int .i64 0, .int .i64 0, .slice none 0 0, .slice none 0 0, .slice none 0 0], .own vq1 1 3 t.nb (ints t.B), .own vq2 1 3 t.nf (ints t.F)] := hS.comp hS'; clear hS'
          refine ⟨⟨(fun _ => hS.sub (.cons_cons _ (.cons_cons _ (.cons _ (.cons _ (.cons _ .slnil)))))), hS.sub (.cons_cons _ (.cons_cons _ (.cons _ (.cons _ (.cons _ .slnil)))))⟩, fun hB => ?_⟩
          refine dr_call hF hcl 11 rfl (.free rfl) rfl rfl (by kernel_rfl) (ex_call0 rfl rfl cl_49 (args_cons rfl args0)) (c_cloned (n := t.nc) (vv := vv) (ln := t.ln) (f := t.C) w (hT.C.below hS.below) (by omega) (fun k k0 k1 => by have := hp.len (i := k) (by omega) (by omega); omega)) ?_; clear hF hB; rintro voq3 w ⟨_, vwq3, rfl, hslq3, hS'⟩ a hF hcl
          replace hS : Sat w0 w [.blk g1 [.int .i64 t.vars, .int .i64 t.den, vB, vF, vC], .blk g2 [.int .i64 0, .int .i64 0, .slice none 0 0, .slice none 0 0, .slice none 0 0], .blk g3 [.int .i64 0, .int .i64 0, .slice none 0 0, .slice none 0 0, .slice none 0 0], .own vq1 1 3 t.nb (ints t.B), .own vq2 1 3 t.nf (ints t.F), .own voq3 1 22 t.nc vwq3, .sem (Frame.rows 3 t.nc vwq3 t.ln t.C)] := hS.comp hS'; clear hS'
          have hrsq3 := fun k (k0 : 0 ≤ k) (k1 : k < t.nc) => hS.slhIn 6 rfl k0 k1
          refine ⟨⟨(fun _ => hS.sub (.cons_cons _ (.cons_cons _ (.cons _ (.cons _ (.cons _ (.cons _ (.cons _ .slnil)))))))), hS.sub (.cons_cons _ (.cons_cons _ (.cons _ (.cons _ (.cons _ (.cons _ (.cons _ .slnil)))))))⟩, fun hB => ?_⟩
          refine dr_val hF hcl hB 12 rfl (.free rfl) rfl rfl (by kernel_rfl) rfl (fun w => (ex_any (w' := w) (r := .value (.agg #[.int .i64 t.vars, .int .i64 ((t.C (row + 1)) (col + 1)), vq1, vq2, voq3])) (by intro _ _ h; cases h) rfl (by obtain ⟨_, _, _, _, rfl, _⟩ := hslq1; obtain ⟨_, _, _, _, rfl, _⟩ := hslq2; obtain ⟨_, _, _, _, rfl, _⟩ := hslq3; kernel_rfl))) ?_; clear hF a hcl hB; intro a hF hcl hB
          refine dr_effx hF hcl 14 rfl (.free rfl) rfl (by kernel_rfl) (st_blks 2 (ds := [.int .i64 t.vars, .int .i64 ((t.C (row + 1)) (col + 1)), vq1, vq2, voq3]) rfl st_43 hS rfl rfl rfl rfl (ones_cons rfl (ones_cons rfl (ones_cons hslq1.one (ones_cons hslq2.one (ones_cons hslq3.one ones_nil)))))) ?_; clear hS hB; rintro w hS hcl
          replace hS : Sat w0 w [.blk g1 [.int .i64 t.vars, .int .i64 t.den, vB, vF, vC], .blk g2 [.int .i64 0, .int .i64 0, .slice none 0 0, .slice none 0 0, .slice none 0 0], .blk g3 [.int .i64 t.vars, .int .i64 ((t.C (row + 1)) (col + 1)), vq1, vq2, voq3], .own vq1 1 3 t.nb (ints t.B), .own vq2 1 3 t.nf (ints t.F), .own voq3 1 22 t.nc vwq3, .sem (Frame.rows 3 t.nc vwq3 t.ln t.C)] := hS
          refine ⟨⟨(fun h => absurd h (by decide)), hS.sub (.cons_cons _ (.cons_cons _ (.cons _ (.cons _ (.cons _ (.cons _ (.cons _ .slnil)))))))⟩, fun hB => ?_⟩
          refine dr_done (by kernel_rfl) ?_; clear hcl hB
          refine then_normal ?_
          exact ⟨g3, vq1, vq2, voq3, vwq3, hslq1, hslq2, hslq3, hrsq3, (hF.pick (hF.pick (hF.pick (hF.pick (hF.pick (hF.pick (hF.pick (hF.pick (hF.pick (hF.pick (hF.pick (hF.pick (hF.pick (hF.pick (hF.pick (hF.pick (hF.pick (hF.pick (hF.pick (hF.pick (hF.pick (hF.pick (hF.pick (hF.pick (hF.pick (hF.pick (hF.pick (hF.pick (hF.pick (hF.pick (hF.pick (hF.pick (hF.pick (hF.pick (hF.pick (hF.pick (hF.pick (hF.pick (hF.pick (hF.pick (hF.pick (hF.pick (hF.pick (hF.pick (hF.pick (hF.pick (hF.pick (hF.pick (hF.pick (hF.pick (hF.pick (hF.pick (hF.pick (hF.pick (hF.pick (hF.pick (hF.pick (hF.pick (hF.pick (hF.pick (hF.pick (hF.pick (hF.pick (hF.pick (hF.pick (hF.pick (hF.pick (hF.pick (hF.pick (hF.pick (hF.pick (hF.pick (hF.pick (hF.pick (hF.pick (hF.pick hF.nil 12 rfl) 85 rfl) 84 rfl) 81 rfl) 78 rfl) 83 rfl) 82 rfl) 80 rfl) 79 rfl) 77 rfl) 76 rfl) 75 rfl) 74 rfl) 73 rfl) 11 rfl) 10 rfl) 72 rfl) 71 rfl) 70 rfl) 69 rfl) 68 rfl) 67 rfl) 66 rfl) 65 rfl) 64 rfl) 63 rfl) 9 rfl) 8 rfl) 62 rfl) 61 rfl) 60 rfl) 59 rfl) 57 rfl) 56 rfl) 55 rfl) 54 rfl) 53 rfl) 52 rfl) 51 rfl) 50 rfl) 49 rfl) 48 rfl) 47 rfl) 46 rfl) 45 rfl) 44 rfl) 43 rfl) 42 rfl) 41 rfl) 40 rfl) 39 rfl) 38 rfl) 37 rfl) 36 rfl) 35 rfl) 34 rfl) 33 rfl) 32 rfl) 31 rfl) 30 rfl) 29 rfl) 28 rfl) 27 rfl) 26 rfl) 25 rfl) 24 rfl) 23 rfl) 22 rfl) 21 rfl) 20 rfl) 7 rfl) 6 rfl) 3 rfl) 2 rfl) 1 rfl) 0 rfl), hS.perm (List.Perm.cons _ (List.Perm.cons _ (perm_step (l1 := [.blk g3 [.int .i64 t.vars, .int .i64 ((t.C (row + 1)) (col + 1)), vq1, vq2, voq3]]) (l2 := [.own vq2 1 3 t.nf (ints t.F), .own voq3 1 22 t.nc vwq3, .sem (Frame.rows 3 t.nc vwq3 t.ln t.C)]) (perm_step (l1 := [.blk g3 [.int .i64 t.vars, .int .i64 ((t.C (row + 1)) (col + 1)), vq1, vq2, voq3]]) (l2 := [.own voq3 1 22 t.nc vwq3, .sem (Frame.rows 3 t.nc vwq3 t.ln t.C)]) (perm_step (l1 := [.blk g3 [.int .i64 t.vars, .int .i64 ((t.C (row + 1)) (col + 1)), vq1, vq2, voq3]]) (l2 := [.sem (Frame.rows 3 t.nc vwq3 t.ln t.C)]) (perm_step (l1 := [.blk g3 [.int .i64 t.vars, .int .i64 ((t.C (row + 1)) (col + 1)), vq1, vq2, voq3]]) (l2 := []) (List.Perm.refl _)))))))⟩
        ·
         clear hF hS a w; rintro a w ⟨g3, vq1, vq2, voq3, vwq3, hslq1, hslq2, hslq3, hrsq3, hF, hS⟩
         refine then_normal ?_
         refine cw_seq ?_
         refine dr_sat (m0 := [.blk g1 [.int .i64 t.vars, .int .i64 t.den, vB, vF, vC], .blk g2 [.int .i64 0, .int .i64 0, .slice none 0 0, .slice none 0 0, .slice none 0 0], .own vq1 1 3 t.nb (ints t.B), .own vq2 1 3 t.nf (ints t.F), .own voq3 1 22 t.nc vwq3, .sem (Frame.rows 3 t.nc vwq3 t.ln t.C), .blk g3 [.int .i64 t.vars, .int .i64 ((t.C (row + 1)) (col + 1)), vq1, vq2, voq3]]) (m1 := [.blk g1 [.int .i64 t.vars, .int .i64 t.den, vB, vF, vC], .blk g2 [.int .i64 0, .int .i64 0, .slice none 0 0, .slice none 0 0, .slice none 0 0], .own voq3 1 22 t.nc vwq3, .sem (Frame.rows 3 t.nc vwq3 t.ln t.C), .blk g3 [.int .i64 t.vars, .int .i64 ((t.C (row + 1)) (col + 1)), vq1, vq2, voq3]]) 17 mx_ hS (.cons_cons _ (.cons_cons _ (.cons_cons _ (.cons_cons _ (.cons_cons _ (.cons_cons _ (.cons_cons _ .slnil))))))) (.cons_cons _ (.cons_cons _ (.cons _ (.cons _ (.cons_cons _ (.cons_cons _ (.cons_cons _ .slnil))))))) rfl ?_; clear hS; intro w hS hcl hB
         refine dr_val hF hcl hB 0 rfl (.free rfl) rfl rfl (by kernel_rfl) rfl (fun w => (ex_field (b := ⟨g3, 2, none⟩) rfl fd_43_2 rfl rfl)) ?_; clear hF a hcl hB; intro a hF hcl hB
         refine dr_loadA hF hcl hB 1 rfl (.free rfl) rfl rfl (by kernel_rfl) rfl (fun w hS => (ex_load_blk 4 rfl pl_22 rfl hS rfl rfl)) ?_; clear hF a hcl hB; intro a hF hcl hB
         refine dr_val hF hcl hB 2 rfl (.free rfl) rfl rfl (by kernel_rfl) rfl (fun w => (ex_move rfl rfl)) ?_; clear hF a hcl hB; intro a hF hcl hB
         refine dr_val hF hcl hB 3 rfl (.free rfl) rfl rfl (by kernel_rfl) rfl (fun w => (ex_field (b := ⟨g3, 3, none⟩) rfl fd_43_3 rfl rfl)) ?_; clear hF a hcl hB; intro a hF hcl hB
         refine dr_loadA hF hcl hB 4 rfl (.free rfl) rfl rfl (by kernel_rfl) rfl (fun w hS => (ex_load_blk 4 rfl pl_22 rfl hS rfl rfl)) ?_; clear hF a hcl hB; intro a hF hcl hB
         refine dr_val hF hcl hB 5 rfl (.free rfl) rfl rfl (by kernel_rfl) rfl (fun w => (ex_move rfl rfl)) ?_; clear hF a hcl hB; intro a hF hcl hB
         refine dr_val hF hcl hB 6 rfl (.free rfl) rfl rfl (by kernel_rfl) rfl (fun w => (ex_field (b := ⟨g1, 3, none⟩) rfl fd_43_3 rfl rfl)) ?_; clear hF a hcl hB; intro a hF hcl hB
         refine dr_loadA hF hcl hB 7 rfl (.free rfl) rfl rfl (by kernel_rfl) rfl (fun w hS => (ex_load_blk 0 rfl pl_22 rfl hS rfl rfl)) ?_; clear hF a hcl hB; intro a hF hcl hB
         refine dr_val hF hcl hB 8 rfl (.free rfl) rfl rfl (by kernel_rfl) rfl (fun w => (ex_move rfl rfl)) ?_; clear hF a hcl hB; intro a hF hcl hB
         refine dr_val hF hcl hB 9 rfl (.free rfl) rfl rfl (by kernel_rfl) rfl (fun w => (ex_index (k := col) rfl sl_22 rfl rfl hT.F.slh (by omega) (by omega) (by omega))) ?_; clear hF a hcl hB; intro a hF hcl hB
         refine dr_loadA hF hcl hB 10 rfl (.free rfl) rfl rfl (by kernel_rfl) rfl (fun w hS => (ex_load_row (u := .int .i64 (t.F col)) rfl pl_3 rfl (hT.F.below hS.below) (by omega) (by omega) rfl)) ?_; clear hF a hcl hB; intro a hF hcl hB
         refine dr_val hF hcl hB 11 rfl (.free rfl) rfl rfl (by kernel_rfl) rfl (fun w => (ex_field (b := ⟨g1, 2, none⟩) rfl fd_43_2 rfl rfl)) ?_; clear hF a hcl hB; intro a hF hcl hB
         refine dr_loadA hF hcl hB 12 rfl (.free rfl) rfl rfl (by kernel_rfl) rfl (fun w hS => (ex_load_blk 0 rfl pl_22 rfl hS rfl rfl)) ?_; clear hF a hcl hB; intro a hF hcl hB
         refine dr_val hF hcl hB 13 rfl (.free rfl) rfl rfl (by kernel_rfl) rfl (fun w => (ex_move rfl rfl)) ?_; clear hF a hcl hB; intro a hF hcl hB
         refine dr_val hF hcl hB 14 rfl (.free rfl) rfl rfl (by kernel_rfl) rfl (fun w => (ex_index (k := row) rfl sl_22 rfl rfl hT.B.slh (by omega) (by omega) (by omega))) ?_; clear hF a hcl hB; intro a hF hcl hB
         refine dr_loadA hF hcl hB 15 rfl (.free rfl) rfl rfl (by kernel_rfl) rfl (fun w hS => (ex_load_row (u := .int .i64 (t.B row)) rfl pl_3 rfl (hT.B.below hS.below) (by omega) (by omega) rfl)) ?_; clear hF a hcl hB; intro a hF hcl hB
         refine dr_val hF hcl hB 16 rfl (.free rfl) rfl rfl (by kernel_rfl) rfl (fun w => (ex_index (k := row) rfl sl_22 rfl rfl hslq1 (by omega) (by omega) (by omega))) ?_; clear hF a hcl hB; intro a hF hcl hB
         refine dr_effx hF hcl 17 rfl (.free rfl) rfl (by kernel_rfl) (st_own 2 rfl pl_3 hS rfl rfl rfl rfl (by omega) (by omega) (upd_ints _ _ _)) ?_; clear hS hB; rintro w hS hcl
         replace hS : Sat w0 w [.blk g1 [.int .i64 t.vars, .int .i64 t.den, vB, vF, vC], .blk g2 [.int .i64 0, .int .i64 0, .slice none 0 0, .slice none 0 0, .slice none 0 0], .own vq1 1 3 t.nb (ints (upd t.B row (t.F col))), .own vq2 1 3 t.nf (ints t.F), .own voq3 1 22 t.nc vwq3, .sem (Frame.rows 3 t.nc vwq3 t.ln t.C), .blk g3 [.int .i64 t.vars, .int .i64 ((t.C (row + 1)) (col + 1)), vq1, vq2, voq3]] := hS
         refine ⟨⟨(fun h => absurd h (by decide)), hS.sub (.cons_cons _ (.cons_cons _ (.cons _ (.cons _ (.cons_cons _ (.cons_cons _ (.cons_cons _ .slnil)))))))⟩, fun hB => ?_⟩
         refine dr_val hF hcl hB 18 rfl (.free rfl) rfl rfl (by kernel_rfl) rfl (fun w => (ex_index (k := col) rfl sl_22 rfl rfl hslq2 (by omega) (by omega) (by omega))) ?_; clear hF a hcl hB; intro a hF hcl hB
         refine dr_effx hF hcl 19 rfl (.free rfl) rfl (by kernel_rfl) (st_own 3 rfl pl_3 hS rfl rfl rfl rfl (by omega) (by omega) (upd_ints _ _ _)) ?_; clear hS hB; rintro w hS hcl
         replace hS : Sat w0 w [.blk g1 [.int .i64 t.vars, .int .i64 t.den, vB, vF, vC], .blk g2 [.int .i64 0, .int .i64 0, .slice none 0 0, .slice none 0 0, .slice none 0 0], .own vq1 1 3 t.nb (ints (upd t.B row (t.F col))), .own vq2 1 3 t.nf (ints (upd t.F col (t.B row))), .own voq3 1 22 t.nc vwq3, .sem (Frame.rows 3 t.nc vwq3 t.ln t.C), .blk g3 [.int .i64 t.vars, .int .i64 ((t.C (row + 1)) (col + 1)), vq1, vq2, voq3]] := hS
         refine ⟨⟨(fun h => absurd h (by decide)), hS.sub (.cons_cons _ (.cons_cons _ (.cons _ (.cons _ (.cons_cons _ (.cons_cons _ (.cons_cons _ .slnil)))))))⟩, fun hB => ?_⟩
         refine dr_done (by kernel_rfl) ?_; clear hcl hB
         refine then_normal ?_
         refine cw_seq ?_
         refine cw_seq ?_
         refine wp_region_lit ?_
         refine ls_val hF (.free rfl) rfl rfl (ex_field (b := ⟨g1, 4, none⟩) rfl fd_43_4 rfl rfl) ?_; clear hF a; intro a hF
         refine ls_val hF (.free rfl) rfl rfl (ex_load_blk 0 rfl pl_23 rfl hS rfl rfl) ?_; clear hF a; intro a hF
         refine ls_val hF (.free rfl) rfl rfl (ex_len rfl sl_23 rfl hT.C.row.slh) ?_; clear hF a; intro a hF
         refine ls_val hF (.free rfl) rfl rfl (ex_move rfl rfl) ?_; clear hF a; intro a hF
         refine ls_nil ?_
         refine then_normal ?_
         refine wp_block ?_
         refine cw_loop (fun mm a w => ∃ (cf : Int → Int → Int) (i : Int), mm = ((t.nc - i).toNat) ∧ (0 ≤ i) ∧ (i ≤ t.nc) ∧ (∀ a b, 0 ≤ a → a < i → 0 ≤ b → b ≤ t.nf → cf a b = pcell t (row + 1) (col + 1) a b) ∧ (∀ a b, 0 ≤ a → a < i → 0 ≤ b → b ≤ t.nf → divs t (row + 1) (col + 1) a b) ∧ Fr a 206 [(3, .pointer (some ⟨g1, 0, none⟩)), (6, .pointer (some ⟨g2, 0, none⟩)), (8, .int .i64 (row + 1)), (9, .int .i64 (col + 1)), (10, .int .i64 ((t.C (row + 1)) (col + 1))), (11, .int .i64 t.den), (12, .pointer (some ⟨g3, 0, none⟩)), (105, vC), (106, .int .i64 t.nc), (107, .int .i64 i)] ∧ Sat w0 w [.blk g1 [.int .i64 t.vars, .int .i64 t.den, vB, vF, vC], .blk g2 [.int .i64 0, .int .i64 0, .slice none 0 0, .slice none 0 0, .slice none 0 0], .own vq1 1 3 t.nb (ints (upd t.B row (t.F col))), .own vq2 1 3 t.nf (ints (upd t.F col (t.B row))), .own voq3 1 22 t.nc vwq3, .sem (Frame.rows 3 t.nc vwq3 t.ln cf), .blk g3 [.int .i64 t.vars, .int .i64 ((t.C (row + 1)) (col + 1)), vq1, vq2, voq3]]) ?_ ?_ (m := ((t.nc - 0).toNat))
         ·
          refine ⟨t.C, 0, rfl, (by omega), (by omega), ?_, ?_, (hF.pick (hF.pick (hF.pick (hF.pick (hF.pick (hF.pick (hF.pick (hF.pick (hF.pick (hF.pick hF.nil 107 rfl) 106 rfl) 105 rfl) 12 rfl) 11 rfl) 10 rfl) 9 rfl) 8 rfl) 6 rfl) 3 rfl), hS⟩
          ·
           intro a b a0 a1; omega
          ·
           intro a b a0 a1; omega
         ·
          clear hF hS a w
          rintro mm a w ⟨cf, i, rfl, h0, h1, hcf, hdv, hF, hS⟩
          refine cw_seq ?_
          refine wp_region_lit ?_
          refine ls_val hF (.free rfl) rfl rfl (ex_lss rfl rfl rfl) ?_; clear hF a; intro a hF
          refine ls_nil ?_
          refine then_normal ?_
          refine cw_seq ?_
          refine cw_if hF rfl (fun hc => ?_) (fun hc => ?_)
          ·
           refine wp_skip ?_
           refine then_normal ?_
           refine cw_seq ?_
           refine wp_block ?_
           refine cw_seq ?_
           refine wp_region_lit ?_
           refine ls_val hF (.free rfl) rfl rfl (ex_move rfl rfl) ?_; clear hF a; intro a hF
           refine ls_val hF (.free rfl) rfl rfl (ex_index (k := i) rfl sl_23 rfl rfl hT.C.row.slh (by omega) (by omega) (by omega)) ?_; clear hF a; intro a hF
           refine ls_val hF (.free rfl) rfl rfl (ex_load_row (u := (vv i)) rfl pl_22 rfl (hT.C.row.below hS.below) (by omega) (by omega) rfl) ?_; clear hF a; intro a hF
           have hli := hp.len (i := i) (by omega) (by omega)
           refine ls_val hF (.free rfl) rfl rfl (ex_assign rfl rfl) ?_; clear hF a; intro a hF
           refine ls_val hF (.free rfl) rfl rfl (ex_assign rfl rfl) ?_; clear hF a; intro a hF
           refine ls_nil ?_
           refine then_normal ?_
           refine cw_seq ?_
           refine wp_region_lit ?_
           refine ls_val hF (.free rfl) rfl rfl (ex_move rfl rfl) ?_; clear hF a; intro a hF
           refine ls_val hF (.free rfl) rfl rfl (ex_len rfl sl_22 rfl (hT.C.p i (by omega) (by omega)).slh) ?_; clear hF a; intro a hF
           refine ls_val hF (.free rfl) rfl rfl (ex_move rfl rfl) ?_; clear hF a; intro a hF
           refine ls_nil ?_
           refine then_normal ?_
           refine wp_block ?_
           refine cw_loop (fun mm a w => ∃ (cf : Int → Int → Int) (j : Int), mm = ((t.nf + 1 - j).toNat) ∧ (0 ≤ j) ∧ (j ≤ t.nf + 1) ∧ (∀ a b, 0 ≤ a → a < i → 0 ≤ b → b ≤ t.nf → cf a b = pcell t (row + 1) (col + 1) a b) ∧ (∀ b, 0 ≤ b → b < j → cf i b = pcell t (row + 1) (col + 1) i b) ∧ (∀ b, 0 ≤ b → b < j → divs t (row + 1) (col + 1) i b) ∧ Fr a 206 [(3, .pointer (some ⟨g1, 0, none⟩)), (6, .pointer (some ⟨g2, 0, none⟩)), (8, .int .i64 (row + 1)), (9, .int .i64 (col + 1)), (10, .int .i64 ((t.C (row + 1)) (col + 1))), (11, .int .i64 t.den), (12, .pointer (some ⟨g3, 0, none⟩)), (13, .int .i64 i), (14, (vv i)), (105, vC), (106, .int .i64 t.nc), (107, .int .i64 i), (112, (vv i)), (113, .int .i64 (t.ln i)), (114, .int .i64 j)] ∧ Sat w0 w [.blk g1 [.int .i64 t.vars, .int .i64 t.den, vB, vF, vC], .blk g2 [.int .i64 0, .int .i64 0, .slice none 0 0, .slice none 0 0, .slice none 0 0], .own vq1 1 3 t.nb (ints (upd t.B row (t.F col))), .own vq2 1 3 t.nf (ints (upd t.F col (t.B row))), .own voq3 1 22 t.nc vwq3, .sem (Frame.rows 3 t.nc vwq3 t.ln cf), .blk g3 [.int .i64 t.vars, .int .i64 ((t.C (row + 1)) (col + 1)), vq1, vq2, voq3]]) ?_ ?_ (m := ((t.nf + 1 - 0).toNat))
           ·
            refine ⟨cf, 0, rfl, (by omega), (by omega), ?_, ?_, ?_, (hF.pick (hF.pick (hF.pick (hF.pick (hF.pick (hF.pick (hF.pick (hF.pick (hF.pick (hF.pick (hF.pick (hF.pick (hF.pick (hF.pick (hF.pick hF.nil 114 rfl) 113 rfl) 112 rfl) 107 rfl) 106 rfl) 105 rfl) 14 rfl) 13 rfl) 12 rfl) 11 rfl) 10 rfl) 9 rfl) 8 rfl) 6 rfl) 3 rfl), hS⟩
            ·
             exact hcf
            ·
             intro b b0 b1; omega
            ·
             intro b b0 b1; omega
           ·
            clear hF hS a w
            rintro mm a w ⟨cf, j, rfl, j0, j1, hold, hrow, hdr, hF, hS⟩
            refine cw_seq ?_
            refine wp_region_lit ?_
            refine ls_val hF (.free rfl) rfl rfl (ex_lss rfl rfl rfl) ?_; clear hF a; intro a hF
            refine ls_nil ?_
            refine then_normal ?_
            refine cw_seq ?_
            refine cw_if hF rfl (fun hc => ?_) (fun hc => ?_)
            ·
             refine wp_skip ?_
             refine then_normal ?_
             refine cw_seq ?_
             refine wp_block ?_
             refine cw_seq ?_
             refine wp_region_lit ?_
             refine ls_val hF (.free rfl) rfl rfl (ex_move rfl rfl) ?_; clear hF a; intro a hF
             refine ls_val hF (.free rfl) rfl rfl (ex_index (k := j) rfl sl_22 rfl rfl (hT.C.p i (by omega) (by omega)).slh (by omega) (by omega) (by omega)) ?_; clear hF a; intro a hF
             refine ls_val hF (.free rfl) rfl rfl (ex_load_row (u := .int .i64 ((t.C i) j)) rfl pl_3 rfl ((hT.C.p i (by omega) (by omega)).below hS.below) (by omega) (by omega) rfl) ?_; clear hF a; intro a hF
             have hcb := hp.cell (i := i) (j := j) (by omega) (by omega) (by omega) (by omega)
             refine ls_val hF (.free rfl) rfl rfl (ex_assign rfl rfl) ?_; clear hF a; intro a hF
             refine ls_val hF (.free rfl) rfl rfl (ex_assign rfl rfl) ?_; clear hF a; intro a hF
             refine ls_nil ?_
             refine then_normal ?_
             refine cw_seq ?_
             refine wp_block ?_
             refine cw_seq ?_
             refine wp_region_lit ?_
             refine ls_val hF (.free rfl) rfl rfl (ex_move rfl rfl) ?_; clear hF a; intro a hF
             refine ls_val hF (.free rfl) rfl rfl (ex_move rfl rfl) ?_; clear hF a; intro a hF
             refine ls_val hF (.free rfl) rfl rfl (ex_eql rfl rfl rfl) ?_; clear hF a; intro a hF
             refine ls_val hF (.free rfl) rfl rfl (ex_move rfl rfl) ?_; clear hF a; intro a hF
             refine by_slot hF (d := 123) rfl ?_ ?_ <;> clear hF <;> intro hc hF
             ·
              refine ls_val hF (.on rfl rfl rfl rfl rfl) rfl rfl (ex_move rfl rfl) ?_; clear hF a; intro a hF
              refine ls_val hF (.on rfl rfl rfl rfl rfl) rfl rfl (ex_move rfl rfl) ?_; clear hF a; intro a hF
              refine ls_val hF (.on rfl rfl rfl rfl rfl) rfl rfl (ex_eql rfl rfl rfl) ?_; clear hF a; intro a hF
              refine ls_val hF (.free rfl) rfl rfl (ex_pick_t rfl rfl rfl) ?_; clear hF a; intro a hF
              refine ls_val hF (.free rfl) rfl rfl (ex_assign rfl rfl) ?_; clear hF a; intro a hF
              refine ls_nil ?_
              refine then_normal ?_
              refine cw_if hF rfl (fun hc => ?_) (fun hc => ?_)
              ·
               refine wp_region_lit ?_
               refine ls_val hF (.free rfl) rfl rfl (ex_move rfl rfl) ?_; clear hF a; intro a hF
               refine ls_val hF (.free rfl) rfl rfl (ex_assign rfl rfl) ?_; clear hF a; intro a hF
               refine ls_nil ?_
               refine inb_normal ?_
               refine then_normal ?_
               refine wp_region_lit ?_
               refine ls_val hF (.free rfl) rfl rfl (ex_field (b := ⟨g3, 4, none⟩) rfl fd_43_4 rfl rfl) ?_; clear hF a; intro a hF
               refine ls_val hF (.free rfl) rfl rfl (ex_load_blk 6 rfl pl_23 rfl hS rfl rfl) ?_; clear hF a; intro a hF
               refine ls_val hF (.free rfl) rfl rfl (ex_move rfl rfl) ?_; clear hF a; intro a hF
               refine ls_val hF (.free rfl) rfl rfl (ex_index (k := i) rfl sl_23 rfl rfl hslq3 (by omega) (by omega) (by omega)) ?_; clear hF a; intro a hF
               refine ls_val hF (.free rfl) rfl rfl (ex_load_row (u := (vwq3 i)) rfl pl_22 rfl (hS.rowN 4 rfl) (by omega) (by omega) rfl) ?_; clear hF a; intro a hF
               skip
               refine ls_val hF (.free rfl) rfl rfl (ex_move rfl rfl) ?_; clear hF a; intro a hF
               refine ls_val hF (.free rfl) rfl rfl (ex_move rfl rfl) ?_; clear hF a; intro a hF
               refine ls_val hF (.free rfl) rfl rfl (ex_index (k := j) rfl sl_22 rfl rfl (hrsq3 i (by omega) (by omega)) (by omega) (by omega) (by omega)) ?_; clear hF a; intro a hF
               refine ls_effx hF (.free rfl) rfl (st_rows 5 rfl pl_3 hS rfl rfl rfl (by omega) (by omega) (by omega) (by omega) rfl) ?_; clear hS; rintro w hS
               replace hS : Sat w0 w [.blk g1 [.int .i64 t.vars, .int .i64 t.den, vB, vF, vC], .blk g2 [.int .i64 0, .int .i64 0, .slice none 0 0, .slice none 0 0, .slice none 0 0], .own vq1 1 3 t.nb (ints (upd t.B row (t.F col))), .own vq2 1 3 t.nf (ints (upd t.F col (t.B row))), .own voq3 1 22 t.nc vwq3, .sem (Frame.rows 3 t.nc vwq3 t.ln (upd cf i (upd (cf i) j t.den))), .blk g3 [.int .i64 t.vars, .int .i64 ((t.C (row + 1)) (col + 1)), vq1, vq2, voq3]] := hS
               refine ls_nil ?_
               refine inb_normal ?_
               refine then_normal ?_
               refine wp_region_lit ?_
               refine ls_val hF (.free rfl) rfl rfl (ex_add (r := j + 1) rfl rfl rfl (by omega) (by unfold I64; omega)) ?_; clear hF a; intro a hF
               refine ls_val hF (.free rfl) rfl rfl (ex_move rfl rfl) ?_; clear hF a; intro a hF
               refine ls_nil ?_
               refine then_normal ?_
               refine ⟨_, (by omega), upd cf i (upd (cf i) j t.den), j + 1, rfl, (by omega), (by omega), ?_, ?_, ?_, (hF.pick (hF.pick (hF.pick (hF.pick (hF.pick (hF.pick (hF.pick (hF.pick (hF.pick (hF.pick (hF.pick (hF.pick (hF.pick (hF.pick (hF.pick hF.nil 114 rfl) 113 rfl) 112 rfl) 107 rfl) 106 rfl) 105 rfl) 14 rfl) 13 rfl) 12 rfl) 11 rfl) 10 rfl) 9 rfl) 8 rfl) 6 rfl) 3 rfl), hS⟩
               ·
                intro a b a0 a1 b0 b1; rw [gu_ne (by omega)]; exact hold a b a0 a1 b0 b1
               ·
                intro b b0 b1
                by_cases e : b = j
                · subst e; rw [gu_self, gu_self]; unfold pcell; (repeat' split) <;> first | rfl | omega | (exfalso; omega)
                · rw [gu_self, gu_ne e]; exact hrow b b0 (by omega)
               ·
                intro b b0 b1
                by_cases e : b = j
                · subst e; intro e1 e2; first | omega | exact Classical.not_not.1 ‹_›
                · exact hdr b b0 (by omega)
              ·
               refine cw_seq ?_
               refine wp_region_lit ?_
               refine ls_val hF (.free rfl) rfl rfl (ex_move rfl rfl) ?_; clear hF a; intro a hF
               refine ls_val hF (.free rfl) rfl rfl (ex_move rfl rfl) ?_; clear hF a; intro a hF
               refine ls_val hF (.free rfl) rfl rfl (known_t (ex_eql rfl rfl rfl) (by omega)) ?_; clear hF a; intro a hF
               refine ls_val hF (.free rfl) rfl rfl (ex_assign rfl rfl) ?_; clear hF a; intro a hF
               refine ls_nil ?_
               refine then_normal ?_
               refine cw_t hF rfl ?_
               refine wp_region_lit ?_
               refine ls_val hF (.free rfl) rfl rfl (ex_move rfl rfl) ?_; clear hF a; intro a hF
               refine ls_val hF (.free rfl) rfl rfl (ex_neg (r := -(((t.C i) j))) rfl rfl (by omega) (by unfold I64; omega)) ?_; clear hF a; intro a hF
               refine ls_val hF (.free rfl) rfl rfl (ex_assign rfl rfl) ?_; clear hF a; intro a hF
               refine ls_nil ?_
               refine inb_normal ?_
               refine then_normal ?_
               refine wp_region_lit ?_
               refine ls_val hF (.free rfl) rfl rfl (ex_field (b := ⟨g3, 4, none⟩) rfl fd_43_4 rfl rfl) ?_; clear hF a; intro a hF
               refine ls_val hF (.free rfl) rfl rfl (ex_load_blk 6 rfl pl_23 rfl hS rfl rfl) ?_; clear hF a; intro a hF
               refine ls_val hF (.free rfl) rfl rfl (ex_move rfl rfl) ?_; clear hF a; intro a hF
               refine ls_val hF (.free rfl) rfl rfl (ex_index (k := i) rfl sl_23 rfl rfl hslq3 (by omega) (by omega) (by omega)) ?_; clear hF a; intro a hF
               refine ls_val hF (.free rfl) rfl rfl (ex_load_row (u := (vwq3 i)) rfl pl_22 rfl (hS.rowN 4 rfl) (by omega) (by omega) rfl) ?_; clear hF a; intro a hF
               skip
               refine ls_val hF (.free rfl) rfl rfl (ex_move rfl rfl) ?_; clear hF a; intro a hF
               refine ls_val hF (.free rfl) rfl rfl (ex_move rfl rfl) ?_; clear hF a; intro a hF
               refine ls_val hF (.free rfl) rfl rfl (ex_index (k := j) rfl sl_22 rfl rfl (hrsq3 i (by omega) (by omega)) (by omega) (by omega) (by omega)) ?_; clear hF a; intro a hF
               refine ls_effx hF (.free rfl) rfl (st_rows 5 rfl pl_3 hS rfl rfl rfl (by omega) (by omega) (by omega) (by omega) rfl) ?_; clear hS; rintro w hS
               replace hS : Sat w0 w [.blk g1 [.int .i64 t.vars, .int .i64 t.den, vB, vF, vC], .blk g2 [.int .i64 0, .int .i64 0, .slice none 0 0, .slice none 0 0, .slice none 0 0], .own vq1 1 3 t.nb (ints (upd t.B row (t.F col))), .own vq2 1 3 t.nf (ints (upd t.F col (t.B row))), .own voq3 1 22 t.nc vwq3, .sem (Frame.rows 3 t.nc vwq3 t.ln (upd cf i (upd (cf i) j (-(((t.C i) j)))))), .blk g3 [.int .i64 t.vars, .int .i64 ((t.C (row + 1)) (col + 1)), vq1, vq2, voq3]] := hS
               refine ls_nil ?_
               refine inb_normal ?_
               refine then_normal ?_
               refine wp_region_lit ?_
               refine ls_val hF (.free rfl) rfl rfl (ex_add (r := j + 1) rfl rfl rfl (by omega) (by unfold I64; omega)) ?_; clear hF a; intro a hF
               refine ls_val hF (.free rfl) rfl rfl (ex_move rfl rfl) ?_; clear hF a; intro a hF
               refine ls_nil ?_
               refine then_normal ?_
               refine ⟨_, (by omega), upd cf i (upd (cf i) j (-(((t.C i) j)))), j + 1, rfl, (by omega), (by omega), ?_, ?_, ?_, (hF.pick (hF.pick (hF.pick (hF.pick (hF.pick (hF.pick (hF.pick (hF.pick (hF.pick (hF.pick (hF.pick (hF.pick (hF.pick (hF.pick (hF.pick hF.nil 114 rfl) 113 rfl) 112 rfl) 107 rfl) 106 rfl) 105 rfl) 14 rfl) 13 rfl) 12 rfl) 11 rfl) 10 rfl) 9 rfl) 8 rfl) 6 rfl) 3 rfl), hS⟩
               ·
                intro a b a0 a1 b0 b1; rw [gu_ne (by omega)]; exact hold a b a0 a1 b0 b1
               ·
                intro b b0 b1
                by_cases e : b = j
                · subst e; rw [gu_self, gu_self]; unfold pcell; (repeat' split) <;> first | rfl | omega | (exfalso; omega)
                · rw [gu_self, gu_ne e]; exact hrow b b0 (by omega)
               ·
                intro b b0 b1
                by_cases e : b = j
                · subst e; intro e1 e2; first | omega | exact Classical.not_not.1 ‹_›
                · exact hdr b b0 (by omega)
             ·
              refine ls_off hF (.on rfl rfl rfl rfl rfl) rfl rfl ?_; clear hF a; intro a hF
              refine ls_off hF (.on rfl rfl rfl rfl rfl) rfl rfl ?_; clear hF a; intro a hF
              refine ls_off hF (.on rfl rfl rfl rfl rfl) rfl rfl ?_; clear hF a; intro a hF
              refine ls_val hF (.free rfl) rfl rfl (ex_pick_f rfl rfl rfl) ?_; clear hF a; intro a hF
              refine ls_val hF (.free rfl) rfl rfl (ex_assign rfl rfl) ?_; clear hF a; intro a hF
              refine ls_nil ?_
              refine then_normal ?_
              refine cw_f hF rfl ?_
              refine cw_seq ?_
              refine wp_region_lit ?_
              refine ls_val hF (.free rfl) rfl rfl (ex_move rfl rfl) ?_; clear hF a; intro a hF
              refine ls_val hF (.free rfl) rfl rfl (ex_move rfl rfl) ?_; clear hF a; intro a hF
              refine ls_val hF (.free rfl) rfl rfl (ex_eql rfl rfl rfl) ?_; clear hF a; intro a hF
              refine ls_val hF (.free rfl) rfl rfl (ex_assign rfl rfl) ?_; clear hF a; intro a hF
              refine ls_nil ?_
              refine then_normal ?_
              refine cw_if hF rfl (fun hc => ?_) (fun hc => ?_)
              ·
               refine wp_region_lit ?_
               refine ls_val hF (.free rfl) rfl rfl (ex_move rfl rfl) ?_; clear hF a; intro a hF
               refine ls_val hF (.free rfl) rfl rfl (ex_neg (r := -(((t.C i) j))) rfl rfl (by omega) (by unfold I64; omega)) ?_; clear hF a; intro a hF
               refine ls_val hF (.free rfl) rfl rfl (ex_assign rfl rfl) ?_; clear hF a; intro a hF
               refine ls_nil ?_
               refine inb_normal ?_
               refine then_normal ?_
               refine wp_region_lit ?_
               refine ls_val hF (.free rfl) rfl rfl (ex_field (b := ⟨g3, 4, none⟩) rfl fd_43_4 rfl rfl) ?_; clear hF a; intro a hF
               refine ls_val hF (.free rfl) rfl rfl (ex_load_blk 6 rfl pl_23 rfl hS rfl rfl) ?_; clear hF a; intro a hF
               refine ls_val hF (.free rfl) rfl rfl (ex_move rfl rfl) ?_; clear hF a; intro a hF
               refine ls_val hF (.free rfl) rfl rfl (ex_index (k := i) rfl sl_23 rfl rfl hslq3 (by omega) (by omega) (by omega)) ?_; clear hF a; intro a hF
               refine ls_val hF (.free rfl) rfl rfl (ex_load_row (u := (vwq3 i)) rfl pl_22 rfl (hS.rowN 4 rfl) (by omega) (by omega) rfl) ?_; clear hF a; intro a hF
               skip
               refine ls_val hF (.free rfl) rfl rfl (ex_move rfl rfl) ?_; clear hF a; intro a hF
               refine ls_val hF (.free rfl) rfl rfl (ex_move rfl rfl) ?_; clear hF a; intro a hF
               refine ls_val hF (.free rfl) rfl rfl (ex_index (k := j) rfl sl_22 rfl rfl (hrsq3 i (by omega) (by omega)) (by omega) (by omega) (by omega)) ?_; clear hF a; intro a hF
               refine ls_effx hF (.free rfl) rfl (st_rows 5 rfl pl_3 hS rfl rfl rfl (by omega) (by omega) (by omega) (by omega) rfl) ?_; clear hS; rintro w hS
               replace hS : Sat w0 w [.blk g1 [.int .i64 t.vars, .int .i64 t.den, vB, vF, vC], .blk g2 [.int .i64 0, .int .i64 0, .slice none 0 0, .slice none 0 0, .slice none 0 0], .own vq1 1 3 t.nb (ints (upd t.B row (t.F col))), .own vq2 1 3 t.nf (ints (upd t.F col (t.B row))), .own voq3 1 22 t.nc vwq3, .sem (Frame.rows 3 t.nc vwq3 t.ln (upd cf i (upd (cf i) j (-(((t.C i) j)))))), .blk g3 [.int .i64 t.vars, .int .i64 ((t.C (row + 1)) (col + 1)), vq1, vq2, voq3]] := hS
               refine ls_nil ?_
               refine inb_normal ?_
               refine then_normal ?_
               refine wp_region_lit ?_
               refine ls_val hF (.free rfl) rfl rfl (ex_add (r := j + 1) rfl rfl rfl (by omega) (by unfold I64; omega)) ?_; clear hF a; intro a hF
               refine ls_val hF (.free rfl) rfl rfl (ex_move rfl rfl) ?_; clear hF a; intro a hF
               refine ls_nil ?_
               refine then_normal ?_
               refine ⟨_, (by omega), upd cf i (upd (cf i) j (-(((t.C i) j)))), j + 1, rfl, (by omega), (by omega), ?_, ?_, ?_, (hF.pick (hF.pick (hF.pick (hF.pick (hF.pick (hF.pick (hF.pick (hF.pick (hF.pick (hF.pick (hF.pick (hF.pick (hF.pick (hF.pick (hF.pick hF.nil 114 rfl) 113 rfl) 112 rfl) 107 rfl) 106 rfl) 105 rfl) 14 rfl) 13 rfl) 12 rfl) 11 rfl) 10 rfl) 9 rfl) 8 rfl) 6 rfl) 3 rfl), hS⟩
               ·
                intro a b a0 a1 b0 b1; rw [gu_ne (by omega)]; exact hold a b a0 a1 b0 b1
               ·
                intro b b0 b1
                by_cases e : b = j
                · subst e; rw [gu_self, gu_self]; unfold pcell; (repeat' split) <;> first | rfl | omega | (exfalso; omega)
                · rw [gu_self, gu_ne e]; exact hrow b b0 (by omega)
               ·
                intro b b0 b1
                by_cases e : b = j
                · subst e; intro e1 e2; first | omega | exact Classical.not_not.1 ‹_›
                · exact hdr b b0 (by omega)
              ·
               refine cw_seq ?_
               refine wp_region_lit ?_
               refine ls_val hF (.free rfl) rfl rfl (ex_move rfl rfl) ?_; clear hF a; intro a hF
               refine ls_val hF (.free rfl) rfl rfl (ex_move rfl rfl) ?_; clear hF a; intro a hF
               refine ls_val hF (.free rfl) rfl rfl (ex_neq rfl rfl rfl) ?_; clear hF a; intro a hF
               refine ls_val hF (.free rfl) rfl rfl (ex_assign rfl rfl) ?_; clear hF a; intro a hF
               refine ls_nil ?_
               refine then_normal ?_
               refine cw_if hF rfl (fun hc => ?_) (fun hc => ?_)
               ·
                refine cw_seq ?_
                refine dr_sat (m0 := [.blk g1 [.int .i64 t.vars, .int .i64 t.den, vB, vF, vC], .blk g2 [.int .i64 0, .int .i64 0, .slice none 0 0, .slice none 0 0, .slice none 0 0], .own vq1 1 3 t.nb (ints (upd t.B row (t.F col))), .own vq2 1 3 t.nf (ints (upd t.F col (t.B row))), .own voq3 1 22 t.nc vwq3, .sem (Frame.rows 3 t.nc vwq3 t.ln cf), .blk g3 [.int .i64 t.vars, .int .i64 ((t.C (row + 1)) (col + 1)), vq1, vq2, voq3]]) (m1 := [.blk g1 [.int .i64 t.vars, .int .i64 t.den, vB, vF, vC], .blk g2 [.int .i64 0, .int .i64 0, .slice none 0 0, .slice none 0 0, .slice none 0 0], .own vq1 1 3 t.nb (ints (upd t.B row (t.F col))), .own vq2 1 3 t.nf (ints (upd t.F col (t.B row))), .own voq3 1 22 t.nc vwq3, .sem (Frame.rows 3 t.nc vwq3 t.ln cf), .blk g3 [.int .i64 t.vars, .int .i64 ((t.C (row + 1)) (col + 1)), vq1, vq2, voq3]]) 1000 mx_ hS (.cons_cons _ (.cons_cons _ (.cons_cons _ (.cons_cons _ (.cons_cons _ (.cons_cons _ (.cons_cons _ .slnil))))))) (.cons_cons _ (.cons_cons _ (.cons_cons _ (.cons_cons _ (.cons_cons _ (.cons_cons _ (.cons_cons _ .slnil))))))) rfl ?_; clear hS; intro w hS hcl hB
                refine dr_val hF hcl hB 0 rfl (.free rfl) rfl rfl (by kernel_rfl) rfl (fun w => (ex_move rfl rfl)) ?_; clear hF a hcl hB; intro a hF hcl hB
                have hm1 := mul_abs hpb hcb; have hm2 := mul_abs (hp.cell (i := i) (j := col + 1) (by omega) (by omega) (by omega) (by omega)) (hp.cell (i := row + 1) (j := j) (by omega) (by omega) (by omega) (by omega))
                have hqd := tdiv_abs (a := t.C (row + 1) (col + 1) * t.C i j - t.C i (col + 1) * t.C (row + 1) j) (d := t.den) (A := 2305843009213693952) (by omega) (by omega)
                refine dr_val hF hcl hB 1 rfl (.free rfl) rfl rfl (by kernel_rfl) rfl (fun w => (ex_move rfl rfl)) ?_; clear hF a hcl hB; intro a hF hcl hB
                refine dr_val hF hcl hB 2 rfl (.free rfl) rfl rfl (by kernel_rfl) rfl (fun w => (ex_mul (r := (((t.C (row + 1)) (col + 1)) * ((t.C i) j))) rfl rfl rfl rfl (by unfold I64; omega))) ?_; clear hF a hcl hB; intro a hF hcl hB
                refine dr_val hF hcl hB 3 rfl (.free rfl) rfl rfl (by kernel_rfl) rfl (fun w => (ex_move rfl rfl)) ?_; clear hF a hcl hB; intro a hF hcl hB
                refine dr_val hF hcl hB 4 rfl (.free rfl) rfl rfl (by kernel_rfl) rfl (fun w => (ex_move rfl rfl)) ?_; clear hF a hcl hB; intro a hF hcl hB
                refine dr_val hF hcl hB 5 rfl (.free rfl) rfl rfl (by kernel_rfl) rfl (fun w => (ex_index (k := col + 1) rfl sl_22 rfl rfl (hT.C.p i (by omega) (by omega)).slh (by omega) (by omega) (by omega))) ?_; clear hF a hcl hB; intro a hF hcl hB
                refine dr_loadA hF hcl hB 6 rfl (.free rfl) rfl rfl (by kernel_rfl) rfl (fun w hS => (ex_load_row (u := .int .i64 ((t.C i) (col + 1))) rfl pl_3 rfl ((hT.C.p i (by omega) (by omega)).below hS.below) (by omega) (by omega) rfl)) ?_; clear hF a hcl hB; intro a hF hcl hB
                refine dr_val hF hcl hB 7 rfl (.free rfl) rfl rfl (by kernel_rfl) rfl (fun w => (ex_field (b := ⟨g1, 4, none⟩) rfl fd_43_4 rfl rfl)) ?_; clear hF a hcl hB; intro a hF hcl hB
                refine dr_loadA hF hcl hB 8 rfl (.free rfl) rfl rfl (by kernel_rfl) rfl (fun w hS => (ex_load_blk 0 rfl pl_23 rfl hS rfl rfl)) ?_; clear hF a hcl hB; intro a hF hcl hB
                refine dr_val hF hcl hB 9 rfl (.free rfl) rfl rfl (by kernel_rfl) rfl (fun w => (ex_move rfl rfl)) ?_; clear hF a hcl hB; intro a hF hcl hB
                refine dr_val hF hcl hB 10 rfl (.free rfl) rfl rfl (by kernel_rfl) rfl (fun w => (ex_index (k := row + 1) rfl sl_23 rfl rfl hT.C.row.slh (by omega) (by omega) (by omega))) ?_; clear hF a hcl hB; intro a hF hcl hB
                refine dr_loadA hF hcl hB 11 rfl (.free rfl) rfl rfl (by kernel_rfl) rfl (fun w hS => (ex_load_row (u := (vv (row + 1))) rfl pl_22 rfl (hT.C.row.below hS.below) (by omega) (by omega) rfl)) ?_; clear hF a hcl hB; intro a hF hcl hB
                refine dr_val hF hcl hB 12 rfl (.free rfl) rfl rfl (by kernel_rfl) rfl (fun w => (ex_move rfl rfl)) ?_; clear hF a hcl hB; intro a hF hcl hB
                refine dr_val hF hcl hB 13 rfl (.free rfl) rfl rfl (by kernel_rfl) rfl (fun w => (ex_index (k := j) rfl sl_22 rfl rfl (hT.C.p (row + 1) (by omega) (by omega)).slh (by omega) (by omega) (by omega))) ?_; clear hF a hcl hB; intro a hF hcl hB
                refine dr_loadA hF hcl hB 14 rfl (.free rfl) rfl rfl (by kernel_rfl) rfl (fun w hS => (ex_load_row (u := .int .i64 ((t.C (row + 1)) j)) rfl pl_3 rfl ((hT.C.p (row + 1) (by omega) (by omega)).below hS.below) (by omega) (by omega) rfl)) ?_; clear hF a hcl hB; intro a hF hcl hB
                refine dr_val hF hcl hB 15 rfl (.free rfl) rfl rfl (by kernel_rfl) rfl (fun w => (ex_mul (r := (((t.C i) (col + 1)) * ((t.C (row + 1)) j))) rfl rfl rfl rfl (by unfold I64; omega))) ?_; clear hF a hcl hB; intro a hF hcl hB
                refine dr_val hF hcl hB 16 rfl (.free rfl) rfl rfl (by kernel_rfl) rfl (fun w => (ex_sub (r := (((t.C (row + 1)) (col + 1)) * ((t.C i) j)) - (((t.C i) (col + 1)) * ((t.C (row + 1)) j))) rfl rfl rfl (by omega) (by unfold I64; omega))) ?_; clear hF a hcl hB; intro a hF hcl hB
                refine dr_val hF hcl hB 17 rfl (.free rfl) rfl rfl (by kernel_rfl) rfl (fun w => (ex_assign rfl rfl)) ?_; clear hF a hcl hB; intro a hF hcl hB
                refine dr_done (by kernel_rfl) ?_; clear hcl hB
                refine then_normal ?_
                refine cw_seq ?_
                refine cw_seq ?_
                refine wp_region_lit ?_
                refine ls_val hF (.free rfl) rfl rfl (ex_move rfl rfl) ?_; clear hF a; intro a hF
                refine ls_val hF (.free rfl) rfl rfl (ex_move rfl rfl) ?_; clear hF a; intro a hF
                refine ls_val hF (.free rfl) rfl rfl (ex_rem (r := (Int.tmod ((((t.C (row + 1)) (col + 1)) * ((t.C i) j)) - (((t.C i) (col + 1)) * ((t.C (row + 1)) j))) t.den)) rfl rfl rfl (by omega) rfl) ?_; clear hF a; intro a hF
                refine ls_val hF (.free rfl) rfl rfl (ex_neq rfl rfl rfl) ?_; clear hF a; intro a hF
                refine ls_nil ?_
                refine then_normal ?_
                refine cw_if hF rfl (fun hc => ?_) (fun hc => ?_)
                ·
                 refine cw_seq ?_
                 refine wp_region_lit ?_
                 refine ls_val hF (.free rfl) rfl rfl (ex_any (w' := w) (r := .value (.agg #[.int .i64 0, .int .i64 0, .slice none 0 0, .slice none 0 0, .slice none 0 0])) (by intro _ _ h; cases h) rfl (by kernel_rfl)) ?_; clear hF a; intro a hF
                 refine ls_effx hF (.free rfl) rfl (st_blks 1 (ds := [.int .i64 0, .int .i64 0, .slice none 0 0, .slice none 0 0, .slice none 0 0]) rfl st_43 hS rfl rfl rfl rfl (ones_cons rfl (ones_cons rfl (ones_cons rfl (ones_cons rfl (ones_cons rfl ones_nil)))))) ?_; clear hS; rintro w hS
                 replace hS : Sat w0 w [.blk g1 [.int .i64 t.vars, .int .i64 t.den, vB, vF, vC], .blk g2 [.int .i64 0, .int .i64 0, .slice none 0 0, .slice none 0 0, .slice none 0 0], .own vq1 1 3 t.nb (ints (upd t.B row (t.F col))), .own vq2 1 3 t.nf (ints (upd t.F col (t.B row))), .own voq3 1 22 t.nc vwq3, .sem (Frame.rows 3 t.nc vwq3 t.ln cf), .blk g3 [.int .i64 t.vars, .int .i64 ((t.C (row + 1)) (col + 1)), vq1, vq2, voq3]] := hS
                 refine ls_val hF (.free rfl) rfl rfl (ex_assign rfl rfl) ?_; clear hF a; intro a hF
                 refine ls_nil ?_
                 refine then_normal ?_
                 refine wp_ret ?_
                 refine then_ret (inb_ret (then_ret (inb_ret (then_ret (then_ret (inb_ret (inb_ret (then_ret (then_ret (inb_ret (then_ret ((fin_ct 1 hF rfl rfl rfl st_43 hS rfl rfl ⟨_, rfl, ?_⟩)))))))))))))
                 exact ⟨_, _, _, fun _ => undef, Tb.zero, 4, rfl, .inr (.inl ⟨⟨hp, by omega, by omega, by omega, by omega, hnz⟩, fun hd => by have := hd i j h0 (by omega) j0 (by omega) (by omega) (by omega); omega, rfl, rfl⟩), slh_nil, slh_nil, slh_nil, ((((hS.sub (.cons _ (.cons _ (.cons _ (.cons _ (.cons _ (.cons _ (.cons _ .slnil)))))))).addnil 1 3 (ints Tb.zero.B)).addnil 1 3 (ints Tb.zero.F)).addnil 1 22 (fun _ => undef)).addrows 3 (fun _ => undef) Tb.zero.ln Tb.zero.C⟩
                ·
                 refine wp_skip ?_
                 refine then_normal ?_
                 refine wp_region_lit ?_
                 refine ls_val hF (.free rfl) rfl rfl (ex_move rfl rfl) ?_; clear hF a; intro a hF
                 refine ls_val hF (.free rfl) rfl rfl (ex_move rfl rfl) ?_; clear hF a; intro a hF
                 refine ls_val hF (.free rfl) rfl rfl (ex_quo (r := (Int.tdiv ((((t.C (row + 1)) (col + 1)) * ((t.C i) j)) - (((t.C i) (col + 1)) * ((t.C (row + 1)) j))) t.den)) rfl rfl rfl (by omega) rfl (by unfold I64; omega)) ?_; clear hF a; intro a hF
                 refine ls_val hF (.free rfl) rfl rfl (ex_assign rfl rfl) ?_; clear hF a; intro a hF
                 refine ls_nil ?_
                 refine inb_normal ?_
                 refine then_normal ?_
                 refine wp_region_lit ?_
                 refine ls_val hF (.free rfl) rfl rfl (ex_field (b := ⟨g3, 4, none⟩) rfl fd_43_4 rfl rfl) ?_; clear hF a; intro a hF
                 refine ls_val hF (.free rfl) rfl rfl (ex_load_blk 6 rfl pl_23 rfl hS rfl rfl) ?_; clear hF a; intro a hF
                 refine ls_val hF (.free rfl) rfl rfl (ex_move rfl rfl) ?_; clear hF a; intro a hF
                 refine ls_val hF (.free rfl) rfl rfl (ex_index (k := i) rfl sl_23 rfl rfl hslq3 (by omega) (by omega) (by omega)) ?_; clear hF a; intro a hF
                 refine ls_val hF (.free rfl) rfl rfl (ex_load_row (u := (vwq3 i)) rfl pl_22 rfl (hS.rowN 4 rfl) (by omega) (by omega) rfl) ?_; clear hF a; intro a hF
                 skip
                 refine ls_val hF (.free rfl) rfl rfl (ex_move rfl rfl) ?_; clear hF a; intro a hF
                 refine ls_val hF (.free rfl) rfl rfl (ex_move rfl rfl) ?_; clear hF a; intro a hF
                 refine ls_val hF (.free rfl) rfl rfl (ex_index (k := j) rfl sl_22 rfl rfl (hrsq3 i (by omega) (by omega)) (by omega) (by omega) (by omega)) ?_; clear hF a; intro a hF
                 refine ls_effx hF (.free rfl) rfl (st_rows 5 rfl pl_3 hS rfl rfl rfl (by omega) (by omega) (by omega) (by omega) rfl) ?_; clear hS; rintro w hS
                 replace hS : Sat w0 w [.blk g1 [.int .i64 t.vars, .int .i64 t.den, vB, vF, vC], .blk g2 [.int .i64 0, .int .i64 0, .slice none 0 0, .slice none 0 0, .slice none 0 0], .own vq1 1 3 t.nb (ints (upd t.B row (t.F col))), .own vq2 1 3 t.nf (ints (upd t.F col (t.B row))), .own voq3 1 22 t.nc vwq3, .sem (Frame.rows 3 t.nc vwq3 t.ln (upd cf i (upd (cf i) j (Int.tdiv ((((t.C (row + 1)) (col + 1)) * ((t.C i) j)) - (((t.C i) (col + 1)) * ((t.C (row + 1)) j))) t.den)))), .blk g3 [.int .i64 t.vars, .int .i64 ((t.C (row + 1)) (col + 1)), vq1, vq2, voq3]] := hS
                 refine ls_nil ?_
                 refine inb_normal ?_
                 refine then_normal ?_
                 refine wp_region_lit ?_
                 refine ls_val hF (.free rfl) rfl rfl (ex_add (r := j + 1) rfl rfl rfl (by omega) (by unfold I64; omega)) ?_; clear hF a; intro a hF
                 refine ls_val hF (.free rfl) rfl rfl (ex_move rfl rfl) ?_; clear hF a; intro a hF
                 refine ls_nil ?_
                 refine then_normal ?_
                 refine ⟨_, (by omega), upd cf i (upd (cf i) j (Int.tdiv ((((t.C (row + 1)) (col + 1)) * ((t.C i) j)) - (((t.C i) (col + 1)) * ((t.C (row + 1)) j))) t.den)), j + 1, rfl, (by omega), (by omega), ?_, ?_, ?_, (hF.pick (hF.pick (hF.pick (hF.pick (hF.pick (hF.pick (hF.pick (hF.pick (hF.pick (hF.pick (hF.pick (hF.pick (hF.pick (hF.pick (hF.pick hF.nil 114 rfl) 113 rfl) 112 rfl) 107 rfl) 106 rfl) 105 rfl) 14 rfl) 13 rfl) 12 rfl) 11 rfl) 10 rfl) 9 rfl) 8 rfl) 6 rfl) 3 rfl), hS⟩
                 ·
                  intro a b a0 a1 b0 b1; rw [gu_ne (by omega)]; exact hold a b a0 a1 b0 b1
                 ·
                  intro b b0 b1
                  by_cases e : b = j
                  · subst e; rw [gu_self, gu_self]; unfold pcell; (repeat' split) <;> first | rfl | omega | (exfalso; omega)
                  · rw [gu_self, gu_ne e]; exact hrow b b0 (by omega)
                 ·
                  intro b b0 b1
                  by_cases e : b = j
                  · subst e; intro e1 e2; first | omega | exact Classical.not_not.1 ‹_›
                  · exact hdr b b0 (by omega)
               ·
                refine wp_skip ?_
                refine inb_normal ?_
                refine then_normal ?_
                refine wp_region_lit ?_
                refine ls_val hF (.free rfl) rfl rfl (ex_field (b := ⟨g3, 4, none⟩) rfl fd_43_4 rfl rfl) ?_; clear hF a; intro a hF
                refine ls_val hF (.free rfl) rfl rfl (ex_load_blk 6 rfl pl_23 rfl hS rfl rfl) ?_; clear hF a; intro a hF
                refine ls_val hF (.free rfl) rfl rfl (ex_move rfl rfl) ?_; clear hF a; intro a hF
                refine ls_val hF (.free rfl) rfl rfl (ex_index (k := i) rfl sl_23 rfl rfl hslq3 (by omega) (by omega) (by omega)) ?_; clear hF a; intro a hF
                refine ls_val hF (.free rfl) rfl rfl (ex_load_row (u := (vwq3 i)) rfl pl_22 rfl (hS.rowN 4 rfl) (by omega) (by omega) rfl) ?_; clear hF a; intro a hF
                skip
                refine ls_val hF (.free rfl) rfl rfl (ex_move rfl rfl) ?_; clear hF a; intro a hF
                refine ls_val hF (.free rfl) rfl rfl (ex_move rfl rfl) ?_; clear hF a; intro a hF
                refine ls_val hF (.free rfl) rfl rfl (ex_index (k := j) rfl sl_22 rfl rfl (hrsq3 i (by omega) (by omega)) (by omega) (by omega) (by omega)) ?_; clear hF a; intro a hF
                refine ls_effx hF (.free rfl) rfl (st_rows 5 rfl pl_3 hS rfl rfl rfl (by omega) (by omega) (by omega) (by omega) rfl) ?_; clear hS; rintro w hS
                replace hS : Sat w0 w [.blk g1 [.int .i64 t.vars, .int .i64 t.den, vB, vF, vC], .blk g2 [.int .i64 0, .int .i64 0, .slice none 0 0, .slice none 0 0, .slice none 0 0], .own vq1 1 3 t.nb (ints (upd t.B row (t.F col))), .own vq2 1 3 t.nf (ints (upd t.F col (t.B row))), .own voq3 1 22 t.nc vwq3, .sem (Frame.rows 3 t.nc vwq3 t.ln (upd cf i (upd (cf i) j ((t.C i) j)))), .blk g3 [.int .i64 t.vars, .int .i64 ((t.C (row + 1)) (col + 1)), vq1, vq2, voq3]] := hS
                refine ls_nil ?_
                refine inb_normal ?_
                refine then_normal ?_
                refine wp_region_lit ?_
                refine ls_val hF (.free rfl) rfl rfl (ex_add (r := j + 1) rfl rfl rfl (by omega) (by unfold I64; omega)) ?_; clear hF a; intro a hF
                refine ls_val hF (.free rfl) rfl rfl (ex_move rfl rfl) ?_; clear hF a; intro a hF
                refine ls_nil ?_
                refine then_normal ?_
                refine ⟨_, (by omega), upd cf i (upd (cf i) j ((t.C i) j)), j + 1, rfl, (by omega), (by omega), ?_, ?_, ?_, (hF.pick (hF.pick (hF.pick (hF.pick (hF.pick (hF.pick (hF.pick (hF.pick (hF.pick (hF.pick (hF.pick (hF.pick (hF.pick (hF.pick (hF.pick hF.nil 114 rfl) 113 rfl) 112 rfl) 107 rfl) 106 rfl) 105 rfl) 14 rfl) 13 rfl) 12 rfl) 11 rfl) 10 rfl) 9 rfl) 8 rfl) 6 rfl) 3 rfl), hS⟩
                ·
                 intro a b a0 a1 b0 b1; rw [gu_ne (by omega)]; exact hold a b a0 a1 b0 b1
                ·
                 intro b b0 b1
                 by_cases e : b = j
                 · subst e; rw [gu_self, gu_self]; unfold pcell; (repeat' split) <;> first | rfl | omega | (exfalso; omega)
                 · rw [gu_self, gu_ne e]; exact hrow b b0 (by omega)
                ·
                 intro b b0 b1
                 by_cases e : b = j
                 · subst e; intro e1 e2; first | omega | exact Classical.not_not.1 ‹_›
                 · exact hdr b b0 (by omega)
            ·
             refine wp_exit ?_
             refine then_exit ?_
             refine then_exit ?_
             refine inb_hit ?_
             refine inb_normal ?_
             refine then_normal ?_
             refine wp_region_lit ?_
             refine ls_val hF (.free rfl) rfl rfl (ex_add (r := i + 1) rfl rfl rfl (by omega) (by unfold I64; omega)) ?_; clear hF a; intro a hF
             refine ls_val hF (.free rfl) rfl rfl (ex_move rfl rfl) ?_; clear hF a; intro a hF
             refine ls_nil ?_
             refine then_normal ?_
             refine ⟨_, (by omega), cf, i + 1, rfl, (by omega), (by omega), ?_, ?_, (hF.pick (hF.pick (hF.pick (hF.pick (hF.pick (hF.pick (hF.pick (hF.pick (hF.pick (hF.pick hF.nil 107 rfl) 106 rfl) 105 rfl) 12 rfl) 11 rfl) 10 rfl) 9 rfl) 8 rfl) 6 rfl) 3 rfl), hS⟩
             ·
              intro a b a0 a1 b0 b1
              by_cases e : a = i
              · subst e; exact hrow b b0 (by omega)
              · exact hold a b a0 (by omega) b0 b1
             ·
              intro a b a0 a1 b0 b1
              by_cases e : a = i
              · subst e; exact hdr b b0 (by omega)
              · exact hdv a b a0 (by omega) b0 b1
          ·
           refine wp_exit ?_
           refine then_exit ?_
           refine then_exit ?_
           refine inb_hit ?_
           refine then_normal ?_
           refine cw_seq ?_
           refine cw_seq ?_
           refine wp_region_lit ?_
           refine ls_val hF (.free rfl) rfl rfl (ex_move rfl rfl) ?_; clear hF a; intro a hF
           have hin : i = t.nc := by omega
           have hdv' : pdiv t row col := fun a b a0 a1 b0 b1 => hdv a b a0 (by omega) b0 b1
           refine ls_val hF (.free rfl) rfl rfl (ex_lss rfl rfl rfl) ?_; clear hF a; intro a hF
           refine ls_nil ?_
           refine then_normal ?_
           refine cw_if hF rfl (fun hc => ?_) (fun hc => ?_)
           ·
            refine cw_seq ?_
            refine wp_region_lit ?_
            refine ls_val hF (.free rfl) rfl rfl (ex_move rfl rfl) ?_; clear hF a; intro a hF
            refine ls_val hF (.free rfl) rfl rfl (ex_neg (r := -(((t.C (row + 1)) (col + 1)))) rfl rfl (by omega) (by unfold I64; omega)) ?_; clear hF a; intro a hF
            refine ls_val hF (.free rfl) rfl rfl (ex_field (b := ⟨g3, 1, none⟩) rfl fd_43_1 rfl rfl) ?_; clear hF a; intro a hF
            refine ls_effx hF (.free rfl) rfl (st_blk 6 rfl pl_3 hS rfl rfl rfl rfl rfl) ?_; clear hS; rintro w hS
            replace hS : Sat w0 w [.blk g1 [.int .i64 t.vars, .int .i64 t.den, vB, vF, vC], .blk g2 [.int .i64 0, .int .i64 0, .slice none 0 0, .slice none 0 0, .slice none 0 0], .own vq1 1 3 t.nb (ints (upd t.B row (t.F col))), .own vq2 1 3 t.nf (ints (upd t.F col (t.B row))), .own voq3 1 22 t.nc vwq3, .sem (Frame.rows 3 t.nc vwq3 t.ln cf), .blk g3 [.int .i64 t.vars, .int .i64 (-(((t.C (row + 1)) (col + 1)))), vq1, vq2, voq3]] := hS
            refine ls_nil ?_
            refine then_normal ?_
            refine cw_seq ?_
            refine wp_region_lit ?_
            refine ls_val hF (.free rfl) rfl rfl (ex_field (b := ⟨g3, 4, none⟩) rfl fd_43_4 rfl rfl) ?_; clear hF a; intro a hF
            refine ls_val hF (.free rfl) rfl rfl (ex_load_blk 6 rfl pl_23 rfl hS rfl rfl) ?_; clear hF a; intro a hF
            refine ls_val hF (.free rfl) rfl rfl (ex_len rfl sl_23 rfl hslq3) ?_; clear hF a; intro a hF
            refine ls_val hF (.free rfl) rfl rfl (ex_move rfl rfl) ?_; clear hF a; intro a hF
            refine ls_nil ?_
            refine then_normal ?_
            refine wp_block ?_
            refine cw_loop (fun mm a w => ∃ (cf : Int → Int → Int) (k : Int), mm = ((t.nc - k).toNat) ∧ (0 ≤ k) ∧ (k ≤ t.nc) ∧ (∀ a b, 0 ≤ a → a < k → 0 ≤ b → b ≤ t.nf → cf a b = -pcell t (row + 1) (col + 1) a b) ∧ (∀ a b, k ≤ a → a < t.nc → 0 ≤ b → b ≤ t.nf → cf a b = pcell t (row + 1) (col + 1) a b) ∧ Fr a 206 [(6, .pointer (some ⟨g2, 0, none⟩)), (12, .pointer (some ⟨g3, 0, none⟩)), (180, voq3), (181, .int .i64 t.nc), (182, .int .i64 k)] ∧ Sat w0 w [.blk g1 [.int .i64 t.vars, .int .i64 t.den, vB, vF, vC], .blk g2 [.int .i64 0, .int .i64 0, .slice none 0 0, .slice none 0 0, .slice none 0 0], .own vq1 1 3 t.nb (ints (upd t.B row (t.F col))), .own vq2 1 3 t.nf (ints (upd t.F col (t.B row))), .own voq3 1 22 t.nc vwq3, .sem (Frame.rows 3 t.nc vwq3 t.ln cf), .blk g3 [.int .i64 t.vars, .int .i64 (-(((t.C (row + 1)) (col + 1)))), vq1, vq2, voq3]]) ?_ ?_ (m := ((t.nc - 0).toNat))
            ·
             refine ⟨cf, 0, rfl, (by omega), (by omega), ?_, ?_, (hF.pick (hF.pick (hF.pick (hF.pick (hF.pick hF.nil 182 rfl) 181 rfl) 180 rfl) 12 rfl) 6 rfl), hS⟩
             ·
              intro a b a0 a1; omega
             ·
              intro a b a0 a1 b0 b1; exact hcf a b (by omega) (by omega) b0 b1
            ·
             clear hF hS a w
             rintro mm a w ⟨cf, k, rfl, k0, k1, hng, hps, hF, hS⟩
             refine cw_seq ?_
             refine wp_region_lit ?_
             refine ls_val hF (.free rfl) rfl rfl (ex_lss rfl rfl rfl) ?_; clear hF a; intro a hF
             refine ls_nil ?_
             refine then_normal ?_
             refine cw_seq ?_
             refine cw_if hF rfl (fun hc => ?_) (fun hc => ?_)
             ·
              refine wp_skip ?_
              refine then_normal ?_
              refine cw_seq ?_
              refine wp_block ?_
              refine cw_seq ?_
              refine wp_region_lit ?_
              refine ls_val hF (.free rfl) rfl rfl (ex_index (k := k) rfl sl_23 rfl rfl hslq3 (by omega) (by omega) (by omega)) ?_; clear hF a; intro a hF
              refine ls_val hF (.free rfl) rfl rfl (ex_load_row (u := (vwq3 k)) rfl pl_22 rfl (hS.rowN 4 rfl) (by omega) (by omega) rfl) ?_; clear hF a; intro a hF
              have hlk := hp.len (i := k) (by omega) (by omega)
              refine ls_val hF (.free rfl) rfl rfl (ex_assign rfl rfl) ?_; clear hF a; intro a hF
              refine ls_nil ?_
              refine then_normal ?_
              refine cw_seq ?_
              refine wp_region_lit ?_
              refine ls_val hF (.free rfl) rfl rfl (ex_move rfl rfl) ?_; clear hF a; intro a hF
              refine ls_val hF (.free rfl) rfl rfl (ex_len rfl sl_22 rfl (hrsq3 k (by omega) (by omega))) ?_; clear hF a; intro a hF
              refine ls_val hF (.free rfl) rfl rfl (ex_move rfl rfl) ?_; clear hF a; intro a hF
              refine ls_nil ?_
              refine then_normal ?_
              refine wp_block ?_
              refine cw_loop (fun mm a w => ∃ (cf : Int → Int → Int) (q : Int), mm = ((t.nf + 1 - q).toNat) ∧ (0 ≤ q) ∧ (q ≤ t.nf + 1) ∧ (∀ a b, 0 ≤ a → a < k → 0 ≤ b → b ≤ t.nf → cf a b = -pcell t (row + 1) (col + 1) a b) ∧ (∀ a b, k + 1 ≤ a → a < t.nc → 0 ≤ b → b ≤ t.nf → cf a b = pcell t (row + 1) (col + 1) a b) ∧ (∀ b, 0 ≤ b → b < q → cf k b = -pcell t (row + 1) (col + 1) k b) ∧ (∀ b, q ≤ b → b ≤ t.nf → cf k b = pcell t (row + 1) (col + 1) k b) ∧ Fr a 206 [(6, .pointer (some ⟨g2, 0, none⟩)), (12, .pointer (some ⟨g3, 0, none⟩)), (18, (vwq3 k)), (180, voq3), (181, .int .i64 t.nc), (182, .int .i64 k), (187, .int .i64 (t.ln k)), (188, .int .i64 q)] ∧ Sat w0 w [.blk g1 [.int .i64 t.vars, .int .i64 t.den, vB, vF, vC], .blk g2 [.int .i64 0, .int .i64 0, .slice none 0 0, .slice none 0 0, .slice none 0 0], .own vq1 1 3 t.nb (ints (upd t.B row (t.F col))), .own vq2 1 3 t.nf (ints (upd t.F col (t.B row))), .own voq3 1 22 t.nc vwq3, .sem (Frame.rows 3 t.nc vwq3 t.ln cf), .blk g3 [.int .i64 t.vars, .int .i64 (-(((t.C (row + 1)) (col + 1)))), vq1, vq2, voq3]]) ?_ ?_ (m := ((t.nf + 1 - 0).toNat))
              ·
               refine ⟨cf, 0, rfl, (by omega), (by omega), ?_, ?_, ?_, ?_, (hF.pick (hF.pick (hF.pick (hF.pick (hF.pick (hF.pick (hF.pick (hF.pick hF.nil 188 rfl) 187 rfl) 182 rfl) 181 rfl) 180 rfl) 18 rfl) 12 rfl) 6 rfl), hS⟩
               ·
                exact hng
               ·
                intro a b a0 a1 b0 b1; exact hps a b (by omega) a1 b0 b1
               ·
                intro b b0 b1; omega
               ·
                intro b b0 b1; exact hps k b (Int.le_refl _) (by omega) (by omega) b1
              ·
               clear hF hS a w
               rintro mm a w ⟨cf, q, rfl, q0, q1, hng, hps, hng3, hng2, hF, hS⟩
               refine cw_seq ?_
               refine wp_region_lit ?_
               refine ls_val hF (.free rfl) rfl rfl (ex_lss rfl rfl rfl) ?_; clear hF a; intro a hF
               refine ls_nil ?_
               refine then_normal ?_
               refine cw_seq ?_
               refine cw_if hF rfl (fun hc => ?_) (fun hc => ?_)
               ·
                refine wp_skip ?_
                refine then_normal ?_
                refine cw_seq ?_
                refine wp_block ?_
                refine cw_seq ?_
                refine wp_region_lit ?_
                refine ls_val hF (.free rfl) rfl rfl (ex_move rfl rfl) ?_; clear hF a; intro a hF
                refine ls_val hF (.free rfl) rfl rfl (ex_assign rfl rfl) ?_; clear hF a; intro a hF
                refine ls_nil ?_
                refine then_normal ?_
                refine wp_region_lit ?_
                refine ls_val hF (.free rfl) rfl rfl (ex_move rfl rfl) ?_; clear hF a; intro a hF
                refine ls_val hF (.free rfl) rfl rfl (ex_move rfl rfl) ?_; clear hF a; intro a hF
                refine ls_val hF (.free rfl) rfl rfl (ex_move rfl rfl) ?_; clear hF a; intro a hF
                refine ls_val hF (.free rfl) rfl rfl (ex_move rfl rfl) ?_; clear hF a; intro a hF
                refine ls_val hF (.free rfl) rfl rfl (ex_index (k := q) rfl sl_22 rfl rfl (hrsq3 k (by omega) (by omega)) (by omega) (by omega) (by omega)) ?_; clear hF a; intro a hF
                refine ls_val hF (.free rfl) rfl rfl (ex_load_row (u := .int .i64 (cf k q)) rfl pl_3 rfl (hS.rowIn 5 rfl (by omega) (by omega)) (by omega) (by omega) rfl) ?_; clear hF a; intro a hF
                have hng1 := hng2 q (Int.le_refl _) (by omega)
                have hpc : -9223372036854775807 ≤ cf k q ∧ cf k q ≤ 9223372036854775807 := by rw [hng1]; exact pcell_bd hp (by omega) (by omega) (by omega) (by omega) (by omega) (by omega) (by omega) (by omega)
                refine ls_val hF (.free rfl) rfl rfl (ex_neg (r := -((cf k q))) rfl rfl (by omega) (by unfold I64; omega)) ?_; clear hF a; intro a hF
                refine ls_val hF (.free rfl) rfl rfl (ex_index (k := q) rfl sl_22 rfl rfl (hrsq3 k (by omega) (by omega)) (by omega) (by omega) (by omega)) ?_; clear hF a; intro a hF
                refine ls_effx hF (.free rfl) rfl (st_rows 5 rfl pl_3 hS rfl rfl rfl (by omega) (by omega) (by omega) (by omega) rfl) ?_; clear hS; rintro w hS
                replace hS : Sat w0 w [.blk g1 [.int .i64 t.vars, .int .i64 t.den, vB, vF, vC], .blk g2 [.int .i64 0, .int .i64 0, .slice none 0 0, .slice none 0 0, .slice none 0 0], .own vq1 1 3 t.nb (ints (upd t.B row (t.F col))), .own vq2 1 3 t.nf (ints (upd t.F col (t.B row))), .own voq3 1 22 t.nc vwq3, .sem (Frame.rows 3 t.nc vwq3 t.ln (upd cf k (upd (cf k) q (-((cf k q)))))), .blk g3 [.int .i64 t.vars, .int .i64 (-(((t.C (row + 1)) (col + 1)))), vq1, vq2, voq3]] := hS
                refine ls_nil ?_
                refine inb_normal ?_
                refine then_normal ?_
                refine wp_region_lit ?_
                refine ls_val hF (.free rfl) rfl rfl (ex_add (r := q + 1) rfl rfl rfl (by omega) (by unfold I64; omega)) ?_; clear hF a; intro a hF
                refine ls_val hF (.free rfl) rfl rfl (ex_move rfl rfl) ?_; clear hF a; intro a hF
                refine ls_nil ?_
                refine then_normal ?_
                refine ⟨_, (by omega), upd cf k (upd (cf k) q (-((cf k q)))), q + 1, rfl, (by omega), (by omega), ?_, ?_, ?_, ?_, (hF.pick (hF.pick (hF.pick (hF.pick (hF.pick (hF.pick (hF.pick (hF.pick hF.nil 188 rfl) 187 rfl) 182 rfl) 181 rfl) 180 rfl) 18 rfl) 12 rfl) 6 rfl), hS⟩
                ·
                 intro a b a0 a1 b0 b1; rw [gu_ne (by omega)]; exact hng a b a0 a1 b0 b1
                ·
                 intro a b a0 a1 b0 b1; rw [gu_ne (by omega)]; exact hps a b a0 a1 b0 b1
                ·
                 intro b b0 b1
                 by_cases e : b = q
                 · subst e; rw [gu_self, gu_self, hng1]
                 · rw [gu_self, gu_ne e]; exact hng3 b b0 (by omega)
                ·
                 intro b b0 b1; rw [gu_self, gu_ne (by omega)]; exact hng2 b (by omega) b1
               ·
                refine wp_exit ?_
                refine then_exit ?_
                refine then_exit ?_
                refine inb_hit ?_
                refine inb_normal ?_
                refine then_normal ?_
                refine wp_region_lit ?_
                refine ls_val hF (.free rfl) rfl rfl (ex_add (r := k + 1) rfl rfl rfl (by omega) (by unfold I64; omega)) ?_; clear hF a; intro a hF
                refine ls_val hF (.free rfl) rfl rfl (ex_move rfl rfl) ?_; clear hF a; intro a hF
                refine ls_nil ?_
                refine then_normal ?_
                refine ⟨_, (by omega), cf, k + 1, rfl, (by omega), (by omega), ?_, ?_, (hF.pick (hF.pick (hF.pick (hF.pick (hF.pick hF.nil 182 rfl) 181 rfl) 180 rfl) 12 rfl) 6 rfl), hS⟩
                ·
                 intro a b a0 a1 b0 b1
                 by_cases e : a = k
                 · subst e; exact hng3 b b0 (by omega)
                 · exact hng a b a0 (by omega) b0 b1
                ·
                 intro a b a0 a1 b0 b1; exact hps a b (by omega) a1 b0 b1
             ·
              refine wp_exit ?_
              refine then_exit ?_
              refine then_exit ?_
              refine inb_hit ?_
              refine then_normal ?_
              refine cw_seq ?_
              refine cw_seq ?_
              refine wp_region_lit ?_
              refine ls_val hF (.free rfl) rfl rfl (ex_loads_blk 6 rfl st_43 rfl hS rfl rfl) ?_; clear hF a; intro a hF
              have hden : -(((t.C (row + 1)) (col + 1))) = (piv t row col).den := (if_pos (by omega)).symm
              replace hS := hS.rerows (vv' := vwq3) (ln' := (piv t row col).ln) (f' := (piv t row col).C) 5 rfl (fun k k0 k1 => ⟨rfl, rfl, fun j j0 j1 => by
                have hlk := hp.len (i := k) (by omega) (by omega)
                exact (hng k j k0 (by omega) j0 (by omega)).trans (if_pos (by omega)).symm⟩)
              rw [hden] at hS hF
              obtain ⟨u, huu⟩ : ∃ u, u = piv t row col := ⟨_, rfl⟩
              have hslnbu : Slh vq1 u.nb := by subst huu; exact hslq1
              have hslnfu : Slh vq2 u.nf := by subst huu; exact hslq2
              have hslncu : Slh voq3 u.nc := by subst huu; exact hslq3
              replace hS : Sat w0 w [.blk g1 [.int .i64 t.vars, .int .i64 t.den, vB, vF, vC], .blk g2 [.int .i64 0, .int .i64 0, .slice none 0 0, .slice none 0 0, .slice none 0 0], .own vq1 1 3 u.nb (ints u.B), .own vq2 1 3 u.nf (ints u.F), .own voq3 1 22 u.nc vwq3, .sem (Frame.rows 3 u.nc vwq3 u.ln u.C), .blk g3 [.int .i64 u.vars, .int .i64 u.den, vq1, vq2, voq3]] := by subst huu; exact hS
              have hrsu := fun k (k0 : 0 ≤ k) (k1 : k < u.nc) => hS.slhIn 5 rfl k0 k1
              replace hF := hF.as (d := 201) rfl (u := .agg #[.int .i64 u.vars, .int .i64 u.den, vq1, vq2, voq3]) (by subst huu; first | rfl | (congr 1))
              refine ls_call hF (.free rfl) rfl rfl (ex_call0 rfl rfl cl_47 (args_cons rfl args0)) (c_proper (t := u) w (⟨(hS.rowN 2 rfl), (hS.rowN 3 rfl), (⟨(hS.rowN 4 rfl), fun k k0 k1 => hS.rowIn 5 rfl k0 k1, fun k k0 k1 => hS.roomIn 5 rfl k0 k1⟩ : MAt _ voq3 u.nc vwq3 u.ln u.C)⟩ : TAt _ vq1 vq2 voq3 vwq3 u)) ?_; clear hF; rintro _ w ⟨rfl, hS'⟩ a hF
              replace hS : Sat w0 w [.blk g1 [.int .i64 t.vars, .int .i64 t.den, vB, vF, vC], .blk g2 [.int .i64 0, .int .i64 0, .slice none 0 0, .slice none 0 0, .slice none 0 0], .own vq1 1 3 u.nb (ints u.B), .own vq2 1 3 u.nf (ints u.F), .own voq3 1 22 u.nc vwq3, .sem (Frame.rows 3 u.nc vwq3 u.ln u.C), .blk g3 [.int .i64 u.vars, .int .i64 u.den, vq1, vq2, voq3]] := hS.comp hS'; clear hS'
              refine ls_val hF (.free rfl) rfl rfl (ex_not rfl rfl) ?_; clear hF a; intro a hF
              refine ls_nil ?_
              refine then_normal ?_
              refine cw_if hF rfl (fun hc => ?_) (fun hc => ?_)
              ·
               refine cw_seq ?_
               refine wp_region_lit ?_
               refine ls_val hF (.free rfl) rfl rfl (ex_any (w' := w) (r := .value (.agg #[.int .i64 0, .int .i64 0, .slice none 0 0, .slice none 0 0, .slice none 0 0])) (by intro _ _ h; cases h) rfl (by kernel_rfl)) ?_; clear hF a; intro a hF
               refine ls_effx hF (.free rfl) rfl (st_blks 1 (ds := [.int .i64 0, .int .i64 0, .slice none 0 0, .slice none 0 0, .slice none 0 0]) rfl st_43 hS rfl rfl rfl rfl (ones_cons rfl (ones_cons rfl (ones_cons rfl (ones_cons rfl (ones_cons rfl ones_nil)))))) ?_; clear hS; rintro w hS
               replace hS : Sat w0 w [.blk g1 [.int .i64 t.vars, .int .i64 t.den, vB, vF, vC], .blk g2 [.int .i64 0, .int .i64 0, .slice none 0 0, .slice none 0 0, .slice none 0 0], .own vq1 1 3 u.nb (ints u.B), .own vq2 1 3 u.nf (ints u.F), .own voq3 1 22 u.nc vwq3, .sem (Frame.rows 3 u.nc vwq3 u.ln u.C), .blk g3 [.int .i64 u.vars, .int .i64 u.den, vq1, vq2, voq3]] := hS
               refine ls_val hF (.free rfl) rfl rfl (ex_assign rfl rfl) ?_; clear hF a; intro a hF
               refine ls_nil ?_
               refine then_normal ?_
               refine wp_ret ?_
               refine then_ret ((fin_ct 1 hF rfl rfl rfl st_43 hS rfl rfl ⟨_, rfl, ?_⟩))
               exact ⟨_, _, _, fun _ => undef, Tb.zero, 2, rfl, .inr (.inr (.inl ⟨⟨hp, by omega, by omega, by omega, by omega, hnz⟩, hdv', huu ▸ ‹¬ TPrp u›, rfl, rfl⟩)), slh_nil, slh_nil, slh_nil, ((((hS.sub (.cons _ (.cons _ (.cons _ (.cons _ (.cons _ (.cons _ (.cons _ .slnil)))))))).addnil 1 3 (ints Tb.zero.B)).addnil 1 3 (ints Tb.zero.F)).addnil 1 22 (fun _ => undef)).addrows 3 (fun _ => undef) Tb.zero.ln Tb.zero.C⟩
              ·
               refine wp_skip ?_
               refine then_normal ?_
               refine cw_seq ?_
               refine wp_region_lit ?_
               refine ls_val hF (.free rfl) rfl rfl (ex_loads_blk 6 rfl st_43 rfl hS rfl rfl) ?_; clear hF a; intro a hF
               refine ls_effx hF (.free rfl) rfl (st_blks 1 (ds := [.int .i64 u.vars, .int .i64 u.den, vq1, vq2, voq3]) rfl st_43 hS rfl rfl rfl rfl (ones_cons rfl (ones_cons rfl (ones_cons hslnbu.one (ones_cons hslnfu.one (ones_cons hslncu.one ones_nil)))))) ?_; clear hS; rintro w hS
               replace hS : Sat w0 w [.blk g1 [.int .i64 t.vars, .int .i64 t.den, vB, vF, vC], .blk g2 [.int .i64 u.vars, .int .i64 u.den, vq1, vq2, voq3], .own vq1 1 3 u.nb (ints u.B), .own vq2 1 3 u.nf (ints u.F), .own voq3 1 22 u.nc vwq3, .sem (Frame.rows 3 u.nc vwq3 u.ln u.C), .blk g3 [.int .i64 u.vars, .int .i64 u.den, vq1, vq2, voq3]] := hS
               refine ls_val hF (.free rfl) rfl rfl (ex_assign rfl rfl) ?_; clear hF a; intro a hF
               refine ls_nil ?_
               refine then_normal ?_
               refine wp_ret ?_
               refine (fin_ct 1 hF rfl rfl rfl st_43 hS rfl rfl ⟨_, rfl, ?_⟩)
               exact ⟨_, _, _, _, u, 0, rfl, .inr (.inr (.inr ⟨⟨hp, by omega, by omega, by omega, by omega, hnz⟩, hdv', huu ▸ (Classical.not_not.1 ‹¬ ¬ (TPrp u)›), huu, rfl⟩)), hslnbu, hslnfu, hslncu, hS.sub (.cons _ (.cons _ (.cons_cons _ (.cons_cons _ (.cons_cons _ (.cons_cons _ (.cons _ .slnil)))))))⟩
           ·
            refine wp_skip ?_
            refine then_normal ?_
            refine cw_seq ?_
            refine cw_seq ?_
            refine wp_region_lit ?_
            refine ls_val hF (.free rfl) rfl rfl (ex_loads_blk 6 rfl st_43 rfl hS rfl rfl) ?_; clear hF a; intro a hF
            have hden : ((t.C (row + 1)) (col + 1)) = (piv t row col).den := (if_neg (by omega)).symm
            replace hS := hS.rerows (vv' := vwq3) (ln' := (piv t row col).ln) (f' := (piv t row col).C) 5 rfl (fun k k0 k1 => ⟨rfl, rfl, fun j j0 j1 => by
              have hlk := hp.len (i := k) (by omega) (by omega)
              exact (hcf k j k0 (by omega) j0 (by omega)).trans (if_neg (by omega)).symm⟩)
            rw [hden] at hS hF
            obtain ⟨u, huu⟩ : ∃ u, u = piv t row col := ⟨_, rfl⟩
            have hslnbu : Slh vq1 u.nb := by subst huu; exact hslq1
            have hslnfu : Slh vq2 u.nf := by subst huu; exact hslq2
            have hslncu : Slh voq3 u.nc := by subst huu; exact hslq3
            replace hS : Sat w0 w [.blk g1 [.int .i64 t.vars, .int .i64 t.den, vB, vF, vC], .blk g2 [.int .i64 0, .int .i64 0, .slice none 0 0, .slice none 0 0, .slice none 0 0], .own vq1 1 3 u.nb (ints u.B), .own vq2 1 3 u.nf (ints u.F), .own voq3 1 22 u.nc vwq3, .sem (Frame.rows 3 u.nc vwq3 u.ln u.C), .blk g3 [.int .i64 u.vars, .int .i64 u.den, vq1, vq2, voq3]] := by subst huu; exact hS
            have hrsu := fun k (k0 : 0 ≤ k) (k1 : k < u.nc) => hS.slhIn 5 rfl k0 k1
            replace hF := hF.as (d := 201) rfl (u := .agg #[.int .i64 u.vars, .int .i64 u.den, vq1, vq2, voq3]) (by subst huu; first | rfl | (congr 1))
            refine ls_call hF (.free rfl) rfl rfl (ex_call0 rfl rfl cl_47 (args_cons rfl args0)) (c_proper (t := u) w (⟨(hS.rowN 2 rfl), (hS.rowN 3 rfl), (⟨(hS.rowN 4 rfl), fun k k0 k1 => hS.rowIn 5 rfl k0 k1, fun k k0 k1 => hS.roomIn 5 rfl k0 k1⟩ : MAt _ voq3 u.nc vwq3 u.ln u.C)⟩ : TAt _ vq1 vq2 voq3 vwq3 u)) ?_; clear hF; rintro _ w ⟨rfl, hS'⟩ a hF
            replace hS : Sat w0 w [.blk g1 [.int .i64 t.vars, .int .i64 t.den, vB, vF, vC], .blk g2 [.int .i64 0, .int .i64 0, .slice none 0 0, .slice none 0 0, .slice none 0 0], .own vq1 1 3 u.nb (ints u.B), .own vq2 1 3 u.nf (ints u.F), .own voq3 1 22 u.nc vwq3, .sem (Frame.rows 3 u.nc vwq3 u.ln u.C), .blk g3 [.int .i64 u.vars, .int .i64 u.den, vq1, vq2, voq3]] := hS.comp hS'; clear hS'
            refine ls_val hF (.free rfl) rfl rfl (ex_not rfl rfl) ?_; clear hF a; intro a hF
            refine ls_nil ?_
            refine then_normal ?_
            refine cw_if hF rfl (fun hc => ?_) (fun hc => ?_)
            ·
             refine cw_seq ?_
             refine wp_region_lit ?_
             refine ls_val hF (.free rfl) rfl rfl (ex_any (w' := w) (r := .value (.agg #[.int .i64 0, .int .i64 0, .slice none 0 0, .slice none 0 0, .slice none 0 0])) (by intro _ _ h; cases h) rfl (by kernel_rfl)) ?_; clear hF a; intro a hF
             refine ls_effx hF (.free rfl) rfl (st_blks 1 (ds := [.int .i64 0, .int .i64 0, .slice none 0 0, .slice none 0 0, .slice none 0 0]) rfl st_43 hS rfl rfl rfl rfl (ones_cons rfl (ones_cons rfl (ones_cons rfl (ones_cons rfl (ones_cons rfl ones_nil)))))) ?_; clear hS; rintro w hS
             replace hS : Sat w0 w [.blk g1 [.int .i64 t.vars, .int .i64 t.den, vB, vF, vC], .blk g2 [.int .i64 0, .int .i64 0, .slice none 0 0, .slice none 0 0, .slice none 0 0], .own vq1 1 3 u.nb (ints u.B), .own vq2 1 3 u.nf (ints u.F), .own voq3 1 22 u.nc vwq3, .sem (Frame.rows 3 u.nc vwq3 u.ln u.C), .blk g3 [.int .i64 u.vars, .int .i64 u.den, vq1, vq2, voq3]] := hS
             refine ls_val hF (.free rfl) rfl rfl (ex_assign rfl rfl) ?_; clear hF a; intro a hF
             refine ls_nil ?_
             refine then_normal ?_
             refine wp_ret ?_
             refine then_ret ((fin_ct 1 hF rfl rfl rfl st_43 hS rfl rfl ⟨_, rfl, ?_⟩))
             exact ⟨_, _, _, fun _ => undef, Tb.zero, 2, rfl, .inr (.inr (.inl ⟨⟨hp, by omega, by omega, by omega, by omega, hnz⟩, hdv', huu ▸ ‹¬ TPrp u›, rfl, rfl⟩)), slh_nil, slh_nil, slh_nil, ((((hS.sub (.cons _ (.cons _ (.cons _ (.cons _ (.cons _ (.cons _ (.cons _ .slnil)))))))).addnil 1 3 (ints Tb.zero.B)).addnil 1 3 (ints Tb.zero.F)).addnil 1 22 (fun _ => undef)).addrows 3 (fun _ => undef) Tb.zero.ln Tb.zero.C⟩
            ·
             refine wp_skip ?_
             refine then_normal ?_
             refine cw_seq ?_
             refine wp_region_lit ?_
             refine ls_val hF (.free rfl) rfl rfl (ex_loads_blk 6 rfl st_43 rfl hS rfl rfl) ?_; clear hF a; intro a hF
             refine ls_effx hF (.free rfl) rfl (st_blks 1 (ds := [.int .i64 u.vars, .int .i64 u.den, vq1, vq2, voq3]) rfl st_43 hS rfl rfl rfl rfl (ones_cons rfl (ones_cons rfl (ones_cons hslnbu.one (ones_cons hslnfu.one (ones_cons hslncu.one ones_nil)))))) ?_; clear hS; rintro w hS
             replace hS : Sat w0 w [.blk g1 [.int .i64 t.vars, .int .i64 t.den, vB, vF, vC], .blk g2 [.int .i64 u.vars, .int .i64 u.den, vq1, vq2, voq3], .own vq1 1 3 u.nb (ints u.B), .own vq2 1 3 u.nf (ints u.F), .own voq3 1 22 u.nc vwq3, .sem (Frame.rows 3 u.nc vwq3 u.ln u.C), .blk g3 [.int .i64 u.vars, .int .i64 u.den, vq1, vq2, voq3]] := hS
             refine ls_val hF (.free rfl) rfl rfl (ex_assign rfl rfl) ?_; clear hF a; intro a hF
             refine ls_nil ?_
             refine then_normal ?_
             refine wp_ret ?_
             refine (fin_ct 1 hF rfl rfl rfl st_43 hS rfl rfl ⟨_, rfl, ?_⟩)
             exact ⟨_, _, _, _, u, 0, rfl, .inr (.inr (.inr ⟨⟨hp, by omega, by omega, by omega, by omega, hnz⟩, hdv', huu ▸ (Classical.not_not.1 ‹¬ ¬ (TPrp u)›), huu, rfl⟩)), hslnbu, hslnfu, hslncu, hS.sub (.cons _ (.cons _ (.cons_cons _ (.cons_cons _ (.cons_cons _ (.cons_cons _ (.cons _ .slnil)))))))⟩

end Go.Proofs.Ytakgjpmhbfieeaa
