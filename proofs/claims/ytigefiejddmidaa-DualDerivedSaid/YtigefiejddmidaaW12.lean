/- The walk of the statement DualDerived. -/
import Derived.Test.YtigefiejddmidaaW11
namespace Go.Proofs.Ytigefiejddmidaa
open Go Go.RowKit Go.Proofs.Gw
set_option linter.unusedVariables false

set_option maxRecDepth 20000 in
theorem law_derived {vL vD vy : Value} {p : Prob} {n q r : Int} {y : Int → Int} (w0 : World) (h : PAt w0 vL vD p) (hY : IAt w0 vy n y) (hq : -9223372036854775808 ≤ q ∧ q ≤ 9223372036854775807) (hr : 0 ≤ r ∧ r ≤ 65535) :
    Calls Try.prog 7 [.agg #[vL, vD, .int .i64 p.stock, .int .i64 p.kerf], .agg #[vy, .int .i64 q], .int .u16 r].toArray w0 fun e w => ∃ v, e = .returned v ∧ v = .bool true ∧ Sat w0 w [] := by
  have hn := hY.n0
  refine enterS (vs := [.agg #[vL, vD, .int .i64 p.stock, .int .i64 p.kerf], .agg #[vy, .int .i64 q], .int .u16 r]) Try.func7 rfl Try.ntmps7 rfl ?_
  intro a w hS hF
  refine cw_seq ?_
  refine wp_region_lit ?_
  refine ls_any hF (.free rfl) rfl rfl (ex_box (cs := [vL, vD, .int .i64 p.stock, .int .i64 p.kerf]) rfl hS rfl rfl) ?_; clear hF; rintro _ w ⟨g1, rfl, hS⟩ a hF
  replace hS : Sat w0 w [.blk g1 [vL, vD, .int .i64 p.stock, .int .i64 p.kerf]] := hS
  refine ls_any hF (.free rfl) rfl rfl (ex_box (cs := [vy, .int .i64 q]) rfl hS rfl rfl) ?_; clear hF; rintro _ w ⟨g2, rfl, hS⟩ a hF
  replace hS : Sat w0 w [.blk g1 [vL, vD, .int .i64 p.stock, .int .i64 p.kerf], .blk g2 [vy, .int .i64 q]] := hS
  refine ls_val hF (.free rfl) rfl rfl (ex_assign rfl rfl) ?_; clear hF a; intro a hF
  refine ls_nil ?_
  refine then_normal ?_
  refine cw_seq ?_
  refine cw_seq ?_
  refine wp_region_lit ?_
  refine ls_call hF (.free rfl) rfl rfl (ex_call0 rfl rfl cl_8 args0) (c_awake w) ?_; clear hF; rintro _ w ⟨rfl, hS'⟩ a hF
  replace hS : Sat w0 w [.blk g1 [vL, vD, .int .i64 p.stock, .int .i64 p.kerf], .blk g2 [vy, .int .i64 q]] := hS.comp hS'; clear hS'
  refine ls_val hF (.free rfl) rfl rfl (ex_not_t rfl rfl) ?_; clear hF a; intro a hF
  refine ls_val hF (.free rfl) rfl rfl (ex_move rfl rfl) ?_; clear hF a; intro a hF
  refine ls_val hF (.on rfl rfl rfl rfl rfl) rfl rfl (ex_loads_blk 0 rfl st_24 rfl hS rfl rfl) ?_; clear hF a; intro a hF
  refine ls_call hF (.on rfl rfl rfl rfl rfl) rfl rfl (ex_call0 rfl rfl cl_9 (args_cons rfl args0)) (c_few28 (p := p) w (h.below hS.below)) ?_; clear hF; rintro _ w ⟨rfl, hS'⟩ a hF
  replace hS : Sat w0 w [.blk g1 [vL, vD, .int .i64 p.stock, .int .i64 p.kerf], .blk g2 [vy, .int .i64 q]] := hS.comp hS'; clear hS'
  refine ls_val hF (.on rfl rfl rfl rfl rfl) rfl rfl (ex_not rfl rfl) ?_; clear hF a; intro a hF
  refine ls_val hF (.free rfl) rfl rfl (ex_pick_f rfl rfl rfl) ?_; clear hF a; intro a hF
  refine ls_val hF (.free rfl) rfl rfl (ex_move rfl rfl) ?_; clear hF a; intro a hF
  refine by_slot hF (d := 29) rfl ?_ ?_ <;> clear hF <;> intro hc hF
  ·
   refine ls_off hF (.on rfl rfl rfl rfl rfl) rfl rfl ?_; clear hF a; intro a hF
   refine ls_off hF (.on rfl rfl rfl rfl rfl) rfl rfl ?_; clear hF a; intro a hF
   refine ls_off hF (.on rfl rfl rfl rfl rfl) rfl rfl ?_; clear hF a; intro a hF
   refine ls_val hF (.free rfl) rfl rfl (ex_pick_t rfl rfl rfl) ?_; clear hF a; intro a hF
   refine ls_val hF (.free rfl) rfl rfl (ex_move rfl rfl) ?_; clear hF a; intro a hF
   refine ls_off hF (.on rfl rfl rfl rfl rfl) rfl rfl ?_; clear hF a; intro a hF
   refine ls_off hF (.on rfl rfl rfl rfl rfl) rfl rfl ?_; clear hF a; intro a hF
   refine ls_off hF (.on rfl rfl rfl rfl rfl) rfl rfl ?_; clear hF a; intro a hF
   refine ls_off hF (.on rfl rfl rfl rfl rfl) rfl rfl ?_; clear hF a; intro a hF
   refine ls_val hF (.free rfl) rfl rfl (ex_pick_t rfl rfl rfl) ?_; clear hF a; intro a hF
   refine ls_nil ?_
   refine then_normal ?_
   refine cw_t hF rfl ?_
   refine cw_seq ?_
   refine wp_region_lit ?_
   refine ls_call hF (.free rfl) rfl rfl (ex_call0 rfl rfl cl_8 args0) (c_awake w) ?_; clear hF; rintro _ w ⟨rfl, hS'⟩ a hF
   replace hS : Sat w0 w [.blk g1 [vL, vD, .int .i64 p.stock, .int .i64 p.kerf], .blk g2 [vy, .int .i64 q]] := hS.comp hS'; clear hS'
   refine ls_val hF (.free rfl) rfl rfl (ex_assign rfl rfl) ?_; clear hF a; intro a hF
   refine ls_nil ?_
   refine then_normal ?_
   refine wp_ret ?_
   refine then_ret ((fin1 hF rfl rfl ⟨_, rfl, ?_⟩))
   exact ⟨rfl, hS.sub (.cons _ (.cons _ .slnil))⟩
  ·
   refine ls_val hF (.on rfl rfl rfl rfl rfl) rfl rfl (ex_loads_blk 1 rfl st_26 rfl hS rfl rfl) ?_; clear hF a; intro a hF
   refine ls_call hF (.on rfl rfl rfl rfl rfl) rfl rfl (ex_call0 rfl rfl cl_10 (args_cons rfl args0)) (c_few32 w (q := q) (hY.below hS.below)) ?_; clear hF; rintro _ w ⟨rfl, hS'⟩ a hF
   replace hS : Sat w0 w [.blk g1 [vL, vD, .int .i64 p.stock, .int .i64 p.kerf], .blk g2 [vy, .int .i64 q]] := hS.comp hS'; clear hS'
   refine ls_val hF (.on rfl rfl rfl rfl rfl) rfl rfl (ex_not rfl rfl) ?_; clear hF a; intro a hF
   refine ls_val hF (.free rfl) rfl rfl (ex_pick_f rfl rfl rfl) ?_; clear hF a; intro a hF
   refine ls_val hF (.free rfl) rfl rfl (ex_move rfl rfl) ?_; clear hF a; intro a hF
   refine by_slot hF (d := 34) rfl ?_ ?_ <;> clear hF <;> intro hc hF
   ·
    refine ls_off hF (.on rfl rfl rfl rfl rfl) rfl rfl ?_; clear hF a; intro a hF
    refine ls_off hF (.on rfl rfl rfl rfl rfl) rfl rfl ?_; clear hF a; intro a hF
    refine ls_off hF (.on rfl rfl rfl rfl rfl) rfl rfl ?_; clear hF a; intro a hF
    refine ls_off hF (.on rfl rfl rfl rfl rfl) rfl rfl ?_; clear hF a; intro a hF
    refine ls_val hF (.free rfl) rfl rfl (ex_pick_t rfl rfl rfl) ?_; clear hF a; intro a hF
    refine ls_nil ?_
    refine then_normal ?_
    refine cw_t hF rfl ?_
    refine cw_seq ?_
    refine wp_region_lit ?_
    refine ls_call hF (.free rfl) rfl rfl (ex_call0 rfl rfl cl_8 args0) (c_awake w) ?_; clear hF; rintro _ w ⟨rfl, hS'⟩ a hF
    replace hS : Sat w0 w [.blk g1 [vL, vD, .int .i64 p.stock, .int .i64 p.kerf], .blk g2 [vy, .int .i64 q]] := hS.comp hS'; clear hS'
    refine ls_val hF (.free rfl) rfl rfl (ex_assign rfl rfl) ?_; clear hF a; intro a hF
    refine ls_nil ?_
    refine then_normal ?_
    refine wp_ret ?_
    refine then_ret ((fin1 hF rfl rfl ⟨_, rfl, ?_⟩))
    exact ⟨rfl, hS.sub (.cons _ (.cons _ .slnil))⟩
   ·
    refine ls_val hF (.on rfl rfl rfl rfl rfl) rfl rfl (ex_loads_blk 0 rfl st_24 rfl hS rfl rfl) ?_; clear hF a; intro a hF
    refine ls_val hF (.on rfl rfl rfl rfl rfl) rfl rfl (ex_loads_blk 1 rfl st_26 rfl hS rfl rfl) ?_; clear hF a; intro a hF
    refine ls_call hF (.on rfl rfl rfl rfl rfl) rfl rfl (ex_call0 rfl rfl cl_14 (args_cons rfl (args_cons rfl args0))) (c_rcheck (p := p) w (h.below hS.below) (hY.below hS.below) (by omega)) ?_; clear hF; rintro _ w ⟨rfl, hS'⟩ a hF
    replace hS : Sat w0 w [.blk g1 [vL, vD, .int .i64 p.stock, .int .i64 p.kerf], .blk g2 [vy, .int .i64 q]] := hS.comp hS'; clear hS'
    refine ls_val hF (.on rfl rfl rfl rfl rfl) rfl rfl (ex_neq rfl rfl rfl) ?_; clear hF a; intro a hF
    refine ls_val hF (.free rfl) rfl rfl (ex_pick_f rfl rfl rfl) ?_; clear hF a; intro a hF
    refine ls_nil ?_
    refine then_normal ?_
    refine cw_if hF rfl (fun hc => ?_) (fun hc => ?_)
    ·
     refine cw_seq ?_
     refine wp_region_lit ?_
     refine ls_call hF (.free rfl) rfl rfl (ex_call0 rfl rfl cl_8 args0) (c_awake w) ?_; clear hF; rintro _ w ⟨rfl, hS'⟩ a hF
     replace hS : Sat w0 w [.blk g1 [vL, vD, .int .i64 p.stock, .int .i64 p.kerf], .blk g2 [vy, .int .i64 q]] := hS.comp hS'; clear hS'
     refine ls_val hF (.free rfl) rfl rfl (ex_assign rfl rfl) ?_; clear hF a; intro a hF
     refine ls_nil ?_
     refine then_normal ?_
     refine wp_ret ?_
     refine then_ret ((fin1 hF rfl rfl ⟨_, rfl, ?_⟩))
     exact ⟨rfl, hS.sub (.cons _ (.cons _ .slnil))⟩
    ·
     refine wp_skip ?_
     refine then_normal ?_
     refine cw_seq ?_
     refine wp_region_lit ?_
     refine ls_val hF (.free rfl) rfl rfl (ex_loads_blk 0 rfl st_24 rfl hS rfl rfl) ?_; clear hF a; intro a hF
     refine ls_any hF (.free rfl) rfl rfl (ex_alloc (cs := [.slice none 0 0, .slice none 0 0, .int .i64 0, .int .i64 0]) rfl el_33 hS rfl) ?_; clear hF; rintro _ w ⟨g3, rfl, hS⟩ a hF
     replace hS : Sat w0 w [.blk g1 [vL, vD, .int .i64 p.stock, .int .i64 p.kerf], .blk g2 [vy, .int .i64 q], .blk g3 [.slice none 0 0, .slice none 0 0, .int .i64 0, .int .i64 0]] := hS
     refine ls_effx hF (.free rfl) rfl (st_blks 2 (ds := [vL, vD, .int .i64 p.stock, .int .i64 p.kerf]) rfl st_33 hS rfl rfl rfl rfl (ones_cons h.L.slh.one (ones_cons h.D.slh.one (ones_cons rfl (ones_cons rfl ones_nil))))) ?_; clear hS; rintro w hS
     replace hS : Sat w0 w [.blk g1 [vL, vD, .int .i64 p.stock, .int .i64 p.kerf], .blk g2 [vy, .int .i64 q], .blk g3 [vL, vD, .int .i64 p.stock, .int .i64 p.kerf]] := hS
     refine ls_nil ?_
     refine then_normal ?_
     refine cw_seq ?_
     refine wp_region_lit ?_
     refine ls_val hF (.free rfl) rfl rfl (ex_loads_blk 2 rfl st_33 rfl hS rfl rfl) ?_; clear hF a; intro a hF
     refine ls_val hF (.free rfl) rfl rfl (ex_loads_blk 1 rfl st_26 rfl hS rfl rfl) ?_; clear hF a; intro a hF
     refine ls_call hF (.free rfl) rfl rfl (ex_call0 rfl rfl cl_11 (args_cons rfl (args_cons rfl args0))) (c_bound (p := p) w (h.below hS.below) (hY.below hS.below) (by omega)) ?_; clear hF; rintro _ w ⟨rfl, hS'⟩ a hF
     replace hS : Sat w0 w [.blk g1 [vL, vD, .int .i64 p.stock, .int .i64 p.kerf], .blk g2 [vy, .int .i64 q], .blk g3 [vL, vD, .int .i64 p.stock, .int .i64 p.kerf]] := hS.comp hS'; clear hS'
     refine ls_val hF (.free rfl) rfl rfl (ex_move rfl rfl) ?_; clear hF a; intro a hF
     refine ls_val hF (.free rfl) rfl rfl (ex_extract rfl rfl rfl) ?_; clear hF a; intro a hF
     refine ls_val hF (.free rfl) rfl rfl (ex_extract rfl rfl rfl) ?_; clear hF a; intro a hF
     refine ls_val hF (.free rfl) rfl rfl (ex_assign rfl rfl) ?_; clear hF a; intro a hF
     refine ls_val hF (.free rfl) rfl rfl (ex_assign rfl rfl) ?_; clear hF a; intro a hF
     refine ls_nil ?_
     refine then_normal ?_
     refine cw_seq ?_
     refine wp_region_lit ?_
     refine ls_val hF (.free rfl) rfl rfl (ex_loads_blk 1 rfl st_26 rfl hS rfl rfl) ?_; clear hF a; intro a hF
     refine ls_val hF (.free rfl) rfl rfl (ex_move rfl rfl) ?_; clear hF a; intro a hF
     refine ls_val hF (.free rfl) rfl rfl (ex_conv rfl so_54 it_3 rfl (by unfold InK; omega)) ?_; clear hF a; intro a hF
     refine ls_val hF (.free rfl) rfl rfl (ex_add (r := r + 1) rfl rfl rfl (by omega) (by unfold I64; omega)) ?_; clear hF a; intro a hF
     refine ls_call hF (.free rfl) rfl rfl (ex_call0 rfl rfl cl_18 (args_cons rfl (args_cons rfl args0))) (c_round w (hY.below hS.below) (by omega) (r := (r + 1)) (by omega) (by omega) ) ?_; clear hF; rintro _ w ⟨vn1, n1, fn1, qn1, en1, rfl, hln1, hbn1, hqn1, hrn1, hS'⟩ a hF
     replace hS : Sat w0 w [.blk g1 [vL, vD, .int .i64 p.stock, .int .i64 p.kerf], .blk g2 [vy, .int .i64 q], .blk g3 [vL, vD, .int .i64 p.stock, .int .i64 p.kerf], .own vn1 1 3 n1 (ints fn1)] := hS.comp hS'; clear hS'
     have hz : Chk p n y q = 0 := by omega
     have hfm := (chk_ok hz).2.1
     have hen1 : en1 = 0 ∨ en1 = 2 := by rcases hrn1.few with hh | ⟨_, hh⟩; exact hh; exact absurd hfm hh
     refine ls_val hF (.free rfl) rfl rfl (ex_move rfl rfl) ?_; clear hF a; intro a hF
     refine ls_val hF (.free rfl) rfl rfl (ex_extract rfl rfl rfl) ?_; clear hF a; intro a hF
     refine ls_val hF (.free rfl) rfl rfl (ex_extract rfl rfl rfl) ?_; clear hF a; intro a hF
     refine ls_any hF (.free rfl) rfl rfl (ex_alloc (cs := [.slice none 0 0, .int .i64 0]) rfl el_34 hS rfl) ?_; clear hF; rintro _ w ⟨g4, rfl, hS⟩ a hF
     replace hS : Sat w0 w [.blk g1 [vL, vD, .int .i64 p.stock, .int .i64 p.kerf], .blk g2 [vy, .int .i64 q], .blk g3 [vL, vD, .int .i64 p.stock, .int .i64 p.kerf], .own vn1 1 3 n1 (ints fn1), .blk g4 [.slice none 0 0, .int .i64 0]] := hS
     refine ls_effx hF (.free rfl) rfl (st_blks 4 (ds := [vn1, .int .i64 qn1]) rfl st_34 hS rfl rfl rfl rfl (ones_cons hln1.one (ones_cons rfl ones_nil))) ?_; clear hS; rintro w hS
     replace hS : Sat w0 w [.blk g1 [vL, vD, .int .i64 p.stock, .int .i64 p.kerf], .blk g2 [vy, .int .i64 q], .blk g3 [vL, vD, .int .i64 p.stock, .int .i64 p.kerf], .own vn1 1 3 n1 (ints fn1), .blk g4 [vn1, .int .i64 qn1]] := hS
     refine ls_val hF (.free rfl) rfl rfl (ex_assign rfl rfl) ?_; clear hF a; intro a hF
     refine ls_nil ?_
     refine then_normal ?_
     refine cw_seq ?_
     refine cw_seq ?_
     refine wp_region_lit ?_
     refine ls_val hF (.free rfl) rfl rfl (ex_move rfl rfl) ?_; clear hF a; intro a hF
     refine ls_val hF (.free rfl) rfl rfl (ex_eql rfl rfl rfl) ?_; clear hF a; intro a hF
     refine ls_nil ?_
     refine then_normal ?_
     refine cw_if hF rfl (fun hc => ?_) (fun hc => ?_)
     ·
      refine cw_seq ?_
      refine wp_region_lit ?_
      refine ls_val hF (.free rfl) rfl rfl (ex_loads_blk 2 rfl st_33 rfl hS rfl rfl) ?_; clear hF a; intro a hF
      refine ls_val hF (.free rfl) rfl rfl (ex_loads_blk 4 rfl st_34 rfl hS rfl rfl) ?_; clear hF a; intro a hF
      refine ls_call hF (.free rfl) rfl rfl (ex_call0 rfl rfl cl_11 (args_cons rfl (args_cons rfl args0))) (c_bound (p := p) w (h.below hS.below) (⟨(hS.rowN 3 rfl), hbn1⟩ : IAt _ _ n1 fn1) (by omega)) ?_; clear hF; rintro _ w ⟨rfl, hS'⟩ a hF
      replace hS : Sat w0 w [.blk g1 [vL, vD, .int .i64 p.stock, .int .i64 p.kerf], .blk g2 [vy, .int .i64 q], .blk g3 [vL, vD, .int .i64 p.stock, .int .i64 p.kerf], .own vn1 1 3 n1 (ints fn1), .blk g4 [vn1, .int .i64 qn1]] := hS.comp hS'; clear hS'
      have hl1 := round_law hz (hrn1.at (by omega))
      have hl2 := hl1.1; have hl3 := hl1.2
      refine ls_val hF (.free rfl) rfl rfl (ex_move rfl rfl) ?_; clear hF a; intro a hF
      refine ls_val hF (.free rfl) rfl rfl (ex_extract rfl rfl rfl) ?_; clear hF a; intro a hF
      refine ls_val hF (.free rfl) rfl rfl (ex_extract rfl rfl rfl) ?_; clear hF a; intro a hF
      refine ls_val hF (.free rfl) rfl rfl (ex_assign rfl rfl) ?_; clear hF a; intro a hF
      refine ls_val hF (.free rfl) rfl rfl (ex_assign rfl rfl) ?_; clear hF a; intro a hF
      refine ls_nil ?_
      refine then_normal ?_
      refine cw_seq ?_
      refine wp_region_lit ?_
      refine ls_val hF (.free rfl) rfl rfl (ex_move rfl rfl) ?_; clear hF a; intro a hF
      refine ls_val hF (.free rfl) rfl rfl (known_f (ex_neq rfl rfl rfl) (by omega)) ?_; clear hF a; intro a hF
      refine ls_val hF (.free rfl) rfl rfl (ex_move rfl rfl) ?_; clear hF a; intro a hF
      refine ls_val hF (.on rfl rfl rfl rfl rfl) rfl rfl (ex_move rfl rfl) ?_; clear hF a; intro a hF
      refine ls_val hF (.on rfl rfl rfl rfl rfl) rfl rfl (ex_move rfl rfl) ?_; clear hF a; intro a hF
      refine ls_val hF (.on rfl rfl rfl rfl rfl) rfl rfl (known_f (ex_gtr rfl rfl rfl) (by omega)) ?_; clear hF a; intro a hF
      refine ls_val hF (.free rfl) rfl rfl (ex_pick_f rfl rfl rfl) ?_; clear hF a; intro a hF
      refine ls_nil ?_
      refine then_normal ?_
      refine cw_f hF rfl ?_
      refine wp_skip ?_
      refine then_normal ?_
      refine cw_seq ?_
      refine wp_region_lit ?_
      refine ls_val hF (.free rfl) rfl rfl (ex_loads_blk 2 rfl st_33 rfl hS rfl rfl) ?_; clear hF a; intro a hF
      refine ls_call hF (.free rfl) rfl rfl (ex_call0 rfl rfl cl_23 (args_cons rfl args0)) (c_material w (p := p) (h.below hS.below) ) ?_; clear hF; rintro _ w ⟨vn2, n2, fn2, qn2, en2, rfl, hln2, hbn2, hqn2, hrn2, hS'⟩ a hF
      replace hS : Sat w0 w [.blk g1 [vL, vD, .int .i64 p.stock, .int .i64 p.kerf], .blk g2 [vy, .int .i64 q], .blk g3 [vL, vD, .int .i64 p.stock, .int .i64 p.kerf], .own vn1 1 3 n1 (ints fn1), .blk g4 [vn1, .int .i64 qn1], .own vn2 1 3 n2 (ints fn2)] := hS.comp hS'; clear hS'
      have hp := (chk_ok hz).1
      obtain ⟨hmen2, hmnn2, hmzn2⟩ := material_law hp hrn2
      have hpm2 := hp.m2
      refine ls_val hF (.free rfl) rfl rfl (ex_move rfl rfl) ?_; clear hF a; intro a hF
      refine ls_val hF (.free rfl) rfl rfl (ex_extract rfl rfl rfl) ?_; clear hF a; intro a hF
      refine ls_val hF (.free rfl) rfl rfl (ex_extract rfl rfl rfl) ?_; clear hF a; intro a hF
      refine ls_any hF (.free rfl) rfl rfl (ex_alloc (cs := [.slice none 0 0, .int .i64 0]) rfl el_34 hS rfl) ?_; clear hF; rintro _ w ⟨g5, rfl, hS⟩ a hF
      replace hS : Sat w0 w [.blk g1 [vL, vD, .int .i64 p.stock, .int .i64 p.kerf], .blk g2 [vy, .int .i64 q], .blk g3 [vL, vD, .int .i64 p.stock, .int .i64 p.kerf], .own vn1 1 3 n1 (ints fn1), .blk g4 [vn1, .int .i64 qn1], .own vn2 1 3 n2 (ints fn2), .blk g5 [.slice none 0 0, .int .i64 0]] := hS
      refine ls_effx hF (.free rfl) rfl (st_blks 6 (ds := [vn2, .int .i64 qn2]) rfl st_34 hS rfl rfl rfl rfl (ones_cons hln2.one (ones_cons rfl ones_nil))) ?_; clear hS; rintro w hS
      replace hS : Sat w0 w [.blk g1 [vL, vD, .int .i64 p.stock, .int .i64 p.kerf], .blk g2 [vy, .int .i64 q], .blk g3 [vL, vD, .int .i64 p.stock, .int .i64 p.kerf], .own vn1 1 3 n1 (ints fn1), .blk g4 [vn1, .int .i64 qn1], .own vn2 1 3 n2 (ints fn2), .blk g5 [vn2, .int .i64 qn2]] := hS
      refine ls_val hF (.free rfl) rfl rfl (ex_assign rfl rfl) ?_; clear hF a; intro a hF
      refine ls_nil ?_
      refine then_normal ?_
      refine cw_seq ?_
      refine wp_region_lit ?_
      refine ls_val hF (.free rfl) rfl rfl (ex_loads_blk 2 rfl st_33 rfl hS rfl rfl) ?_; clear hF a; intro a hF
      refine ls_val hF (.free rfl) rfl rfl (ex_loads_blk 6 rfl st_34 rfl hS rfl rfl) ?_; clear hF a; intro a hF
      refine ls_call hF (.free rfl) rfl rfl (ex_call0 rfl rfl cl_11 (args_cons rfl (args_cons rfl args0))) (c_bound (p := p) w (h.below hS.below) (⟨(hS.rowN 5 rfl), hbn2⟩ : IAt _ _ n2 fn2) (by omega)) ?_; clear hF; rintro _ w ⟨rfl, hS'⟩ a hF
      replace hS : Sat w0 w [.blk g1 [vL, vD, .int .i64 p.stock, .int .i64 p.kerf], .blk g2 [vy, .int .i64 q], .blk g3 [vL, vD, .int .i64 p.stock, .int .i64 p.kerf], .own vn1 1 3 n1 (ints fn1), .blk g4 [vn1, .int .i64 qn1], .own vn2 1 3 n2 (ints fn2), .blk g5 [vn2, .int .i64 qn2]] := hS.comp hS'; clear hS'
      refine ls_val hF (.free rfl) rfl rfl (ex_move rfl rfl) ?_; clear hF a; intro a hF
      refine ls_val hF (.free rfl) rfl rfl (ex_extract rfl rfl rfl) ?_; clear hF a; intro a hF
      refine ls_val hF (.free rfl) rfl rfl (ex_extract rfl rfl rfl) ?_; clear hF a; intro a hF
      refine ls_val hF (.free rfl) rfl rfl (ex_assign rfl rfl) ?_; clear hF a; intro a hF
      refine ls_val hF (.free rfl) rfl rfl (ex_assign rfl rfl) ?_; clear hF a; intro a hF
      refine ls_nil ?_
      refine then_normal ?_
      refine cw_seq ?_
      refine wp_region_lit ?_
      refine ls_val hF (.free rfl) rfl rfl (ex_loads_blk 1 rfl st_26 rfl hS rfl rfl) ?_; clear hF a; intro a hF
      refine ls_val hF (.free rfl) rfl rfl (ex_loads_blk 6 rfl st_34 rfl hS rfl rfl) ?_; clear hF a; intro a hF
      refine ls_call hF (.free rfl) rfl rfl (ex_call0 rfl rfl cl_20 (args_cons rfl (args_cons rfl args0))) (c_sum w (hY.below hS.below) (q := q) (by omega) (⟨(hS.rowN 5 rfl), hbn2⟩ : IAt _ _ n2 fn2) (s := qn2) (by omega) (by omega) ) ?_; clear hF; rintro _ w ⟨vn3, n3, fn3, qn3, en3, rfl, hln3, hbn3, hqn3, hrn3, hS'⟩ a hF
      replace hS : Sat w0 w [.blk g1 [vL, vD, .int .i64 p.stock, .int .i64 p.kerf], .blk g2 [vy, .int .i64 q], .blk g3 [vL, vD, .int .i64 p.stock, .int .i64 p.kerf], .own vn1 1 3 n1 (ints fn1), .blk g4 [vn1, .int .i64 qn1], .own vn2 1 3 n2 (ints fn2), .blk g5 [vn2, .int .i64 qn2], .own vn3 1 3 n3 (ints fn3)] := hS.comp hS'; clear hS'
      have hen3 : en3 = 0 ∨ en3 = 2 := by rcases hrn3.few with hh | ⟨_, hh⟩; exact hh; exact absurd ⟨hfm, (chk_ok hmzn2).2.1, by have := (chk_ok hz).2.2.1; omega⟩ hh
      refine ls_val hF (.free rfl) rfl rfl (ex_move rfl rfl) ?_; clear hF a; intro a hF
      refine ls_val hF (.free rfl) rfl rfl (ex_extract rfl rfl rfl) ?_; clear hF a; intro a hF
      refine ls_val hF (.free rfl) rfl rfl (ex_extract rfl rfl rfl) ?_; clear hF a; intro a hF
      refine ls_any hF (.free rfl) rfl rfl (ex_alloc (cs := [.slice none 0 0, .int .i64 0]) rfl el_34 hS rfl) ?_; clear hF; rintro _ w ⟨g6, rfl, hS⟩ a hF
      replace hS : Sat w0 w [.blk g1 [vL, vD, .int .i64 p.stock, .int .i64 p.kerf], .blk g2 [vy, .int .i64 q], .blk g3 [vL, vD, .int .i64 p.stock, .int .i64 p.kerf], .own vn1 1 3 n1 (ints fn1), .blk g4 [vn1, .int .i64 qn1], .own vn2 1 3 n2 (ints fn2), .blk g5 [vn2, .int .i64 qn2], .own vn3 1 3 n3 (ints fn3), .blk g6 [.slice none 0 0, .int .i64 0]] := hS
      refine ls_effx hF (.free rfl) rfl (st_blks 8 (ds := [vn3, .int .i64 qn3]) rfl st_34 hS rfl rfl rfl rfl (ones_cons hln3.one (ones_cons rfl ones_nil))) ?_; clear hS; rintro w hS
      replace hS : Sat w0 w [.blk g1 [vL, vD, .int .i64 p.stock, .int .i64 p.kerf], .blk g2 [vy, .int .i64 q], .blk g3 [vL, vD, .int .i64 p.stock, .int .i64 p.kerf], .own vn1 1 3 n1 (ints fn1), .blk g4 [vn1, .int .i64 qn1], .own vn2 1 3 n2 (ints fn2), .blk g5 [vn2, .int .i64 qn2], .own vn3 1 3 n3 (ints fn3), .blk g6 [vn3, .int .i64 qn3]] := hS
      refine ls_val hF (.free rfl) rfl rfl (ex_assign rfl rfl) ?_; clear hF a; intro a hF
      refine ls_nil ?_
      refine then_normal ?_
      refine cw_seq ?_
      refine cw_seq ?_
      refine wp_region_lit ?_
      refine ls_val hF (.free rfl) rfl rfl (ex_move rfl rfl) ?_; clear hF a; intro a hF
      refine ls_val hF (.free rfl) rfl rfl (ex_neq rfl rfl rfl) ?_; clear hF a; intro a hF
      refine ls_nil ?_
      refine then_normal ?_
      refine cw_if hF rfl (fun hc => ?_) (fun hc => ?_)
      ·
       refine cw_seq ?_
       refine wp_region_lit ?_
       refine ls_val hF (.free rfl) rfl rfl (ex_move rfl rfl) ?_; clear hF a; intro a hF
       refine ls_val hF (.free rfl) rfl rfl (ex_eql rfl rfl rfl) ?_; clear hF a; intro a hF
       refine ls_val hF (.free rfl) rfl rfl (ex_move rfl rfl) ?_; clear hF a; intro a hF
       refine by_slot hF (d := 92) rfl ?_ ?_ <;> clear hF <;> intro hc hF
       ·
        refine ls_val hF (.on rfl rfl rfl rfl rfl) rfl rfl (ex_move rfl rfl) ?_; clear hF a; intro a hF
        refine ls_val hF (.on rfl rfl rfl rfl rfl) rfl rfl (known_t (ex_neq rfl rfl rfl) (by omega)) ?_; clear hF a; intro a hF
        refine ls_val hF (.free rfl) rfl rfl (ex_pick_t rfl rfl rfl) ?_; clear hF a; intro a hF
        refine ls_val hF (.free rfl) rfl rfl (ex_assign rfl rfl) ?_; clear hF a; intro a hF
        refine ls_nil ?_
        refine then_normal ?_
        refine wp_ret ?_
        refine then_ret ((fin1 hF rfl rfl ⟨_, rfl, ?_⟩))
        exact ⟨rfl, hS.sub (.cons _ (.cons _ (.cons _ (.cons _ (.cons _ (.cons _ (.cons _ (.cons _ (.cons _ .slnil)))))))))⟩
       ·
        refine ls_off hF (.on rfl rfl rfl rfl rfl) rfl rfl ?_; clear hF a; intro a hF
        refine ls_off hF (.on rfl rfl rfl rfl rfl) rfl rfl ?_; clear hF a; intro a hF
        refine ls_val hF (.free rfl) rfl rfl (ex_pick_f rfl rfl rfl) ?_; clear hF a; intro a hF
        refine ls_val hF (.free rfl) rfl rfl (ex_assign rfl rfl) ?_; clear hF a; intro a hF
        refine ls_nil ?_
        refine then_normal ?_
        refine wp_ret ?_
        refine then_ret ((fin1 hF rfl rfl ⟨_, rfl, ?_⟩))
        exfalso; omega
      ·
       refine wp_skip ?_
       refine then_normal ?_
       refine cw_seq ?_
       refine wp_region_lit ?_
       refine ls_val hF (.free rfl) rfl rfl (ex_loads_blk 2 rfl st_33 rfl hS rfl rfl) ?_; clear hF a; intro a hF
       refine ls_val hF (.free rfl) rfl rfl (ex_loads_blk 8 rfl st_34 rfl hS rfl rfl) ?_; clear hF a; intro a hF
       refine ls_call hF (.free rfl) rfl rfl (ex_call0 rfl rfl cl_11 (args_cons rfl (args_cons rfl args0))) (c_bound (p := p) w (h.below hS.below) (⟨(hS.rowN 7 rfl), hbn3⟩ : IAt _ _ n3 fn3) (by omega)) ?_; clear hF; rintro _ w ⟨rfl, hS'⟩ a hF
       replace hS : Sat w0 w [.blk g1 [vL, vD, .int .i64 p.stock, .int .i64 p.kerf], .blk g2 [vy, .int .i64 q], .blk g3 [vL, vD, .int .i64 p.stock, .int .i64 p.kerf], .own vn1 1 3 n1 (ints fn1), .blk g4 [vn1, .int .i64 qn1], .own vn2 1 3 n2 (ints fn2), .blk g5 [vn2, .int .i64 qn2], .own vn3 1 3 n3 (ints fn3), .blk g6 [vn3, .int .i64 qn3]] := hS.comp hS'; clear hS'
       have hx := mix_law hz hmzn2 (hrn3.at (by omega))
       have hx1 := hx.1; have hx2 := hx.2.1; have hx3 := hx.2.2
       refine ls_val hF (.free rfl) rfl rfl (ex_move rfl rfl) ?_; clear hF a; intro a hF
       refine ls_val hF (.free rfl) rfl rfl (ex_extract rfl rfl rfl) ?_; clear hF a; intro a hF
       refine ls_val hF (.free rfl) rfl rfl (ex_extract rfl rfl rfl) ?_; clear hF a; intro a hF
       refine ls_val hF (.free rfl) rfl rfl (ex_assign rfl rfl) ?_; clear hF a; intro a hF
       refine ls_val hF (.free rfl) rfl rfl (ex_assign rfl rfl) ?_; clear hF a; intro a hF
       refine ls_nil ?_
       refine then_normal ?_
       refine cw_seq ?_
       refine wp_region_lit ?_
       refine ls_val hF (.free rfl) rfl rfl (ex_move rfl rfl) ?_; clear hF a; intro a hF
       refine ls_val hF (.free rfl) rfl rfl (known_t (ex_eql rfl rfl rfl) (by omega)) ?_; clear hF a; intro a hF
       refine ls_val hF (.free rfl) rfl rfl (ex_move rfl rfl) ?_; clear hF a; intro a hF
       refine ls_val hF (.on rfl rfl rfl rfl rfl) rfl rfl (ex_move rfl rfl) ?_; clear hF a; intro a hF
       refine ls_val hF (.on rfl rfl rfl rfl rfl) rfl rfl (ex_move rfl rfl) ?_; clear hF a; intro a hF
       refine ls_val hF (.on rfl rfl rfl rfl rfl) rfl rfl (ex_move rfl rfl) ?_; clear hF a; intro a hF
       refine ls_val hF (.on rfl rfl rfl rfl rfl) rfl rfl (ex_max (r := (max (BndOf p n y q) (BndOf p n2 fn2 qn2))) rfl rfl rfl rfl) ?_; clear hF a; intro a hF
       refine ls_val hF (.on rfl rfl rfl rfl rfl) rfl rfl (ex_leq rfl rfl rfl) ?_; clear hF a; intro a hF
       refine ls_val hF (.free rfl) rfl rfl (ex_pick_t rfl rfl rfl) ?_; clear hF a; intro a hF
       refine ls_val hF (.free rfl) rfl rfl (ex_move rfl rfl) ?_; clear hF a; intro a hF
       refine by_slot hF (d := 111) rfl ?_ ?_ <;> clear hF <;> intro hc hF
       ·
        refine ls_val hF (.on rfl rfl rfl rfl rfl) rfl rfl (ex_move rfl rfl) ?_; clear hF a; intro a hF
        refine ls_val hF (.on rfl rfl rfl rfl rfl) rfl rfl (ex_move rfl rfl) ?_; clear hF a; intro a hF
        refine ls_val hF (.on rfl rfl rfl rfl rfl) rfl rfl (ex_move rfl rfl) ?_; clear hF a; intro a hF
        refine ls_val hF (.on rfl rfl rfl rfl rfl) rfl rfl (ex_min (r := (min (BndOf p n y q) (BndOf p n2 fn2 qn2))) rfl rfl rfl rfl) ?_; clear hF a; intro a hF
        refine ls_val hF (.on rfl rfl rfl rfl rfl) rfl rfl (ex_geq rfl rfl rfl) ?_; clear hF a; intro a hF
        refine ls_val hF (.free rfl) rfl rfl (ex_pick_t rfl rfl rfl) ?_; clear hF a; intro a hF
        refine ls_val hF (.free rfl) rfl rfl (ex_move rfl rfl) ?_; clear hF a; intro a hF
        refine by_slot hF (d := 118) rfl ?_ ?_ <;> clear hF <;> intro hc hF
        ·
         refine ls_val hF (.on rfl rfl rfl rfl rfl) rfl rfl (ex_move rfl rfl) ?_; clear hF a; intro a hF
         refine ls_val hF (.on rfl rfl rfl rfl rfl) rfl rfl (known_t (ex_eql rfl rfl rfl) (by omega)) ?_; clear hF a; intro a hF
         refine ls_val hF (.on rfl rfl rfl rfl rfl) rfl rfl (ex_move rfl rfl) ?_; clear hF a; intro a hF
         refine ls_off hF (.on rfl rfl rfl rfl rfl) rfl rfl ?_; clear hF a; intro a hF
         refine ls_off hF (.on rfl rfl rfl rfl rfl) rfl rfl ?_; clear hF a; intro a hF
         refine ls_val hF (.on rfl rfl rfl rfl rfl) rfl rfl (ex_pick_t rfl rfl rfl) ?_; clear hF a; intro a hF
         refine ls_val hF (.free rfl) rfl rfl (ex_pick_t rfl rfl rfl) ?_; clear hF a; intro a hF
         refine ls_val hF (.free rfl) rfl rfl (ex_assign rfl rfl) ?_; clear hF a; intro a hF
         refine ls_nil ?_
         refine then_normal ?_
         refine wp_ret ?_
         refine (fin1 hF rfl rfl ⟨_, rfl, ?_⟩)
         exact ⟨rfl, hS.sub (.cons _ (.cons _ (.cons _ (.cons _ (.cons _ (.cons _ (.cons _ (.cons _ (.cons _ .slnil)))))))))⟩
        ·
         refine ls_off hF (.on rfl rfl rfl rfl rfl) rfl rfl ?_; clear hF a; intro a hF
         refine ls_off hF (.on rfl rfl rfl rfl rfl) rfl rfl ?_; clear hF a; intro a hF
         refine ls_off hF (.on rfl rfl rfl rfl rfl) rfl rfl ?_; clear hF a; intro a hF
         refine ls_off hF (.off rfl rfl rfl rfl) rfl rfl ?_; clear hF a; intro a hF
         refine ls_off hF (.off rfl rfl rfl rfl) rfl rfl ?_; clear hF a; intro a hF
         refine ls_off hF (.on rfl rfl rfl rfl rfl) rfl rfl ?_; clear hF a; intro a hF
         refine ls_val hF (.free rfl) rfl rfl (ex_pick_f rfl rfl rfl) ?_; clear hF a; intro a hF
         refine ls_val hF (.free rfl) rfl rfl (ex_assign rfl rfl) ?_; clear hF a; intro a hF
         refine ls_nil ?_
         refine then_normal ?_
         refine wp_ret ?_
         refine (fin1 hF rfl rfl ⟨_, rfl, ?_⟩)
         exfalso; omega
       ·
        refine ls_off hF (.on rfl rfl rfl rfl rfl) rfl rfl ?_; clear hF a; intro a hF
        refine ls_off hF (.on rfl rfl rfl rfl rfl) rfl rfl ?_; clear hF a; intro a hF
        refine ls_off hF (.on rfl rfl rfl rfl rfl) rfl rfl ?_; clear hF a; intro a hF
        refine ls_off hF (.on rfl rfl rfl rfl rfl) rfl rfl ?_; clear hF a; intro a hF
        refine ls_off hF (.on rfl rfl rfl rfl rfl) rfl rfl ?_; clear hF a; intro a hF
        refine ls_val hF (.free rfl) rfl rfl (ex_pick_f rfl rfl rfl) ?_; clear hF a; intro a hF
        refine ls_val hF (.free rfl) rfl rfl (ex_move rfl rfl) ?_; clear hF a; intro a hF
        refine ls_off hF (.on rfl rfl rfl rfl rfl) rfl rfl ?_; clear hF a; intro a hF
        refine ls_off hF (.on rfl rfl rfl rfl rfl) rfl rfl ?_; clear hF a; intro a hF
        refine ls_off hF (.on rfl rfl rfl rfl rfl) rfl rfl ?_; clear hF a; intro a hF
        refine ls_off hF (.off rfl rfl rfl rfl) rfl rfl ?_; clear hF a; intro a hF
        refine ls_off hF (.off rfl rfl rfl rfl) rfl rfl ?_; clear hF a; intro a hF
        refine ls_off hF (.on rfl rfl rfl rfl rfl) rfl rfl ?_; clear hF a; intro a hF
        refine ls_val hF (.free rfl) rfl rfl (ex_pick_f rfl rfl rfl) ?_; clear hF a; intro a hF
        refine ls_val hF (.free rfl) rfl rfl (ex_assign rfl rfl) ?_; clear hF a; intro a hF
        refine ls_nil ?_
        refine then_normal ?_
        refine wp_ret ?_
        refine (fin1 hF rfl rfl ⟨_, rfl, ?_⟩)
        exfalso; omega
     ·
      refine wp_skip ?_
      refine then_normal ?_
      refine cw_seq ?_
      refine wp_region_lit ?_
      refine ls_val hF (.free rfl) rfl rfl (ex_loads_blk 2 rfl st_33 rfl hS rfl rfl) ?_; clear hF a; intro a hF
      refine ls_call hF (.free rfl) rfl rfl (ex_call0 rfl rfl cl_23 (args_cons rfl args0)) (c_material w (p := p) (h.below hS.below) ) ?_; clear hF; rintro _ w ⟨vn4, n4, fn4, qn4, en4, rfl, hln4, hbn4, hqn4, hrn4, hS'⟩ a hF
      replace hS : Sat w0 w [.blk g1 [vL, vD, .int .i64 p.stock, .int .i64 p.kerf], .blk g2 [vy, .int .i64 q], .blk g3 [vL, vD, .int .i64 p.stock, .int .i64 p.kerf], .own vn1 1 3 n1 (ints fn1), .blk g4 [vn1, .int .i64 qn1], .own vn4 1 3 n4 (ints fn4)] := hS.comp hS'; clear hS'
      have hp := (chk_ok hz).1
      obtain ⟨hmen4, hmnn4, hmzn4⟩ := material_law hp hrn4
      have hpm2 := hp.m2
      refine ls_val hF (.free rfl) rfl rfl (ex_move rfl rfl) ?_; clear hF a; intro a hF
      refine ls_val hF (.free rfl) rfl rfl (ex_extract rfl rfl rfl) ?_; clear hF a; intro a hF
      refine ls_val hF (.free rfl) rfl rfl (ex_extract rfl rfl rfl) ?_; clear hF a; intro a hF
      refine ls_any hF (.free rfl) rfl rfl (ex_alloc (cs := [.slice none 0 0, .int .i64 0]) rfl el_34 hS rfl) ?_; clear hF; rintro _ w ⟨g7, rfl, hS⟩ a hF
      replace hS : Sat w0 w [.blk g1 [vL, vD, .int .i64 p.stock, .int .i64 p.kerf], .blk g2 [vy, .int .i64 q], .blk g3 [vL, vD, .int .i64 p.stock, .int .i64 p.kerf], .own vn1 1 3 n1 (ints fn1), .blk g4 [vn1, .int .i64 qn1], .own vn4 1 3 n4 (ints fn4), .blk g7 [.slice none 0 0, .int .i64 0]] := hS
      refine ls_effx hF (.free rfl) rfl (st_blks 6 (ds := [vn4, .int .i64 qn4]) rfl st_34 hS rfl rfl rfl rfl (ones_cons hln4.one (ones_cons rfl ones_nil))) ?_; clear hS; rintro w hS
      replace hS : Sat w0 w [.blk g1 [vL, vD, .int .i64 p.stock, .int .i64 p.kerf], .blk g2 [vy, .int .i64 q], .blk g3 [vL, vD, .int .i64 p.stock, .int .i64 p.kerf], .own vn1 1 3 n1 (ints fn1), .blk g4 [vn1, .int .i64 qn1], .own vn4 1 3 n4 (ints fn4), .blk g7 [vn4, .int .i64 qn4]] := hS
      refine ls_val hF (.free rfl) rfl rfl (ex_assign rfl rfl) ?_; clear hF a; intro a hF
      refine ls_nil ?_
      refine then_normal ?_
      refine cw_seq ?_
      refine wp_region_lit ?_
      refine ls_val hF (.free rfl) rfl rfl (ex_loads_blk 2 rfl st_33 rfl hS rfl rfl) ?_; clear hF a; intro a hF
      refine ls_val hF (.free rfl) rfl rfl (ex_loads_blk 6 rfl st_34 rfl hS rfl rfl) ?_; clear hF a; intro a hF
      refine ls_call hF (.free rfl) rfl rfl (ex_call0 rfl rfl cl_11 (args_cons rfl (args_cons rfl args0))) (c_bound (p := p) w (h.below hS.below) (⟨(hS.rowN 5 rfl), hbn4⟩ : IAt _ _ n4 fn4) (by omega)) ?_; clear hF; rintro _ w ⟨rfl, hS'⟩ a hF
      replace hS : Sat w0 w [.blk g1 [vL, vD, .int .i64 p.stock, .int .i64 p.kerf], .blk g2 [vy, .int .i64 q], .blk g3 [vL, vD, .int .i64 p.stock, .int .i64 p.kerf], .own vn1 1 3 n1 (ints fn1), .blk g4 [vn1, .int .i64 qn1], .own vn4 1 3 n4 (ints fn4), .blk g7 [vn4, .int .i64 qn4]] := hS.comp hS'; clear hS'
      refine ls_val hF (.free rfl) rfl rfl (ex_move rfl rfl) ?_; clear hF a; intro a hF
      refine ls_val hF (.free rfl) rfl rfl (ex_extract rfl rfl rfl) ?_; clear hF a; intro a hF
      refine ls_val hF (.free rfl) rfl rfl (ex_extract rfl rfl rfl) ?_; clear hF a; intro a hF
      refine ls_val hF (.free rfl) rfl rfl (ex_assign rfl rfl) ?_; clear hF a; intro a hF
      refine ls_val hF (.free rfl) rfl rfl (ex_assign rfl rfl) ?_; clear hF a; intro a hF
      refine ls_nil ?_
      refine then_normal ?_
      refine cw_seq ?_
      refine wp_region_lit ?_
      refine ls_val hF (.free rfl) rfl rfl (ex_loads_blk 1 rfl st_26 rfl hS rfl rfl) ?_; clear hF a; intro a hF
      refine ls_val hF (.free rfl) rfl rfl (ex_loads_blk 6 rfl st_34 rfl hS rfl rfl) ?_; clear hF a; intro a hF
      refine ls_call hF (.free rfl) rfl rfl (ex_call0 rfl rfl cl_20 (args_cons rfl (args_cons rfl args0))) (c_sum w (hY.below hS.below) (q := q) (by omega) (⟨(hS.rowN 5 rfl), hbn4⟩ : IAt _ _ n4 fn4) (s := qn4) (by omega) (by omega) ) ?_; clear hF; rintro _ w ⟨vn5, n5, fn5, qn5, en5, rfl, hln5, hbn5, hqn5, hrn5, hS'⟩ a hF
      replace hS : Sat w0 w [.blk g1 [vL, vD, .int .i64 p.stock, .int .i64 p.kerf], .blk g2 [vy, .int .i64 q], .blk g3 [vL, vD, .int .i64 p.stock, .int .i64 p.kerf], .own vn1 1 3 n1 (ints fn1), .blk g4 [vn1, .int .i64 qn1], .own vn4 1 3 n4 (ints fn4), .blk g7 [vn4, .int .i64 qn4], .own vn5 1 3 n5 (ints fn5)] := hS.comp hS'; clear hS'
      have hen5 : en5 = 0 ∨ en5 = 2 := by rcases hrn5.few with hh | ⟨_, hh⟩; exact hh; exact absurd ⟨hfm, (chk_ok hmzn4).2.1, by have := (chk_ok hz).2.2.1; omega⟩ hh
      refine ls_val hF (.free rfl) rfl rfl (ex_move rfl rfl) ?_; clear hF a; intro a hF
      refine ls_val hF (.free rfl) rfl rfl (ex_extract rfl rfl rfl) ?_; clear hF a; intro a hF
      refine ls_val hF (.free rfl) rfl rfl (ex_extract rfl rfl rfl) ?_; clear hF a; intro a hF
      refine ls_any hF (.free rfl) rfl rfl (ex_alloc (cs := [.slice none 0 0, .int .i64 0]) rfl el_34 hS rfl) ?_; clear hF; rintro _ w ⟨g8, rfl, hS⟩ a hF
      replace hS : Sat w0 w [.blk g1 [vL, vD, .int .i64 p.stock, .int .i64 p.kerf], .blk g2 [vy, .int .i64 q], .blk g3 [vL, vD, .int .i64 p.stock, .int .i64 p.kerf], .own vn1 1 3 n1 (ints fn1), .blk g4 [vn1, .int .i64 qn1], .own vn4 1 3 n4 (ints fn4), .blk g7 [vn4, .int .i64 qn4], .own vn5 1 3 n5 (ints fn5), .blk g8 [.slice none 0 0, .int .i64 0]] := hS
      refine ls_effx hF (.free rfl) rfl (st_blks 8 (ds := [vn5, .int .i64 qn5]) rfl st_34 hS rfl rfl rfl rfl (ones_cons hln5.one (ones_cons rfl ones_nil))) ?_; clear hS; rintro w hS
      replace hS : Sat w0 w [.blk g1 [vL, vD, .int .i64 p.stock, .int .i64 p.kerf], .blk g2 [vy, .int .i64 q], .blk g3 [vL, vD, .int .i64 p.stock, .int .i64 p.kerf], .own vn1 1 3 n1 (ints fn1), .blk g4 [vn1, .int .i64 qn1], .own vn4 1 3 n4 (ints fn4), .blk g7 [vn4, .int .i64 qn4], .own vn5 1 3 n5 (ints fn5), .blk g8 [vn5, .int .i64 qn5]] := hS
      refine ls_val hF (.free rfl) rfl rfl (ex_assign rfl rfl) ?_; clear hF a; intro a hF
      refine ls_nil ?_
      refine then_normal ?_
      refine cw_seq ?_
      refine cw_seq ?_
      refine wp_region_lit ?_
      refine ls_val hF (.free rfl) rfl rfl (ex_move rfl rfl) ?_; clear hF a; intro a hF
      refine ls_val hF (.free rfl) rfl rfl (ex_neq rfl rfl rfl) ?_; clear hF a; intro a hF
      refine ls_nil ?_
      refine then_normal ?_
      refine cw_if hF rfl (fun hc => ?_) (fun hc => ?_)
      ·
       refine cw_seq ?_
       refine wp_region_lit ?_
       refine ls_val hF (.free rfl) rfl rfl (ex_move rfl rfl) ?_; clear hF a; intro a hF
       refine ls_val hF (.free rfl) rfl rfl (ex_eql rfl rfl rfl) ?_; clear hF a; intro a hF
       refine ls_val hF (.free rfl) rfl rfl (ex_move rfl rfl) ?_; clear hF a; intro a hF
       refine by_slot hF (d := 92) rfl ?_ ?_ <;> clear hF <;> intro hc hF
       ·
        refine ls_val hF (.on rfl rfl rfl rfl rfl) rfl rfl (ex_move rfl rfl) ?_; clear hF a; intro a hF
        refine ls_val hF (.on rfl rfl rfl rfl rfl) rfl rfl (ex_neq rfl rfl rfl) ?_; clear hF a; intro a hF
        refine ls_val hF (.free rfl) rfl rfl (ex_pick_t rfl rfl rfl) ?_; clear hF a; intro a hF
        refine ls_val hF (.free rfl) rfl rfl (ex_assign rfl rfl) ?_; clear hF a; intro a hF
        refine ls_nil ?_
        refine then_normal ?_
        refine wp_ret ?_
        refine then_ret ((fin1 hF rfl rfl ⟨_, rfl, ?_⟩))
        exact ⟨(true_B (by omega)).symm, hS.sub (.cons _ (.cons _ (.cons _ (.cons _ (.cons _ (.cons _ (.cons _ (.cons _ (.cons _ .slnil)))))))))⟩
       ·
        refine ls_off hF (.on rfl rfl rfl rfl rfl) rfl rfl ?_; clear hF a; intro a hF
        refine ls_off hF (.on rfl rfl rfl rfl rfl) rfl rfl ?_; clear hF a; intro a hF
        refine ls_val hF (.free rfl) rfl rfl (ex_pick_f rfl rfl rfl) ?_; clear hF a; intro a hF
        refine ls_val hF (.free rfl) rfl rfl (ex_assign rfl rfl) ?_; clear hF a; intro a hF
        refine ls_nil ?_
        refine then_normal ?_
        refine wp_ret ?_
        refine then_ret ((fin1 hF rfl rfl ⟨_, rfl, ?_⟩))
        exfalso; omega
      ·
       refine wp_skip ?_
       refine then_normal ?_
       refine cw_seq ?_
       refine wp_region_lit ?_
       refine ls_val hF (.free rfl) rfl rfl (ex_loads_blk 2 rfl st_33 rfl hS rfl rfl) ?_; clear hF a; intro a hF
       refine ls_val hF (.free rfl) rfl rfl (ex_loads_blk 8 rfl st_34 rfl hS rfl rfl) ?_; clear hF a; intro a hF
       refine ls_call hF (.free rfl) rfl rfl (ex_call0 rfl rfl cl_11 (args_cons rfl (args_cons rfl args0))) (c_bound (p := p) w (h.below hS.below) (⟨(hS.rowN 7 rfl), hbn5⟩ : IAt _ _ n5 fn5) (by omega)) ?_; clear hF; rintro _ w ⟨rfl, hS'⟩ a hF
       replace hS : Sat w0 w [.blk g1 [vL, vD, .int .i64 p.stock, .int .i64 p.kerf], .blk g2 [vy, .int .i64 q], .blk g3 [vL, vD, .int .i64 p.stock, .int .i64 p.kerf], .own vn1 1 3 n1 (ints fn1), .blk g4 [vn1, .int .i64 qn1], .own vn4 1 3 n4 (ints fn4), .blk g7 [vn4, .int .i64 qn4], .own vn5 1 3 n5 (ints fn5), .blk g8 [vn5, .int .i64 qn5]] := hS.comp hS'; clear hS'
       have hx := mix_law hz hmzn4 (hrn5.at (by omega))
       have hx1 := hx.1; have hx2 := hx.2.1; have hx3 := hx.2.2
       refine ls_val hF (.free rfl) rfl rfl (ex_move rfl rfl) ?_; clear hF a; intro a hF
       refine ls_val hF (.free rfl) rfl rfl (ex_extract rfl rfl rfl) ?_; clear hF a; intro a hF
       refine ls_val hF (.free rfl) rfl rfl (ex_extract rfl rfl rfl) ?_; clear hF a; intro a hF
       refine ls_val hF (.free rfl) rfl rfl (ex_assign rfl rfl) ?_; clear hF a; intro a hF
       refine ls_val hF (.free rfl) rfl rfl (ex_assign rfl rfl) ?_; clear hF a; intro a hF
       refine ls_nil ?_
       refine then_normal ?_
       refine cw_seq ?_
       refine wp_region_lit ?_
       refine ls_val hF (.free rfl) rfl rfl (ex_move rfl rfl) ?_; clear hF a; intro a hF
       refine ls_val hF (.free rfl) rfl rfl (known_t (ex_eql rfl rfl rfl) (by omega)) ?_; clear hF a; intro a hF
       refine ls_val hF (.free rfl) rfl rfl (ex_move rfl rfl) ?_; clear hF a; intro a hF
       refine ls_val hF (.on rfl rfl rfl rfl rfl) rfl rfl (ex_move rfl rfl) ?_; clear hF a; intro a hF
       refine ls_val hF (.on rfl rfl rfl rfl rfl) rfl rfl (ex_move rfl rfl) ?_; clear hF a; intro a hF
       refine ls_val hF (.on rfl rfl rfl rfl rfl) rfl rfl (ex_move rfl rfl) ?_; clear hF a; intro a hF
       refine ls_val hF (.on rfl rfl rfl rfl rfl) rfl rfl (ex_max (r := (max (BndOf p n y q) (BndOf p n4 fn4 qn4))) rfl rfl rfl rfl) ?_; clear hF a; intro a hF
       refine ls_val hF (.on rfl rfl rfl rfl rfl) rfl rfl (ex_leq rfl rfl rfl) ?_; clear hF a; intro a hF
       refine ls_val hF (.free rfl) rfl rfl (ex_pick_t rfl rfl rfl) ?_; clear hF a; intro a hF
       refine ls_val hF (.free rfl) rfl rfl (ex_move rfl rfl) ?_; clear hF a; intro a hF
       refine by_slot hF (d := 111) rfl ?_ ?_ <;> clear hF <;> intro hc hF
       ·
        refine ls_val hF (.on rfl rfl rfl rfl rfl) rfl rfl (ex_move rfl rfl) ?_; clear hF a; intro a hF
        refine ls_val hF (.on rfl rfl rfl rfl rfl) rfl rfl (ex_move rfl rfl) ?_; clear hF a; intro a hF
        refine ls_val hF (.on rfl rfl rfl rfl rfl) rfl rfl (ex_move rfl rfl) ?_; clear hF a; intro a hF
        refine ls_val hF (.on rfl rfl rfl rfl rfl) rfl rfl (ex_min (r := (min (BndOf p n y q) (BndOf p n4 fn4 qn4))) rfl rfl rfl rfl) ?_; clear hF a; intro a hF
        refine ls_val hF (.on rfl rfl rfl rfl rfl) rfl rfl (ex_geq rfl rfl rfl) ?_; clear hF a; intro a hF
        refine ls_val hF (.free rfl) rfl rfl (ex_pick_t rfl rfl rfl) ?_; clear hF a; intro a hF
        refine ls_val hF (.free rfl) rfl rfl (ex_move rfl rfl) ?_; clear hF a; intro a hF
        refine by_slot hF (d := 118) rfl ?_ ?_ <;> clear hF <;> intro hc hF
        ·
         refine ls_val hF (.on rfl rfl rfl rfl rfl) rfl rfl (ex_move rfl rfl) ?_; clear hF a; intro a hF
         refine ls_val hF (.on rfl rfl rfl rfl rfl) rfl rfl (ex_eql rfl rfl rfl) ?_; clear hF a; intro a hF
         refine ls_val hF (.on rfl rfl rfl rfl rfl) rfl rfl (ex_move rfl rfl) ?_; clear hF a; intro a hF
         refine by_slot hF (d := 121) rfl ?_ ?_ <;> clear hF <;> intro hc hF
         ·
          refine ls_off hF (.on rfl rfl rfl rfl rfl) rfl rfl ?_; clear hF a; intro a hF
          refine ls_off hF (.on rfl rfl rfl rfl rfl) rfl rfl ?_; clear hF a; intro a hF
          refine ls_val hF (.on rfl rfl rfl rfl rfl) rfl rfl (ex_pick_t rfl rfl rfl) ?_; clear hF a; intro a hF
          refine ls_val hF (.free rfl) rfl rfl (ex_pick_t rfl rfl rfl) ?_; clear hF a; intro a hF
          refine ls_val hF (.free rfl) rfl rfl (ex_assign rfl rfl) ?_; clear hF a; intro a hF
          refine ls_nil ?_
          refine then_normal ?_
          refine wp_ret ?_
          refine (fin1 hF rfl rfl ⟨_, rfl, ?_⟩)
          exact ⟨rfl, hS.sub (.cons _ (.cons _ (.cons _ (.cons _ (.cons _ (.cons _ (.cons _ (.cons _ (.cons _ .slnil)))))))))⟩
         ·
          refine ls_val hF (.on rfl rfl rfl rfl rfl) rfl rfl (ex_move rfl rfl) ?_; clear hF a; intro a hF
          refine ls_val hF (.on rfl rfl rfl rfl rfl) rfl rfl (ex_eql rfl rfl rfl) ?_; clear hF a; intro a hF
          refine ls_val hF (.on rfl rfl rfl rfl rfl) rfl rfl (ex_pick_f rfl rfl rfl) ?_; clear hF a; intro a hF
          refine ls_val hF (.free rfl) rfl rfl (ex_pick_t rfl rfl rfl) ?_; clear hF a; intro a hF
          refine ls_val hF (.free rfl) rfl rfl (ex_assign rfl rfl) ?_; clear hF a; intro a hF
          refine ls_nil ?_
          refine then_normal ?_
          refine wp_ret ?_
          refine (fin1 hF rfl rfl ⟨_, rfl, ?_⟩)
          exact ⟨(true_B (by omega)).symm, hS.sub (.cons _ (.cons _ (.cons _ (.cons _ (.cons _ (.cons _ (.cons _ (.cons _ (.cons _ .slnil)))))))))⟩
        ·
         refine ls_off hF (.on rfl rfl rfl rfl rfl) rfl rfl ?_; clear hF a; intro a hF
         refine ls_off hF (.on rfl rfl rfl rfl rfl) rfl rfl ?_; clear hF a; intro a hF
         refine ls_off hF (.on rfl rfl rfl rfl rfl) rfl rfl ?_; clear hF a; intro a hF
         refine ls_off hF (.off rfl rfl rfl rfl) rfl rfl ?_; clear hF a; intro a hF
         refine ls_off hF (.off rfl rfl rfl rfl) rfl rfl ?_; clear hF a; intro a hF
         refine ls_off hF (.on rfl rfl rfl rfl rfl) rfl rfl ?_; clear hF a; intro a hF
         refine ls_val hF (.free rfl) rfl rfl (ex_pick_f rfl rfl rfl) ?_; clear hF a; intro a hF
         refine ls_val hF (.free rfl) rfl rfl (ex_assign rfl rfl) ?_; clear hF a; intro a hF
         refine ls_nil ?_
         refine then_normal ?_
         refine wp_ret ?_
         refine (fin1 hF rfl rfl ⟨_, rfl, ?_⟩)
         exfalso; omega
       ·
        refine ls_off hF (.on rfl rfl rfl rfl rfl) rfl rfl ?_; clear hF a; intro a hF
        refine ls_off hF (.on rfl rfl rfl rfl rfl) rfl rfl ?_; clear hF a; intro a hF
        refine ls_off hF (.on rfl rfl rfl rfl rfl) rfl rfl ?_; clear hF a; intro a hF
        refine ls_off hF (.on rfl rfl rfl rfl rfl) rfl rfl ?_; clear hF a; intro a hF
        refine ls_off hF (.on rfl rfl rfl rfl rfl) rfl rfl ?_; clear hF a; intro a hF
        refine ls_val hF (.free rfl) rfl rfl (ex_pick_f rfl rfl rfl) ?_; clear hF a; intro a hF
        refine ls_val hF (.free rfl) rfl rfl (ex_move rfl rfl) ?_; clear hF a; intro a hF
        refine ls_off hF (.on rfl rfl rfl rfl rfl) rfl rfl ?_; clear hF a; intro a hF
        refine ls_off hF (.on rfl rfl rfl rfl rfl) rfl rfl ?_; clear hF a; intro a hF
        refine ls_off hF (.on rfl rfl rfl rfl rfl) rfl rfl ?_; clear hF a; intro a hF
        refine ls_off hF (.off rfl rfl rfl rfl) rfl rfl ?_; clear hF a; intro a hF
        refine ls_off hF (.off rfl rfl rfl rfl) rfl rfl ?_; clear hF a; intro a hF
        refine ls_off hF (.on rfl rfl rfl rfl rfl) rfl rfl ?_; clear hF a; intro a hF
        refine ls_val hF (.free rfl) rfl rfl (ex_pick_f rfl rfl rfl) ?_; clear hF a; intro a hF
        refine ls_val hF (.free rfl) rfl rfl (ex_assign rfl rfl) ?_; clear hF a; intro a hF
        refine ls_nil ?_
        refine then_normal ?_
        refine wp_ret ?_
        refine (fin1 hF rfl rfl ⟨_, rfl, ?_⟩)
        exfalso; omega

end Go.Proofs.Ytigefiejddmidaa
