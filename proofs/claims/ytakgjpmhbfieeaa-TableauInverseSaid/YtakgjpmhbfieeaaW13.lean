/- The walk of TableauPrices. -/
import Derived.Test.YtakgjpmhbfieeaaW12
import Derived.Test.YtakgjpmhbfieeaaFz
namespace Go.Proofs.Ytakgjpmhbfieeaa
open Go Go.RowKit Go.Proofs.Gw
set_option linter.unusedVariables false

theorem cl_12 : calledT Try.prog 12 = true := by kernel_rfl
theorem cl_13 : calledT Try.prog 13 = true := by kernel_rfl
theorem cl_14 : calledT Try.prog 14 = true := by kernel_rfl
theorem cl_16 : calledT Try.prog 16 = true := by kernel_rfl
theorem el_25 : elemT Try.prog 25 = some (.agg #[.slice none 0 0, .slice none 0 0, .slice none 0 0], 3, 72) := by kernel_rfl
theorem it_3 : Try.prog.underlying 3 = some (.int .i64) := by kernel_rfl
theorem so_5 : (Try.prog.underlying 5).isSome = true := by kernel_rfl
set_option maxRecDepth 20000 in
theorem law_prices {vc vA vb : Value} {vq : Int → Value} {p : Lp} {at_ : Int} (w0 : World) (hL : LAt w0 vc vA vb vq p) (hat : 0 ≤ at_ ∧ at_ ≤ 255) :
    Calls Try.prog 7 [.agg #[vc, vA, vb], .int .u8 at_].toArray w0 fun e w => ∃ v, e = .returned v ∧ v = .bool true ∧ Sat w0 w [] := by
  have hn := hL.c.slh.n0; have hn1 := hL.c.slh.n1; have hm := hL.A.row.slh.n0; have hm1 := hL.A.row.slh.n1; have hk := hL.b.slh.n0; have hk1 := hL.b.slh.n1
  refine enterS (vs := [.agg #[vc, vA, vb], .int .u8 at_]) Try.func7 rfl Try.ntmps7 rfl ?_
  intro a w hS hF
  refine cw_seq ?_
  refine wp_region_lit ?_
  refine ls_any hF (.free rfl) rfl rfl (ex_box (cs := [vc, vA, vb]) rfl hS rfl rfl) ?_; clear hF; rintro _ w ⟨g1, rfl, hS⟩ a hF
  replace hS : Sat w0 w [.blk g1 [vc, vA, vb]] := hS
  refine ls_val hF (.free rfl) rfl rfl (ex_assign rfl rfl) ?_; clear hF a; intro a hF
  refine ls_nil ?_
  refine then_normal ?_
  refine cw_seq ?_
  refine cw_seq ?_
  refine wp_region_lit ?_
  refine ls_call hF (.free rfl) rfl rfl (ex_call0 rfl rfl cl_12 args0) (c_awake w) ?_; clear hF; rintro _ w ⟨rfl, hS'⟩ a hF
  replace hS : Sat w0 w [.blk g1 [vc, vA, vb]] := hS.comp hS'; clear hS'
  refine ls_val hF (.free rfl) rfl rfl (ex_not_t rfl rfl) ?_; clear hF a; intro a hF
  refine ls_val hF (.free rfl) rfl rfl (ex_move rfl rfl) ?_; clear hF a; intro a hF
  refine ls_val hF (.on rfl rfl rfl rfl rfl) rfl rfl (ex_loads_blk 0 rfl st_25 rfl hS rfl rfl) ?_; clear hF a; intro a hF
  refine ls_call hF (.on rfl rfl rfl rfl rfl) rfl rfl (ex_call0 rfl rfl cl_13 (args_cons rfl args0)) (c_few (p := p) w (hL.below hS.below)) ?_; clear hF; rintro _ w ⟨rfl, hS'⟩ a hF
  replace hS : Sat w0 w [.blk g1 [vc, vA, vb]] := hS.comp hS'; clear hS'
  refine ls_val hF (.on rfl rfl rfl rfl rfl) rfl rfl (ex_not rfl rfl) ?_; clear hF a; intro a hF
  refine ls_val hF (.free rfl) rfl rfl (ex_pick_f rfl rfl rfl) ?_; clear hF a; intro a hF
  refine ls_val hF (.free rfl) rfl rfl (ex_move rfl rfl) ?_; clear hF a; intro a hF
  refine by_slot hF (d := 18) rfl ?_ ?_ <;> clear hF <;> intro hc hF
  ·
   refine ls_off hF (.on rfl rfl rfl rfl rfl) rfl rfl ?_; clear hF a; intro a hF
   refine ls_off hF (.on rfl rfl rfl rfl rfl) rfl rfl ?_; clear hF a; intro a hF
   refine ls_off hF (.on rfl rfl rfl rfl rfl) rfl rfl ?_; clear hF a; intro a hF
   refine ls_val hF (.free rfl) rfl rfl (ex_pick_t rfl rfl rfl) ?_; clear hF a; intro a hF
   refine ls_val hF (.free rfl) rfl rfl (ex_move rfl rfl) ?_; clear hF a; intro a hF
   refine ls_off hF (.on rfl rfl rfl rfl rfl) rfl rfl ?_; clear hF a; intro a hF
   refine ls_off hF (.on rfl rfl rfl rfl rfl) rfl rfl ?_; clear hF a; intro a hF
   refine ls_off hF (.on rfl rfl rfl rfl rfl) rfl rfl ?_; clear hF a; intro a hF
   refine ls_off hF (.on rfl rfl rfl rfl rfl) rfl rfl ?_; clear hF a; intro a hF
   refine ls_val hF (.free rfl) rfl rfl (ex_pick_t rfl rfl rfl) ?_; clear hF a; intro a hF
   refine ls_nil ?_
   refine then_normal ?_
   refine cw_t hF rfl ?_
   refine cw_seq ?_
   refine wp_region_lit ?_
   refine ls_call hF (.free rfl) rfl rfl (ex_call0 rfl rfl cl_12 args0) (c_awake w) ?_; clear hF; rintro _ w ⟨rfl, hS'⟩ a hF
   replace hS : Sat w0 w [.blk g1 [vc, vA, vb]] := hS.comp hS'; clear hS'
   refine ls_val hF (.free rfl) rfl rfl (ex_assign rfl rfl) ?_; clear hF a; intro a hF
   refine ls_nil ?_
   refine then_normal ?_
   refine wp_ret ?_
   refine then_ret ((fin1 hF rfl rfl ⟨_, rfl, ?_⟩))
   exact ⟨rfl, hS.sub (.cons _ .slnil)⟩
  ·
   refine ls_val hF (.on rfl rfl rfl rfl rfl) rfl rfl (ex_loads_blk 0 rfl st_25 rfl hS rfl rfl) ?_; clear hF a; intro a hF
   refine ls_call hF (.on rfl rfl rfl rfl rfl) rfl rfl (ex_call0 rfl rfl cl_14 (args_cons rfl args0)) (c_rvalid (p := p) w (hL.below hS.below)) ?_; clear hF; rintro _ w ⟨rfl, hS'⟩ a hF
   replace hS : Sat w0 w [.blk g1 [vc, vA, vb]] := hS.comp hS'; clear hS'
   refine ls_val hF (.on rfl rfl rfl rfl rfl) rfl rfl (ex_not rfl rfl) ?_; clear hF a; intro a hF
   refine ls_val hF (.free rfl) rfl rfl (ex_pick_f rfl rfl rfl) ?_; clear hF a; intro a hF
   refine ls_val hF (.free rfl) rfl rfl (ex_move rfl rfl) ?_; clear hF a; intro a hF
   refine by_slot hF (d := 23) rfl ?_ ?_ <;> clear hF <;> intro hc hF
   ·
    refine ls_off hF (.on rfl rfl rfl rfl rfl) rfl rfl ?_; clear hF a; intro a hF
    refine ls_off hF (.on rfl rfl rfl rfl rfl) rfl rfl ?_; clear hF a; intro a hF
    refine ls_off hF (.on rfl rfl rfl rfl rfl) rfl rfl ?_; clear hF a; intro a hF
    refine ls_off hF (.on rfl rfl rfl rfl rfl) rfl rfl ?_; clear hF a; intro a hF
    refine ls_val hF (.free rfl) rfl rfl (ex_pick_t rfl rfl rfl) ?_; clear hF a; intro a hF
    refine ls_nil ?_
    refine then_normal ?_
    refine cw_t hF rfl ?_
    refine cw_seq ?_
    refine wp_region_lit ?_
    refine ls_call hF (.free rfl) rfl rfl (ex_call0 rfl rfl cl_12 args0) (c_awake w) ?_; clear hF; rintro _ w ⟨rfl, hS'⟩ a hF
    replace hS : Sat w0 w [.blk g1 [vc, vA, vb]] := hS.comp hS'; clear hS'
    refine ls_val hF (.free rfl) rfl rfl (ex_assign rfl rfl) ?_; clear hF a; intro a hF
    refine ls_nil ?_
    refine then_normal ?_
    refine wp_ret ?_
    refine then_ret ((fin1 hF rfl rfl ⟨_, rfl, ?_⟩))
    exact ⟨rfl, hS.sub (.cons _ .slnil)⟩
   ·
    refine ls_val hF (.on rfl rfl rfl rfl rfl) rfl rfl (ex_field (b := ⟨g1, 1, none⟩) rfl fd_25_1 rfl rfl) ?_; clear hF a; intro a hF
    refine ls_val hF (.on rfl rfl rfl rfl rfl) rfl rfl (ex_load_blk 0 rfl pl_23 rfl hS rfl rfl) ?_; clear hF a; intro a hF
    refine ls_val hF (.on rfl rfl rfl rfl rfl) rfl rfl (ex_len rfl sl_23 rfl hL.A.row.slh) ?_; clear hF a; intro a hF
    refine ls_val hF (.on rfl rfl rfl rfl rfl) rfl rfl (ex_eql rfl rfl rfl) ?_; clear hF a; intro a hF
    refine ls_val hF (.free rfl) rfl rfl (ex_pick_f rfl rfl rfl) ?_; clear hF a; intro a hF
    refine ls_nil ?_
    refine then_normal ?_
    refine cw_if hF rfl (fun hc => ?_) (fun hc => ?_)
    ·
     refine cw_seq ?_
     refine wp_region_lit ?_
     refine ls_call hF (.free rfl) rfl rfl (ex_call0 rfl rfl cl_12 args0) (c_awake w) ?_; clear hF; rintro _ w ⟨rfl, hS'⟩ a hF
     replace hS : Sat w0 w [.blk g1 [vc, vA, vb]] := hS.comp hS'; clear hS'
     refine ls_val hF (.free rfl) rfl rfl (ex_assign rfl rfl) ?_; clear hF a; intro a hF
     refine ls_nil ?_
     refine then_normal ?_
     refine wp_ret ?_
     refine then_ret ((fin1 hF rfl rfl ⟨_, rfl, ?_⟩))
     exact ⟨rfl, hS.sub (.cons _ .slnil)⟩
    ·
     refine wp_skip ?_
     refine then_normal ?_
     refine cw_seq ?_
     refine wp_region_lit ?_
     refine ls_val hF (.free rfl) rfl rfl (ex_loads_blk 0 rfl st_25 rfl hS rfl rfl) ?_; clear hF a; intro a hF
     have hl : LOk p := by first | assumption | exact Classical.not_not.1 ‹¬ ¬ (LOk p)›
     have b1 := hl.n1; have b2 := hl.n2; have b3 := hl.m2; have b4 := hl.k
     refine ls_call hF (.free rfl) rfl rfl (ex_call0 rfl rfl cl_16 (args_cons rfl args0)) (c_own (p := p) w (hL.below hS.below)) ?_; clear hF; rintro _ w ⟨rfl, hS'⟩ a hF
     replace hS : Sat w0 w [.blk g1 [vc, vA, vb]] := hS.comp hS'; clear hS'
     refine ls_call hF (.free rfl) rfl rfl (ex_call0 rfl rfl cl_15 (args_cons rfl args0)) (c_solve (p := p) w (hL.below hS.below)) ?_; clear hF; rintro _ w ⟨vXs1, vYs1, ss1, es1, rfl, hsos1, hvXs1, hvYs1, hS'⟩ a hF
     replace hS : Sat w0 w [.blk g1 [vc, vA, vb], .own vXs1 1 3 ss1.n (ints ss1.X), .own vYs1 1 3 ss1.m (ints ss1.Y)] := hS.comp hS'; clear hS'
     refine ls_val hF (.free rfl) rfl rfl (ex_move rfl rfl) ?_; clear hF a; intro a hF
     refine ls_val hF (.free rfl) rfl rfl (ex_extract rfl rfl rfl) ?_; clear hF a; intro a hF
     refine ls_val hF (.free rfl) rfl rfl (ex_extract rfl rfl rfl) ?_; clear hF a; intro a hF
     refine ls_any hF (.free rfl) rfl rfl (ex_alloc (cs := [.slice none 0 0, .slice none 0 0, .int .i64 0, .int .i64 0]) rfl el_30 hS rfl) ?_; clear hF; rintro _ w ⟨g2, rfl, hS⟩ a hF
     replace hS : Sat w0 w [.blk g1 [vc, vA, vb], .own vXs1 1 3 ss1.n (ints ss1.X), .own vYs1 1 3 ss1.m (ints ss1.Y), .blk g2 [.slice none 0 0, .slice none 0 0, .int .i64 0, .int .i64 0]] := hS
     refine ls_effx hF (.free rfl) rfl (st_blks 3 (ds := [vXs1, vYs1, .int .i64 ss1.val, .int .i64 ss1.den]) rfl st_30 hS rfl rfl rfl rfl (ones_cons hvXs1.one (ones_cons hvYs1.one (ones_cons rfl (ones_cons rfl ones_nil))))) ?_; clear hS; rintro w hS
     replace hS : Sat w0 w [.blk g1 [vc, vA, vb], .own vXs1 1 3 ss1.n (ints ss1.X), .own vYs1 1 3 ss1.m (ints ss1.Y), .blk g2 [vXs1, vYs1, .int .i64 ss1.val, .int .i64 ss1.den]] := hS
     refine ls_val hF (.free rfl) rfl rfl (ex_assign rfl rfl) ?_; clear hF a; intro a hF
     refine ls_nil ?_
     refine then_normal ?_
     refine cw_seq ?_
     refine wp_region_lit ?_
     refine ls_val hF (.free rfl) rfl rfl (ex_move rfl rfl) ?_; clear hF a; intro a hF
     refine ls_val hF (.free rfl) rfl rfl (ex_conv rfl so_5 it_3 rfl (by unfold InK; omega)) ?_; clear hF a; intro a hF
     refine ls_val hF (.free rfl) rfl rfl (ex_field (b := ⟨g1, 1, none⟩) rfl fd_25_1 rfl rfl) ?_; clear hF a; intro a hF
     refine ls_val hF (.free rfl) rfl rfl (ex_load_blk 0 rfl pl_23 rfl hS rfl rfl) ?_; clear hF a; intro a hF
     refine ls_val hF (.free rfl) rfl rfl (ex_len rfl sl_23 rfl hL.A.row.slh) ?_; clear hF a; intro a hF
     refine ls_val hF (.free rfl) rfl rfl (ex_rem (r := (Int.tmod at_ p.m)) rfl rfl rfl (by omega) rfl) ?_; clear hF a; intro a hF
     have hk0 := Int.tmod_nonneg p.m (show 0 ≤ at_ by omega); have hk1 := Int.tmod_lt_of_pos at_ (show 0 < p.m by omega); have hbk := hl.b (Int.tmod at_ p.m) hk0 hk1
     refine ls_val hF (.free rfl) rfl rfl (ex_assign rfl rfl) ?_; clear hF a; intro a hF
     refine ls_nil ?_
     refine then_normal ?_
     refine cw_seq ?_
     refine wp_region_lit ?_
     refine ls_val hF (.free rfl) rfl rfl (ex_loads_blk 0 rfl st_25 rfl hS rfl rfl) ?_; clear hF a; intro a hF
     refine ls_any hF (.free rfl) rfl rfl (ex_alloc (cs := [.slice none 0 0, .slice none 0 0, .slice none 0 0]) rfl el_25 hS rfl) ?_; clear hF; rintro _ w ⟨g3, rfl, hS⟩ a hF
     replace hS : Sat w0 w [.blk g1 [vc, vA, vb], .own vXs1 1 3 ss1.n (ints ss1.X), .own vYs1 1 3 ss1.m (ints ss1.Y), .blk g2 [vXs1, vYs1, .int .i64 ss1.val, .int .i64 ss1.den], .blk g3 [.slice none 0 0, .slice none 0 0, .slice none 0 0]] := hS
     refine ls_effx hF (.free rfl) rfl (st_blks 4 (ds := [vc, vA, vb]) rfl st_25 hS rfl rfl rfl rfl (ones_cons hL.c.slh.one (ones_cons hL.A.row.slh.one (ones_cons hL.b.slh.one ones_nil)))) ?_; clear hS; rintro w hS
     replace hS : Sat w0 w [.blk g1 [vc, vA, vb], .own vXs1 1 3 ss1.n (ints ss1.X), .own vYs1 1 3 ss1.m (ints ss1.Y), .blk g2 [vXs1, vYs1, .int .i64 ss1.val, .int .i64 ss1.den], .blk g3 [vc, vA, vb]] := hS
     refine ls_nil ?_
     refine then_normal ?_
     refine cw_seq ?_
     refine wp_region_lit ?_
     refine ls_any hF (.free rfl) rfl rfl (ex_lit0 (c := ints (fun _ => 0)) rfl sl_22 hS) ?_; clear hF; rintro v1 w ⟨hS, hv1⟩ a hF
     replace hS : Sat w0 w [.blk g1 [vc, vA, vb], .own vXs1 1 3 ss1.n (ints ss1.X), .own vYs1 1 3 ss1.m (ints ss1.Y), .blk g2 [vXs1, vYs1, .int .i64 ss1.val, .int .i64 ss1.den], .blk g3 [vc, vA, vb], .own v1 1 3 0 (ints (fun _ => 0))] := hS
     refine ls_val hF (.free rfl) rfl rfl (ex_field (b := ⟨g1, 2, none⟩) rfl fd_25_2 rfl rfl) ?_; clear hF a; intro a hF
     refine ls_val hF (.free rfl) rfl rfl (ex_load_blk 0 rfl pl_22 rfl hS rfl rfl) ?_; clear hF a; intro a hF
     refine ls_any hF (.free rfl) rfl rfl (ap_own 5 (r := p.k) (f := ints (cat 0 (fun _ => 0) p.b)) rfl sl_22 el_3 rfl (by decide) hS rfl rfl rfl (hL.b.below hS.below) (fun _ _ _ => rfl) (by omega) (by omega) (by omega) (by exact cat_ints1 _ _ _)) ?_; clear hF; rintro v2 w ⟨hS, hv2⟩ a hF
     replace hS : Sat w0 w [.blk g1 [vc, vA, vb], .own vXs1 1 3 ss1.n (ints ss1.X), .own vYs1 1 3 ss1.m (ints ss1.Y), .blk g2 [vXs1, vYs1, .int .i64 ss1.val, .int .i64 ss1.den], .blk g3 [vc, vA, vb], .own v2 1 3 p.k (ints (cat 0 (fun _ => 0) p.b))] := hS
     replace hS := hS.recont 5 rfl (d := ints p.b) (fun k k0 k1 => by unfold ints cat; rw [if_neg (by omega), Int.sub_zero])
     replace hS : Sat w0 w [.blk g1 [vc, vA, vb], .own vXs1 1 3 ss1.n (ints ss1.X), .own vYs1 1 3 ss1.m (ints ss1.Y), .blk g2 [vXs1, vYs1, .int .i64 ss1.val, .int .i64 ss1.den], .blk g3 [vc, vA, vb], .own v2 1 3 p.k (ints p.b)] := hS
     refine ls_val hF (.free rfl) rfl rfl (ex_field (b := ⟨g3, 2, none⟩) rfl fd_25_2 rfl rfl) ?_; clear hF a; intro a hF
     refine ls_effx hF (.free rfl) rfl (st_blk 4 rfl pl_22 hS rfl rfl rfl hv2.one rfl) ?_; clear hS; rintro w hS
     replace hS : Sat w0 w [.blk g1 [vc, vA, vb], .own vXs1 1 3 ss1.n (ints ss1.X), .own vYs1 1 3 ss1.m (ints ss1.Y), .blk g2 [vXs1, vYs1, .int .i64 ss1.val, .int .i64 ss1.den], .blk g3 [vc, vA, v2], .own v2 1 3 p.k (ints p.b)] := hS
     refine ls_nil ?_
     refine then_normal ?_
     refine cw_seq ?_
     refine wp_region_lit ?_
     refine ls_val hF (.free rfl) rfl rfl (ex_field (b := ⟨g3, 2, none⟩) rfl fd_25_2 rfl rfl) ?_; clear hF a; intro a hF
     refine ls_val hF (.free rfl) rfl rfl (ex_load_blk 4 rfl pl_22 rfl hS rfl rfl) ?_; clear hF a; intro a hF
     refine ls_val hF (.free rfl) rfl rfl (ex_move rfl rfl) ?_; clear hF a; intro a hF
     refine ls_val hF (.free rfl) rfl rfl (ex_index (k := (Int.tmod at_ p.m)) rfl sl_22 rfl rfl hv2 (by omega) (by omega) (by omega)) ?_; clear hF a; intro a hF
     refine ls_val hF (.free rfl) rfl rfl (ex_load_row (u := .int .i64 (p.b (Int.tmod at_ p.m))) rfl pl_3 rfl (hS.rowN 5 rfl) (by omega) (by omega) rfl) ?_; clear hF a; intro a hF
     refine ls_val hF (.free rfl) rfl rfl (ex_add (r := (p.b (Int.tmod at_ p.m)) + 1) rfl rfl rfl (by omega) (by unfold I64; omega)) ?_; clear hF a; intro a hF
     refine ls_val hF (.free rfl) rfl rfl (ex_index (k := (Int.tmod at_ p.m)) rfl sl_22 rfl rfl hv2 (by omega) (by omega) (by omega)) ?_; clear hF a; intro a hF
     refine ls_effx hF (.free rfl) rfl (st_own 5 rfl pl_3 hS rfl rfl rfl rfl (by omega) (by omega) (upd_ints _ _ _)) ?_; clear hS; rintro w hS
     replace hS : Sat w0 w [.blk g1 [vc, vA, vb], .own vXs1 1 3 ss1.n (ints ss1.X), .own vYs1 1 3 ss1.m (ints ss1.Y), .blk g2 [vXs1, vYs1, .int .i64 ss1.val, .int .i64 ss1.den], .blk g3 [vc, vA, v2], .own v2 1 3 p.k (ints (upd p.b (Int.tmod at_ p.m) ((p.b (Int.tmod at_ p.m)) + 1)))] := hS
     refine ls_nil ?_
     refine then_normal ?_
     refine cw_seq ?_
     refine wp_region_lit ?_
     refine ls_val hF (.free rfl) rfl rfl (ex_loads_blk 4 rfl st_25 rfl hS rfl rfl) ?_; clear hF a; intro a hF
     refine ls_call hF (.free rfl) rfl rfl (ex_call0 rfl rfl cl_16 (args_cons rfl args0)) (c_own (p := (⟨p.n, p.m, p.k, p.c, p.ln, p.A, (upd p.b (Int.tmod at_ p.m) ((p.b (Int.tmod at_ p.m)) + 1))⟩ : Lp)) w (⟨(hL.c.below hS.below), (hL.A.below hS.below), (hS.rowN 5 rfl)⟩ : LAt _ vc vA v2 vq (⟨p.n, p.m, p.k, p.c, p.ln, p.A, (upd p.b (Int.tmod at_ p.m) ((p.b (Int.tmod at_ p.m)) + 1))⟩ : Lp))) ?_; clear hF; rintro _ w ⟨rfl, hS'⟩ a hF
     replace hS : Sat w0 w [.blk g1 [vc, vA, vb], .own vXs1 1 3 ss1.n (ints ss1.X), .own vYs1 1 3 ss1.m (ints ss1.Y), .blk g2 [vXs1, vYs1, .int .i64 ss1.val, .int .i64 ss1.den], .blk g3 [vc, vA, v2], .own v2 1 3 p.k (ints (upd p.b (Int.tmod at_ p.m) ((p.b (Int.tmod at_ p.m)) + 1)))] := hS.comp hS'; clear hS'
     refine ls_call hF (.free rfl) rfl rfl (ex_call0 rfl rfl cl_15 (args_cons rfl args0)) (c_solve (p := (⟨p.n, p.m, p.k, p.c, p.ln, p.A, (upd p.b (Int.tmod at_ p.m) ((p.b (Int.tmod at_ p.m)) + 1))⟩ : Lp)) w (⟨(hL.c.below hS.below), (hL.A.below hS.below), (hS.rowN 5 rfl)⟩ : LAt _ vc vA v2 vq (⟨p.n, p.m, p.k, p.c, p.ln, p.A, (upd p.b (Int.tmod at_ p.m) ((p.b (Int.tmod at_ p.m)) + 1))⟩ : Lp))) ?_; clear hF; rintro _ w ⟨vXs2, vYs2, ss2, es2, rfl, hsos2, hvXs2, hvYs2, hS'⟩ a hF
     replace hS : Sat w0 w [.blk g1 [vc, vA, vb], .own vXs1 1 3 ss1.n (ints ss1.X), .own vYs1 1 3 ss1.m (ints ss1.Y), .blk g2 [vXs1, vYs1, .int .i64 ss1.val, .int .i64 ss1.den], .blk g3 [vc, vA, v2], .own v2 1 3 p.k (ints (upd p.b (Int.tmod at_ p.m) ((p.b (Int.tmod at_ p.m)) + 1))), .own vXs2 1 3 ss2.n (ints ss2.X), .own vYs2 1 3 ss2.m (ints ss2.Y)] := hS.comp hS'; clear hS'
     refine ls_val hF (.free rfl) rfl rfl (ex_move rfl rfl) ?_; clear hF a; intro a hF
     refine ls_val hF (.free rfl) rfl rfl (ex_extract rfl rfl rfl) ?_; clear hF a; intro a hF
     refine ls_val hF (.free rfl) rfl rfl (ex_extract rfl rfl rfl) ?_; clear hF a; intro a hF
     refine ls_any hF (.free rfl) rfl rfl (ex_alloc (cs := [.slice none 0 0, .slice none 0 0, .int .i64 0, .int .i64 0]) rfl el_30 hS rfl) ?_; clear hF; rintro _ w ⟨g4, rfl, hS⟩ a hF
     replace hS : Sat w0 w [.blk g1 [vc, vA, vb], .own vXs1 1 3 ss1.n (ints ss1.X), .own vYs1 1 3 ss1.m (ints ss1.Y), .blk g2 [vXs1, vYs1, .int .i64 ss1.val, .int .i64 ss1.den], .blk g3 [vc, vA, v2], .own v2 1 3 p.k (ints (upd p.b (Int.tmod at_ p.m) ((p.b (Int.tmod at_ p.m)) + 1))), .own vXs2 1 3 ss2.n (ints ss2.X), .own vYs2 1 3 ss2.m (ints ss2.Y), .blk g4 [.slice none 0 0, .slice none 0 0, .int .i64 0, .int .i64 0]] := hS
     refine ls_effx hF (.free rfl) rfl (st_blks 8 (ds := [vXs2, vYs2, .int .i64 ss2.val, .int .i64 ss2.den]) rfl st_30 hS rfl rfl rfl rfl (ones_cons hvXs2.one (ones_cons hvYs2.one (ones_cons rfl (ones_cons rfl ones_nil))))) ?_; clear hS; rintro w hS
     replace hS : Sat w0 w [.blk g1 [vc, vA, vb], .own vXs1 1 3 ss1.n (ints ss1.X), .own vYs1 1 3 ss1.m (ints ss1.Y), .blk g2 [vXs1, vYs1, .int .i64 ss1.val, .int .i64 ss1.den], .blk g3 [vc, vA, v2], .own v2 1 3 p.k (ints (upd p.b (Int.tmod at_ p.m) ((p.b (Int.tmod at_ p.m)) + 1))), .own vXs2 1 3 ss2.n (ints ss2.X), .own vYs2 1 3 ss2.m (ints ss2.Y), .blk g4 [vXs2, vYs2, .int .i64 ss2.val, .int .i64 ss2.den]] := hS
     refine ls_val hF (.free rfl) rfl rfl (ex_assign rfl rfl) ?_; clear hF a; intro a hF
     refine ls_nil ?_
     refine then_normal ?_
     refine cw_seq ?_
     refine cw_seq ?_
     refine wp_region_lit ?_
     refine ls_val hF (.free rfl) rfl rfl (ex_move rfl rfl) ?_; clear hF a; intro a hF
     refine ls_val hF (.free rfl) rfl rfl (ex_neq rfl rfl rfl) ?_; clear hF a; intro a hF
     refine ls_val hF (.free rfl) rfl rfl (ex_move rfl rfl) ?_; clear hF a; intro a hF
     refine by_slot hF (d := 63) rfl ?_ ?_ <;> clear hF <;> intro hc hF
     ·
      refine ls_off hF (.on rfl rfl rfl rfl rfl) rfl rfl ?_; clear hF a; intro a hF
      refine ls_off hF (.on rfl rfl rfl rfl rfl) rfl rfl ?_; clear hF a; intro a hF
      refine ls_val hF (.free rfl) rfl rfl (ex_pick_t rfl rfl rfl) ?_; clear hF a; intro a hF
      refine ls_nil ?_
      refine then_normal ?_
      refine cw_t hF rfl ?_
      refine cw_seq ?_
      refine wp_region_lit ?_
      refine ls_val hF (.free rfl) rfl rfl (ex_move rfl rfl) ?_; clear hF a; intro a hF
      refine ls_val hF (.free rfl) rfl rfl (ex_neq rfl rfl rfl) ?_; clear hF a; intro a hF
      refine ls_val hF (.free rfl) rfl rfl (ex_move rfl rfl) ?_; clear hF a; intro a hF
      refine by_slot hF (d := 69) rfl ?_ ?_ <;> clear hF <;> intro hc hF
      ·
       refine ls_off hF (.on rfl rfl rfl rfl rfl) rfl rfl ?_; clear hF a; intro a hF
       refine ls_off hF (.on rfl rfl rfl rfl rfl) rfl rfl ?_; clear hF a; intro a hF
       refine ls_val hF (.free rfl) rfl rfl (ex_pick_t rfl rfl rfl) ?_; clear hF a; intro a hF
       refine ls_val hF (.free rfl) rfl rfl (ex_assign rfl rfl) ?_; clear hF a; intro a hF
       refine ls_nil ?_
       refine then_normal ?_
       refine wp_ret ?_
       refine then_ret ((fin1 hF rfl rfl ⟨_, rfl, ?_⟩))
       exact ⟨rfl, hS.sub (.cons _ (.cons _ (.cons _ (.cons _ (.cons _ (.cons _ (.cons _ (.cons _ (.cons _ .slnil)))))))))⟩
      ·
       refine ls_val hF (.on rfl rfl rfl rfl rfl) rfl rfl (ex_move rfl rfl) ?_; clear hF a; intro a hF
       refine ls_val hF (.on rfl rfl rfl rfl rfl) rfl rfl (ex_neq rfl rfl rfl) ?_; clear hF a; intro a hF
       refine ls_val hF (.free rfl) rfl rfl (ex_pick_f rfl rfl rfl) ?_; clear hF a; intro a hF
       refine ls_val hF (.free rfl) rfl rfl (ex_assign rfl rfl) ?_; clear hF a; intro a hF
       refine ls_nil ?_
       refine then_normal ?_
       refine wp_ret ?_
       refine then_ret ((fin1 hF rfl rfl ⟨_, rfl, ?_⟩))
       have he1 : es1 = 19 := by omega
       rw [he1] at hsos1
       exact ⟨(true_B fun h => price_none (k := Int.tmod at_ p.m) (e := 19) (by omega) hsos1 (SolveR.chk (p := p.more (Int.tmod at_ p.m)) (by show 0 ≤ p.m; omega) hsos2 h)).symm, hS.sub (.cons _ (.cons _ (.cons _ (.cons _ (.cons _ (.cons _ (.cons _ (.cons _ (.cons _ .slnil)))))))))⟩
     ·
      refine ls_val hF (.on rfl rfl rfl rfl rfl) rfl rfl (ex_move rfl rfl) ?_; clear hF a; intro a hF
      refine ls_val hF (.on rfl rfl rfl rfl rfl) rfl rfl (ex_neq rfl rfl rfl) ?_; clear hF a; intro a hF
      refine ls_val hF (.free rfl) rfl rfl (ex_pick_f rfl rfl rfl) ?_; clear hF a; intro a hF
      refine ls_nil ?_
      refine then_normal ?_
      refine cw_if hF rfl (fun hc => ?_) (fun hc => ?_)
      ·
       refine cw_seq ?_
       refine wp_region_lit ?_
       refine ls_val hF (.free rfl) rfl rfl (ex_move rfl rfl) ?_; clear hF a; intro a hF
       refine ls_val hF (.free rfl) rfl rfl (known_t (ex_neq rfl rfl rfl) (by omega)) ?_; clear hF a; intro a hF
       refine ls_val hF (.free rfl) rfl rfl (ex_move rfl rfl) ?_; clear hF a; intro a hF
       refine ls_off hF (.on rfl rfl rfl rfl rfl) rfl rfl ?_; clear hF a; intro a hF
       refine ls_off hF (.on rfl rfl rfl rfl rfl) rfl rfl ?_; clear hF a; intro a hF
       refine ls_val hF (.free rfl) rfl rfl (ex_pick_t rfl rfl rfl) ?_; clear hF a; intro a hF
       refine ls_val hF (.free rfl) rfl rfl (ex_assign rfl rfl) ?_; clear hF a; intro a hF
       refine ls_nil ?_
       refine then_normal ?_
       refine wp_ret ?_
       refine then_ret ((fin1 hF rfl rfl ⟨_, rfl, ?_⟩))
       exact ⟨rfl, hS.sub (.cons _ (.cons _ (.cons _ (.cons _ (.cons _ (.cons _ (.cons _ (.cons _ (.cons _ .slnil)))))))))⟩
      ·
       refine wp_skip ?_
       refine then_normal ?_
       refine cw_seq ?_
       refine dr_sat (m0 := [.blk g1 [vc, vA, vb], .own vXs1 1 3 ss1.n (ints ss1.X), .own vYs1 1 3 ss1.m (ints ss1.Y), .blk g2 [vXs1, vYs1, .int .i64 ss1.val, .int .i64 ss1.den], .blk g3 [vc, vA, v2], .own v2 1 3 p.k (ints (upd p.b (Int.tmod at_ p.m) ((p.b (Int.tmod at_ p.m)) + 1))), .own vXs2 1 3 ss2.n (ints ss2.X), .own vYs2 1 3 ss2.m (ints ss2.Y), .blk g4 [vXs2, vYs2, .int .i64 ss2.val, .int .i64 ss2.den]]) (m1 := [.blk g1 [vc, vA, vb], .own vXs1 1 3 ss1.n (ints ss1.X), .own vYs1 1 3 ss1.m (ints ss1.Y), .blk g2 [vXs1, vYs1, .int .i64 ss1.val, .int .i64 ss1.den], .blk g3 [vc, vA, v2], .own v2 1 3 p.k (ints (upd p.b (Int.tmod at_ p.m) ((p.b (Int.tmod at_ p.m)) + 1))), .own vXs2 1 3 ss2.n (ints ss2.X), .own vYs2 1 3 ss2.m (ints ss2.Y), .blk g4 [vXs2, vYs2, .int .i64 ss2.val, .int .i64 ss2.den]]) 1000 mx_ hS (.cons_cons _ (.cons_cons _ (.cons_cons _ (.cons_cons _ (.cons_cons _ (.cons_cons _ (.cons_cons _ (.cons_cons _ (.cons_cons _ .slnil))))))))) (.cons_cons _ (.cons_cons _ (.cons_cons _ (.cons_cons _ (.cons_cons _ (.cons_cons _ (.cons_cons _ (.cons_cons _ (.cons_cons _ .slnil))))))))) rfl ?_; clear hS; intro w hS hcl hB
       refine dr_val hF hcl hB 0 rfl (.free rfl) rfl rfl (by kernel_rfl) rfl (fun w => (ex_field (b := ⟨g4, 2, none⟩) rfl fd_30_2 rfl rfl)) ?_; clear hF a hcl hB; intro a hF hcl hB
       have hcs := hsos1.chk (by omega) (by omega); have hct := SolveR.chk (p := p.more (Int.tmod at_ p.m)) (by show 0 ≤ p.m; omega) hsos2 (by omega)
       have hsn := hcs.n; have hsm := hcs.m; have hsv := hcs.v; have hsd := hcs.d1; have hsd2 := hcs.d2; have htv := hct.v; have htd := hct.d1; have htd2 := hct.d2; have hsY := hcs.Y (Int.tmod at_ p.m) (by omega) (by omega)
       have hm1 := mul_abs htv (show -1073741824 ≤ ss1.den ∧ ss1.den ≤ 1073741824 by omega); have hm2 := mul_abs (a := ss1.val + ss1.Y (Int.tmod at_ p.m)) (A := 2147483648) (by omega) (show -1073741824 ≤ ss2.den ∧ ss2.den ≤ 1073741824 by omega)
       have hpl := price_law (by omega) (by omega) hcs hct
       refine dr_loadA hF hcl hB 1 rfl (.free rfl) rfl rfl (by kernel_rfl) rfl (fun w hS => (ex_load_blk 8 rfl pl_3 rfl hS rfl rfl)) ?_; clear hF a hcl hB; intro a hF hcl hB
       refine dr_val hF hcl hB 2 rfl (.free rfl) rfl rfl (by kernel_rfl) rfl (fun w => (ex_field (b := ⟨g2, 3, none⟩) rfl fd_30_3 rfl rfl)) ?_; clear hF a hcl hB; intro a hF hcl hB
       refine dr_loadA hF hcl hB 3 rfl (.free rfl) rfl rfl (by kernel_rfl) rfl (fun w hS => (ex_load_blk 3 rfl pl_3 rfl hS rfl rfl)) ?_; clear hF a hcl hB; intro a hF hcl hB
       refine dr_val hF hcl hB 4 rfl (.free rfl) rfl rfl (by kernel_rfl) rfl (fun w => (ex_mul (r := (ss2.val * ss1.den)) rfl rfl rfl rfl (by unfold I64; omega))) ?_; clear hF a hcl hB; intro a hF hcl hB
       refine dr_val hF hcl hB 5 rfl (.free rfl) rfl rfl (by kernel_rfl) rfl (fun w => (ex_field (b := ⟨g2, 2, none⟩) rfl fd_30_2 rfl rfl)) ?_; clear hF a hcl hB; intro a hF hcl hB
       refine dr_loadA hF hcl hB 6 rfl (.free rfl) rfl rfl (by kernel_rfl) rfl (fun w hS => (ex_load_blk 3 rfl pl_3 rfl hS rfl rfl)) ?_; clear hF a hcl hB; intro a hF hcl hB
       refine dr_val hF hcl hB 7 rfl (.free rfl) rfl rfl (by kernel_rfl) rfl (fun w => (ex_field (b := ⟨g2, 1, none⟩) rfl fd_30_1 rfl rfl)) ?_; clear hF a hcl hB; intro a hF hcl hB
       refine dr_loadA hF hcl hB 8 rfl (.free rfl) rfl rfl (by kernel_rfl) rfl (fun w hS => (ex_load_blk 3 rfl pl_22 rfl hS rfl rfl)) ?_; clear hF a hcl hB; intro a hF hcl hB
       refine dr_val hF hcl hB 9 rfl (.free rfl) rfl rfl (by kernel_rfl) rfl (fun w => (ex_move rfl rfl)) ?_; clear hF a hcl hB; intro a hF hcl hB
       refine dr_val hF hcl hB 10 rfl (.free rfl) rfl rfl (by kernel_rfl) rfl (fun w => (ex_index (k := (Int.tmod at_ p.m)) rfl sl_22 rfl rfl hvYs1 (by omega) (by omega) (by omega))) ?_; clear hF a hcl hB; intro a hF hcl hB
       refine dr_loadA hF hcl hB 11 rfl (.free rfl) rfl rfl (by kernel_rfl) rfl (fun w hS => (ex_load_row (u := .int .i64 (ss1.Y (Int.tmod at_ p.m))) rfl pl_3 rfl (hS.rowN 2 rfl) (by omega) (by omega) rfl)) ?_; clear hF a hcl hB; intro a hF hcl hB
       refine dr_val hF hcl hB 12 rfl (.free rfl) rfl rfl (by kernel_rfl) rfl (fun w => (ex_add (r := ss1.val + (ss1.Y (Int.tmod at_ p.m))) rfl rfl rfl (by omega) (by unfold I64; omega))) ?_; clear hF a hcl hB; intro a hF hcl hB
       refine dr_val hF hcl hB 13 rfl (.free rfl) rfl rfl (by kernel_rfl) rfl (fun w => (ex_field (b := ⟨g4, 3, none⟩) rfl fd_30_3 rfl rfl)) ?_; clear hF a hcl hB; intro a hF hcl hB
       refine dr_loadA hF hcl hB 14 rfl (.free rfl) rfl rfl (by kernel_rfl) rfl (fun w hS => (ex_load_blk 8 rfl pl_3 rfl hS rfl rfl)) ?_; clear hF a hcl hB; intro a hF hcl hB
       refine dr_val hF hcl hB 15 rfl (.free rfl) rfl rfl (by kernel_rfl) rfl (fun w => (ex_mul (r := ((ss1.val + (ss1.Y (Int.tmod at_ p.m))) * ss2.den)) rfl rfl rfl rfl (by unfold I64; omega))) ?_; clear hF a hcl hB; intro a hF hcl hB
       refine dr_val hF hcl hB 16 rfl (.free rfl) rfl rfl (by kernel_rfl) rfl (fun w => (ex_geq rfl rfl rfl)) ?_; clear hF a hcl hB; intro a hF hcl hB
       refine dr_val hF hcl hB 17 rfl (.free rfl) rfl rfl (by kernel_rfl) rfl (fun w => (ex_assign rfl rfl)) ?_; clear hF a hcl hB; intro a hF hcl hB
       refine dr_done (by kernel_rfl) ?_; clear hcl hB
       refine then_normal ?_
       refine wp_ret ?_
       refine (fin1 hF rfl rfl ⟨_, rfl, ?_⟩)
       exact ⟨(true_B (by omega)).symm, hS.sub (.cons _ (.cons _ (.cons _ (.cons _ (.cons _ (.cons _ (.cons _ (.cons _ (.cons _ .slnil)))))))))⟩

end Go.Proofs.Ytakgjpmhbfieeaa
