/- The walk of the statement DualLess. -/
import Derived.Test.YtigefiejddmidaaW6
namespace Go.Proofs.Ytigefiejddmidaa
open Go Go.RowKit Go.Proofs.Gw
set_option linter.unusedVariables false

set_option maxRecDepth 20000 in
theorem law_less {vL vD vy vl : Value} {p : Prob} {n q nl : Int} {y fl : Int → Int} (w0 : World) (h : PAt w0 vL vD p) (hY : IAt w0 vy n y) (hq : -9223372036854775808 ≤ q ∧ q ≤ 9223372036854775807) (hl : U8At w0 vl nl fl) :
    Calls Try.prog 5 [.agg #[vL, vD, .int .i64 p.stock, .int .i64 p.kerf], .agg #[vy, .int .i64 q], vl].toArray w0 fun e w => ∃ v, e = .returned v ∧ v = .bool true ∧ Sat w0 w [] := by
  have hd := h.D.slh.n0; have hd1 := h.D.slh.n1; have hs := h.is; have hk := h.ik; have hn := hY.n0; have hnl := hl.row.slh.n0; have hnl1 := hl.row.slh.n1
  refine enterS (vs := [.agg #[vL, vD, .int .i64 p.stock, .int .i64 p.kerf], .agg #[vy, .int .i64 q], vl]) Try.func5 rfl Try.ntmps5 rfl ?_
  intro a w hS hF
  refine cw_seq ?_
  refine wp_region_lit ?_
  refine ls_any hF (.free rfl) rfl rfl (ex_box (cs := [vL, vD, .int .i64 p.stock, .int .i64 p.kerf]) rfl hS rfl rfl) ?_; clear hF; rintro _ w ⟨g1, rfl, hS⟩ a hF
  replace hS : Sat w0 w [.blk g1 [vL, vD, .int .i64 p.stock, .int .i64 p.kerf]] := hS
  refine ls_any hF (.free rfl) rfl rfl (ex_box (cs := [vy, .int .i64 q]) rfl hS rfl rfl) ?_; clear hF; rintro _ w ⟨g2, rfl, hS⟩ a hF
  replace hS : Sat w0 w [.blk g1 [vL, vD, .int .i64 p.stock, .int .i64 p.kerf], .blk g2 [vy, .int .i64 q]] := hS
  refine ls_val hF (.free rfl) rfl rfl (ex_assign rfl rfl) ?_; clear hF a; intro a hF
  refine ls_nil ?_
  refine then_normal ?_
  refine cw_seq ?_
  refine cw_seq ?_
  refine wp_region_lit ?_
  refine ls_call hF (.free rfl) rfl rfl (ex_call0 rfl rfl cl_8 args0) (c_awake w) ?_; clear hF; rintro _ w ⟨rfl, hS'⟩ a hF
  replace hS : Sat w0 w [.blk g1 [vL, vD, .int .i64 p.stock, .int .i64 p.kerf], .blk g2 [vy, .int .i64 q]] := hS.comp hS'; clear hS'
  refine ls_val hF (.free rfl) rfl rfl (ex_not_t rfl rfl) ?_; clear hF a; intro a hF
  refine ls_val hF (.free rfl) rfl rfl (ex_move rfl rfl) ?_; clear hF a; intro a hF
  refine ls_val hF (.on rfl rfl rfl rfl rfl) rfl rfl (ex_loads_blk 0 rfl st_24 rfl hS rfl rfl) ?_; clear hF a; intro a hF
  refine ls_call hF (.on rfl rfl rfl rfl rfl) rfl rfl (ex_call0 rfl rfl cl_9 (args_cons rfl args0)) (c_few28 (p := p) w (h.below hS.below)) ?_; clear hF; rintro _ w ⟨rfl, hS'⟩ a hF
  replace hS : Sat w0 w [.blk g1 [vL, vD, .int .i64 p.stock, .int .i64 p.kerf], .blk g2 [vy, .int .i64 q]] := hS.comp hS'; clear hS'
  refine ls_val hF (.on rfl rfl rfl rfl rfl) rfl rfl (ex_not rfl rfl) ?_; clear hF a; intro a hF
  refine ls_val hF (.free rfl) rfl rfl (ex_pick_f rfl rfl rfl) ?_; clear hF a; intro a hF
  refine ls_val hF (.free rfl) rfl rfl (ex_move rfl rfl) ?_; clear hF a; intro a hF
  refine by_slot hF (d := 20) rfl ?_ ?_ <;> clear hF <;> intro hc hF
  ·
   refine ls_off hF (.on rfl rfl rfl rfl rfl) rfl rfl ?_; clear hF a; intro a hF
   refine ls_off hF (.on rfl rfl rfl rfl rfl) rfl rfl ?_; clear hF a; intro a hF
   refine ls_off hF (.on rfl rfl rfl rfl rfl) rfl rfl ?_; clear hF a; intro a hF
   refine ls_val hF (.free rfl) rfl rfl (ex_pick_t rfl rfl rfl) ?_; clear hF a; intro a hF
   refine ls_nil ?_
   refine then_normal ?_
   refine cw_t hF rfl ?_
   refine cw_seq ?_
   refine wp_region_lit ?_
   refine ls_call hF (.free rfl) rfl rfl (ex_call0 rfl rfl cl_8 args0) (c_awake w) ?_; clear hF; rintro _ w ⟨rfl, hS'⟩ a hF
   replace hS : Sat w0 w [.blk g1 [vL, vD, .int .i64 p.stock, .int .i64 p.kerf], .blk g2 [vy, .int .i64 q]] := hS.comp hS'; clear hS'
   refine ls_val hF (.free rfl) rfl rfl (ex_assign rfl rfl) ?_; clear hF a; intro a hF
   refine ls_nil ?_
   refine then_normal ?_
   refine wp_ret ?_
   refine then_ret ((fin1 hF rfl rfl ⟨_, rfl, ?_⟩))
   exact ⟨rfl, hS.sub (.cons _ (.cons _ .slnil))⟩
  ·
   refine ls_val hF (.on rfl rfl rfl rfl rfl) rfl rfl (ex_loads_blk 1 rfl st_26 rfl hS rfl rfl) ?_; clear hF a; intro a hF
   refine ls_call hF (.on rfl rfl rfl rfl rfl) rfl rfl (ex_call0 rfl rfl cl_10 (args_cons rfl args0)) (c_few32 w (q := q) (hY.below hS.below)) ?_; clear hF; rintro _ w ⟨rfl, hS'⟩ a hF
   replace hS : Sat w0 w [.blk g1 [vL, vD, .int .i64 p.stock, .int .i64 p.kerf], .blk g2 [vy, .int .i64 q]] := hS.comp hS'; clear hS'
   refine ls_val hF (.on rfl rfl rfl rfl rfl) rfl rfl (ex_not rfl rfl) ?_; clear hF a; intro a hF
   refine ls_val hF (.free rfl) rfl rfl (ex_pick_f rfl rfl rfl) ?_; clear hF a; intro a hF
   refine ls_nil ?_
   refine then_normal ?_
   refine cw_if hF rfl (fun hc => ?_) (fun hc => ?_)
   ·
    refine cw_seq ?_
    refine wp_region_lit ?_
    refine ls_call hF (.free rfl) rfl rfl (ex_call0 rfl rfl cl_8 args0) (c_awake w) ?_; clear hF; rintro _ w ⟨rfl, hS'⟩ a hF
    replace hS : Sat w0 w [.blk g1 [vL, vD, .int .i64 p.stock, .int .i64 p.kerf], .blk g2 [vy, .int .i64 q]] := hS.comp hS'; clear hS'
    refine ls_val hF (.free rfl) rfl rfl (ex_assign rfl rfl) ?_; clear hF a; intro a hF
    refine ls_nil ?_
    refine then_normal ?_
    refine wp_ret ?_
    refine then_ret ((fin1 hF rfl rfl ⟨_, rfl, ?_⟩))
    exact ⟨rfl, hS.sub (.cons _ (.cons _ .slnil))⟩
   ·
    refine wp_skip ?_
    refine then_normal ?_
    refine cw_seq ?_
    refine wp_region_lit ?_
    refine ls_val hF (.free rfl) rfl rfl (ex_loads_blk 0 rfl st_24 rfl hS rfl rfl) ?_; clear hF a; intro a hF
    refine ls_val hF (.free rfl) rfl rfl (ex_loads_blk 1 rfl st_26 rfl hS rfl rfl) ?_; clear hF a; intro a hF
    refine ls_call hF (.free rfl) rfl rfl (ex_call0 rfl rfl cl_11 (args_cons rfl (args_cons rfl args0))) (c_bound (p := p) w (h.below hS.below) (hY.below hS.below) (by omega)) ?_; clear hF; rintro _ w ⟨rfl, hS'⟩ a hF
    replace hS : Sat w0 w [.blk g1 [vL, vD, .int .i64 p.stock, .int .i64 p.kerf], .blk g2 [vy, .int .i64 q]] := hS.comp hS'; clear hS'
    refine ls_val hF (.free rfl) rfl rfl (ex_move rfl rfl) ?_; clear hF a; intro a hF
    refine ls_val hF (.free rfl) rfl rfl (ex_extract rfl rfl rfl) ?_; clear hF a; intro a hF
    refine ls_val hF (.free rfl) rfl rfl (ex_extract rfl rfl rfl) ?_; clear hF a; intro a hF
    refine ls_val hF (.free rfl) rfl rfl (ex_assign rfl rfl) ?_; clear hF a; intro a hF
    refine ls_val hF (.free rfl) rfl rfl (ex_assign rfl rfl) ?_; clear hF a; intro a hF
    refine ls_nil ?_
    refine then_normal ?_
    refine cw_seq ?_
    refine cw_seq ?_
    refine wp_region_lit ?_
    refine ls_val hF (.free rfl) rfl rfl (ex_move rfl rfl) ?_; clear hF a; intro a hF
    refine ls_val hF (.free rfl) rfl rfl (ex_neq rfl rfl rfl) ?_; clear hF a; intro a hF
    refine ls_nil ?_
    refine then_normal ?_
    refine cw_if hF rfl (fun hc => ?_) (fun hc => ?_)
    ·
     refine cw_seq ?_
     refine wp_region_lit ?_
     refine ls_val hF (.free rfl) rfl rfl (ex_move rfl rfl) ?_; clear hF a; intro a hF
     have hz := bnd_no (by omega : Chk p n y q ≠ 0)
     refine ls_val hF (.free rfl) rfl rfl (known_t (ex_eql rfl rfl rfl) (by omega)) ?_; clear hF a; intro a hF
     refine ls_val hF (.free rfl) rfl rfl (ex_assign rfl rfl) ?_; clear hF a; intro a hF
     refine ls_nil ?_
     refine then_normal ?_
     refine wp_ret ?_
     refine then_ret ((fin1 hF rfl rfl ⟨_, rfl, ?_⟩))
     exact ⟨rfl, hS.sub (.cons _ (.cons _ .slnil))⟩
    ·
     refine wp_skip ?_
     refine then_normal ?_
     refine cw_seq ?_
     refine wp_region_lit ?_
     refine ls_val hF (.free rfl) rfl rfl (ex_loads_blk 0 rfl st_24 rfl hS rfl rfl) ?_; clear hF a; intro a hF
     have hchk : Chk p n y q = 0 := by omega
     have hp := (chk_ok hchk).1; have hdm := hp.d; have hm2 := hp.m2
     refine ls_any hF (.free rfl) rfl rfl (ex_alloc (cs := [.slice none 0 0, .slice none 0 0, .int .i64 0, .int .i64 0]) rfl el_24 hS rfl) ?_; clear hF; rintro _ w ⟨g3, rfl, hS⟩ a hF
     replace hS : Sat w0 w [.blk g1 [vL, vD, .int .i64 p.stock, .int .i64 p.kerf], .blk g2 [vy, .int .i64 q], .blk g3 [.slice none 0 0, .slice none 0 0, .int .i64 0, .int .i64 0]] := hS
     refine ls_effx hF (.free rfl) rfl (st_blks 2 (ds := [vL, vD, .int .i64 p.stock, .int .i64 p.kerf]) rfl st_24 hS rfl rfl rfl rfl (ones_cons h.L.slh.one (ones_cons h.D.slh.one (ones_cons rfl (ones_cons rfl ones_nil))))) ?_; clear hS; rintro w hS
     replace hS : Sat w0 w [.blk g1 [vL, vD, .int .i64 p.stock, .int .i64 p.kerf], .blk g2 [vy, .int .i64 q], .blk g3 [vL, vD, .int .i64 p.stock, .int .i64 p.kerf]] := hS
     refine ls_nil ?_
     refine then_normal ?_
     refine cw_seq ?_
     refine wp_region_lit ?_
     refine ls_any hF (.free rfl) rfl rfl (ex_lit0 (c := ints p.D) rfl sl_22 hS) ?_; clear hF; rintro v1 w ⟨hS, hv1⟩ a hF
     replace hS : Sat w0 w [.blk g1 [vL, vD, .int .i64 p.stock, .int .i64 p.kerf], .blk g2 [vy, .int .i64 q], .blk g3 [vL, vD, .int .i64 p.stock, .int .i64 p.kerf], .own v1 1 3 0 (ints p.D)] := hS
     refine ls_val hF (.free rfl) rfl rfl (ex_field (b := ⟨g1, 1, none⟩) rfl fd_24_1 rfl rfl) ?_; clear hF a; intro a hF
     refine ls_val hF (.free rfl) rfl rfl (ex_load_blk 0 rfl pl_22 rfl hS rfl rfl) ?_; clear hF a; intro a hF
     refine ls_any hF (.free rfl) rfl rfl (ap_own 3 (r := p.d) (f := ints p.D) rfl sl_22 el_3 rfl (by decide) hS rfl rfl rfl (h.D.below hS.below) (fun _ _ _ => rfl) (by omega) (by omega) (by omega) (by exact cat_self _ _)) ?_; clear hF; rintro v2 w ⟨hS, hv2⟩ a hF
     replace hS : Sat w0 w [.blk g1 [vL, vD, .int .i64 p.stock, .int .i64 p.kerf], .blk g2 [vy, .int .i64 q], .blk g3 [vL, vD, .int .i64 p.stock, .int .i64 p.kerf], .own v2 1 3 p.d (ints p.D)] := hS
     refine ls_val hF (.free rfl) rfl rfl (ex_field (b := ⟨g3, 1, none⟩) rfl fd_24_1 rfl rfl) ?_; clear hF a; intro a hF
     refine ls_effx hF (.free rfl) rfl (st_blk 2 rfl pl_22 hS rfl rfl rfl hv2.one rfl) ?_; clear hS; rintro w hS
     replace hS : Sat w0 w [.blk g1 [vL, vD, .int .i64 p.stock, .int .i64 p.kerf], .blk g2 [vy, .int .i64 q], .blk g3 [vL, v2, .int .i64 p.stock, .int .i64 p.kerf], .own v2 1 3 p.d (ints p.D)] := hS
     refine ls_nil ?_
     refine then_normal ?_
     refine cw_seq ?_
     refine cw_seq ?_
     refine wp_region_lit ?_
     refine ls_val hF (.free rfl) rfl rfl (ex_field (b := ⟨g3, 1, none⟩) rfl fd_24_1 rfl rfl) ?_; clear hF a; intro a hF
     refine ls_val hF (.free rfl) rfl rfl (ex_load_blk 2 rfl pl_22 rfl hS rfl rfl) ?_; clear hF a; intro a hF
     refine ls_val hF (.free rfl) rfl rfl (ex_len rfl sl_22 rfl hv2) ?_; clear hF a; intro a hF
     refine ls_val hF (.free rfl) rfl rfl (ex_move rfl rfl) ?_; clear hF a; intro a hF
     refine ls_nil ?_
     refine then_normal ?_
     refine wp_block ?_
     refine cw_loop (fun mm a w => ∃ (i : Int) (f : Int → Int), mm = ((p.d - i).toNat) ∧ (0 ≤ i) ∧ (i ≤ p.d) ∧ (∀ k, 0 ≤ k → k < p.d → 0 ≤ f k ∧ f k ≤ p.D k) ∧ (∀ k, -9223372036854775808 ≤ f k ∧ f k ≤ 9223372036854775807) ∧ Fr a 85 [(2, vl), (4, .pointer (some ⟨g2, 0, none⟩)), (6, .bool false), (7, .int .i64 (BndOf p n y q)), (9, .pointer (some ⟨g3, 0, none⟩)), (44, .int .i64 p.d), (45, .int .i64 i)] ∧ Sat w0 w [.blk g1 [vL, vD, .int .i64 p.stock, .int .i64 p.kerf], .blk g2 [vy, .int .i64 q], .blk g3 [vL, v2, .int .i64 p.stock, .int .i64 p.kerf], .own v2 1 3 p.d (ints f)]) ?_ ?_ (m := ((p.d - 0).toNat))
     ·
      refine ⟨0, p.D, rfl, (by omega), (by omega), ?_, ?_, (hF.pick (hF.pick (hF.pick (hF.pick (hF.pick (hF.pick (hF.pick hF.nil 45 rfl) 44 rfl) 9 rfl) 7 rfl) 6 rfl) 4 rfl) 2 rfl), hS⟩
      ·
       intro k k0 k1; have := hp.all k k0 (by omega); unfold Prob.each at this; omega
      ·
       exact h.iD
     ·
      clear hF hS a w
      rintro mm a w ⟨i, f, rfl, h0, h1, hf, hb, hF, hS⟩
      refine cw_seq ?_
      refine wp_region_lit ?_
      refine ls_val hF (.free rfl) rfl rfl (ex_lss rfl rfl rfl) ?_; clear hF a; intro a hF
      refine ls_nil ?_
      refine then_normal ?_
      refine cw_seq ?_
      refine cw_if hF rfl (fun hc => ?_) (fun hc => ?_)
      ·
       refine wp_skip ?_
       refine then_normal ?_
       refine cw_seq ?_
       refine wp_block ?_
       refine cw_seq ?_
       refine wp_region_lit ?_
       refine ls_val hF (.free rfl) rfl rfl (ex_move rfl rfl) ?_; clear hF a; intro a hF
       have hfi := hf i h0 (by omega); have hDi := hp.all i h0 (by omega); unfold Prob.each at hDi
       refine ls_val hF (.free rfl) rfl rfl (ex_assign rfl rfl) ?_; clear hF a; intro a hF
       refine ls_nil ?_
       refine then_normal ?_
       refine cw_seq ?_
       refine wp_region_lit ?_
       refine ls_val hF (.free rfl) rfl rfl (ex_move rfl rfl) ?_; clear hF a; intro a hF
       refine ls_val hF (.free rfl) rfl rfl (ex_move rfl rfl) ?_; clear hF a; intro a hF
       refine ls_val hF (.free rfl) rfl rfl (ex_len rfl sl_44 rfl hl.row.slh) ?_; clear hF a; intro a hF
       refine ls_val hF (.free rfl) rfl rfl (ex_lss rfl rfl rfl) ?_; clear hF a; intro a hF
       refine ls_nil ?_
       refine then_normal ?_
       refine cw_if hF rfl (fun hc => ?_) (fun hc => ?_)
       ·
        refine dr_sat (m0 := [.blk g1 [vL, vD, .int .i64 p.stock, .int .i64 p.kerf], .blk g2 [vy, .int .i64 q], .blk g3 [vL, v2, .int .i64 p.stock, .int .i64 p.kerf], .own v2 1 3 p.d (ints f)]) 19 mx_ hS (.cons_cons _ (.cons_cons _ (.cons_cons _ (.cons_cons _ .slnil)))) rfl ?_; clear hS; intro w hS hcl hB
        refine dr_val hF hcl hB 0 rfl (.free rfl) rfl rfl (by kernel_rfl) rfl (fun w => (ex_field (b := ⟨g3, 1, none⟩) rfl fd_24_1 rfl rfl)) ?_; clear hF a hcl hB; intro a hF hcl hB
        refine dr_load hF hcl hB 1 rfl (.free rfl) rfl rfl (by kernel_rfl) rfl (by kernel_rfl) (fun w hS => (ex_load_blk 2 rfl pl_22 rfl hS rfl rfl)) ?_; clear hF a hcl hB; intro a hF hcl hB
        refine dr_val hF hcl hB 2 rfl (.free rfl) rfl rfl (by kernel_rfl) rfl (fun w => (ex_move rfl rfl)) ?_; clear hF a hcl hB; intro a hF hcl hB
        refine dr_val hF hcl hB 3 rfl (.free rfl) rfl rfl (by kernel_rfl) rfl (fun w => (ex_index (k := i) rfl sl_22 rfl rfl hv2 (by omega) (by omega) (by omega))) ?_; clear hF a hcl hB; intro a hF hcl hB
        refine dr_load hF hcl hB 4 rfl (.free rfl) rfl rfl (by kernel_rfl) rfl (by kernel_rfl) (fun w hS => (ex_load_row (u := .int .i64 (f i)) rfl pl_3 rfl (hS.rowN 3 rfl) (by omega) (by omega) rfl)) ?_; clear hF a hcl hB; intro a hF hcl hB
        refine dr_val hF hcl hB 5 rfl (.free rfl) rfl rfl (by kernel_rfl) rfl (fun w => (ex_move rfl rfl)) ?_; clear hF a hcl hB; intro a hF hcl hB
        refine dr_val hF hcl hB 6 rfl (.free rfl) rfl rfl (by kernel_rfl) rfl (fun w => (ex_move rfl rfl)) ?_; clear hF a hcl hB; intro a hF hcl hB
        refine dr_val hF hcl hB 7 rfl (.free rfl) rfl rfl (by kernel_rfl) rfl (fun w => (ex_index (k := i) rfl sl_44 rfl rfl hl.row.slh (by omega) (by omega) (by omega))) ?_; clear hF a hcl hB; intro a hF hcl hB
        refine dr_load hF hcl hB 8 rfl (.free rfl) rfl rfl (by kernel_rfl) rfl (by kernel_rfl) (fun w hS => (ex_load_row (u := .int .u8 (fl i)) rfl pl_5 rfl (hl.row.below hS.below) (by omega) (by omega) rfl)) ?_; clear hF a hcl hB; intro a hF hcl hB
        have hbv := hl.i i
        refine dr_val hF hcl hB 9 rfl (.free rfl) rfl rfl (by kernel_rfl) rfl (fun w => (ex_conv rfl so_5 it_3 rfl (by unfold InK; omega))) ?_; clear hF a hcl hB; intro a hF hcl hB
        refine dr_val hF hcl hB 10 rfl (.free rfl) rfl rfl (by kernel_rfl) rfl (fun w => (ex_field (b := ⟨g3, 1, none⟩) rfl fd_24_1 rfl rfl)) ?_; clear hF a hcl hB; intro a hF hcl hB
        refine dr_load hF hcl hB 11 rfl (.free rfl) rfl rfl (by kernel_rfl) rfl (by kernel_rfl) (fun w hS => (ex_load_blk 2 rfl pl_22 rfl hS rfl rfl)) ?_; clear hF a hcl hB; intro a hF hcl hB
        refine dr_val hF hcl hB 12 rfl (.free rfl) rfl rfl (by kernel_rfl) rfl (fun w => (ex_move rfl rfl)) ?_; clear hF a hcl hB; intro a hF hcl hB
        refine dr_val hF hcl hB 13 rfl (.free rfl) rfl rfl (by kernel_rfl) rfl (fun w => (ex_index (k := i) rfl sl_22 rfl rfl hv2 (by omega) (by omega) (by omega))) ?_; clear hF a hcl hB; intro a hF hcl hB
        refine dr_load hF hcl hB 14 rfl (.free rfl) rfl rfl (by kernel_rfl) rfl (by kernel_rfl) (fun w hS => (ex_load_row (u := .int .i64 (f i)) rfl pl_3 rfl (hS.rowN 3 rfl) (by omega) (by omega) rfl)) ?_; clear hF a hcl hB; intro a hF hcl hB
        refine dr_val hF hcl hB 15 rfl (.free rfl) rfl rfl (by kernel_rfl) rfl (fun w => (ex_add (r := f i + 1) rfl rfl rfl (by omega) (by unfold I64; omega))) ?_; clear hF a hcl hB; intro a hF hcl hB
        have hr := rem_facts (a := fl i) (b := f i + 1) (by have := hl.i i; omega) (by omega)
        refine dr_val hF hcl hB 16 rfl (.free rfl) rfl rfl (by kernel_rfl) rfl (fun w => (ex_rem (r := (Int.tmod (fl i) (f i + 1))) rfl rfl rfl (by omega) rfl)) ?_; clear hF a hcl hB; intro a hF hcl hB
        refine dr_val hF hcl hB 17 rfl (.free rfl) rfl rfl (by kernel_rfl) rfl (fun w => (ex_sub (r := f i - (Int.tmod (fl i) (f i + 1))) rfl rfl rfl (by omega) (by unfold I64; omega))) ?_; clear hF a hcl hB; intro a hF hcl hB
        refine dr_val hF hcl hB 18 rfl (.free rfl) rfl rfl (by kernel_rfl) rfl (fun w => (ex_index (k := i) rfl sl_22 rfl rfl hv2 (by omega) (by omega) (by omega))) ?_; clear hF a hcl hB; intro a hF hcl hB
        refine dr_effx hF hcl 19 rfl (.free rfl) rfl (by kernel_rfl) (st_own 3 rfl pl_3 hS rfl rfl rfl rfl (by omega) (by omega) (upd_ints _ _ _)) ?_; clear hS hB; rintro w hS hcl
        replace hS : Sat w0 w [.blk g1 [vL, vD, .int .i64 p.stock, .int .i64 p.kerf], .blk g2 [vy, .int .i64 q], .blk g3 [vL, v2, .int .i64 p.stock, .int .i64 p.kerf], .own v2 1 3 p.d (ints (upd f i (f i - (Int.tmod (fl i) (f i + 1)))))] := hS
        refine ⟨(fun h => absurd h (by decide)), fun hB => ?_⟩
        refine dr_done (by kernel_rfl) ?_; clear hcl hB
        refine inb_normal ?_
        refine then_normal ?_
        refine wp_region_lit ?_
        refine ls_val hF (.free rfl) rfl rfl (ex_add (r := i + 1) rfl rfl rfl (by omega) (by unfold I64; omega)) ?_; clear hF a; intro a hF
        refine ls_val hF (.free rfl) rfl rfl (ex_move rfl rfl) ?_; clear hF a; intro a hF
        refine ls_nil ?_
        refine then_normal ?_
        refine ⟨_, (by omega), i + 1, (upd f i (f i - (Int.tmod (fl i) (f i + 1)))), rfl, (by omega), (by omega), ?_, ?_, (hF.pick (hF.pick (hF.pick (hF.pick (hF.pick (hF.pick (hF.pick hF.nil 45 rfl) 44 rfl) 9 rfl) 7 rfl) 6 rfl) 4 rfl) 2 rfl), hS⟩
        ·
         intro k k0 k1; have := hf k k0 k1; first | exact this | (by_cases e : k = i; (subst e; rw [upd_self]; omega); (rw [upd_ne _ _ e]; exact this))
        ·
         intro k; have := hb k; first | exact this | (unfold upd; split <;> omega)
       ·
        refine wp_skip ?_
        refine inb_normal ?_
        refine then_normal ?_
        refine wp_region_lit ?_
        refine ls_val hF (.free rfl) rfl rfl (ex_add (r := i + 1) rfl rfl rfl (by omega) (by unfold I64; omega)) ?_; clear hF a; intro a hF
        refine ls_val hF (.free rfl) rfl rfl (ex_move rfl rfl) ?_; clear hF a; intro a hF
        refine ls_nil ?_
        refine then_normal ?_
        refine ⟨_, (by omega), i + 1, f, rfl, (by omega), (by omega), ?_, ?_, (hF.pick (hF.pick (hF.pick (hF.pick (hF.pick (hF.pick (hF.pick hF.nil 45 rfl) 44 rfl) 9 rfl) 7 rfl) 6 rfl) 4 rfl) 2 rfl), hS⟩
        ·
         intro k k0 k1; have := hf k k0 k1; first | exact this | (by_cases e : k = i; (subst e; rw [upd_self]; omega); (rw [upd_ne _ _ e]; exact this))
        ·
         intro k; have := hb k; first | exact this | (unfold upd; split <;> omega)
      ·
       refine wp_exit ?_
       refine then_exit ?_
       refine then_exit ?_
       refine inb_hit ?_
       refine then_normal ?_
       refine cw_seq ?_
       refine wp_region_lit ?_
       refine ls_val hF (.free rfl) rfl rfl (ex_loads_blk 2 rfl st_24 rfl hS rfl rfl) ?_; clear hF a; intro a hF
       refine ls_val hF (.free rfl) rfl rfl (ex_loads_blk 1 rfl st_26 rfl hS rfl rfl) ?_; clear hF a; intro a hF
       refine ls_call hF (.free rfl) rfl rfl (ex_call0 rfl rfl cl_11 (args_cons rfl (args_cons rfl args0))) (c_bound (p := (⟨p.m, p.L, p.d, f, p.stock, p.kerf⟩ : Prob)) w (⟨(h.L.below hS.below), (hS.rowN 3 rfl), h.iL, hb, (by (try dsimp only); omega), (by (try dsimp only); omega)⟩ : PAt _ _ _ (⟨p.m, p.L, p.d, f, p.stock, p.kerf⟩ : Prob)) (hY.below hS.below) (by omega)) ?_; clear hF; rintro _ w ⟨rfl, hS'⟩ a hF
       replace hS : Sat w0 w [.blk g1 [vL, vD, .int .i64 p.stock, .int .i64 p.kerf], .blk g2 [vy, .int .i64 q], .blk g3 [vL, v2, .int .i64 p.stock, .int .i64 p.kerf], .own v2 1 3 p.d (ints f)] := hS.comp hS'; clear hS'
       have hl : Chk (⟨p.m, p.L, p.d, f, p.stock, p.kerf⟩ : Prob) n y q = 0 ∧ BndOf (⟨p.m, p.L, p.d, f, p.stock, p.kerf⟩ : Prob) n y q ≤ BndOf p n y q := less_law hchk (fun k h0 h1 => hf k h0 h1)
       refine ls_val hF (.free rfl) rfl rfl (ex_move rfl rfl) ?_; clear hF a; intro a hF
       refine ls_val hF (.free rfl) rfl rfl (ex_extract rfl rfl rfl) ?_; clear hF a; intro a hF
       refine ls_val hF (.free rfl) rfl rfl (ex_extract rfl rfl rfl) ?_; clear hF a; intro a hF
       refine ls_val hF (.free rfl) rfl rfl (ex_assign rfl rfl) ?_; clear hF a; intro a hF
       refine ls_val hF (.free rfl) rfl rfl (ex_assign rfl rfl) ?_; clear hF a; intro a hF
       refine ls_nil ?_
       refine then_normal ?_
       refine cw_seq ?_
       refine wp_region_lit ?_
       refine ls_val hF (.free rfl) rfl rfl (ex_move rfl rfl) ?_; clear hF a; intro a hF
       refine ls_val hF (.free rfl) rfl rfl (known_t (ex_eql rfl rfl rfl) (by omega)) ?_; clear hF a; intro a hF
       refine ls_val hF (.free rfl) rfl rfl (ex_move rfl rfl) ?_; clear hF a; intro a hF
       refine ls_val hF (.on rfl rfl rfl rfl rfl) rfl rfl (ex_move rfl rfl) ?_; clear hF a; intro a hF
       refine ls_val hF (.on rfl rfl rfl rfl rfl) rfl rfl (ex_move rfl rfl) ?_; clear hF a; intro a hF
       refine ls_val hF (.on rfl rfl rfl rfl rfl) rfl rfl (known_t (ex_leq rfl rfl rfl) (by omega)) ?_; clear hF a; intro a hF
       refine ls_val hF (.free rfl) rfl rfl (ex_pick_t rfl rfl rfl) ?_; clear hF a; intro a hF
       refine ls_val hF (.free rfl) rfl rfl (ex_assign rfl rfl) ?_; clear hF a; intro a hF
       refine ls_nil ?_
       refine then_normal ?_
       refine wp_ret ?_
       refine (fin1 hF rfl rfl ⟨_, rfl, ?_⟩)
       exact ⟨rfl, hS.sub (.cons _ (.cons _ (.cons _ (.cons _ .slnil))))⟩

end Go.Proofs.Ytigefiejddmidaa
