/- The walks of Round, of dual and the reference of layer 32. -/
import Derived.Test.YtigefiejddmidaaW1
import Derived.Test.YtigefiejddmidaaFr
namespace Go.Proofs.Ytigefiejddmidaa
open Go Go.RowKit Go.Proofs.Gw
set_option linter.unusedVariables false

set_option maxRecDepth 20000 in
theorem c_round {vy : Value} {n q r : Int} {y : Int → Int} (w0 : World) (h : IAt w0 vy n y) (hq : -9223372036854775808 ≤ q ∧ q ≤ 9223372036854775807) (hr : -9223372036854775808 ≤ r ∧ r ≤ 9223372036854775807) (hfew : n ≤ 25) :
    Calls Try.prog 18 [.agg #[vy, .int .i64 q], .int .i64 r].toArray w0 fun e w => ∃ v, e = .returned v ∧ ∃ vr n' f q' e, v = .tuple #[.agg #[vr, .int .i64 q'], .int .i64 e] ∧ Slh vr n' ∧ (∀ k, -9223372036854775808 ≤ f k ∧ f k ≤ 9223372036854775807) ∧ (-9223372036854775808 ≤ q' ∧ q' ≤ 9223372036854775807) ∧ Res (¬ Formed n y q) (r ≤ 1048576 ∧ Formed n (fun k => (y k * r).tdiv q) r) n (fun k => (y k * r).tdiv q) r n' f q' e ∧ Sat w0 w [.own vr 1 3 n' (ints f)] := by
  have hn := h.n0
  refine enterS (vs := [.agg #[vy, .int .i64 q], .int .i64 r]) Try.func18 rfl Try.ntmps18 rfl ?_
  intro a w hS hF
  refine cw_seq ?_
  refine wp_region_lit ?_
  refine ls_any hF (.free rfl) rfl rfl (ex_box (cs := [vy, .int .i64 q]) rfl hS rfl rfl) ?_; clear hF; rintro _ w ⟨g1, rfl, hS⟩ a hF
  replace hS : Sat w0 w [.blk g1 [vy, .int .i64 q]] := hS
  refine ls_any hF (.free rfl) rfl rfl (ex_alloc (cs := [.slice none 0 0, .int .i64 0]) rfl el_34 hS rfl) ?_; clear hF; rintro _ w ⟨g2, rfl, hS⟩ a hF
  replace hS : Sat w0 w [.blk g1 [vy, .int .i64 q], .blk g2 [.slice none 0 0, .int .i64 0]] := hS
  refine ls_val hF (.free rfl) rfl rfl (ex_assign rfl rfl) ?_; clear hF a; intro a hF
  refine ls_nil ?_
  refine then_normal ?_
  refine cw_seq ?_
  refine wp_block ?_
  refine cw_seq ?_
  refine wp_region_lit ?_
  refine ls_val hF (.free rfl) rfl rfl (ex_loads_blk 0 rfl st_34 rfl hS rfl rfl) ?_; clear hF a; intro a hF
  refine ls_call hF (.free rfl) rfl rfl (ex_call0 rfl rfl cl_26 (args_cons rfl args0)) (c_formed w (h.below hS.below) (by omega)) ?_; clear hF; rintro _ w ⟨rfl, hS'⟩ a hF
  replace hS : Sat w0 w [.blk g1 [vy, .int .i64 q], .blk g2 [.slice none 0 0, .int .i64 0]] := hS.comp hS'; clear hS'
  refine ls_val hF (.free rfl) rfl rfl (ex_not rfl rfl) ?_; clear hF a; intro a hF
  refine ls_val hF (.free rfl) rfl rfl (ex_assign rfl rfl) ?_; clear hF a; intro a hF
  refine ls_nil ?_
  refine then_normal ?_
  refine cw_if hF rfl (fun hc => ?_) (fun hc => ?_)
  ·
   refine cw_seq ?_
   refine wp_region_lit ?_
   refine ls_val hF (.free rfl) rfl rfl (ex_any (w' := w) (r := .value (.agg #[.slice none 0 0, .int .i64 0])) (by intro _ _ h; cases h) rfl (by kernel_rfl)) ?_; clear hF a; intro a hF
   refine ls_effx hF (.free rfl) rfl (st_blks 1 (ds := [.slice none 0 0, .int .i64 0]) rfl st_34 hS rfl rfl rfl rfl (ones_cons rfl (ones_cons rfl ones_nil))) ?_; clear hS; rintro w hS
   replace hS : Sat w0 w [.blk g1 [vy, .int .i64 q], .blk g2 [.slice none 0 0, .int .i64 0]] := hS
   refine ls_val hF (.free rfl) rfl rfl (ex_assign rfl rfl) ?_; clear hF a; intro a hF
   refine ls_nil ?_
   refine then_normal ?_
   refine wp_ret ?_
   refine inb_ret (then_ret ((fin_ct 1 hF rfl rfl rfl st_34 hS rfl rfl ⟨_, rfl, ?_⟩)))
   first
   | exact ⟨_, 0, fun _ => 0, 0, 1, rfl, slh_nil, zero_bnd, by omega, res_bad ‹_›, (hS.addnil 1 3 (ints fun _ => 0)).sub (.cons _ (.cons _ (.cons_cons _ .slnil)))⟩
  ·
   refine cw_seq ?_
   refine wp_region_lit ?_
   refine ls_val hF (.free rfl) rfl rfl (ex_move rfl rfl) ?_; clear hF a; intro a hF
   refine ls_val hF (.free rfl) rfl rfl (ex_lss rfl rfl rfl) ?_; clear hF a; intro a hF
   refine ls_val hF (.free rfl) rfl rfl (ex_move rfl rfl) ?_; clear hF a; intro a hF
   refine by_slot hF (d := 17) rfl ?_ ?_ <;> clear hF <;> intro hc hF
   ·
    refine ls_off hF (.on rfl rfl rfl rfl rfl) rfl rfl ?_; clear hF a; intro a hF
    refine ls_off hF (.on rfl rfl rfl rfl rfl) rfl rfl ?_; clear hF a; intro a hF
    refine ls_val hF (.free rfl) rfl rfl (ex_pick_t rfl rfl rfl) ?_; clear hF a; intro a hF
    refine ls_val hF (.free rfl) rfl rfl (ex_assign rfl rfl) ?_; clear hF a; intro a hF
    refine ls_nil ?_
    refine then_normal ?_
    refine cw_t hF rfl ?_
    refine cw_seq ?_
    refine wp_region_lit ?_
    refine ls_val hF (.free rfl) rfl rfl (ex_any (w' := w) (r := .value (.agg #[.slice none 0 0, .int .i64 0])) (by intro _ _ h; cases h) rfl (by kernel_rfl)) ?_; clear hF a; intro a hF
    refine ls_effx hF (.free rfl) rfl (st_blks 1 (ds := [.slice none 0 0, .int .i64 0]) rfl st_34 hS rfl rfl rfl rfl (ones_cons rfl (ones_cons rfl ones_nil))) ?_; clear hS; rintro w hS
    replace hS : Sat w0 w [.blk g1 [vy, .int .i64 q], .blk g2 [.slice none 0 0, .int .i64 0]] := hS
    refine ls_val hF (.free rfl) rfl rfl (ex_assign rfl rfl) ?_; clear hF a; intro a hF
    refine ls_nil ?_
    refine then_normal ?_
    refine wp_ret ?_
    refine inb_ret (then_ret ((fin_ct 1 hF rfl rfl rfl st_34 hS rfl rfl ⟨_, rfl, ?_⟩)))
    first
    | exact ⟨_, 0, fun _ => 0, 0, 2, rfl, slh_nil, zero_bnd, by omega, res_no ‹_› (by rintro ⟨h0, h1, h2, _⟩; omega), (hS.addnil 1 3 (ints fun _ => 0)).sub (.cons _ (.cons _ (.cons_cons _ .slnil)))⟩
    | exact ⟨_, 0, fun _ => 0, 0, 2, rfl, slh_nil, zero_bnd, by omega, (by obtain rfl : i = n := (by omega); exact res_no ‹_› (fun hk => absurd ((formed_conv hf).1 hk.2) ‹¬ Formed i f r›)), (hS.addnil 1 3 (ints fun _ => 0)).sub (.cons _ (.cons _ (.cons_cons _ .slnil)))⟩
   ·
    refine ls_val hF (.on rfl rfl rfl rfl rfl) rfl rfl (ex_move rfl rfl) ?_; clear hF a; intro a hF
    refine ls_val hF (.on rfl rfl rfl rfl rfl) rfl rfl (ex_gtr rfl rfl rfl) ?_; clear hF a; intro a hF
    refine ls_val hF (.free rfl) rfl rfl (ex_pick_f rfl rfl rfl) ?_; clear hF a; intro a hF
    refine ls_val hF (.free rfl) rfl rfl (ex_assign rfl rfl) ?_; clear hF a; intro a hF
    refine ls_nil ?_
    refine then_normal ?_
    refine cw_if hF rfl (fun hc => ?_) (fun hc => ?_)
    ·
     refine cw_seq ?_
     refine wp_region_lit ?_
     refine ls_val hF (.free rfl) rfl rfl (ex_any (w' := w) (r := .value (.agg #[.slice none 0 0, .int .i64 0])) (by intro _ _ h; cases h) rfl (by kernel_rfl)) ?_; clear hF a; intro a hF
     refine ls_effx hF (.free rfl) rfl (st_blks 1 (ds := [.slice none 0 0, .int .i64 0]) rfl st_34 hS rfl rfl rfl rfl (ones_cons rfl (ones_cons rfl ones_nil))) ?_; clear hS; rintro w hS
     replace hS : Sat w0 w [.blk g1 [vy, .int .i64 q], .blk g2 [.slice none 0 0, .int .i64 0]] := hS
     refine ls_val hF (.free rfl) rfl rfl (ex_assign rfl rfl) ?_; clear hF a; intro a hF
     refine ls_nil ?_
     refine then_normal ?_
     refine wp_ret ?_
     refine inb_ret (then_ret ((fin_ct 1 hF rfl rfl rfl st_34 hS rfl rfl ⟨_, rfl, ?_⟩)))
     first
     | exact ⟨_, 0, fun _ => 0, 0, 2, rfl, slh_nil, zero_bnd, by omega, res_no ‹_› (by rintro ⟨h0, h1, h2, _⟩; omega), (hS.addnil 1 3 (ints fun _ => 0)).sub (.cons _ (.cons _ (.cons_cons _ .slnil)))⟩
     | exact ⟨_, 0, fun _ => 0, 0, 2, rfl, slh_nil, zero_bnd, by omega, (by obtain rfl : i = n := (by omega); exact res_no ‹_› (fun hk => absurd ((formed_conv hf).1 hk.2) ‹¬ Formed i f r›)), (hS.addnil 1 3 (ints fun _ => 0)).sub (.cons _ (.cons _ (.cons_cons _ .slnil)))⟩
    ·
     refine wp_skip ?_
     refine inb_normal ?_
     refine then_normal ?_
     refine cw_seq ?_
     refine wp_region_lit ?_
     refine ls_val hF (.free rfl) rfl rfl (ex_move rfl rfl) ?_; clear hF a; intro a hF
     refine ls_val hF (.free rfl) rfl rfl (ex_any (w' := w) (r := .value (.agg #[.slice none 0 0, .int .i64 r])) (by intro _ _ h; cases h) rfl (by kernel_rfl)) ?_; clear hF a; intro a hF
     refine ls_any hF (.free rfl) rfl rfl (ex_alloc (cs := [.slice none 0 0, .int .i64 0]) rfl el_34 hS rfl) ?_; clear hF; rintro _ w ⟨g3, rfl, hS⟩ a hF
     replace hS : Sat w0 w [.blk g1 [vy, .int .i64 q], .blk g2 [.slice none 0 0, .int .i64 0], .blk g3 [.slice none 0 0, .int .i64 0]] := hS
     refine ls_effx hF (.free rfl) rfl (st_blks 2 (ds := [.slice none 0 0, .int .i64 r]) rfl st_34 hS rfl rfl rfl rfl (ones_cons rfl (ones_cons rfl ones_nil))) ?_; clear hS; rintro w hS
     replace hS : Sat w0 w [.blk g1 [vy, .int .i64 q], .blk g2 [.slice none 0 0, .int .i64 0], .blk g3 [.slice none 0 0, .int .i64 r]] := hS
     refine ls_nil ?_
     refine then_normal ?_
     refine cw_seq ?_
     refine cw_seq ?_
     refine wp_region_lit ?_
     refine ls_val hF (.free rfl) rfl rfl (ex_field (b := ⟨g1, 0, none⟩) rfl fd_34_0 rfl rfl) ?_; clear hF a; intro a hF
     refine ls_val hF (.free rfl) rfl rfl (ex_load_blk 0 rfl pl_22 rfl hS rfl rfl) ?_; clear hF a; intro a hF
     refine ls_val hF (.free rfl) rfl rfl (ex_len rfl sl_22 rfl h.row.slh) ?_; clear hF a; intro a hF
     refine ls_val hF (.free rfl) rfl rfl (ex_move rfl rfl) ?_; clear hF a; intro a hF
     refine ls_nil ?_
     refine then_normal ?_
     refine wp_block ?_
     replace hS := hS.addnil 1 3 (ints (fun _ => 0))
     replace hS : Sat w0 w [.blk g1 [vy, .int .i64 q], .blk g2 [.slice none 0 0, .int .i64 0], .blk g3 [(.slice none 0 0), .int .i64 r], .own (.slice none 0 0) 1 3 0 (ints (fun _ => 0))] := hS
     refine cw_loop (fun mm a w => ∃ (i : Int) (vb : Value) (f : Int → Int), mm = ((n - i).toNat) ∧ (0 ≤ i) ∧ (i ≤ n) ∧ (∀ k, -9223372036854775808 ≤ f k ∧ f k ≤ 9223372036854775807) ∧ (∀ k, 0 ≤ k → k < i → f k = (fun k => (y k * r).tdiv q) k) ∧ (Slh vb i) ∧ Fr a 48 [(1, .int .i64 r), (2, .pointer (some ⟨g1, 0, none⟩)), (4, .pointer (some ⟨g2, 0, none⟩)), (5, .int .i64 0), (6, .pointer (some ⟨g3, 0, none⟩)), (25, vy), (26, .int .i64 n), (27, .int .i64 i)] ∧ Sat w0 w [.blk g1 [vy, .int .i64 q], .blk g2 [.slice none 0 0, .int .i64 0], .blk g3 [vb, .int .i64 r], .own vb 1 3 i (ints f)]) ?_ ?_ (m := ((n - 0).toNat))
     ·
      refine ⟨0, (.slice none 0 0), (fun _ => 0), rfl, (by omega), (by omega), ?_, ?_, ?_, (hF.pick (hF.pick (hF.pick (hF.pick (hF.pick (hF.pick (hF.pick (hF.pick hF.nil 27 rfl) 26 rfl) 25 rfl) 6 rfl) 5 rfl) 4 rfl) 2 rfl) 1 rfl), hS⟩
      ·
       exact zero_bnd
      ·
       intro k k0 k1; omega
      ·
       exact slh_nil
     ·
      clear hF hS a w
      rintro mm a w ⟨i, vb, f, rfl, h0, h1, hb, hf, hvb, hF, hS⟩
      refine cw_seq ?_
      refine wp_region_lit ?_
      refine ls_val hF (.free rfl) rfl rfl (ex_lss rfl rfl rfl) ?_; clear hF a; intro a hF
      refine ls_nil ?_
      refine then_normal ?_
      refine cw_seq ?_
      refine cw_if hF rfl (fun hc => ?_) (fun hc => ?_)
      ·
       refine wp_skip ?_
       refine then_normal ?_
       refine cw_seq ?_
       refine wp_block ?_
       refine cw_seq ?_
       refine wp_region_lit ?_
       refine ls_val hF (.free rfl) rfl rfl (ex_index (k := i) rfl sl_22 rfl rfl h.row.slh (by omega) (by omega) (by omega)) ?_; clear hF a; intro a hF
       refine ls_val hF (.free rfl) rfl rfl (ex_load_row (u := .int .i64 (y i)) rfl pl_3 rfl (h.row.below hS.below) (by omega) (by omega) rfl) ?_; clear hF a; intro a hF
       have hbv := h.i i
       have hfm := (Classical.not_not.1 ‹¬ ¬ (Formed n y q)›); have hyi := hfm.2.2 i (by omega) (by omega); have hq1 := hfm.1; have hmr := mul_rng (B := 1048576) hyi.1 hyi.2 (by omega : 0 ≤ r) (by omega); have hqf := quo_facts (a := y i * r) (b := q) (by omega) (by omega)
       refine ls_val hF (.free rfl) rfl rfl (ex_assign rfl rfl) ?_; clear hF a; intro a hF
       refine ls_nil ?_
       refine then_normal ?_
       refine dr_sat (m0 := [.blk g1 [vy, .int .i64 q], .blk g2 [.slice none 0 0, .int .i64 0], .blk g3 [vb, .int .i64 r]]) 11 mx_ hS (.cons_cons _ (.cons_cons _ (.cons_cons _ (.cons _ .slnil)))) rfl ?_; clear hS; intro w hS hcl hB
       refine dr_val hF hcl hB 0 rfl (.free rfl) rfl rfl (by kernel_rfl) rfl (fun w => (ex_field (b := ⟨g3, 0, none⟩) rfl fd_34_0 rfl rfl)) ?_; clear hF a hcl hB; intro a hF hcl hB
       refine dr_load hF hcl hB 1 rfl (.free rfl) rfl rfl (by kernel_rfl) rfl (by kernel_rfl) (fun w hS => (ex_load_blk 2 rfl pl_22 rfl hS rfl rfl)) ?_; clear hF a hcl hB; intro a hF hcl hB
       refine dr_val hF hcl hB 2 rfl (.free rfl) rfl rfl (by kernel_rfl) rfl (fun w => (ex_move rfl rfl)) ?_; clear hF a hcl hB; intro a hF hcl hB
       refine dr_val hF hcl hB 3 rfl (.free rfl) rfl rfl (by kernel_rfl) rfl (fun w => (ex_move rfl rfl)) ?_; clear hF a hcl hB; intro a hF hcl hB
       refine dr_val hF hcl hB 4 rfl (.free rfl) rfl rfl (by kernel_rfl) rfl (fun w => (ex_mul (r := ((y i) * r)) rfl rfl rfl rfl (by unfold I64; omega))) ?_; clear hF a hcl hB; intro a hF hcl hB
       refine dr_val hF hcl hB 5 rfl (.free rfl) rfl rfl (by kernel_rfl) rfl (fun w => (ex_field (b := ⟨g1, 1, none⟩) rfl fd_34_1 rfl rfl)) ?_; clear hF a hcl hB; intro a hF hcl hB
       refine dr_load hF hcl hB 6 rfl (.free rfl) rfl rfl (by kernel_rfl) rfl (by kernel_rfl) (fun w hS => (ex_load_blk 0 rfl pl_3 rfl hS rfl rfl)) ?_; clear hF a hcl hB; intro a hF hcl hB
       refine dr_val hF hcl hB 7 rfl (.free rfl) rfl rfl (by kernel_rfl) rfl (fun w => (ex_quo (r := (Int.tdiv ((y i) * r) q)) rfl rfl rfl (by omega) rfl (by unfold I64; omega))) ?_; clear hF a hcl hB; intro a hF hcl hB
       refine dr_any hF hcl 8 rfl (.free rfl) rfl rfl (by kernel_rfl) (ex_lit (n := 1) (len := 1) (pv := [(0, .int .i64 (Int.tdiv ((y i) * r) q))]) (cs := [.int .i64 (Int.tdiv ((y i) * r) q)]) (c := ints (fun _ => (Int.tdiv ((y i) * r) q))) rfl sl_22 el_3 hS (parts_cons rfl parts0) (by kernel_rfl) (by decide) (by decide) rfl rfl (fun k hk => by rcases k with _ | k <;> first | rfl | (exfalso; omega)) (by omega)) ?_; clear hF hB; rintro v1 w ⟨hS, hv1⟩ a hF hcl
       replace hS : Sat w0 w [.blk g1 [vy, .int .i64 q], .blk g2 [.slice none 0 0, .int .i64 0], .blk g3 [vb, .int .i64 r], .own vb 1 3 i (ints f), .own v1 1 3 1 (ints (fun _ => (Int.tdiv ((y i) * r) q)))] := hS
       refine ⟨(fun _ => hS.sub (.cons_cons _ (.cons_cons _ (.cons_cons _ (.cons _ (.cons _ .slnil)))))), fun hB => ?_⟩
       refine dr_any hF hcl 9 rfl (.free rfl) rfl rfl (by kernel_rfl) (ap_own 3 (r := i + 1) (f := ints (snoc f i (Int.tdiv ((y i) * r) q))) rfl sl_22 el_3 rfl (by decide) hS rfl rfl rfl (hS.rowN 4 rfl) (fun _ _ _ => rfl) (by omega) (by omega) (by omega) (cat_snoc _ _ _)) ?_; clear hF hB; rintro v2 w ⟨hS, hv2⟩ a hF hcl
       replace hS : Sat w0 w [.blk g1 [vy, .int .i64 q], .blk g2 [.slice none 0 0, .int .i64 0], .blk g3 [vb, .int .i64 r], .own v2 1 3 (i + 1) (ints (snoc f i (Int.tdiv ((y i) * r) q))), .own v1 1 3 1 (ints (fun _ => (Int.tdiv ((y i) * r) q)))] := hS
       refine ⟨(fun _ => hS.sub (.cons_cons _ (.cons_cons _ (.cons_cons _ (.cons _ (.cons _ .slnil)))))), fun hB => ?_⟩
       refine dr_val hF hcl hB 10 rfl (.free rfl) rfl rfl (by kernel_rfl) rfl (fun w => (ex_field (b := ⟨g3, 0, none⟩) rfl fd_34_0 rfl rfl)) ?_; clear hF a hcl hB; intro a hF hcl hB
       refine dr_effx hF hcl 11 rfl (.free rfl) rfl (by kernel_rfl) (st_blk 2 rfl pl_22 hS rfl rfl rfl hv2.one rfl) ?_; clear hS hB; rintro w hS hcl
       replace hS : Sat w0 w [.blk g1 [vy, .int .i64 q], .blk g2 [.slice none 0 0, .int .i64 0], .blk g3 [v2, .int .i64 r], .own v2 1 3 (i + 1) (ints (snoc f i (Int.tdiv ((y i) * r) q))), .own v1 1 3 1 (ints (fun _ => (Int.tdiv ((y i) * r) q)))] := hS
       refine ⟨(fun h => absurd h (by decide)), fun hB => ?_⟩
       refine dr_done (by kernel_rfl) ?_; clear hcl hB
       refine inb_normal ?_
       refine then_normal ?_
       refine wp_region_lit ?_
       refine ls_val hF (.free rfl) rfl rfl (ex_add (r := i + 1) rfl rfl rfl (by omega) (by unfold I64; omega)) ?_; clear hF a; intro a hF
       refine ls_val hF (.free rfl) rfl rfl (ex_move rfl rfl) ?_; clear hF a; intro a hF
       refine ls_nil ?_
       refine then_normal ?_
       refine ⟨_, (by omega), i + 1, v2, (snoc f i (Int.tdiv ((y i) * r) q)), rfl, (by omega), (by omega), ?_, ?_, ?_, (hF.pick (hF.pick (hF.pick (hF.pick (hF.pick (hF.pick (hF.pick (hF.pick hF.nil 27 rfl) 26 rfl) 25 rfl) 6 rfl) 5 rfl) 4 rfl) 2 rfl) 1 rfl), hS.sub (.cons_cons _ (.cons_cons _ (.cons_cons _ (.cons_cons _ (.cons _ .slnil)))))⟩
       ·
        exact snoc_bnd hb (by omega)
       ·
        exact snoc_all hf rfl
       ·
        exact hv2
      ·
       refine wp_exit ?_
       refine then_exit ?_
       refine then_exit ?_
       refine inb_hit ?_
       refine then_normal ?_
       refine cw_seq ?_
       refine cw_seq ?_
       refine wp_region_lit ?_
       refine ls_val hF (.free rfl) rfl rfl (ex_loads_blk 2 rfl st_34 rfl hS rfl rfl) ?_; clear hF a; intro a hF
       refine ls_call hF (.free rfl) rfl rfl (ex_call0 rfl rfl cl_26 (args_cons rfl args0)) (c_formed w (⟨(hS.rowN 3 rfl), hb⟩ : IAt _ _ i f) (by omega)) ?_; clear hF; rintro _ w ⟨rfl, hS'⟩ a hF
       replace hS : Sat w0 w [.blk g1 [vy, .int .i64 q], .blk g2 [.slice none 0 0, .int .i64 0], .blk g3 [vb, .int .i64 r], .own vb 1 3 i (ints f)] := hS.comp hS'; clear hS'
       refine ls_val hF (.free rfl) rfl rfl (ex_not rfl rfl) ?_; clear hF a; intro a hF
       refine ls_nil ?_
       refine then_normal ?_
       refine cw_if hF rfl (fun hc => ?_) (fun hc => ?_)
       ·
        refine cw_seq ?_
        refine wp_region_lit ?_
        refine ls_val hF (.free rfl) rfl rfl (ex_any (w' := w) (r := .value (.agg #[.slice none 0 0, .int .i64 0])) (by intro _ _ h; cases h) rfl (by kernel_rfl)) ?_; clear hF a; intro a hF
        refine ls_effx hF (.free rfl) rfl (st_blks 1 (ds := [.slice none 0 0, .int .i64 0]) rfl st_34 hS rfl rfl rfl rfl (ones_cons rfl (ones_cons rfl ones_nil))) ?_; clear hS; rintro w hS
        replace hS : Sat w0 w [.blk g1 [vy, .int .i64 q], .blk g2 [.slice none 0 0, .int .i64 0], .blk g3 [vb, .int .i64 r], .own vb 1 3 i (ints f)] := hS
        refine ls_val hF (.free rfl) rfl rfl (ex_assign rfl rfl) ?_; clear hF a; intro a hF
        refine ls_nil ?_
        refine then_normal ?_
        refine wp_ret ?_
        refine then_ret ((fin_ct 1 hF rfl rfl rfl st_34 hS rfl rfl ⟨_, rfl, ?_⟩))
        first
        | exact ⟨_, 0, fun _ => 0, 0, 2, rfl, slh_nil, zero_bnd, by omega, res_no ‹_› (by rintro ⟨h0, h1, h2, _⟩; omega), (hS.addnil 1 3 (ints fun _ => 0)).sub (.cons _ (.cons _ (.cons _ (.cons _ (.cons_cons _ .slnil)))))⟩
        | exact ⟨_, 0, fun _ => 0, 0, 2, rfl, slh_nil, zero_bnd, by omega, (by obtain rfl : i = n := (by omega); exact res_no ‹_› (fun hk => absurd ((formed_conv hf).1 hk.2) ‹¬ Formed i f r›)), (hS.addnil 1 3 (ints fun _ => 0)).sub (.cons _ (.cons _ (.cons _ (.cons _ (.cons_cons _ .slnil)))))⟩
       ·
        refine wp_skip ?_
        refine then_normal ?_
        refine cw_seq ?_
        refine wp_region_lit ?_
        refine ls_val hF (.free rfl) rfl rfl (ex_loads_blk 2 rfl st_34 rfl hS rfl rfl) ?_; clear hF a; intro a hF
        refine ls_effx hF (.free rfl) rfl (st_blks 1 (ds := [vb, .int .i64 r]) rfl st_34 hS rfl rfl rfl rfl (ones_cons hvb.one (ones_cons rfl ones_nil))) ?_; clear hS; rintro w hS
        replace hS : Sat w0 w [.blk g1 [vy, .int .i64 q], .blk g2 [vb, .int .i64 r], .blk g3 [vb, .int .i64 r], .own vb 1 3 i (ints f)] := hS
        refine ls_val hF (.free rfl) rfl rfl (ex_assign rfl rfl) ?_; clear hF a; intro a hF
        refine ls_nil ?_
        refine then_normal ?_
        refine wp_ret ?_
        refine (fin_ct 1 hF rfl rfl rfl st_34 hS rfl rfl ⟨_, rfl, ?_⟩)
        obtain rfl : i = n := by omega
        exact ⟨_, _, f, _, 0, rfl, hvb, hb, by omega, res_ok ‹_› hf ⟨by omega, (formed_conv hf).2 (Classical.not_not.1 ‹¬ ¬ (Formed i f r)›)⟩, hS.sub (.cons _ (.cons _ (.cons _ (.cons_cons _ .slnil))))⟩

set_option maxRecDepth 20000 in
theorem c_rround {vy : Value} {n q r : Int} {y : Int → Int} (w0 : World) (h : IAt w0 vy n y) (hq : -9223372036854775808 ≤ q ∧ q ≤ 9223372036854775807) (hr : -9223372036854775808 ≤ r ∧ r ≤ 9223372036854775807) (hfew : n ≤ 25) :
    Calls Try.prog 19 [.agg #[vy, .int .i64 q], .int .i64 r].toArray w0 fun e w => ∃ v, e = .returned v ∧ ∃ vr n' f q' e, v = .tuple #[.agg #[vr, .int .i64 q'], .int .i64 e] ∧ Slh vr n' ∧ (∀ k, -9223372036854775808 ≤ f k ∧ f k ≤ 9223372036854775807) ∧ (-9223372036854775808 ≤ q' ∧ q' ≤ 9223372036854775807) ∧ Res (¬ Formed n y q) (r ≤ 1048576 ∧ Formed n (fun k => (y k * r).tdiv q) r) n (fun k => (y k * r).tdiv q) r n' f q' e ∧ Sat w0 w [.own vr 1 3 n' (ints f)] := by
  have hn := h.n0
  refine enterS (vs := [.agg #[vy, .int .i64 q], .int .i64 r]) Try.func19 rfl Try.ntmps19 rfl ?_
  intro a w hS hF
  refine cw_seq ?_
  refine wp_region_lit ?_
  refine ls_any hF (.free rfl) rfl rfl (ex_box (cs := [vy, .int .i64 q]) rfl hS rfl rfl) ?_; clear hF; rintro _ w ⟨g1, rfl, hS⟩ a hF
  replace hS : Sat w0 w [.blk g1 [vy, .int .i64 q]] := hS
  refine ls_any hF (.free rfl) rfl rfl (ex_alloc (cs := [.slice none 0 0, .int .i64 0]) rfl el_26 hS rfl) ?_; clear hF; rintro _ w ⟨g2, rfl, hS⟩ a hF
  replace hS : Sat w0 w [.blk g1 [vy, .int .i64 q], .blk g2 [.slice none 0 0, .int .i64 0]] := hS
  refine ls_val hF (.free rfl) rfl rfl (ex_assign rfl rfl) ?_; clear hF a; intro a hF
  refine ls_nil ?_
  refine then_normal ?_
  refine cw_seq ?_
  refine wp_block ?_
  refine cw_seq ?_
  refine wp_region_lit ?_
  refine ls_val hF (.free rfl) rfl rfl (ex_loads_blk 0 rfl st_26 rfl hS rfl rfl) ?_; clear hF a; intro a hF
  refine ls_call hF (.free rfl) rfl rfl (ex_call0 rfl rfl cl_28 (args_cons rfl args0)) (c_rformed w (h.below hS.below) (by omega)) ?_; clear hF; rintro _ w ⟨rfl, hS'⟩ a hF
  replace hS : Sat w0 w [.blk g1 [vy, .int .i64 q], .blk g2 [.slice none 0 0, .int .i64 0]] := hS.comp hS'; clear hS'
  refine ls_val hF (.free rfl) rfl rfl (ex_not rfl rfl) ?_; clear hF a; intro a hF
  refine ls_val hF (.free rfl) rfl rfl (ex_assign rfl rfl) ?_; clear hF a; intro a hF
  refine ls_nil ?_
  refine then_normal ?_
  refine cw_if hF rfl (fun hc => ?_) (fun hc => ?_)
  ·
   refine cw_seq ?_
   refine wp_region_lit ?_
   refine ls_val hF (.free rfl) rfl rfl (ex_any (w' := w) (r := .value (.agg #[.slice none 0 0, .int .i64 0])) (by intro _ _ h; cases h) rfl (by kernel_rfl)) ?_; clear hF a; intro a hF
   refine ls_effx hF (.free rfl) rfl (st_blks 1 (ds := [.slice none 0 0, .int .i64 0]) rfl st_26 hS rfl rfl rfl rfl (ones_cons rfl (ones_cons rfl ones_nil))) ?_; clear hS; rintro w hS
   replace hS : Sat w0 w [.blk g1 [vy, .int .i64 q], .blk g2 [.slice none 0 0, .int .i64 0]] := hS
   refine ls_val hF (.free rfl) rfl rfl (ex_assign rfl rfl) ?_; clear hF a; intro a hF
   refine ls_nil ?_
   refine then_normal ?_
   refine wp_ret ?_
   refine inb_ret (then_ret ((fin_ct 1 hF rfl rfl rfl st_26 hS rfl rfl ⟨_, rfl, ?_⟩)))
   first
   | exact ⟨_, 0, fun _ => 0, 0, 1, rfl, slh_nil, zero_bnd, by omega, res_bad ‹_›, (hS.addnil 1 3 (ints fun _ => 0)).sub (.cons _ (.cons _ (.cons_cons _ .slnil)))⟩
  ·
   refine cw_seq ?_
   refine wp_region_lit ?_
   refine ls_val hF (.free rfl) rfl rfl (ex_move rfl rfl) ?_; clear hF a; intro a hF
   refine ls_val hF (.free rfl) rfl rfl (ex_lss rfl rfl rfl) ?_; clear hF a; intro a hF
   refine ls_val hF (.free rfl) rfl rfl (ex_move rfl rfl) ?_; clear hF a; intro a hF
   refine by_slot hF (d := 17) rfl ?_ ?_ <;> clear hF <;> intro hc hF
   ·
    refine ls_off hF (.on rfl rfl rfl rfl rfl) rfl rfl ?_; clear hF a; intro a hF
    refine ls_off hF (.on rfl rfl rfl rfl rfl) rfl rfl ?_; clear hF a; intro a hF
    refine ls_val hF (.free rfl) rfl rfl (ex_pick_t rfl rfl rfl) ?_; clear hF a; intro a hF
    refine ls_val hF (.free rfl) rfl rfl (ex_assign rfl rfl) ?_; clear hF a; intro a hF
    refine ls_nil ?_
    refine then_normal ?_
    refine cw_t hF rfl ?_
    refine cw_seq ?_
    refine wp_region_lit ?_
    refine ls_val hF (.free rfl) rfl rfl (ex_any (w' := w) (r := .value (.agg #[.slice none 0 0, .int .i64 0])) (by intro _ _ h; cases h) rfl (by kernel_rfl)) ?_; clear hF a; intro a hF
    refine ls_effx hF (.free rfl) rfl (st_blks 1 (ds := [.slice none 0 0, .int .i64 0]) rfl st_26 hS rfl rfl rfl rfl (ones_cons rfl (ones_cons rfl ones_nil))) ?_; clear hS; rintro w hS
    replace hS : Sat w0 w [.blk g1 [vy, .int .i64 q], .blk g2 [.slice none 0 0, .int .i64 0]] := hS
    refine ls_val hF (.free rfl) rfl rfl (ex_assign rfl rfl) ?_; clear hF a; intro a hF
    refine ls_nil ?_
    refine then_normal ?_
    refine wp_ret ?_
    refine inb_ret (then_ret ((fin_ct 1 hF rfl rfl rfl st_26 hS rfl rfl ⟨_, rfl, ?_⟩)))
    first
    | exact ⟨_, 0, fun _ => 0, 0, 2, rfl, slh_nil, zero_bnd, by omega, res_no ‹_› (by rintro ⟨h0, h1, h2, _⟩; omega), (hS.addnil 1 3 (ints fun _ => 0)).sub (.cons _ (.cons _ (.cons_cons _ .slnil)))⟩
    | exact ⟨_, 0, fun _ => 0, 0, 2, rfl, slh_nil, zero_bnd, by omega, res_no ‹_› (fun hk => by have := hk.2.2.2 i (by omega) (by omega); dsimp only at this; omega), (hS.addnil 1 3 (ints fun _ => 0)).sub (.cons _ (.cons _ (.cons_cons _ .slnil)))⟩
   ·
    refine ls_val hF (.on rfl rfl rfl rfl rfl) rfl rfl (ex_move rfl rfl) ?_; clear hF a; intro a hF
    refine ls_val hF (.on rfl rfl rfl rfl rfl) rfl rfl (ex_gtr rfl rfl rfl) ?_; clear hF a; intro a hF
    refine ls_val hF (.free rfl) rfl rfl (ex_pick_f rfl rfl rfl) ?_; clear hF a; intro a hF
    refine ls_val hF (.free rfl) rfl rfl (ex_assign rfl rfl) ?_; clear hF a; intro a hF
    refine ls_nil ?_
    refine then_normal ?_
    refine cw_if hF rfl (fun hc => ?_) (fun hc => ?_)
    ·
     refine cw_seq ?_
     refine wp_region_lit ?_
     refine ls_val hF (.free rfl) rfl rfl (ex_any (w' := w) (r := .value (.agg #[.slice none 0 0, .int .i64 0])) (by intro _ _ h; cases h) rfl (by kernel_rfl)) ?_; clear hF a; intro a hF
     refine ls_effx hF (.free rfl) rfl (st_blks 1 (ds := [.slice none 0 0, .int .i64 0]) rfl st_26 hS rfl rfl rfl rfl (ones_cons rfl (ones_cons rfl ones_nil))) ?_; clear hS; rintro w hS
     replace hS : Sat w0 w [.blk g1 [vy, .int .i64 q], .blk g2 [.slice none 0 0, .int .i64 0]] := hS
     refine ls_val hF (.free rfl) rfl rfl (ex_assign rfl rfl) ?_; clear hF a; intro a hF
     refine ls_nil ?_
     refine then_normal ?_
     refine wp_ret ?_
     refine inb_ret (then_ret ((fin_ct 1 hF rfl rfl rfl st_26 hS rfl rfl ⟨_, rfl, ?_⟩)))
     first
     | exact ⟨_, 0, fun _ => 0, 0, 2, rfl, slh_nil, zero_bnd, by omega, res_no ‹_› (by rintro ⟨h0, h1, h2, _⟩; omega), (hS.addnil 1 3 (ints fun _ => 0)).sub (.cons _ (.cons _ (.cons_cons _ .slnil)))⟩
     | exact ⟨_, 0, fun _ => 0, 0, 2, rfl, slh_nil, zero_bnd, by omega, res_no ‹_› (fun hk => by have := hk.2.2.2 i (by omega) (by omega); dsimp only at this; omega), (hS.addnil 1 3 (ints fun _ => 0)).sub (.cons _ (.cons _ (.cons_cons _ .slnil)))⟩
    ·
     refine wp_skip ?_
     refine inb_normal ?_
     refine then_normal ?_
     refine cw_seq ?_
     refine wp_region_lit ?_
     refine ls_val hF (.free rfl) rfl rfl (ex_move rfl rfl) ?_; clear hF a; intro a hF
     refine ls_val hF (.free rfl) rfl rfl (ex_any (w' := w) (r := .value (.agg #[.slice none 0 0, .int .i64 r])) (by intro _ _ h; cases h) rfl (by kernel_rfl)) ?_; clear hF a; intro a hF
     refine ls_any hF (.free rfl) rfl rfl (ex_alloc (cs := [.slice none 0 0, .int .i64 0]) rfl el_26 hS rfl) ?_; clear hF; rintro _ w ⟨g3, rfl, hS⟩ a hF
     replace hS : Sat w0 w [.blk g1 [vy, .int .i64 q], .blk g2 [.slice none 0 0, .int .i64 0], .blk g3 [.slice none 0 0, .int .i64 0]] := hS
     refine ls_effx hF (.free rfl) rfl (st_blks 2 (ds := [.slice none 0 0, .int .i64 r]) rfl st_26 hS rfl rfl rfl rfl (ones_cons rfl (ones_cons rfl ones_nil))) ?_; clear hS; rintro w hS
     replace hS : Sat w0 w [.blk g1 [vy, .int .i64 q], .blk g2 [.slice none 0 0, .int .i64 0], .blk g3 [.slice none 0 0, .int .i64 r]] := hS
     refine ls_nil ?_
     refine then_normal ?_
     refine cw_seq ?_
     refine cw_seq ?_
     refine wp_region_lit ?_
     refine ls_val hF (.free rfl) rfl rfl (ex_assign rfl rfl) ?_; clear hF a; intro a hF
     refine ls_nil ?_
     refine then_normal ?_
     refine wp_block ?_
     replace hS := hS.addnil 1 3 (ints (fun _ => 0))
     replace hS : Sat w0 w [.blk g1 [vy, .int .i64 q], .blk g2 [.slice none 0 0, .int .i64 0], .blk g3 [(.slice none 0 0), .int .i64 r], .own (.slice none 0 0) 1 3 0 (ints (fun _ => 0))] := hS
     refine cw_loop (fun mm a w => ∃ (i : Int) (vb : Value) (f : Int → Int), mm = ((n - i).toNat) ∧ (0 ≤ i) ∧ (i ≤ n) ∧ (∀ k, -9223372036854775808 ≤ f k ∧ f k ≤ 9223372036854775807) ∧ (∀ k, 0 ≤ k → k < i → f k = (fun k => (y k * r).tdiv q) k) ∧ (∀ k, 0 ≤ k → k < i → 0 ≤ f k ∧ f k ≤ 1073741824) ∧ (Slh vb i) ∧ Fr a 51 [(1, .int .i64 r), (2, .pointer (some ⟨g1, 0, none⟩)), (4, .pointer (some ⟨g2, 0, none⟩)), (6, .pointer (some ⟨g3, 0, none⟩)), (7, .int .i64 i)] ∧ Sat w0 w [.blk g1 [vy, .int .i64 q], .blk g2 [.slice none 0 0, .int .i64 0], .blk g3 [vb, .int .i64 r], .own vb 1 3 i (ints f)]) ?_ ?_ (m := ((n - 0).toNat))
     ·
      refine ⟨0, (.slice none 0 0), (fun _ => 0), rfl, (by omega), (by omega), ?_, ?_, ?_, ?_, (hF.pick (hF.pick (hF.pick (hF.pick (hF.pick hF.nil 7 rfl) 6 rfl) 4 rfl) 2 rfl) 1 rfl), hS⟩
      ·
       exact zero_bnd
      ·
       intro k k0 k1; omega
      ·
       intro k k0 k1; omega
      ·
       exact slh_nil
     ·
      clear hF hS a w
      rintro mm a w ⟨i, vb, f, rfl, h0, h1, hb, hf, hk, hvb, hF, hS⟩
      refine cw_seq ?_
      refine cw_seq ?_
      refine wp_region_lit ?_
      refine ls_val hF (.free rfl) rfl rfl (ex_move rfl rfl) ?_; clear hF a; intro a hF
      refine ls_val hF (.free rfl) rfl rfl (ex_field (b := ⟨g1, 0, none⟩) rfl fd_26_0 rfl rfl) ?_; clear hF a; intro a hF
      refine ls_val hF (.free rfl) rfl rfl (ex_load_blk 0 rfl pl_22 rfl hS rfl rfl) ?_; clear hF a; intro a hF
      refine ls_val hF (.free rfl) rfl rfl (ex_len rfl sl_22 rfl h.row.slh) ?_; clear hF a; intro a hF
      refine ls_val hF (.free rfl) rfl rfl (ex_lss rfl rfl rfl) ?_; clear hF a; intro a hF
      refine ls_nil ?_
      refine then_normal ?_
      refine cw_if hF rfl (fun hc => ?_) (fun hc => ?_)
      ·
       refine wp_skip ?_
       refine then_normal ?_
       refine cw_seq ?_
       refine wp_block ?_
       refine cw_seq ?_
       refine dr_sat (m0 := [.blk g1 [vy, .int .i64 q], .blk g2 [.slice none 0 0, .int .i64 0], .blk g3 [vb, .int .i64 r], .own vb 1 3 i (ints f)]) 1000 mx_ hS (.cons_cons _ (.cons_cons _ (.cons_cons _ (.cons_cons _ .slnil)))) rfl ?_; clear hS; intro w hS hcl hB
       refine dr_val hF hcl hB 0 rfl (.free rfl) rfl rfl (by kernel_rfl) rfl (fun w => (ex_field (b := ⟨g1, 0, none⟩) rfl fd_26_0 rfl rfl)) ?_; clear hF a hcl hB; intro a hF hcl hB
       refine dr_load hF hcl hB 1 rfl (.free rfl) rfl rfl (by kernel_rfl) rfl (by kernel_rfl) (fun w hS => (ex_load_blk 0 rfl pl_22 rfl hS rfl rfl)) ?_; clear hF a hcl hB; intro a hF hcl hB
       refine dr_val hF hcl hB 2 rfl (.free rfl) rfl rfl (by kernel_rfl) rfl (fun w => (ex_move rfl rfl)) ?_; clear hF a hcl hB; intro a hF hcl hB
       refine dr_val hF hcl hB 3 rfl (.free rfl) rfl rfl (by kernel_rfl) rfl (fun w => (ex_index (k := i) rfl sl_22 rfl rfl h.row.slh (by omega) (by omega) (by omega))) ?_; clear hF a hcl hB; intro a hF hcl hB
       refine dr_load hF hcl hB 4 rfl (.free rfl) rfl rfl (by kernel_rfl) rfl (by kernel_rfl) (fun w hS => (ex_load_row (u := .int .i64 (y i)) rfl pl_3 rfl (h.row.below hS.below) (by omega) (by omega) rfl)) ?_; clear hF a hcl hB; intro a hF hcl hB
       have hbv := h.i i
       have hfm := (Classical.not_not.1 ‹¬ ¬ (Formed n y q)›); have hyi := hfm.2.2 i (by omega) (by omega); have hq1 := hfm.1; have hmr := mul_rng (B := 1048576) hyi.1 hyi.2 (by omega : 0 ≤ r) (by omega); have hqf := quo_facts (a := y i * r) (b := q) (by omega) (by omega)
       refine dr_val hF hcl hB 5 rfl (.free rfl) rfl rfl (by kernel_rfl) rfl (fun w => (ex_move rfl rfl)) ?_; clear hF a hcl hB; intro a hF hcl hB
       refine dr_val hF hcl hB 6 rfl (.free rfl) rfl rfl (by kernel_rfl) rfl (fun w => (ex_mul (r := ((y i) * r)) rfl rfl rfl rfl (by unfold I64; omega))) ?_; clear hF a hcl hB; intro a hF hcl hB
       refine dr_val hF hcl hB 7 rfl (.free rfl) rfl rfl (by kernel_rfl) rfl (fun w => (ex_field (b := ⟨g1, 1, none⟩) rfl fd_26_1 rfl rfl)) ?_; clear hF a hcl hB; intro a hF hcl hB
       refine dr_load hF hcl hB 8 rfl (.free rfl) rfl rfl (by kernel_rfl) rfl (by kernel_rfl) (fun w hS => (ex_load_blk 0 rfl pl_3 rfl hS rfl rfl)) ?_; clear hF a hcl hB; intro a hF hcl hB
       refine dr_val hF hcl hB 9 rfl (.free rfl) rfl rfl (by kernel_rfl) rfl (fun w => (ex_quo (r := (Int.tdiv ((y i) * r) q)) rfl rfl rfl (by omega) rfl (by unfold I64; omega))) ?_; clear hF a hcl hB; intro a hF hcl hB
       refine dr_val hF hcl hB 10 rfl (.free rfl) rfl rfl (by kernel_rfl) rfl (fun w => (ex_assign rfl rfl)) ?_; clear hF a hcl hB; intro a hF hcl hB
       refine dr_done (by kernel_rfl) ?_; clear hcl hB
       refine then_normal ?_
       refine cw_seq ?_
       refine cw_seq ?_
       refine wp_region_lit ?_
       refine ls_val hF (.free rfl) rfl rfl (ex_move rfl rfl) ?_; clear hF a; intro a hF
       refine ls_val hF (.free rfl) rfl rfl (ex_gtr rfl rfl rfl) ?_; clear hF a; intro a hF
       refine ls_nil ?_
       refine then_normal ?_
       refine cw_if hF rfl (fun hc => ?_) (fun hc => ?_)
       ·
        refine cw_seq ?_
        refine wp_region_lit ?_
        refine ls_val hF (.free rfl) rfl rfl (ex_any (w' := w) (r := .value (.agg #[.slice none 0 0, .int .i64 0])) (by intro _ _ h; cases h) rfl (by kernel_rfl)) ?_; clear hF a; intro a hF
        refine ls_effx hF (.free rfl) rfl (st_blks 1 (ds := [.slice none 0 0, .int .i64 0]) rfl st_26 hS rfl rfl rfl rfl (ones_cons rfl (ones_cons rfl ones_nil))) ?_; clear hS; rintro w hS
        replace hS : Sat w0 w [.blk g1 [vy, .int .i64 q], .blk g2 [.slice none 0 0, .int .i64 0], .blk g3 [vb, .int .i64 r], .own vb 1 3 i (ints f)] := hS
        refine ls_val hF (.free rfl) rfl rfl (ex_assign rfl rfl) ?_; clear hF a; intro a hF
        refine ls_nil ?_
        refine then_normal ?_
        refine wp_ret ?_
        refine then_ret (inb_ret (then_ret (then_ret (inb_ret (then_ret ((fin_ct 1 hF rfl rfl rfl st_26 hS rfl rfl ⟨_, rfl, ?_⟩)))))))
        first
        | exact ⟨_, 0, fun _ => 0, 0, 2, rfl, slh_nil, zero_bnd, by omega, res_no ‹_› (by rintro ⟨h0, h1, h2, _⟩; omega), (hS.addnil 1 3 (ints fun _ => 0)).sub (.cons _ (.cons _ (.cons _ (.cons _ (.cons_cons _ .slnil)))))⟩
        | exact ⟨_, 0, fun _ => 0, 0, 2, rfl, slh_nil, zero_bnd, by omega, res_no ‹_› (fun hk => by have := hk.2.2.2 i (by omega) (by omega); dsimp only at this; omega), (hS.addnil 1 3 (ints fun _ => 0)).sub (.cons _ (.cons _ (.cons _ (.cons _ (.cons_cons _ .slnil)))))⟩
       ·
        refine wp_skip ?_
        refine then_normal ?_
        refine wp_region_lit ?_
        refine ls_val hF (.free rfl) rfl rfl (ex_field (b := ⟨g3, 0, none⟩) rfl fd_26_0 rfl rfl) ?_; clear hF a; intro a hF
        refine ls_val hF (.free rfl) rfl rfl (ex_load_blk 2 rfl pl_22 rfl hS rfl rfl) ?_; clear hF a; intro a hF
        refine ls_val hF (.free rfl) rfl rfl (ex_move rfl rfl) ?_; clear hF a; intro a hF
        refine ls_any hF (.free rfl) rfl rfl (ex_lit (n := 1) (len := 1) (pv := [(0, .int .i64 (Int.tdiv ((y i) * r) q))]) (cs := [.int .i64 (Int.tdiv ((y i) * r) q)]) (c := ints (fun _ => (Int.tdiv ((y i) * r) q))) rfl sl_22 el_3 hS (parts_cons rfl parts0) (by kernel_rfl) (by decide) (by decide) rfl rfl (fun k hk => by rcases k with _ | k <;> first | rfl | (exfalso; omega)) (by omega)) ?_; clear hF; rintro v1 w ⟨hS, hv1⟩ a hF
        replace hS : Sat w0 w [.blk g1 [vy, .int .i64 q], .blk g2 [.slice none 0 0, .int .i64 0], .blk g3 [vb, .int .i64 r], .own vb 1 3 i (ints f), .own v1 1 3 1 (ints (fun _ => (Int.tdiv ((y i) * r) q)))] := hS
        refine ls_any hF (.free rfl) rfl rfl (ap_own 3 (r := i + 1) (f := ints (snoc f i (Int.tdiv ((y i) * r) q))) rfl sl_22 el_3 rfl (by decide) hS rfl rfl rfl (hS.rowN 4 rfl) (fun _ _ _ => rfl) (by omega) (by omega) (by omega) (cat_snoc _ _ _)) ?_; clear hF; rintro v2 w ⟨hS, hv2⟩ a hF
        replace hS : Sat w0 w [.blk g1 [vy, .int .i64 q], .blk g2 [.slice none 0 0, .int .i64 0], .blk g3 [vb, .int .i64 r], .own v2 1 3 (i + 1) (ints (snoc f i (Int.tdiv ((y i) * r) q))), .own v1 1 3 1 (ints (fun _ => (Int.tdiv ((y i) * r) q)))] := hS
        refine ls_val hF (.free rfl) rfl rfl (ex_field (b := ⟨g3, 0, none⟩) rfl fd_26_0 rfl rfl) ?_; clear hF a; intro a hF
        refine ls_effx hF (.free rfl) rfl (st_blk 2 rfl pl_22 hS rfl rfl rfl hv2.one rfl) ?_; clear hS; rintro w hS
        replace hS : Sat w0 w [.blk g1 [vy, .int .i64 q], .blk g2 [.slice none 0 0, .int .i64 0], .blk g3 [v2, .int .i64 r], .own v2 1 3 (i + 1) (ints (snoc f i (Int.tdiv ((y i) * r) q))), .own v1 1 3 1 (ints (fun _ => (Int.tdiv ((y i) * r) q)))] := hS
        refine ls_nil ?_
        refine inb_normal ?_
        refine then_normal ?_
        refine wp_region_lit ?_
        refine ls_val hF (.free rfl) rfl rfl (ex_move rfl rfl) ?_; clear hF a; intro a hF
        refine ls_val hF (.free rfl) rfl rfl (ex_add (r := i + 1) rfl rfl rfl (by omega) (by unfold I64; omega)) ?_; clear hF a; intro a hF
        refine ls_val hF (.free rfl) rfl rfl (ex_assign rfl rfl) ?_; clear hF a; intro a hF
        refine ls_nil ?_
        refine then_normal ?_
        refine ⟨_, (by omega), i + 1, v2, (snoc f i (Int.tdiv ((y i) * r) q)), rfl, (by omega), (by omega), ?_, ?_, ?_, ?_, (hF.pick (hF.pick (hF.pick (hF.pick (hF.pick hF.nil 7 rfl) 6 rfl) 4 rfl) 2 rfl) 1 rfl), hS.sub (.cons_cons _ (.cons_cons _ (.cons_cons _ (.cons_cons _ (.cons _ .slnil)))))⟩
        ·
         exact snoc_bnd hb (by omega)
        ·
         exact snoc_all hf rfl
        ·
         intro k k0 k1; by_cases e : k < i
         · rw [snoc_lt e]; exact hk k k0 e
         · rw [snoc_at e]; omega
        ·
         exact hv2
      ·
       refine wp_exit ?_
       refine then_exit ?_
       refine then_exit ?_
       refine inb_hit ?_
       refine then_normal ?_
       refine cw_seq ?_
       refine wp_region_lit ?_
       refine ls_val hF (.free rfl) rfl rfl (ex_loads_blk 2 rfl st_26 rfl hS rfl rfl) ?_; clear hF a; intro a hF
       refine ls_effx hF (.free rfl) rfl (st_blks 1 (ds := [vb, .int .i64 r]) rfl st_26 hS rfl rfl rfl rfl (ones_cons hvb.one (ones_cons rfl ones_nil))) ?_; clear hS; rintro w hS
       replace hS : Sat w0 w [.blk g1 [vy, .int .i64 q], .blk g2 [vb, .int .i64 r], .blk g3 [vb, .int .i64 r], .own vb 1 3 i (ints f)] := hS
       refine ls_val hF (.free rfl) rfl rfl (ex_assign rfl rfl) ?_; clear hF a; intro a hF
       refine ls_nil ?_
       refine then_normal ?_
       refine wp_ret ?_
       refine (fin_ct 1 hF rfl rfl rfl st_26 hS rfl rfl ⟨_, rfl, ?_⟩)
       obtain rfl : i = n := by omega
       exact ⟨_, _, f, _, 0, rfl, hvb, hb, by omega, res_ok ‹_› hf ⟨by omega, (formed_conv hf).2 ⟨by omega, by omega, fun k k0 k1 => hk k k0 k1⟩⟩, hS.sub (.cons _ (.cons _ (.cons _ (.cons_cons _ .slnil))))⟩

end Go.Proofs.Ytigefiejddmidaa
