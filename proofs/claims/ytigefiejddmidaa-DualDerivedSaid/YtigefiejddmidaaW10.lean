/- The walks of Sum and Material, of dual and the reference of layer 32. -/
import Derived.Test.YtigefiejddmidaaW9
namespace Go.Proofs.Ytigefiejddmidaa
open Go Go.RowKit Go.Proofs.Gw
set_option linter.unusedVariables false

set_option maxRecDepth 20000 in
theorem c_sum {vy vz : Value} {n nb q s : Int} {y z : Int → Int} (w0 : World) (h : IAt w0 vy n y) (hq : -9223372036854775808 ≤ q ∧ q ≤ 9223372036854775807) (h2 : IAt w0 vz nb z) (hs : -9223372036854775808 ≤ s ∧ s ≤ 9223372036854775807) (hfew : n ≤ 25) :
    Calls Try.prog 20 [.agg #[vy, .int .i64 q], .agg #[vz, .int .i64 s]].toArray w0 fun e w => ∃ v, e = .returned v ∧ ∃ vr n' f q' e, v = .tuple #[.agg #[vr, .int .i64 q'], .int .i64 e] ∧ Slh vr n' ∧ (∀ k, -9223372036854775808 ≤ f k ∧ f k ≤ 9223372036854775807) ∧ (-9223372036854775808 ≤ q' ∧ q' ≤ 9223372036854775807) ∧ Res (¬ (Formed n y q ∧ Formed nb z s ∧ n = nb)) (Formed n (fun k => y k * s + z k * q) (2 * q * s)) n (fun k => y k * s + z k * q) (2 * q * s) n' f q' e ∧ Sat w0 w [.own vr 1 3 n' (ints f)] := by
  have hn := h.n0; have hn2 := h2.n0
  refine enterS (vs := [.agg #[vy, .int .i64 q], .agg #[vz, .int .i64 s]]) Try.func20 rfl Try.ntmps20 rfl ?_
  intro a w hS hF
  refine cw_seq ?_
  refine wp_region_lit ?_
  refine ls_any hF (.free rfl) rfl rfl (ex_box (cs := [vy, .int .i64 q]) rfl hS rfl rfl) ?_; clear hF; rintro _ w ⟨g1, rfl, hS⟩ a hF
  replace hS : Sat w0 w [.blk g1 [vy, .int .i64 q]] := hS
  refine ls_any hF (.free rfl) rfl rfl (ex_box (cs := [vz, .int .i64 s]) rfl hS rfl rfl) ?_; clear hF; rintro _ w ⟨g2, rfl, hS⟩ a hF
  replace hS : Sat w0 w [.blk g1 [vy, .int .i64 q], .blk g2 [vz, .int .i64 s]] := hS
  refine ls_any hF (.free rfl) rfl rfl (ex_alloc (cs := [.slice none 0 0, .int .i64 0]) rfl el_34 hS rfl) ?_; clear hF; rintro _ w ⟨g3, rfl, hS⟩ a hF
  replace hS : Sat w0 w [.blk g1 [vy, .int .i64 q], .blk g2 [vz, .int .i64 s], .blk g3 [.slice none 0 0, .int .i64 0]] := hS
  refine ls_val hF (.free rfl) rfl rfl (ex_assign rfl rfl) ?_; clear hF a; intro a hF
  refine ls_nil ?_
  refine then_normal ?_
  refine cw_seq ?_
  refine cw_seq ?_
  refine wp_region_lit ?_
  refine ls_val hF (.free rfl) rfl rfl (ex_loads_blk 0 rfl st_34 rfl hS rfl rfl) ?_; clear hF a; intro a hF
  refine ls_call hF (.free rfl) rfl rfl (ex_call0 rfl rfl cl_26 (args_cons rfl args0)) (c_formed w (h.below hS.below) (by omega)) ?_; clear hF; rintro _ w ⟨rfl, hS'⟩ a hF
  replace hS : Sat w0 w [.blk g1 [vy, .int .i64 q], .blk g2 [vz, .int .i64 s], .blk g3 [.slice none 0 0, .int .i64 0]] := hS.comp hS'; clear hS'
  refine ls_val hF (.free rfl) rfl rfl (ex_not rfl rfl) ?_; clear hF a; intro a hF
  refine ls_val hF (.free rfl) rfl rfl (ex_move rfl rfl) ?_; clear hF a; intro a hF
  refine by_slot hF (d := 12) rfl ?_ ?_ <;> clear hF <;> intro hc hF
  ·
   refine ls_off hF (.on rfl rfl rfl rfl rfl) rfl rfl ?_; clear hF a; intro a hF
   refine ls_off hF (.on rfl rfl rfl rfl rfl) rfl rfl ?_; clear hF a; intro a hF
   refine ls_off hF (.on rfl rfl rfl rfl rfl) rfl rfl ?_; clear hF a; intro a hF
   refine ls_val hF (.free rfl) rfl rfl (ex_pick_t rfl rfl rfl) ?_; clear hF a; intro a hF
   refine ls_val hF (.free rfl) rfl rfl (ex_move rfl rfl) ?_; clear hF a; intro a hF
   refine ls_off hF (.on rfl rfl rfl rfl rfl) rfl rfl ?_; clear hF a; intro a hF
   refine ls_off hF (.on rfl rfl rfl rfl rfl) rfl rfl ?_; clear hF a; intro a hF
   refine ls_off hF (.on rfl rfl rfl rfl rfl) rfl rfl ?_; clear hF a; intro a hF
   refine ls_off hF (.on rfl rfl rfl rfl rfl) rfl rfl ?_; clear hF a; intro a hF
   refine ls_off hF (.on rfl rfl rfl rfl rfl) rfl rfl ?_; clear hF a; intro a hF
   refine ls_off hF (.on rfl rfl rfl rfl rfl) rfl rfl ?_; clear hF a; intro a hF
   refine ls_off hF (.on rfl rfl rfl rfl rfl) rfl rfl ?_; clear hF a; intro a hF
   refine ls_val hF (.free rfl) rfl rfl (ex_pick_t rfl rfl rfl) ?_; clear hF a; intro a hF
   refine ls_nil ?_
   refine then_normal ?_
   refine cw_t hF rfl ?_
   refine cw_seq ?_
   refine wp_region_lit ?_
   refine ls_val hF (.free rfl) rfl rfl (ex_any (w' := w) (r := .value (.agg #[.slice none 0 0, .int .i64 0])) (by intro _ _ h; cases h) rfl (by kernel_rfl)) ?_; clear hF a; intro a hF
   refine ls_effx hF (.free rfl) rfl (st_blks 2 (ds := [.slice none 0 0, .int .i64 0]) rfl st_34 hS rfl rfl rfl rfl (ones_cons rfl (ones_cons rfl ones_nil))) ?_; clear hS; rintro w hS
   replace hS : Sat w0 w [.blk g1 [vy, .int .i64 q], .blk g2 [vz, .int .i64 s], .blk g3 [.slice none 0 0, .int .i64 0]] := hS
   refine ls_val hF (.free rfl) rfl rfl (ex_assign rfl rfl) ?_; clear hF a; intro a hF
   refine ls_nil ?_
   refine then_normal ?_
   refine wp_ret ?_
   refine then_ret ((fin_ct 2 hF rfl rfl rfl st_34 hS rfl rfl ⟨_, rfl, ?_⟩))
   first
   | exact ⟨_, 0, fun _ => 0, 0, 1, rfl, slh_nil, zero_bnd, by omega, res_bad (fun hh => absurd hh.1 ‹¬ Formed n y q›), (hS.addnil 1 3 (ints fun _ => 0)).sub (.cons _ (.cons _ (.cons _ (.cons_cons _ .slnil))))⟩
   | exact ⟨_, 0, fun _ => 0, 0, 1, rfl, slh_nil, zero_bnd, by omega, res_bad (fun hh => absurd hh.2.1 ‹¬ Formed nb z s›), (hS.addnil 1 3 (ints fun _ => 0)).sub (.cons _ (.cons _ (.cons _ (.cons_cons _ .slnil))))⟩
   | exact ⟨_, 0, fun _ => 0, 0, 1, rfl, slh_nil, zero_bnd, by omega, res_bad (fun hh => by omega), (hS.addnil 1 3 (ints fun _ => 0)).sub (.cons _ (.cons _ (.cons _ (.cons_cons _ .slnil))))⟩
  ·
   refine ls_val hF (.on rfl rfl rfl rfl rfl) rfl rfl (ex_loads_blk 1 rfl st_34 rfl hS rfl rfl) ?_; clear hF a; intro a hF
   refine ls_call hF (.on rfl rfl rfl rfl rfl) rfl rfl (ex_call0 rfl rfl cl_26 (args_cons rfl args0)) (c_formed w (h2.below hS.below) (by omega)) ?_; clear hF; rintro _ w ⟨rfl, hS'⟩ a hF
   replace hS : Sat w0 w [.blk g1 [vy, .int .i64 q], .blk g2 [vz, .int .i64 s], .blk g3 [.slice none 0 0, .int .i64 0]] := hS.comp hS'; clear hS'
   refine ls_val hF (.on rfl rfl rfl rfl rfl) rfl rfl (ex_not rfl rfl) ?_; clear hF a; intro a hF
   refine ls_val hF (.free rfl) rfl rfl (ex_pick_f rfl rfl rfl) ?_; clear hF a; intro a hF
   refine ls_val hF (.free rfl) rfl rfl (ex_move rfl rfl) ?_; clear hF a; intro a hF
   refine by_slot hF (d := 17) rfl ?_ ?_ <;> clear hF <;> intro hc hF
   ·
    refine ls_off hF (.on rfl rfl rfl rfl rfl) rfl rfl ?_; clear hF a; intro a hF
    refine ls_off hF (.on rfl rfl rfl rfl rfl) rfl rfl ?_; clear hF a; intro a hF
    refine ls_off hF (.on rfl rfl rfl rfl rfl) rfl rfl ?_; clear hF a; intro a hF
    refine ls_off hF (.on rfl rfl rfl rfl rfl) rfl rfl ?_; clear hF a; intro a hF
    refine ls_off hF (.on rfl rfl rfl rfl rfl) rfl rfl ?_; clear hF a; intro a hF
    refine ls_off hF (.on rfl rfl rfl rfl rfl) rfl rfl ?_; clear hF a; intro a hF
    refine ls_off hF (.on rfl rfl rfl rfl rfl) rfl rfl ?_; clear hF a; intro a hF
    refine ls_val hF (.free rfl) rfl rfl (ex_pick_t rfl rfl rfl) ?_; clear hF a; intro a hF
    refine ls_nil ?_
    refine then_normal ?_
    refine cw_t hF rfl ?_
    refine cw_seq ?_
    refine wp_region_lit ?_
    refine ls_val hF (.free rfl) rfl rfl (ex_any (w' := w) (r := .value (.agg #[.slice none 0 0, .int .i64 0])) (by intro _ _ h; cases h) rfl (by kernel_rfl)) ?_; clear hF a; intro a hF
    refine ls_effx hF (.free rfl) rfl (st_blks 2 (ds := [.slice none 0 0, .int .i64 0]) rfl st_34 hS rfl rfl rfl rfl (ones_cons rfl (ones_cons rfl ones_nil))) ?_; clear hS; rintro w hS
    replace hS : Sat w0 w [.blk g1 [vy, .int .i64 q], .blk g2 [vz, .int .i64 s], .blk g3 [.slice none 0 0, .int .i64 0]] := hS
    refine ls_val hF (.free rfl) rfl rfl (ex_assign rfl rfl) ?_; clear hF a; intro a hF
    refine ls_nil ?_
    refine then_normal ?_
    refine wp_ret ?_
    refine then_ret ((fin_ct 2 hF rfl rfl rfl st_34 hS rfl rfl ⟨_, rfl, ?_⟩))
    first
    | exact ⟨_, 0, fun _ => 0, 0, 1, rfl, slh_nil, zero_bnd, by omega, res_bad (fun hh => absurd hh.1 ‹¬ Formed n y q›), (hS.addnil 1 3 (ints fun _ => 0)).sub (.cons _ (.cons _ (.cons _ (.cons_cons _ .slnil))))⟩
    | exact ⟨_, 0, fun _ => 0, 0, 1, rfl, slh_nil, zero_bnd, by omega, res_bad (fun hh => absurd hh.2.1 ‹¬ Formed nb z s›), (hS.addnil 1 3 (ints fun _ => 0)).sub (.cons _ (.cons _ (.cons _ (.cons_cons _ .slnil))))⟩
    | exact ⟨_, 0, fun _ => 0, 0, 1, rfl, slh_nil, zero_bnd, by omega, res_bad (fun hh => by omega), (hS.addnil 1 3 (ints fun _ => 0)).sub (.cons _ (.cons _ (.cons _ (.cons_cons _ .slnil))))⟩
   ·
    refine ls_val hF (.on rfl rfl rfl rfl rfl) rfl rfl (ex_field (b := ⟨g1, 0, none⟩) rfl fd_34_0 rfl rfl) ?_; clear hF a; intro a hF
    refine ls_val hF (.on rfl rfl rfl rfl rfl) rfl rfl (ex_load_blk 0 rfl pl_22 rfl hS rfl rfl) ?_; clear hF a; intro a hF
    refine ls_val hF (.on rfl rfl rfl rfl rfl) rfl rfl (ex_len rfl sl_22 rfl h.row.slh) ?_; clear hF a; intro a hF
    refine ls_val hF (.on rfl rfl rfl rfl rfl) rfl rfl (ex_field (b := ⟨g2, 0, none⟩) rfl fd_34_0 rfl rfl) ?_; clear hF a; intro a hF
    refine ls_val hF (.on rfl rfl rfl rfl rfl) rfl rfl (ex_load_blk 1 rfl pl_22 rfl hS rfl rfl) ?_; clear hF a; intro a hF
    refine ls_val hF (.on rfl rfl rfl rfl rfl) rfl rfl (ex_len rfl sl_22 rfl h2.row.slh) ?_; clear hF a; intro a hF
    refine ls_val hF (.on rfl rfl rfl rfl rfl) rfl rfl (ex_neq rfl rfl rfl) ?_; clear hF a; intro a hF
    refine ls_val hF (.free rfl) rfl rfl (ex_pick_f rfl rfl rfl) ?_; clear hF a; intro a hF
    refine ls_nil ?_
    refine then_normal ?_
    refine cw_if hF rfl (fun hc => ?_) (fun hc => ?_)
    ·
     refine cw_seq ?_
     refine wp_region_lit ?_
     refine ls_val hF (.free rfl) rfl rfl (ex_any (w' := w) (r := .value (.agg #[.slice none 0 0, .int .i64 0])) (by intro _ _ h; cases h) rfl (by kernel_rfl)) ?_; clear hF a; intro a hF
     refine ls_effx hF (.free rfl) rfl (st_blks 2 (ds := [.slice none 0 0, .int .i64 0]) rfl st_34 hS rfl rfl rfl rfl (ones_cons rfl (ones_cons rfl ones_nil))) ?_; clear hS; rintro w hS
     replace hS : Sat w0 w [.blk g1 [vy, .int .i64 q], .blk g2 [vz, .int .i64 s], .blk g3 [.slice none 0 0, .int .i64 0]] := hS
     refine ls_val hF (.free rfl) rfl rfl (ex_assign rfl rfl) ?_; clear hF a; intro a hF
     refine ls_nil ?_
     refine then_normal ?_
     refine wp_ret ?_
     refine then_ret ((fin_ct 2 hF rfl rfl rfl st_34 hS rfl rfl ⟨_, rfl, ?_⟩))
     first
     | exact ⟨_, 0, fun _ => 0, 0, 1, rfl, slh_nil, zero_bnd, by omega, res_bad (fun hh => absurd hh.1 ‹¬ Formed n y q›), (hS.addnil 1 3 (ints fun _ => 0)).sub (.cons _ (.cons _ (.cons _ (.cons_cons _ .slnil))))⟩
     | exact ⟨_, 0, fun _ => 0, 0, 1, rfl, slh_nil, zero_bnd, by omega, res_bad (fun hh => absurd hh.2.1 ‹¬ Formed nb z s›), (hS.addnil 1 3 (ints fun _ => 0)).sub (.cons _ (.cons _ (.cons _ (.cons_cons _ .slnil))))⟩
     | exact ⟨_, 0, fun _ => 0, 0, 1, rfl, slh_nil, zero_bnd, by omega, res_bad (fun hh => by omega), (hS.addnil 1 3 (ints fun _ => 0)).sub (.cons _ (.cons _ (.cons _ (.cons_cons _ .slnil))))⟩
    ·
     refine wp_skip ?_
     refine then_normal ?_
     refine cw_seq ?_
     refine wp_region_lit ?_
     refine ls_val hF (.free rfl) rfl rfl (ex_field (b := ⟨g1, 1, none⟩) rfl fd_34_1 rfl rfl) ?_; clear hF a; intro a hF
     refine ls_val hF (.free rfl) rfl rfl (ex_load_blk 0 rfl pl_3 rfl hS rfl rfl) ?_; clear hF a; intro a hF
     have hfa := (Classical.not_not.1 ‹¬ ¬ (Formed n y q)›); have hfb := (Classical.not_not.1 ‹¬ ¬ (Formed nb z s)›); have hq1 := hfa.1; have hq2 := hfa.2.1; have hs1 := hfb.1; have hs2 := hfb.2.1; have hnb : ¬ ¬ (Formed n y q ∧ Formed nb z s ∧ n = nb) := fun hh => hh ⟨hfa, hfb, by omega⟩; have hmq := mul_rng (a := 2 * q) (b := s) (A := 2147483648) (B := 1073741824) (by omega) (by omega) (by omega) (by omega)
     refine ls_val hF (.free rfl) rfl rfl (ex_mul (r := 2 * q) rfl rfl rfl (by omega) (by unfold I64; omega)) ?_; clear hF a; intro a hF
     refine ls_val hF (.free rfl) rfl rfl (ex_field (b := ⟨g2, 1, none⟩) rfl fd_34_1 rfl rfl) ?_; clear hF a; intro a hF
     refine ls_val hF (.free rfl) rfl rfl (ex_load_blk 1 rfl pl_3 rfl hS rfl rfl) ?_; clear hF a; intro a hF
     refine ls_val hF (.free rfl) rfl rfl (ex_mul (r := ((2 * q) * s)) rfl rfl rfl rfl (by unfold I64; omega)) ?_; clear hF a; intro a hF
     refine ls_val hF (.free rfl) rfl rfl (ex_any (w' := w) (r := .value (.agg #[.slice none 0 0, .int .i64 ((2 * q) * s)])) (by intro _ _ h; cases h) rfl (by kernel_rfl)) ?_; clear hF a; intro a hF
     refine ls_any hF (.free rfl) rfl rfl (ex_alloc (cs := [.slice none 0 0, .int .i64 0]) rfl el_34 hS rfl) ?_; clear hF; rintro _ w ⟨g4, rfl, hS⟩ a hF
     replace hS : Sat w0 w [.blk g1 [vy, .int .i64 q], .blk g2 [vz, .int .i64 s], .blk g3 [.slice none 0 0, .int .i64 0], .blk g4 [.slice none 0 0, .int .i64 0]] := hS
     refine ls_effx hF (.free rfl) rfl (st_blks 3 (ds := [.slice none 0 0, .int .i64 ((2 * q) * s)]) rfl st_34 hS rfl rfl rfl rfl (ones_cons rfl (ones_cons rfl ones_nil))) ?_; clear hS; rintro w hS
     replace hS : Sat w0 w [.blk g1 [vy, .int .i64 q], .blk g2 [vz, .int .i64 s], .blk g3 [.slice none 0 0, .int .i64 0], .blk g4 [.slice none 0 0, .int .i64 ((2 * q) * s)]] := hS
     refine ls_nil ?_
     refine then_normal ?_
     refine cw_seq ?_
     refine cw_seq ?_
     refine wp_region_lit ?_
     refine ls_val hF (.free rfl) rfl rfl (ex_field (b := ⟨g1, 0, none⟩) rfl fd_34_0 rfl rfl) ?_; clear hF a; intro a hF
     refine ls_val hF (.free rfl) rfl rfl (ex_load_blk 0 rfl pl_22 rfl hS rfl rfl) ?_; clear hF a; intro a hF
     refine ls_val hF (.free rfl) rfl rfl (ex_len rfl sl_22 rfl h.row.slh) ?_; clear hF a; intro a hF
     refine ls_val hF (.free rfl) rfl rfl (ex_move rfl rfl) ?_; clear hF a; intro a hF
     refine ls_nil ?_
     refine then_normal ?_
     refine wp_block ?_
     replace hS := hS.addnil 1 3 (ints (fun _ => 0))
     replace hS : Sat w0 w [.blk g1 [vy, .int .i64 q], .blk g2 [vz, .int .i64 s], .blk g3 [.slice none 0 0, .int .i64 0], .blk g4 [(.slice none 0 0), .int .i64 ((2 * q) * s)], .own (.slice none 0 0) 1 3 0 (ints (fun _ => 0))] := hS
     refine cw_loop (fun mm a w => ∃ (i : Int) (vb : Value) (f : Int → Int), mm = ((n - i).toNat) ∧ (0 ≤ i) ∧ (i ≤ n) ∧ (∀ k, -9223372036854775808 ≤ f k ∧ f k ≤ 9223372036854775807) ∧ (∀ k, 0 ≤ k → k < i → f k = (fun k => y k * s + z k * q) k) ∧ (Slh vb i) ∧ Fr a 66 [(2, .pointer (some ⟨g1, 0, none⟩)), (3, .pointer (some ⟨g2, 0, none⟩)), (4, .pointer (some ⟨g3, 0, none⟩)), (5, .int .i64 0), (6, .pointer (some ⟨g4, 0, none⟩)), (35, vy), (36, .int .i64 n), (37, .int .i64 i)] ∧ Sat w0 w [.blk g1 [vy, .int .i64 q], .blk g2 [vz, .int .i64 s], .blk g3 [.slice none 0 0, .int .i64 0], .blk g4 [vb, .int .i64 ((2 * q) * s)], .own vb 1 3 i (ints f)]) ?_ ?_ (m := ((n - 0).toNat))
     ·
      refine ⟨0, (.slice none 0 0), (fun _ => 0), rfl, (by omega), (by omega), ?_, ?_, ?_, (hF.pick (hF.pick (hF.pick (hF.pick (hF.pick (hF.pick (hF.pick (hF.pick hF.nil 37 rfl) 36 rfl) 35 rfl) 6 rfl) 5 rfl) 4 rfl) 3 rfl) 2 rfl), hS⟩
      ·
       exact zero_bnd
      ·
       intro k k0 k1; omega
      ·
       exact slh_nil
     ·
      clear hF hS a w
      rintro mm a w ⟨i, vb, f, rfl, h0, h1, hb, hf, hvb, hF, hS⟩
      refine cw_seq ?_
      refine wp_region_lit ?_
      refine ls_val hF (.free rfl) rfl rfl (ex_lss rfl rfl rfl) ?_; clear hF a; intro a hF
      refine ls_nil ?_
      refine then_normal ?_
      refine cw_seq ?_
      refine cw_if hF rfl (fun hc => ?_) (fun hc => ?_)
      ·
       refine wp_skip ?_
       refine then_normal ?_
       refine cw_seq ?_
       refine wp_block ?_
       refine cw_seq ?_
       refine wp_region_lit ?_
       refine ls_val hF (.free rfl) rfl rfl (ex_move rfl rfl) ?_; clear hF a; intro a hF
       refine ls_val hF (.free rfl) rfl rfl (ex_index (k := i) rfl sl_22 rfl rfl h.row.slh (by omega) (by omega) (by omega)) ?_; clear hF a; intro a hF
       refine ls_val hF (.free rfl) rfl rfl (ex_load_row (u := .int .i64 (y i)) rfl pl_3 rfl (h.row.below hS.below) (by omega) (by omega) rfl) ?_; clear hF a; intro a hF
       have hbv := h.i i
       have hyi := hfa.2.2 i (by omega) (by omega); have hzi := hfb.2.2 i (by omega) (by omega); have hm1 := mul_rng (B := 1073741824) hyi.1 hyi.2 (by omega : 0 ≤ s) (by omega); have hm2 := mul_rng (B := 1073741824) hzi.1 hzi.2 (by omega : 0 ≤ q) (by omega)
       refine ls_val hF (.free rfl) rfl rfl (ex_assign rfl rfl) ?_; clear hF a; intro a hF
       refine ls_val hF (.free rfl) rfl rfl (ex_assign rfl rfl) ?_; clear hF a; intro a hF
       refine ls_nil ?_
       refine then_normal ?_
       refine dr_sat (m0 := [.blk g1 [vy, .int .i64 q], .blk g2 [vz, .int .i64 s], .blk g3 [.slice none 0 0, .int .i64 0], .blk g4 [vb, .int .i64 ((2 * q) * s)]]) 18 mx_ hS (.cons_cons _ (.cons_cons _ (.cons_cons _ (.cons_cons _ (.cons _ .slnil))))) rfl ?_; clear hS; intro w hS hcl hB
       refine dr_val hF hcl hB 0 rfl (.free rfl) rfl rfl (by kernel_rfl) rfl (fun w => (ex_field (b := ⟨g4, 0, none⟩) rfl fd_34_0 rfl rfl)) ?_; clear hF a hcl hB; intro a hF hcl hB
       refine dr_load hF hcl hB 1 rfl (.free rfl) rfl rfl (by kernel_rfl) rfl (by kernel_rfl) (fun w hS => (ex_load_blk 3 rfl pl_22 rfl hS rfl rfl)) ?_; clear hF a hcl hB; intro a hF hcl hB
       refine dr_val hF hcl hB 2 rfl (.free rfl) rfl rfl (by kernel_rfl) rfl (fun w => (ex_move rfl rfl)) ?_; clear hF a hcl hB; intro a hF hcl hB
       refine dr_val hF hcl hB 3 rfl (.free rfl) rfl rfl (by kernel_rfl) rfl (fun w => (ex_field (b := ⟨g2, 1, none⟩) rfl fd_34_1 rfl rfl)) ?_; clear hF a hcl hB; intro a hF hcl hB
       refine dr_load hF hcl hB 4 rfl (.free rfl) rfl rfl (by kernel_rfl) rfl (by kernel_rfl) (fun w hS => (ex_load_blk 1 rfl pl_3 rfl hS rfl rfl)) ?_; clear hF a hcl hB; intro a hF hcl hB
       refine dr_val hF hcl hB 5 rfl (.free rfl) rfl rfl (by kernel_rfl) rfl (fun w => (ex_mul (r := ((y i) * s)) rfl rfl rfl rfl (by unfold I64; omega))) ?_; clear hF a hcl hB; intro a hF hcl hB
       refine dr_val hF hcl hB 6 rfl (.free rfl) rfl rfl (by kernel_rfl) rfl (fun w => (ex_field (b := ⟨g2, 0, none⟩) rfl fd_34_0 rfl rfl)) ?_; clear hF a hcl hB; intro a hF hcl hB
       refine dr_load hF hcl hB 7 rfl (.free rfl) rfl rfl (by kernel_rfl) rfl (by kernel_rfl) (fun w hS => (ex_load_blk 1 rfl pl_22 rfl hS rfl rfl)) ?_; clear hF a hcl hB; intro a hF hcl hB
       refine dr_val hF hcl hB 8 rfl (.free rfl) rfl rfl (by kernel_rfl) rfl (fun w => (ex_move rfl rfl)) ?_; clear hF a hcl hB; intro a hF hcl hB
       refine dr_val hF hcl hB 9 rfl (.free rfl) rfl rfl (by kernel_rfl) rfl (fun w => (ex_index (k := i) rfl sl_22 rfl rfl h2.row.slh (by omega) (by omega) (by omega))) ?_; clear hF a hcl hB; intro a hF hcl hB
       refine dr_load hF hcl hB 10 rfl (.free rfl) rfl rfl (by kernel_rfl) rfl (by kernel_rfl) (fun w hS => (ex_load_row (u := .int .i64 (z i)) rfl pl_3 rfl (h2.row.below hS.below) (by omega) (by omega) rfl)) ?_; clear hF a hcl hB; intro a hF hcl hB
       have hbv := h2.i i
       refine dr_val hF hcl hB 11 rfl (.free rfl) rfl rfl (by kernel_rfl) rfl (fun w => (ex_field (b := ⟨g1, 1, none⟩) rfl fd_34_1 rfl rfl)) ?_; clear hF a hcl hB; intro a hF hcl hB
       refine dr_load hF hcl hB 12 rfl (.free rfl) rfl rfl (by kernel_rfl) rfl (by kernel_rfl) (fun w hS => (ex_load_blk 0 rfl pl_3 rfl hS rfl rfl)) ?_; clear hF a hcl hB; intro a hF hcl hB
       refine dr_val hF hcl hB 13 rfl (.free rfl) rfl rfl (by kernel_rfl) rfl (fun w => (ex_mul (r := ((z i) * q)) rfl rfl rfl rfl (by unfold I64; omega))) ?_; clear hF a hcl hB; intro a hF hcl hB
       refine dr_val hF hcl hB 14 rfl (.free rfl) rfl rfl (by kernel_rfl) rfl (fun w => (ex_add (r := ((y i) * s) + ((z i) * q)) rfl rfl rfl (by omega) (by unfold I64; omega))) ?_; clear hF a hcl hB; intro a hF hcl hB
       refine dr_any hF hcl 15 rfl (.free rfl) rfl rfl (by kernel_rfl) (ex_lit (n := 1) (len := 1) (pv := [(0, .int .i64 (((y i) * s) + ((z i) * q)))]) (cs := [.int .i64 (((y i) * s) + ((z i) * q))]) (c := ints (fun _ => ((y i) * s) + ((z i) * q))) rfl sl_22 el_3 hS (parts_cons rfl parts0) (by kernel_rfl) (by decide) (by decide) rfl rfl (fun k hk => by rcases k with _ | k <;> first | rfl | (exfalso; omega)) (by omega)) ?_; clear hF hB; rintro v1 w ⟨hS, hv1⟩ a hF hcl
       replace hS : Sat w0 w [.blk g1 [vy, .int .i64 q], .blk g2 [vz, .int .i64 s], .blk g3 [.slice none 0 0, .int .i64 0], .blk g4 [vb, .int .i64 ((2 * q) * s)], .own vb 1 3 i (ints f), .own v1 1 3 1 (ints (fun _ => ((y i) * s) + ((z i) * q)))] := hS
       refine ⟨(fun _ => hS.sub (.cons_cons _ (.cons_cons _ (.cons_cons _ (.cons_cons _ (.cons _ (.cons _ .slnil))))))), fun hB => ?_⟩
       refine dr_any hF hcl 16 rfl (.free rfl) rfl rfl (by kernel_rfl) (ap_own 4 (r := i + 1) (f := ints (snoc f i (((y i) * s) + ((z i) * q)))) rfl sl_22 el_3 rfl (by decide) hS rfl rfl rfl (hS.rowN 5 rfl) (fun _ _ _ => rfl) (by omega) (by omega) (by omega) (cat_snoc _ _ _)) ?_; clear hF hB; rintro v2 w ⟨hS, hv2⟩ a hF hcl
       replace hS : Sat w0 w [.blk g1 [vy, .int .i64 q], .blk g2 [vz, .int .i64 s], .blk g3 [.slice none 0 0, .int .i64 0], .blk g4 [vb, .int .i64 ((2 * q) * s)], .own v2 1 3 (i + 1) (ints (snoc f i (((y i) * s) + ((z i) * q)))), .own v1 1 3 1 (ints (fun _ => ((y i) * s) + ((z i) * q)))] := hS
       refine ⟨(fun _ => hS.sub (.cons_cons _ (.cons_cons _ (.cons_cons _ (.cons_cons _ (.cons _ (.cons _ .slnil))))))), fun hB => ?_⟩
       refine dr_val hF hcl hB 17 rfl (.free rfl) rfl rfl (by kernel_rfl) rfl (fun w => (ex_field (b := ⟨g4, 0, none⟩) rfl fd_34_0 rfl rfl)) ?_; clear hF a hcl hB; intro a hF hcl hB
       refine dr_effx hF hcl 18 rfl (.free rfl) rfl (by kernel_rfl) (st_blk 3 rfl pl_22 hS rfl rfl rfl hv2.one rfl) ?_; clear hS hB; rintro w hS hcl
       replace hS : Sat w0 w [.blk g1 [vy, .int .i64 q], .blk g2 [vz, .int .i64 s], .blk g3 [.slice none 0 0, .int .i64 0], .blk g4 [v2, .int .i64 ((2 * q) * s)], .own v2 1 3 (i + 1) (ints (snoc f i (((y i) * s) + ((z i) * q)))), .own v1 1 3 1 (ints (fun _ => ((y i) * s) + ((z i) * q)))] := hS
       refine ⟨(fun h => absurd h (by decide)), fun hB => ?_⟩
       refine dr_done (by kernel_rfl) ?_; clear hcl hB
       refine inb_normal ?_
       refine then_normal ?_
       refine wp_region_lit ?_
       refine ls_val hF (.free rfl) rfl rfl (ex_add (r := i + 1) rfl rfl rfl (by omega) (by unfold I64; omega)) ?_; clear hF a; intro a hF
       refine ls_val hF (.free rfl) rfl rfl (ex_move rfl rfl) ?_; clear hF a; intro a hF
       refine ls_nil ?_
       refine then_normal ?_
       refine ⟨_, (by omega), i + 1, v2, (snoc f i (((y i) * s) + ((z i) * q))), rfl, (by omega), (by omega), ?_, ?_, ?_, (hF.pick (hF.pick (hF.pick (hF.pick (hF.pick (hF.pick (hF.pick (hF.pick hF.nil 37 rfl) 36 rfl) 35 rfl) 6 rfl) 5 rfl) 4 rfl) 3 rfl) 2 rfl), hS.sub (.cons_cons _ (.cons_cons _ (.cons_cons _ (.cons_cons _ (.cons_cons _ (.cons _ .slnil))))))⟩
       ·
        exact snoc_bnd hb (by omega)
       ·
        exact snoc_all hf rfl
       ·
        exact hv2
      ·
       refine wp_exit ?_
       refine then_exit ?_
       refine then_exit ?_
       refine inb_hit ?_
       refine then_normal ?_
       refine cw_seq ?_
       refine cw_seq ?_
       refine wp_region_lit ?_
       refine ls_val hF (.free rfl) rfl rfl (ex_loads_blk 3 rfl st_34 rfl hS rfl rfl) ?_; clear hF a; intro a hF
       refine ls_call hF (.free rfl) rfl rfl (ex_call0 rfl rfl cl_26 (args_cons rfl args0)) (c_formed w (⟨(hS.rowN 4 rfl), hb⟩ : IAt _ _ i f) (by omega)) ?_; clear hF; rintro _ w ⟨rfl, hS'⟩ a hF
       replace hS : Sat w0 w [.blk g1 [vy, .int .i64 q], .blk g2 [vz, .int .i64 s], .blk g3 [.slice none 0 0, .int .i64 0], .blk g4 [vb, .int .i64 ((2 * q) * s)], .own vb 1 3 i (ints f)] := hS.comp hS'; clear hS'
       refine ls_val hF (.free rfl) rfl rfl (ex_not rfl rfl) ?_; clear hF a; intro a hF
       refine ls_nil ?_
       refine then_normal ?_
       refine cw_if hF rfl (fun hc => ?_) (fun hc => ?_)
       ·
        refine cw_seq ?_
        refine wp_region_lit ?_
        refine ls_val hF (.free rfl) rfl rfl (ex_any (w' := w) (r := .value (.agg #[.slice none 0 0, .int .i64 0])) (by intro _ _ h; cases h) rfl (by kernel_rfl)) ?_; clear hF a; intro a hF
        refine ls_effx hF (.free rfl) rfl (st_blks 2 (ds := [.slice none 0 0, .int .i64 0]) rfl st_34 hS rfl rfl rfl rfl (ones_cons rfl (ones_cons rfl ones_nil))) ?_; clear hS; rintro w hS
        replace hS : Sat w0 w [.blk g1 [vy, .int .i64 q], .blk g2 [vz, .int .i64 s], .blk g3 [.slice none 0 0, .int .i64 0], .blk g4 [vb, .int .i64 ((2 * q) * s)], .own vb 1 3 i (ints f)] := hS
        refine ls_val hF (.free rfl) rfl rfl (ex_assign rfl rfl) ?_; clear hF a; intro a hF
        refine ls_nil ?_
        refine then_normal ?_
        refine wp_ret ?_
        refine then_ret ((fin_ct 2 hF rfl rfl rfl st_34 hS rfl rfl ⟨_, rfl, ?_⟩))
        first
        | exact ⟨_, 0, fun _ => 0, 0, 2, rfl, slh_nil, zero_bnd, by omega, (by obtain rfl : i = n := (by omega); exact res_no hnb (fun hk => absurd ((formed_conv hf).1 hk) ‹¬ Formed i f (2 * q * s)›)), (hS.addnil 1 3 (ints fun _ => 0)).sub (.cons _ (.cons _ (.cons _ (.cons _ (.cons _ (.cons_cons _ .slnil))))))⟩
       ·
        refine wp_skip ?_
        refine then_normal ?_
        refine cw_seq ?_
        refine wp_region_lit ?_
        refine ls_val hF (.free rfl) rfl rfl (ex_loads_blk 3 rfl st_34 rfl hS rfl rfl) ?_; clear hF a; intro a hF
        refine ls_effx hF (.free rfl) rfl (st_blks 2 (ds := [vb, .int .i64 ((2 * q) * s)]) rfl st_34 hS rfl rfl rfl rfl (ones_cons hvb.one (ones_cons rfl ones_nil))) ?_; clear hS; rintro w hS
        replace hS : Sat w0 w [.blk g1 [vy, .int .i64 q], .blk g2 [vz, .int .i64 s], .blk g3 [vb, .int .i64 ((2 * q) * s)], .blk g4 [vb, .int .i64 ((2 * q) * s)], .own vb 1 3 i (ints f)] := hS
        refine ls_val hF (.free rfl) rfl rfl (ex_assign rfl rfl) ?_; clear hF a; intro a hF
        refine ls_nil ?_
        refine then_normal ?_
        refine wp_ret ?_
        refine (fin_ct 2 hF rfl rfl rfl st_34 hS rfl rfl ⟨_, rfl, ?_⟩)
        obtain rfl : i = n := by omega
        exact ⟨_, _, f, _, 0, rfl, hvb, hb, by omega, res_ok hnb hf ((formed_conv hf).2 (Classical.not_not.1 ‹¬ ¬ (Formed i f (2 * q * s))›)), hS.sub (.cons _ (.cons _ (.cons _ (.cons _ (.cons_cons _ .slnil)))))⟩

set_option maxRecDepth 20000 in
theorem c_rsum {vy vz : Value} {n nb q s : Int} {y z : Int → Int} (w0 : World) (h : IAt w0 vy n y) (hq : -9223372036854775808 ≤ q ∧ q ≤ 9223372036854775807) (h2 : IAt w0 vz nb z) (hs : -9223372036854775808 ≤ s ∧ s ≤ 9223372036854775807) (hfew : n ≤ 25) :
    Calls Try.prog 21 [.agg #[vy, .int .i64 q], .agg #[vz, .int .i64 s]].toArray w0 fun e w => ∃ v, e = .returned v ∧ ∃ vr n' f q' e, v = .tuple #[.agg #[vr, .int .i64 q'], .int .i64 e] ∧ Slh vr n' ∧ (∀ k, -9223372036854775808 ≤ f k ∧ f k ≤ 9223372036854775807) ∧ (-9223372036854775808 ≤ q' ∧ q' ≤ 9223372036854775807) ∧ Res (¬ (Formed n y q ∧ Formed nb z s ∧ n = nb)) (Formed n (fun k => y k * s + z k * q) (2 * q * s)) n (fun k => y k * s + z k * q) (2 * q * s) n' f q' e ∧ Sat w0 w [.own vr 1 3 n' (ints f)] := by
  have hn := h.n0; have hn2 := h2.n0
  refine enterS (vs := [.agg #[vy, .int .i64 q], .agg #[vz, .int .i64 s]]) Try.func21 rfl Try.ntmps21 rfl ?_
  intro a w hS hF
  refine cw_seq ?_
  refine wp_region_lit ?_
  refine ls_any hF (.free rfl) rfl rfl (ex_box (cs := [vy, .int .i64 q]) rfl hS rfl rfl) ?_; clear hF; rintro _ w ⟨g1, rfl, hS⟩ a hF
  replace hS : Sat w0 w [.blk g1 [vy, .int .i64 q]] := hS
  refine ls_any hF (.free rfl) rfl rfl (ex_box (cs := [vz, .int .i64 s]) rfl hS rfl rfl) ?_; clear hF; rintro _ w ⟨g2, rfl, hS⟩ a hF
  replace hS : Sat w0 w [.blk g1 [vy, .int .i64 q], .blk g2 [vz, .int .i64 s]] := hS
  refine ls_any hF (.free rfl) rfl rfl (ex_alloc (cs := [.slice none 0 0, .int .i64 0]) rfl el_26 hS rfl) ?_; clear hF; rintro _ w ⟨g3, rfl, hS⟩ a hF
  replace hS : Sat w0 w [.blk g1 [vy, .int .i64 q], .blk g2 [vz, .int .i64 s], .blk g3 [.slice none 0 0, .int .i64 0]] := hS
  refine ls_val hF (.free rfl) rfl rfl (ex_assign rfl rfl) ?_; clear hF a; intro a hF
  refine ls_nil ?_
  refine then_normal ?_
  refine cw_seq ?_
  refine cw_seq ?_
  refine wp_region_lit ?_
  refine ls_val hF (.free rfl) rfl rfl (ex_loads_blk 0 rfl st_26 rfl hS rfl rfl) ?_; clear hF a; intro a hF
  refine ls_call hF (.free rfl) rfl rfl (ex_call0 rfl rfl cl_28 (args_cons rfl args0)) (c_rformed w (h.below hS.below) (by omega)) ?_; clear hF; rintro _ w ⟨rfl, hS'⟩ a hF
  replace hS : Sat w0 w [.blk g1 [vy, .int .i64 q], .blk g2 [vz, .int .i64 s], .blk g3 [.slice none 0 0, .int .i64 0]] := hS.comp hS'; clear hS'
  refine ls_val hF (.free rfl) rfl rfl (ex_not rfl rfl) ?_; clear hF a; intro a hF
  refine ls_val hF (.free rfl) rfl rfl (ex_move rfl rfl) ?_; clear hF a; intro a hF
  refine by_slot hF (d := 11) rfl ?_ ?_ <;> clear hF <;> intro hc hF
  ·
   refine ls_off hF (.on rfl rfl rfl rfl rfl) rfl rfl ?_; clear hF a; intro a hF
   refine ls_off hF (.on rfl rfl rfl rfl rfl) rfl rfl ?_; clear hF a; intro a hF
   refine ls_off hF (.on rfl rfl rfl rfl rfl) rfl rfl ?_; clear hF a; intro a hF
   refine ls_val hF (.free rfl) rfl rfl (ex_pick_t rfl rfl rfl) ?_; clear hF a; intro a hF
   refine ls_val hF (.free rfl) rfl rfl (ex_move rfl rfl) ?_; clear hF a; intro a hF
   refine ls_off hF (.on rfl rfl rfl rfl rfl) rfl rfl ?_; clear hF a; intro a hF
   refine ls_off hF (.on rfl rfl rfl rfl rfl) rfl rfl ?_; clear hF a; intro a hF
   refine ls_off hF (.on rfl rfl rfl rfl rfl) rfl rfl ?_; clear hF a; intro a hF
   refine ls_off hF (.on rfl rfl rfl rfl rfl) rfl rfl ?_; clear hF a; intro a hF
   refine ls_off hF (.on rfl rfl rfl rfl rfl) rfl rfl ?_; clear hF a; intro a hF
   refine ls_off hF (.on rfl rfl rfl rfl rfl) rfl rfl ?_; clear hF a; intro a hF
   refine ls_off hF (.on rfl rfl rfl rfl rfl) rfl rfl ?_; clear hF a; intro a hF
   refine ls_val hF (.free rfl) rfl rfl (ex_pick_t rfl rfl rfl) ?_; clear hF a; intro a hF
   refine ls_nil ?_
   refine then_normal ?_
   refine cw_t hF rfl ?_
   refine cw_seq ?_
   refine wp_region_lit ?_
   refine ls_val hF (.free rfl) rfl rfl (ex_any (w' := w) (r := .value (.agg #[.slice none 0 0, .int .i64 0])) (by intro _ _ h; cases h) rfl (by kernel_rfl)) ?_; clear hF a; intro a hF
   refine ls_effx hF (.free rfl) rfl (st_blks 2 (ds := [.slice none 0 0, .int .i64 0]) rfl st_26 hS rfl rfl rfl rfl (ones_cons rfl (ones_cons rfl ones_nil))) ?_; clear hS; rintro w hS
   replace hS : Sat w0 w [.blk g1 [vy, .int .i64 q], .blk g2 [vz, .int .i64 s], .blk g3 [.slice none 0 0, .int .i64 0]] := hS
   refine ls_val hF (.free rfl) rfl rfl (ex_assign rfl rfl) ?_; clear hF a; intro a hF
   refine ls_nil ?_
   refine then_normal ?_
   refine wp_ret ?_
   refine then_ret ((fin_ct 2 hF rfl rfl rfl st_26 hS rfl rfl ⟨_, rfl, ?_⟩))
   first
   | exact ⟨_, 0, fun _ => 0, 0, 1, rfl, slh_nil, zero_bnd, by omega, res_bad (fun hh => absurd hh.1 ‹¬ Formed n y q›), (hS.addnil 1 3 (ints fun _ => 0)).sub (.cons _ (.cons _ (.cons _ (.cons_cons _ .slnil))))⟩
   | exact ⟨_, 0, fun _ => 0, 0, 1, rfl, slh_nil, zero_bnd, by omega, res_bad (fun hh => absurd hh.2.1 ‹¬ Formed nb z s›), (hS.addnil 1 3 (ints fun _ => 0)).sub (.cons _ (.cons _ (.cons _ (.cons_cons _ .slnil))))⟩
   | exact ⟨_, 0, fun _ => 0, 0, 1, rfl, slh_nil, zero_bnd, by omega, res_bad (fun hh => by omega), (hS.addnil 1 3 (ints fun _ => 0)).sub (.cons _ (.cons _ (.cons _ (.cons_cons _ .slnil))))⟩
  ·
   refine ls_val hF (.on rfl rfl rfl rfl rfl) rfl rfl (ex_loads_blk 1 rfl st_26 rfl hS rfl rfl) ?_; clear hF a; intro a hF
   refine ls_call hF (.on rfl rfl rfl rfl rfl) rfl rfl (ex_call0 rfl rfl cl_28 (args_cons rfl args0)) (c_rformed w (h2.below hS.below) (by omega)) ?_; clear hF; rintro _ w ⟨rfl, hS'⟩ a hF
   replace hS : Sat w0 w [.blk g1 [vy, .int .i64 q], .blk g2 [vz, .int .i64 s], .blk g3 [.slice none 0 0, .int .i64 0]] := hS.comp hS'; clear hS'
   refine ls_val hF (.on rfl rfl rfl rfl rfl) rfl rfl (ex_not rfl rfl) ?_; clear hF a; intro a hF
   refine ls_val hF (.free rfl) rfl rfl (ex_pick_f rfl rfl rfl) ?_; clear hF a; intro a hF
   refine ls_val hF (.free rfl) rfl rfl (ex_move rfl rfl) ?_; clear hF a; intro a hF
   refine by_slot hF (d := 16) rfl ?_ ?_ <;> clear hF <;> intro hc hF
   ·
    refine ls_off hF (.on rfl rfl rfl rfl rfl) rfl rfl ?_; clear hF a; intro a hF
    refine ls_off hF (.on rfl rfl rfl rfl rfl) rfl rfl ?_; clear hF a; intro a hF
    refine ls_off hF (.on rfl rfl rfl rfl rfl) rfl rfl ?_; clear hF a; intro a hF
    refine ls_off hF (.on rfl rfl rfl rfl rfl) rfl rfl ?_; clear hF a; intro a hF
    refine ls_off hF (.on rfl rfl rfl rfl rfl) rfl rfl ?_; clear hF a; intro a hF
    refine ls_off hF (.on rfl rfl rfl rfl rfl) rfl rfl ?_; clear hF a; intro a hF
    refine ls_off hF (.on rfl rfl rfl rfl rfl) rfl rfl ?_; clear hF a; intro a hF
    refine ls_val hF (.free rfl) rfl rfl (ex_pick_t rfl rfl rfl) ?_; clear hF a; intro a hF
    refine ls_nil ?_
    refine then_normal ?_
    refine cw_t hF rfl ?_
    refine cw_seq ?_
    refine wp_region_lit ?_
    refine ls_val hF (.free rfl) rfl rfl (ex_any (w' := w) (r := .value (.agg #[.slice none 0 0, .int .i64 0])) (by intro _ _ h; cases h) rfl (by kernel_rfl)) ?_; clear hF a; intro a hF
    refine ls_effx hF (.free rfl) rfl (st_blks 2 (ds := [.slice none 0 0, .int .i64 0]) rfl st_26 hS rfl rfl rfl rfl (ones_cons rfl (ones_cons rfl ones_nil))) ?_; clear hS; rintro w hS
    replace hS : Sat w0 w [.blk g1 [vy, .int .i64 q], .blk g2 [vz, .int .i64 s], .blk g3 [.slice none 0 0, .int .i64 0]] := hS
    refine ls_val hF (.free rfl) rfl rfl (ex_assign rfl rfl) ?_; clear hF a; intro a hF
    refine ls_nil ?_
    refine then_normal ?_
    refine wp_ret ?_
    refine then_ret ((fin_ct 2 hF rfl rfl rfl st_26 hS rfl rfl ⟨_, rfl, ?_⟩))
    first
    | exact ⟨_, 0, fun _ => 0, 0, 1, rfl, slh_nil, zero_bnd, by omega, res_bad (fun hh => absurd hh.1 ‹¬ Formed n y q›), (hS.addnil 1 3 (ints fun _ => 0)).sub (.cons _ (.cons _ (.cons _ (.cons_cons _ .slnil))))⟩
    | exact ⟨_, 0, fun _ => 0, 0, 1, rfl, slh_nil, zero_bnd, by omega, res_bad (fun hh => absurd hh.2.1 ‹¬ Formed nb z s›), (hS.addnil 1 3 (ints fun _ => 0)).sub (.cons _ (.cons _ (.cons _ (.cons_cons _ .slnil))))⟩
    | exact ⟨_, 0, fun _ => 0, 0, 1, rfl, slh_nil, zero_bnd, by omega, res_bad (fun hh => by omega), (hS.addnil 1 3 (ints fun _ => 0)).sub (.cons _ (.cons _ (.cons _ (.cons_cons _ .slnil))))⟩
   ·
    refine ls_val hF (.on rfl rfl rfl rfl rfl) rfl rfl (ex_field (b := ⟨g1, 0, none⟩) rfl fd_26_0 rfl rfl) ?_; clear hF a; intro a hF
    refine ls_val hF (.on rfl rfl rfl rfl rfl) rfl rfl (ex_load_blk 0 rfl pl_22 rfl hS rfl rfl) ?_; clear hF a; intro a hF
    refine ls_val hF (.on rfl rfl rfl rfl rfl) rfl rfl (ex_len rfl sl_22 rfl h.row.slh) ?_; clear hF a; intro a hF
    refine ls_val hF (.on rfl rfl rfl rfl rfl) rfl rfl (ex_field (b := ⟨g2, 0, none⟩) rfl fd_26_0 rfl rfl) ?_; clear hF a; intro a hF
    refine ls_val hF (.on rfl rfl rfl rfl rfl) rfl rfl (ex_load_blk 1 rfl pl_22 rfl hS rfl rfl) ?_; clear hF a; intro a hF
    refine ls_val hF (.on rfl rfl rfl rfl rfl) rfl rfl (ex_len rfl sl_22 rfl h2.row.slh) ?_; clear hF a; intro a hF
    refine ls_val hF (.on rfl rfl rfl rfl rfl) rfl rfl (ex_neq rfl rfl rfl) ?_; clear hF a; intro a hF
    refine ls_val hF (.free rfl) rfl rfl (ex_pick_f rfl rfl rfl) ?_; clear hF a; intro a hF
    refine ls_nil ?_
    refine then_normal ?_
    refine cw_if hF rfl (fun hc => ?_) (fun hc => ?_)
    ·
     refine cw_seq ?_
     refine wp_region_lit ?_
     refine ls_val hF (.free rfl) rfl rfl (ex_any (w' := w) (r := .value (.agg #[.slice none 0 0, .int .i64 0])) (by intro _ _ h; cases h) rfl (by kernel_rfl)) ?_; clear hF a; intro a hF
     refine ls_effx hF (.free rfl) rfl (st_blks 2 (ds := [.slice none 0 0, .int .i64 0]) rfl st_26 hS rfl rfl rfl rfl (ones_cons rfl (ones_cons rfl ones_nil))) ?_; clear hS; rintro w hS
     replace hS : Sat w0 w [.blk g1 [vy, .int .i64 q], .blk g2 [vz, .int .i64 s], .blk g3 [.slice none 0 0, .int .i64 0]] := hS
     refine ls_val hF (.free rfl) rfl rfl (ex_assign rfl rfl) ?_; clear hF a; intro a hF
     refine ls_nil ?_
     refine then_normal ?_
     refine wp_ret ?_
     refine then_ret ((fin_ct 2 hF rfl rfl rfl st_26 hS rfl rfl ⟨_, rfl, ?_⟩))
     first
     | exact ⟨_, 0, fun _ => 0, 0, 1, rfl, slh_nil, zero_bnd, by omega, res_bad (fun hh => absurd hh.1 ‹¬ Formed n y q›), (hS.addnil 1 3 (ints fun _ => 0)).sub (.cons _ (.cons _ (.cons _ (.cons_cons _ .slnil))))⟩
     | exact ⟨_, 0, fun _ => 0, 0, 1, rfl, slh_nil, zero_bnd, by omega, res_bad (fun hh => absurd hh.2.1 ‹¬ Formed nb z s›), (hS.addnil 1 3 (ints fun _ => 0)).sub (.cons _ (.cons _ (.cons _ (.cons_cons _ .slnil))))⟩
     | exact ⟨_, 0, fun _ => 0, 0, 1, rfl, slh_nil, zero_bnd, by omega, res_bad (fun hh => by omega), (hS.addnil 1 3 (ints fun _ => 0)).sub (.cons _ (.cons _ (.cons _ (.cons_cons _ .slnil))))⟩
    ·
     refine wp_skip ?_
     refine then_normal ?_
     refine cw_seq ?_
     refine wp_region_lit ?_
     refine ls_val hF (.free rfl) rfl rfl (ex_field (b := ⟨g1, 1, none⟩) rfl fd_26_1 rfl rfl) ?_; clear hF a; intro a hF
     refine ls_val hF (.free rfl) rfl rfl (ex_load_blk 0 rfl pl_3 rfl hS rfl rfl) ?_; clear hF a; intro a hF
     have hfa := (Classical.not_not.1 ‹¬ ¬ (Formed n y q)›); have hfb := (Classical.not_not.1 ‹¬ ¬ (Formed nb z s)›); have hq1 := hfa.1; have hq2 := hfa.2.1; have hs1 := hfb.1; have hs2 := hfb.2.1; have hnb : ¬ ¬ (Formed n y q ∧ Formed nb z s ∧ n = nb) := fun hh => hh ⟨hfa, hfb, by omega⟩; have hmq := mul_rng (a := 2 * q) (b := s) (A := 2147483648) (B := 1073741824) (by omega) (by omega) (by omega) (by omega)
     refine ls_val hF (.free rfl) rfl rfl (ex_mul (r := 2 * q) rfl rfl rfl (by omega) (by unfold I64; omega)) ?_; clear hF a; intro a hF
     refine ls_val hF (.free rfl) rfl rfl (ex_field (b := ⟨g2, 1, none⟩) rfl fd_26_1 rfl rfl) ?_; clear hF a; intro a hF
     refine ls_val hF (.free rfl) rfl rfl (ex_load_blk 1 rfl pl_3 rfl hS rfl rfl) ?_; clear hF a; intro a hF
     refine ls_val hF (.free rfl) rfl rfl (ex_mul (r := ((2 * q) * s)) rfl rfl rfl rfl (by unfold I64; omega)) ?_; clear hF a; intro a hF
     refine ls_val hF (.free rfl) rfl rfl (ex_any (w' := w) (r := .value (.agg #[.slice none 0 0, .int .i64 ((2 * q) * s)])) (by intro _ _ h; cases h) rfl (by kernel_rfl)) ?_; clear hF a; intro a hF
     refine ls_any hF (.free rfl) rfl rfl (ex_alloc (cs := [.slice none 0 0, .int .i64 0]) rfl el_26 hS rfl) ?_; clear hF; rintro _ w ⟨g4, rfl, hS⟩ a hF
     replace hS : Sat w0 w [.blk g1 [vy, .int .i64 q], .blk g2 [vz, .int .i64 s], .blk g3 [.slice none 0 0, .int .i64 0], .blk g4 [.slice none 0 0, .int .i64 0]] := hS
     refine ls_effx hF (.free rfl) rfl (st_blks 3 (ds := [.slice none 0 0, .int .i64 ((2 * q) * s)]) rfl st_26 hS rfl rfl rfl rfl (ones_cons rfl (ones_cons rfl ones_nil))) ?_; clear hS; rintro w hS
     replace hS : Sat w0 w [.blk g1 [vy, .int .i64 q], .blk g2 [vz, .int .i64 s], .blk g3 [.slice none 0 0, .int .i64 0], .blk g4 [.slice none 0 0, .int .i64 ((2 * q) * s)]] := hS
     refine ls_nil ?_
     refine then_normal ?_
     refine cw_seq ?_
     refine cw_seq ?_
     refine wp_region_lit ?_
     refine ls_val hF (.free rfl) rfl rfl (ex_assign rfl rfl) ?_; clear hF a; intro a hF
     refine ls_nil ?_
     refine then_normal ?_
     refine wp_block ?_
     replace hS := hS.addnil 1 3 (ints (fun _ => 0))
     replace hS : Sat w0 w [.blk g1 [vy, .int .i64 q], .blk g2 [vz, .int .i64 s], .blk g3 [.slice none 0 0, .int .i64 0], .blk g4 [(.slice none 0 0), .int .i64 ((2 * q) * s)], .own (.slice none 0 0) 1 3 0 (ints (fun _ => 0))] := hS
     refine cw_loop (fun mm a w => ∃ (i : Int) (vb : Value) (f : Int → Int), mm = ((n - i).toNat) ∧ (0 ≤ i) ∧ (i ≤ n) ∧ (∀ k, -9223372036854775808 ≤ f k ∧ f k ≤ 9223372036854775807) ∧ (∀ k, 0 ≤ k → k < i → f k = (fun k => y k * s + z k * q) k) ∧ (Slh vb i) ∧ Fr a 67 [(2, .pointer (some ⟨g1, 0, none⟩)), (3, .pointer (some ⟨g2, 0, none⟩)), (4, .pointer (some ⟨g3, 0, none⟩)), (5, .int .i64 0), (6, .pointer (some ⟨g4, 0, none⟩)), (7, .int .i64 i)] ∧ Sat w0 w [.blk g1 [vy, .int .i64 q], .blk g2 [vz, .int .i64 s], .blk g3 [.slice none 0 0, .int .i64 0], .blk g4 [vb, .int .i64 ((2 * q) * s)], .own vb 1 3 i (ints f)]) ?_ ?_ (m := ((n - 0).toNat))
     ·
      refine ⟨0, (.slice none 0 0), (fun _ => 0), rfl, (by omega), (by omega), ?_, ?_, ?_, (hF.pick (hF.pick (hF.pick (hF.pick (hF.pick (hF.pick hF.nil 7 rfl) 6 rfl) 5 rfl) 4 rfl) 3 rfl) 2 rfl), hS⟩
      ·
       exact zero_bnd
      ·
       intro k k0 k1; omega
      ·
       exact slh_nil
     ·
      clear hF hS a w
      rintro mm a w ⟨i, vb, f, rfl, h0, h1, hb, hf, hvb, hF, hS⟩
      refine cw_seq ?_
      refine cw_seq ?_
      refine wp_region_lit ?_
      refine ls_val hF (.free rfl) rfl rfl (ex_move rfl rfl) ?_; clear hF a; intro a hF
      refine ls_val hF (.free rfl) rfl rfl (ex_field (b := ⟨g1, 0, none⟩) rfl fd_26_0 rfl rfl) ?_; clear hF a; intro a hF
      refine ls_val hF (.free rfl) rfl rfl (ex_load_blk 0 rfl pl_22 rfl hS rfl rfl) ?_; clear hF a; intro a hF
      refine ls_val hF (.free rfl) rfl rfl (ex_len rfl sl_22 rfl h.row.slh) ?_; clear hF a; intro a hF
      refine ls_val hF (.free rfl) rfl rfl (ex_lss rfl rfl rfl) ?_; clear hF a; intro a hF
      refine ls_nil ?_
      refine then_normal ?_
      refine cw_if hF rfl (fun hc => ?_) (fun hc => ?_)
      ·
       refine wp_skip ?_
       refine then_normal ?_
       refine cw_seq ?_
       refine wp_block ?_
       refine dr_sat (m0 := [.blk g1 [vy, .int .i64 q], .blk g2 [vz, .int .i64 s], .blk g3 [.slice none 0 0, .int .i64 0], .blk g4 [vb, .int .i64 ((2 * q) * s)]]) 22 mx_ hS (.cons_cons _ (.cons_cons _ (.cons_cons _ (.cons_cons _ (.cons _ .slnil))))) rfl ?_; clear hS; intro w hS hcl hB
       refine dr_val hF hcl hB 0 rfl (.free rfl) rfl rfl (by kernel_rfl) rfl (fun w => (ex_field (b := ⟨g4, 0, none⟩) rfl fd_26_0 rfl rfl)) ?_; clear hF a hcl hB; intro a hF hcl hB
       refine dr_load hF hcl hB 1 rfl (.free rfl) rfl rfl (by kernel_rfl) rfl (by kernel_rfl) (fun w hS => (ex_load_blk 3 rfl pl_22 rfl hS rfl rfl)) ?_; clear hF a hcl hB; intro a hF hcl hB
       refine dr_val hF hcl hB 2 rfl (.free rfl) rfl rfl (by kernel_rfl) rfl (fun w => (ex_field (b := ⟨g1, 0, none⟩) rfl fd_26_0 rfl rfl)) ?_; clear hF a hcl hB; intro a hF hcl hB
       refine dr_load hF hcl hB 3 rfl (.free rfl) rfl rfl (by kernel_rfl) rfl (by kernel_rfl) (fun w hS => (ex_load_blk 0 rfl pl_22 rfl hS rfl rfl)) ?_; clear hF a hcl hB; intro a hF hcl hB
       refine dr_val hF hcl hB 4 rfl (.free rfl) rfl rfl (by kernel_rfl) rfl (fun w => (ex_move rfl rfl)) ?_; clear hF a hcl hB; intro a hF hcl hB
       refine dr_val hF hcl hB 5 rfl (.free rfl) rfl rfl (by kernel_rfl) rfl (fun w => (ex_index (k := i) rfl sl_22 rfl rfl h.row.slh (by omega) (by omega) (by omega))) ?_; clear hF a hcl hB; intro a hF hcl hB
       refine dr_load hF hcl hB 6 rfl (.free rfl) rfl rfl (by kernel_rfl) rfl (by kernel_rfl) (fun w hS => (ex_load_row (u := .int .i64 (y i)) rfl pl_3 rfl (h.row.below hS.below) (by omega) (by omega) rfl)) ?_; clear hF a hcl hB; intro a hF hcl hB
       have hbv := h.i i
       have hyi := hfa.2.2 i (by omega) (by omega); have hzi := hfb.2.2 i (by omega) (by omega); have hm1 := mul_rng (B := 1073741824) hyi.1 hyi.2 (by omega : 0 ≤ s) (by omega); have hm2 := mul_rng (B := 1073741824) hzi.1 hzi.2 (by omega : 0 ≤ q) (by omega)
       refine dr_val hF hcl hB 7 rfl (.free rfl) rfl rfl (by kernel_rfl) rfl (fun w => (ex_field (b := ⟨g2, 1, none⟩) rfl fd_26_1 rfl rfl)) ?_; clear hF a hcl hB; intro a hF hcl hB
       refine dr_load hF hcl hB 8 rfl (.free rfl) rfl rfl (by kernel_rfl) rfl (by kernel_rfl) (fun w hS => (ex_load_blk 1 rfl pl_3 rfl hS rfl rfl)) ?_; clear hF a hcl hB; intro a hF hcl hB
       refine dr_val hF hcl hB 9 rfl (.free rfl) rfl rfl (by kernel_rfl) rfl (fun w => (ex_mul (r := ((y i) * s)) rfl rfl rfl rfl (by unfold I64; omega))) ?_; clear hF a hcl hB; intro a hF hcl hB
       refine dr_val hF hcl hB 10 rfl (.free rfl) rfl rfl (by kernel_rfl) rfl (fun w => (ex_field (b := ⟨g2, 0, none⟩) rfl fd_26_0 rfl rfl)) ?_; clear hF a hcl hB; intro a hF hcl hB
       refine dr_load hF hcl hB 11 rfl (.free rfl) rfl rfl (by kernel_rfl) rfl (by kernel_rfl) (fun w hS => (ex_load_blk 1 rfl pl_22 rfl hS rfl rfl)) ?_; clear hF a hcl hB; intro a hF hcl hB
       refine dr_val hF hcl hB 12 rfl (.free rfl) rfl rfl (by kernel_rfl) rfl (fun w => (ex_move rfl rfl)) ?_; clear hF a hcl hB; intro a hF hcl hB
       refine dr_val hF hcl hB 13 rfl (.free rfl) rfl rfl (by kernel_rfl) rfl (fun w => (ex_index (k := i) rfl sl_22 rfl rfl h2.row.slh (by omega) (by omega) (by omega))) ?_; clear hF a hcl hB; intro a hF hcl hB
       refine dr_load hF hcl hB 14 rfl (.free rfl) rfl rfl (by kernel_rfl) rfl (by kernel_rfl) (fun w hS => (ex_load_row (u := .int .i64 (z i)) rfl pl_3 rfl (h2.row.below hS.below) (by omega) (by omega) rfl)) ?_; clear hF a hcl hB; intro a hF hcl hB
       have hbv := h2.i i
       refine dr_val hF hcl hB 15 rfl (.free rfl) rfl rfl (by kernel_rfl) rfl (fun w => (ex_field (b := ⟨g1, 1, none⟩) rfl fd_26_1 rfl rfl)) ?_; clear hF a hcl hB; intro a hF hcl hB
       refine dr_load hF hcl hB 16 rfl (.free rfl) rfl rfl (by kernel_rfl) rfl (by kernel_rfl) (fun w hS => (ex_load_blk 0 rfl pl_3 rfl hS rfl rfl)) ?_; clear hF a hcl hB; intro a hF hcl hB
       refine dr_val hF hcl hB 17 rfl (.free rfl) rfl rfl (by kernel_rfl) rfl (fun w => (ex_mul (r := ((z i) * q)) rfl rfl rfl rfl (by unfold I64; omega))) ?_; clear hF a hcl hB; intro a hF hcl hB
       refine dr_val hF hcl hB 18 rfl (.free rfl) rfl rfl (by kernel_rfl) rfl (fun w => (ex_add (r := ((y i) * s) + ((z i) * q)) rfl rfl rfl (by omega) (by unfold I64; omega))) ?_; clear hF a hcl hB; intro a hF hcl hB
       refine dr_any hF hcl 19 rfl (.free rfl) rfl rfl (by kernel_rfl) (ex_lit (n := 1) (len := 1) (pv := [(0, .int .i64 (((y i) * s) + ((z i) * q)))]) (cs := [.int .i64 (((y i) * s) + ((z i) * q))]) (c := ints (fun _ => ((y i) * s) + ((z i) * q))) rfl sl_22 el_3 hS (parts_cons rfl parts0) (by kernel_rfl) (by decide) (by decide) rfl rfl (fun k hk => by rcases k with _ | k <;> first | rfl | (exfalso; omega)) (by omega)) ?_; clear hF hB; rintro v1 w ⟨hS, hv1⟩ a hF hcl
       replace hS : Sat w0 w [.blk g1 [vy, .int .i64 q], .blk g2 [vz, .int .i64 s], .blk g3 [.slice none 0 0, .int .i64 0], .blk g4 [vb, .int .i64 ((2 * q) * s)], .own vb 1 3 i (ints f), .own v1 1 3 1 (ints (fun _ => ((y i) * s) + ((z i) * q)))] := hS
       refine ⟨(fun _ => hS.sub (.cons_cons _ (.cons_cons _ (.cons_cons _ (.cons_cons _ (.cons _ (.cons _ .slnil))))))), fun hB => ?_⟩
       refine dr_any hF hcl 20 rfl (.free rfl) rfl rfl (by kernel_rfl) (ap_own 4 (r := i + 1) (f := ints (snoc f i (((y i) * s) + ((z i) * q)))) rfl sl_22 el_3 rfl (by decide) hS rfl rfl rfl (hS.rowN 5 rfl) (fun _ _ _ => rfl) (by omega) (by omega) (by omega) (cat_snoc _ _ _)) ?_; clear hF hB; rintro v2 w ⟨hS, hv2⟩ a hF hcl
       replace hS : Sat w0 w [.blk g1 [vy, .int .i64 q], .blk g2 [vz, .int .i64 s], .blk g3 [.slice none 0 0, .int .i64 0], .blk g4 [vb, .int .i64 ((2 * q) * s)], .own v2 1 3 (i + 1) (ints (snoc f i (((y i) * s) + ((z i) * q)))), .own v1 1 3 1 (ints (fun _ => ((y i) * s) + ((z i) * q)))] := hS
       refine ⟨(fun _ => hS.sub (.cons_cons _ (.cons_cons _ (.cons_cons _ (.cons_cons _ (.cons _ (.cons _ .slnil))))))), fun hB => ?_⟩
       refine dr_val hF hcl hB 21 rfl (.free rfl) rfl rfl (by kernel_rfl) rfl (fun w => (ex_field (b := ⟨g4, 0, none⟩) rfl fd_26_0 rfl rfl)) ?_; clear hF a hcl hB; intro a hF hcl hB
       refine dr_effx hF hcl 22 rfl (.free rfl) rfl (by kernel_rfl) (st_blk 3 rfl pl_22 hS rfl rfl rfl hv2.one rfl) ?_; clear hS hB; rintro w hS hcl
       replace hS : Sat w0 w [.blk g1 [vy, .int .i64 q], .blk g2 [vz, .int .i64 s], .blk g3 [.slice none 0 0, .int .i64 0], .blk g4 [v2, .int .i64 ((2 * q) * s)], .own v2 1 3 (i + 1) (ints (snoc f i (((y i) * s) + ((z i) * q)))), .own v1 1 3 1 (ints (fun _ => ((y i) * s) + ((z i) * q)))] := hS
       refine ⟨(fun h => absurd h (by decide)), fun hB => ?_⟩
       refine dr_done (by kernel_rfl) ?_; clear hcl hB
       refine inb_normal ?_
       refine then_normal ?_
       refine wp_region_lit ?_
       refine ls_val hF (.free rfl) rfl rfl (ex_move rfl rfl) ?_; clear hF a; intro a hF
       refine ls_val hF (.free rfl) rfl rfl (ex_add (r := i + 1) rfl rfl rfl (by omega) (by unfold I64; omega)) ?_; clear hF a; intro a hF
       refine ls_val hF (.free rfl) rfl rfl (ex_assign rfl rfl) ?_; clear hF a; intro a hF
       refine ls_nil ?_
       refine then_normal ?_
       refine ⟨_, (by omega), i + 1, v2, (snoc f i (((y i) * s) + ((z i) * q))), rfl, (by omega), (by omega), ?_, ?_, ?_, (hF.pick (hF.pick (hF.pick (hF.pick (hF.pick (hF.pick hF.nil 7 rfl) 6 rfl) 5 rfl) 4 rfl) 3 rfl) 2 rfl), hS.sub (.cons_cons _ (.cons_cons _ (.cons_cons _ (.cons_cons _ (.cons_cons _ (.cons _ .slnil))))))⟩
       ·
        exact snoc_bnd hb (by omega)
       ·
        exact snoc_all hf rfl
       ·
        exact hv2
      ·
       refine wp_exit ?_
       refine then_exit ?_
       refine then_exit ?_
       refine inb_hit ?_
       refine then_normal ?_
       refine cw_seq ?_
       refine cw_seq ?_
       refine wp_region_lit ?_
       refine ls_val hF (.free rfl) rfl rfl (ex_loads_blk 3 rfl st_26 rfl hS rfl rfl) ?_; clear hF a; intro a hF
       refine ls_call hF (.free rfl) rfl rfl (ex_call0 rfl rfl cl_28 (args_cons rfl args0)) (c_rformed w (⟨(hS.rowN 4 rfl), hb⟩ : IAt _ _ i f) (by omega)) ?_; clear hF; rintro _ w ⟨rfl, hS'⟩ a hF
       replace hS : Sat w0 w [.blk g1 [vy, .int .i64 q], .blk g2 [vz, .int .i64 s], .blk g3 [.slice none 0 0, .int .i64 0], .blk g4 [vb, .int .i64 ((2 * q) * s)], .own vb 1 3 i (ints f)] := hS.comp hS'; clear hS'
       refine ls_val hF (.free rfl) rfl rfl (ex_not rfl rfl) ?_; clear hF a; intro a hF
       refine ls_nil ?_
       refine then_normal ?_
       refine cw_if hF rfl (fun hc => ?_) (fun hc => ?_)
       ·
        refine cw_seq ?_
        refine wp_region_lit ?_
        refine ls_val hF (.free rfl) rfl rfl (ex_any (w' := w) (r := .value (.agg #[.slice none 0 0, .int .i64 0])) (by intro _ _ h; cases h) rfl (by kernel_rfl)) ?_; clear hF a; intro a hF
        refine ls_effx hF (.free rfl) rfl (st_blks 2 (ds := [.slice none 0 0, .int .i64 0]) rfl st_26 hS rfl rfl rfl rfl (ones_cons rfl (ones_cons rfl ones_nil))) ?_; clear hS; rintro w hS
        replace hS : Sat w0 w [.blk g1 [vy, .int .i64 q], .blk g2 [vz, .int .i64 s], .blk g3 [.slice none 0 0, .int .i64 0], .blk g4 [vb, .int .i64 ((2 * q) * s)], .own vb 1 3 i (ints f)] := hS
        refine ls_val hF (.free rfl) rfl rfl (ex_assign rfl rfl) ?_; clear hF a; intro a hF
        refine ls_nil ?_
        refine then_normal ?_
        refine wp_ret ?_
        refine then_ret ((fin_ct 2 hF rfl rfl rfl st_26 hS rfl rfl ⟨_, rfl, ?_⟩))
        first
        | exact ⟨_, 0, fun _ => 0, 0, 2, rfl, slh_nil, zero_bnd, by omega, (by obtain rfl : i = n := (by omega); exact res_no hnb (fun hk => absurd ((formed_conv hf).1 hk) ‹¬ Formed i f (2 * q * s)›)), (hS.addnil 1 3 (ints fun _ => 0)).sub (.cons _ (.cons _ (.cons _ (.cons _ (.cons _ (.cons_cons _ .slnil))))))⟩
       ·
        refine wp_skip ?_
        refine then_normal ?_
        refine cw_seq ?_
        refine wp_region_lit ?_
        refine ls_val hF (.free rfl) rfl rfl (ex_loads_blk 3 rfl st_26 rfl hS rfl rfl) ?_; clear hF a; intro a hF
        refine ls_effx hF (.free rfl) rfl (st_blks 2 (ds := [vb, .int .i64 ((2 * q) * s)]) rfl st_26 hS rfl rfl rfl rfl (ones_cons hvb.one (ones_cons rfl ones_nil))) ?_; clear hS; rintro w hS
        replace hS : Sat w0 w [.blk g1 [vy, .int .i64 q], .blk g2 [vz, .int .i64 s], .blk g3 [vb, .int .i64 ((2 * q) * s)], .blk g4 [vb, .int .i64 ((2 * q) * s)], .own vb 1 3 i (ints f)] := hS
        refine ls_val hF (.free rfl) rfl rfl (ex_assign rfl rfl) ?_; clear hF a; intro a hF
        refine ls_nil ?_
        refine then_normal ?_
        refine wp_ret ?_
        refine (fin_ct 2 hF rfl rfl rfl st_26 hS rfl rfl ⟨_, rfl, ?_⟩)
        obtain rfl : i = n := by omega
        exact ⟨_, _, f, _, 0, rfl, hvb, hb, by omega, res_ok hnb hf ((formed_conv hf).2 (Classical.not_not.1 ‹¬ ¬ (Formed i f (2 * q * s))›)), hS.sub (.cons _ (.cons _ (.cons _ (.cons _ (.cons_cons _ .slnil)))))⟩

set_option maxRecDepth 20000 in
theorem c_material {vL vD : Value} {p : Prob} (w0 : World) (h : PAt w0 vL vD p) :
    Calls Try.prog 23 [.agg #[vL, vD, .int .i64 p.stock, .int .i64 p.kerf]].toArray w0 fun e w => ∃ v, e = .returned v ∧ ∃ vr n' f q' e, v = .tuple #[.agg #[vr, .int .i64 q'], .int .i64 e] ∧ Slh vr n' ∧ (∀ k, -9223372036854775808 ≤ f k ∧ f k ≤ 9223372036854775807) ∧ (-9223372036854775808 ≤ q' ∧ q' ≤ 9223372036854775807) ∧ Res (¬ p.Ok) (Formed p.m (fun k => p.L k + p.kerf) (p.stock + p.kerf)) p.m (fun k => p.L k + p.kerf) (p.stock + p.kerf) n' f q' e ∧ Sat w0 w [.own vr 1 3 n' (ints f)] := by
  have hm := h.L.slh.n0
  refine enterS (vs := [.agg #[vL, vD, .int .i64 p.stock, .int .i64 p.kerf]]) Try.func23 rfl Try.ntmps23 rfl ?_
  intro a w hS hF
  refine cw_seq ?_
  refine wp_region_lit ?_
  refine ls_any hF (.free rfl) rfl rfl (ex_box (cs := [vL, vD, .int .i64 p.stock, .int .i64 p.kerf]) rfl hS rfl rfl) ?_; clear hF; rintro _ w ⟨g1, rfl, hS⟩ a hF
  replace hS : Sat w0 w [.blk g1 [vL, vD, .int .i64 p.stock, .int .i64 p.kerf]] := hS
  refine ls_any hF (.free rfl) rfl rfl (ex_alloc (cs := [.slice none 0 0, .int .i64 0]) rfl el_34 hS rfl) ?_; clear hF; rintro _ w ⟨g2, rfl, hS⟩ a hF
  replace hS : Sat w0 w [.blk g1 [vL, vD, .int .i64 p.stock, .int .i64 p.kerf], .blk g2 [.slice none 0 0, .int .i64 0]] := hS
  refine ls_val hF (.free rfl) rfl rfl (ex_assign rfl rfl) ?_; clear hF a; intro a hF
  refine ls_nil ?_
  refine then_normal ?_
  refine cw_seq ?_
  refine cw_seq ?_
  refine wp_region_lit ?_
  refine ls_val hF (.free rfl) rfl rfl (ex_loads_blk 0 rfl st_33 rfl hS rfl rfl) ?_; clear hF a; intro a hF
  refine ls_call hF (.free rfl) rfl rfl (ex_call0 rfl rfl cl_25 (args_cons rfl args0)) (c_pvalid (p := p) w (h.below hS.below)) ?_; clear hF; rintro _ w ⟨rfl, hS'⟩ a hF
  replace hS : Sat w0 w [.blk g1 [vL, vD, .int .i64 p.stock, .int .i64 p.kerf], .blk g2 [.slice none 0 0, .int .i64 0]] := hS.comp hS'; clear hS'
  refine ls_val hF (.free rfl) rfl rfl (ex_not rfl rfl) ?_; clear hF a; intro a hF
  refine ls_nil ?_
  refine then_normal ?_
  refine cw_if hF rfl (fun hc => ?_) (fun hc => ?_)
  ·
   refine cw_seq ?_
   refine wp_region_lit ?_
   refine ls_val hF (.free rfl) rfl rfl (ex_any (w' := w) (r := .value (.agg #[.slice none 0 0, .int .i64 0])) (by intro _ _ h; cases h) rfl (by kernel_rfl)) ?_; clear hF a; intro a hF
   refine ls_effx hF (.free rfl) rfl (st_blks 1 (ds := [.slice none 0 0, .int .i64 0]) rfl st_34 hS rfl rfl rfl rfl (ones_cons rfl (ones_cons rfl ones_nil))) ?_; clear hS; rintro w hS
   replace hS : Sat w0 w [.blk g1 [vL, vD, .int .i64 p.stock, .int .i64 p.kerf], .blk g2 [.slice none 0 0, .int .i64 0]] := hS
   refine ls_val hF (.free rfl) rfl rfl (ex_assign rfl rfl) ?_; clear hF a; intro a hF
   refine ls_nil ?_
   refine then_normal ?_
   refine wp_ret ?_
   refine then_ret ((fin_ct 1 hF rfl rfl rfl st_34 hS rfl rfl ⟨_, rfl, ?_⟩))
   first
   | exact ⟨_, 0, fun _ => 0, 0, 1, rfl, slh_nil, zero_bnd, by omega, res_bad ‹_›, (hS.addnil 1 3 (ints fun _ => 0)).sub (.cons _ (.cons _ (.cons_cons _ .slnil)))⟩
  ·
   refine wp_skip ?_
   refine then_normal ?_
   refine cw_seq ?_
   refine wp_region_lit ?_
   refine ls_val hF (.free rfl) rfl rfl (ex_field (b := ⟨g1, 2, none⟩) rfl fd_33_2 rfl rfl) ?_; clear hF a; intro a hF
   have hp := (Classical.not_not.1 ‹¬ ¬ (p.Ok)›); have hm2 := hp.m2; have hs1 := hp.s1; have hs2 := hp.s2; have hk1 := hp.k1; have hk2 := hp.k2
   refine ls_val hF (.free rfl) rfl rfl (ex_load_blk 0 rfl pl_3 rfl hS rfl rfl) ?_; clear hF a; intro a hF
   refine ls_val hF (.free rfl) rfl rfl (ex_field (b := ⟨g1, 3, none⟩) rfl fd_33_3 rfl rfl) ?_; clear hF a; intro a hF
   refine ls_val hF (.free rfl) rfl rfl (ex_load_blk 0 rfl pl_3 rfl hS rfl rfl) ?_; clear hF a; intro a hF
   refine ls_val hF (.free rfl) rfl rfl (ex_add (r := p.stock + p.kerf) rfl rfl rfl (by omega) (by unfold I64; omega)) ?_; clear hF a; intro a hF
   refine ls_val hF (.free rfl) rfl rfl (ex_any (w' := w) (r := .value (.agg #[.slice none 0 0, .int .i64 (p.stock + p.kerf)])) (by intro _ _ h; cases h) rfl (by kernel_rfl)) ?_; clear hF a; intro a hF
   refine ls_any hF (.free rfl) rfl rfl (ex_alloc (cs := [.slice none 0 0, .int .i64 0]) rfl el_34 hS rfl) ?_; clear hF; rintro _ w ⟨g3, rfl, hS⟩ a hF
   replace hS : Sat w0 w [.blk g1 [vL, vD, .int .i64 p.stock, .int .i64 p.kerf], .blk g2 [.slice none 0 0, .int .i64 0], .blk g3 [.slice none 0 0, .int .i64 0]] := hS
   refine ls_effx hF (.free rfl) rfl (st_blks 2 (ds := [.slice none 0 0, .int .i64 (p.stock + p.kerf)]) rfl st_34 hS rfl rfl rfl rfl (ones_cons rfl (ones_cons rfl ones_nil))) ?_; clear hS; rintro w hS
   replace hS : Sat w0 w [.blk g1 [vL, vD, .int .i64 p.stock, .int .i64 p.kerf], .blk g2 [.slice none 0 0, .int .i64 0], .blk g3 [.slice none 0 0, .int .i64 (p.stock + p.kerf)]] := hS
   refine ls_nil ?_
   refine then_normal ?_
   refine cw_seq ?_
   refine cw_seq ?_
   refine wp_region_lit ?_
   refine ls_val hF (.free rfl) rfl rfl (ex_field (b := ⟨g1, 0, none⟩) rfl fd_33_0 rfl rfl) ?_; clear hF a; intro a hF
   refine ls_val hF (.free rfl) rfl rfl (ex_load_blk 0 rfl pl_22 rfl hS rfl rfl) ?_; clear hF a; intro a hF
   refine ls_val hF (.free rfl) rfl rfl (ex_len rfl sl_22 rfl h.L.slh) ?_; clear hF a; intro a hF
   refine ls_val hF (.free rfl) rfl rfl (ex_move rfl rfl) ?_; clear hF a; intro a hF
   refine ls_nil ?_
   refine then_normal ?_
   refine wp_block ?_
   replace hS := hS.addnil 1 3 (ints (fun _ => 0))
   replace hS : Sat w0 w [.blk g1 [vL, vD, .int .i64 p.stock, .int .i64 p.kerf], .blk g2 [.slice none 0 0, .int .i64 0], .blk g3 [(.slice none 0 0), .int .i64 (p.stock + p.kerf)], .own (.slice none 0 0) 1 3 0 (ints (fun _ => 0))] := hS
   refine cw_loop (fun mm a w => ∃ (i : Int) (vb : Value) (f : Int → Int), mm = ((p.m - i).toNat) ∧ (0 ≤ i) ∧ (i ≤ p.m) ∧ (∀ k, -9223372036854775808 ≤ f k ∧ f k ≤ 9223372036854775807) ∧ (∀ k, 0 ≤ k → k < i → f k = (fun k => p.L k + p.kerf) k) ∧ (Slh vb i) ∧ Fr a 35 [(1, .pointer (some ⟨g1, 0, none⟩)), (2, .pointer (some ⟨g2, 0, none⟩)), (3, .int .i64 0), (4, .pointer (some ⟨g3, 0, none⟩)), (18, vL), (19, .int .i64 p.m), (20, .int .i64 i)] ∧ Sat w0 w [.blk g1 [vL, vD, .int .i64 p.stock, .int .i64 p.kerf], .blk g2 [.slice none 0 0, .int .i64 0], .blk g3 [vb, .int .i64 (p.stock + p.kerf)], .own vb 1 3 i (ints f)]) ?_ ?_ (m := ((p.m - 0).toNat))
   ·
    refine ⟨0, (.slice none 0 0), (fun _ => 0), rfl, (by omega), (by omega), ?_, ?_, ?_, (hF.pick (hF.pick (hF.pick (hF.pick (hF.pick (hF.pick (hF.pick hF.nil 20 rfl) 19 rfl) 18 rfl) 4 rfl) 3 rfl) 2 rfl) 1 rfl), hS⟩
    ·
     exact zero_bnd
    ·
     intro k k0 k1; omega
    ·
     exact slh_nil
   ·
    clear hF hS a w
    rintro mm a w ⟨i, vb, f, rfl, h0, h1, hb, hf, hvb, hF, hS⟩
    refine cw_seq ?_
    refine wp_region_lit ?_
    refine ls_val hF (.free rfl) rfl rfl (ex_lss rfl rfl rfl) ?_; clear hF a; intro a hF
    refine ls_nil ?_
    refine then_normal ?_
    refine cw_seq ?_
    refine cw_if hF rfl (fun hc => ?_) (fun hc => ?_)
    ·
     refine wp_skip ?_
     refine then_normal ?_
     refine cw_seq ?_
     refine wp_block ?_
     refine cw_seq ?_
     refine wp_region_lit ?_
     refine ls_val hF (.free rfl) rfl rfl (ex_index (k := i) rfl sl_22 rfl rfl h.L.slh (by omega) (by omega) (by omega)) ?_; clear hF a; intro a hF
     refine ls_val hF (.free rfl) rfl rfl (ex_load_row (u := .int .i64 (p.L i)) rfl pl_3 rfl (h.L.below hS.below) (by omega) (by omega) rfl) ?_; clear hF a; intro a hF
     have hbv := h.iL i
     have he := hp.all i (by omega) (by omega); unfold Prob.each at he
     refine ls_val hF (.free rfl) rfl rfl (ex_assign rfl rfl) ?_; clear hF a; intro a hF
     refine ls_nil ?_
     refine then_normal ?_
     refine wp_region_lit ?_
     refine ls_val hF (.free rfl) rfl rfl (ex_field (b := ⟨g3, 0, none⟩) rfl fd_34_0 rfl rfl) ?_; clear hF a; intro a hF
     refine ls_val hF (.free rfl) rfl rfl (ex_load_blk 2 rfl pl_22 rfl hS rfl rfl) ?_; clear hF a; intro a hF
     refine ls_val hF (.free rfl) rfl rfl (ex_move rfl rfl) ?_; clear hF a; intro a hF
     refine ls_val hF (.free rfl) rfl rfl (ex_field (b := ⟨g1, 3, none⟩) rfl fd_33_3 rfl rfl) ?_; clear hF a; intro a hF
     refine ls_val hF (.free rfl) rfl rfl (ex_load_blk 0 rfl pl_3 rfl hS rfl rfl) ?_; clear hF a; intro a hF
     refine ls_val hF (.free rfl) rfl rfl (ex_add (r := p.L i + p.kerf) rfl rfl rfl (by omega) (by unfold I64; omega)) ?_; clear hF a; intro a hF
     refine ls_any hF (.free rfl) rfl rfl (ex_lit (n := 1) (len := 1) (pv := [(0, .int .i64 (p.L i + p.kerf))]) (cs := [.int .i64 (p.L i + p.kerf)]) (c := ints (fun _ => p.L i + p.kerf)) rfl sl_22 el_3 hS (parts_cons rfl parts0) (by kernel_rfl) (by decide) (by decide) rfl rfl (fun k hk => by rcases k with _ | k <;> first | rfl | (exfalso; omega)) (by omega)) ?_; clear hF; rintro v1 w ⟨hS, hv1⟩ a hF
     replace hS : Sat w0 w [.blk g1 [vL, vD, .int .i64 p.stock, .int .i64 p.kerf], .blk g2 [.slice none 0 0, .int .i64 0], .blk g3 [vb, .int .i64 (p.stock + p.kerf)], .own vb 1 3 i (ints f), .own v1 1 3 1 (ints (fun _ => p.L i + p.kerf))] := hS
     refine ls_any hF (.free rfl) rfl rfl (ap_own 3 (r := i + 1) (f := ints (snoc f i (p.L i + p.kerf))) rfl sl_22 el_3 rfl (by decide) hS rfl rfl rfl (hS.rowN 4 rfl) (fun _ _ _ => rfl) (by omega) (by omega) (by omega) (cat_snoc _ _ _)) ?_; clear hF; rintro v2 w ⟨hS, hv2⟩ a hF
     replace hS : Sat w0 w [.blk g1 [vL, vD, .int .i64 p.stock, .int .i64 p.kerf], .blk g2 [.slice none 0 0, .int .i64 0], .blk g3 [vb, .int .i64 (p.stock + p.kerf)], .own v2 1 3 (i + 1) (ints (snoc f i (p.L i + p.kerf))), .own v1 1 3 1 (ints (fun _ => p.L i + p.kerf))] := hS
     refine ls_val hF (.free rfl) rfl rfl (ex_field (b := ⟨g3, 0, none⟩) rfl fd_34_0 rfl rfl) ?_; clear hF a; intro a hF
     refine ls_effx hF (.free rfl) rfl (st_blk 2 rfl pl_22 hS rfl rfl rfl hv2.one rfl) ?_; clear hS; rintro w hS
     replace hS : Sat w0 w [.blk g1 [vL, vD, .int .i64 p.stock, .int .i64 p.kerf], .blk g2 [.slice none 0 0, .int .i64 0], .blk g3 [v2, .int .i64 (p.stock + p.kerf)], .own v2 1 3 (i + 1) (ints (snoc f i (p.L i + p.kerf))), .own v1 1 3 1 (ints (fun _ => p.L i + p.kerf))] := hS
     refine ls_nil ?_
     refine inb_normal ?_
     refine then_normal ?_
     refine wp_region_lit ?_
     refine ls_val hF (.free rfl) rfl rfl (ex_add (r := i + 1) rfl rfl rfl (by omega) (by unfold I64; omega)) ?_; clear hF a; intro a hF
     refine ls_val hF (.free rfl) rfl rfl (ex_move rfl rfl) ?_; clear hF a; intro a hF
     refine ls_nil ?_
     refine then_normal ?_
     refine ⟨_, (by omega), i + 1, v2, (snoc f i (p.L i + p.kerf)), rfl, (by omega), (by omega), ?_, ?_, ?_, (hF.pick (hF.pick (hF.pick (hF.pick (hF.pick (hF.pick (hF.pick hF.nil 20 rfl) 19 rfl) 18 rfl) 4 rfl) 3 rfl) 2 rfl) 1 rfl), hS.sub (.cons_cons _ (.cons_cons _ (.cons_cons _ (.cons_cons _ (.cons _ .slnil)))))⟩
     ·
      exact snoc_bnd hb (by omega)
     ·
      exact snoc_all hf rfl
     ·
      exact hv2
    ·
     refine wp_exit ?_
     refine then_exit ?_
     refine then_exit ?_
     refine inb_hit ?_
     refine then_normal ?_
     refine cw_seq ?_
     refine wp_region_lit ?_
     refine ls_val hF (.free rfl) rfl rfl (ex_loads_blk 2 rfl st_34 rfl hS rfl rfl) ?_; clear hF a; intro a hF
     refine ls_effx hF (.free rfl) rfl (st_blks 1 (ds := [vb, .int .i64 (p.stock + p.kerf)]) rfl st_34 hS rfl rfl rfl rfl (ones_cons hvb.one (ones_cons rfl ones_nil))) ?_; clear hS; rintro w hS
     replace hS : Sat w0 w [.blk g1 [vL, vD, .int .i64 p.stock, .int .i64 p.kerf], .blk g2 [vb, .int .i64 (p.stock + p.kerf)], .blk g3 [vb, .int .i64 (p.stock + p.kerf)], .own vb 1 3 i (ints f)] := hS
     refine ls_val hF (.free rfl) rfl rfl (ex_assign rfl rfl) ?_; clear hF a; intro a hF
     refine ls_nil ?_
     refine then_normal ?_
     refine wp_ret ?_
     refine (fin_ct 1 hF rfl rfl rfl st_34 hS rfl rfl ⟨_, rfl, ?_⟩)
     obtain rfl : i = p.m := by omega
     exact ⟨_, _, f, _, 0, rfl, hvb, hb, by omega, res_ok ‹_› hf (mat_formed hp), hS.sub (.cons _ (.cons _ (.cons _ (.cons_cons _ .slnil))))⟩

end Go.Proofs.Ytigefiejddmidaa
