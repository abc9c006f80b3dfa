/- The walks of the small functions of the statements of layer 39. -/
import Derived.Test.YtmlfpniaknmmfaaW4
namespace Go.Proofs.Ytmlfpniaknmmfaa
open Go Go.RowKit Go.Proofs.Gw
set_option linter.unusedVariables false

theorem el_36 : elemT Try.prog 36 = some (.agg #[.int .i64 0, .int .i64 0, .int .i64 0, .int .i64 0], 4, 32) := by kernel_rfl
theorem c_own {vD : Value} {d : Dem} (w0 : World) (hD : DAt w0 vD d.n d.W d.H d.N) (hfew : d.n ≤ 25) :
    Calls Try.prog 14 [vD].toArray w0 fun e w => ∃ v, e = .returned v ∧ ∃ vr, v = vr ∧ Slh vr d.n ∧ Sat w0 w [.own vr 3 60 d.n (dcells d.W d.H d.N)] := by
  have hn := hD.row.slh.n0
  refine enterS (vs := [vD]) Try.func14 rfl Try.ntmps14 rfl ?_
  intro a w hS hF
  refine cw_seq ?_
  refine wp_region_lit ?_
  refine ls_val hF (.free rfl) rfl rfl (ex_assign rfl rfl) ?_; clear hF a; intro a hF
  refine ls_nil ?_
  refine then_normal ?_
  refine cw_seq ?_
  refine wp_region_lit ?_
  refine ls_val hF (.free rfl) rfl rfl (ex_assign rfl rfl) ?_; clear hF a; intro a hF
  refine ls_nil ?_
  refine then_normal ?_
  refine cw_seq ?_
  refine cw_seq ?_
  refine wp_region_lit ?_
  refine ls_val hF (.free rfl) rfl rfl (ex_move rfl rfl) ?_; clear hF a; intro a hF
  refine ls_val hF (.free rfl) rfl rfl (ex_len rfl sl_22 rfl hD.row.slh) ?_; clear hF a; intro a hF
  refine ls_val hF (.free rfl) rfl rfl (ex_move rfl rfl) ?_; clear hF a; intro a hF
  refine ls_nil ?_
  refine then_normal ?_
  refine wp_block ?_
  replace hS := hS.addnil 3 60 (dcells (fun _ => 0) (fun _ => 0) (fun _ => 0))
  replace hS : Sat w0 w [.own (.slice none 0 0) 3 60 0 (dcells (fun _ => 0) (fun _ => 0) (fun _ => 0))] := hS
  refine cw_loop (fun mm a w => ∃ (W : Int → Int) (H : Int → Int) (N : Int → Int) (i : Int) (vb : Value), mm = ((d.n - i).toNat) ∧ (0 ≤ i) ∧ (i ≤ d.n) ∧ (∀ k, 0 ≤ k → k < i → W k = d.W k ∧ H k = d.H k ∧ N k = d.N k) ∧ (Slh vb i) ∧ Fr a 18 [(2, .slice none 0 0), (3, vb), (6, vD), (7, .int .i64 d.n), (8, .int .i64 i)] ∧ Sat w0 w [.own vb 3 60 i (dcells W H N)]) ?_ ?_ (m := ((d.n - 0).toNat))
  ·
   refine ⟨(fun _ => 0), (fun _ => 0), (fun _ => 0), 0, (.slice none 0 0), rfl, (by omega), (by omega), ?_, ?_, (hF.pick (hF.pick (hF.pick (hF.pick (hF.pick hF.nil 8 rfl) 7 rfl) 6 rfl) 3 rfl) 2 rfl), hS⟩
   ·
    intro k k0 k1; omega
   ·
    exact slh_nil
  ·
   clear hF hS a w
   rintro mm a w ⟨W, H, N, i, vb, rfl, h0, h1, hW, hvb, hF, hS⟩
   refine cw_seq ?_
   refine wp_region_lit ?_
   refine ls_val hF (.free rfl) rfl rfl (ex_lss rfl rfl rfl) ?_; clear hF a; intro a hF
   refine ls_nil ?_
   refine then_normal ?_
   refine cw_seq ?_
   refine cw_if hF rfl (fun hc => ?_) (fun hc => ?_)
   ·
    refine wp_skip ?_
    refine then_normal ?_
    refine cw_seq ?_
    refine wp_block ?_
    refine cw_seq ?_
    refine wp_region_lit ?_
    refine ls_val hF (.free rfl) rfl rfl (ex_index (k := 3 * i) rfl sl_22 rfl rfl hD.row.slh (by omega) (by omega) (by omega)) ?_; clear hF a; intro a hF
    refine ls_val hF (.free rfl) rfl rfl (ex_loads_row (cs := [.int .i64 (d.W i), .int .i64 (d.H i), .int .i64 (d.N i)]) rfl st_62 rfl (hD.row.below hS.below) (by omega) (by omega) rfl (by omega) (dcells_at d.W d.H d.N (by omega))) ?_; clear hF a; intro a hF
    have hbv := hD.bw i
    have hbv := hD.bh i
    have hbv := hD.bn i
    refine ls_any hF (.free rfl) rfl rfl (ex_alloc (cs := [.int .i64 0, .int .i64 0, .int .i64 0]) rfl el_62 hS rfl) ?_; clear hF; rintro _ w ⟨g1, rfl, hS⟩ a hF
    replace hS : Sat w0 w [.own vb 3 60 i (dcells W H N), .blk g1 [.int .i64 0, .int .i64 0, .int .i64 0]] := hS
    refine ls_effx hF (.free rfl) rfl (st_blks 1 (ds := [.int .i64 (d.W i), .int .i64 (d.H i), .int .i64 (d.N i)]) rfl st_62 hS rfl rfl rfl rfl (ones_cons rfl (ones_cons rfl (ones_cons rfl ones_nil)))) ?_; clear hS; rintro w hS
    replace hS : Sat w0 w [.own vb 3 60 i (dcells W H N), .blk g1 [.int .i64 (d.W i), .int .i64 (d.H i), .int .i64 (d.N i)]] := hS
    refine ls_nil ?_
    refine then_normal ?_
    refine wp_region_lit ?_
    refine ls_val hF (.free rfl) rfl rfl (ex_move rfl rfl) ?_; clear hF a; intro a hF
    refine ls_val hF (.free rfl) rfl rfl (ex_loads_blk 1 rfl st_62 rfl hS rfl rfl) ?_; clear hF a; intro a hF
    refine ls_any hF (.free rfl) rfl rfl (ex_lit (n := 1) (len := 1) (pv := [(0, .agg #[.int .i64 (d.W i), .int .i64 (d.H i), .int .i64 (d.N i)])]) (cs := [.int .i64 (d.W i), .int .i64 (d.H i), .int .i64 (d.N i)]) (c := dcells (fun _ => (d.W i)) (fun _ => (d.H i)) (fun _ => (d.N i))) rfl sl_38 el_60 hS (parts_cons rfl parts0) (by kernel_rfl) (by decide) (by decide) rfl rfl (fun k hk => by rcases k with _ | _ | _ | k <;> first | rfl | (exfalso; omega)) (by omega)) ?_; clear hF; rintro v1 w ⟨hS, hv1⟩ a hF
    replace hS : Sat w0 w [.own vb 3 60 i (dcells W H N), .blk g1 [.int .i64 (d.W i), .int .i64 (d.H i), .int .i64 (d.N i)], .own v1 3 60 1 (dcells (fun _ => (d.W i)) (fun _ => (d.H i)) (fun _ => (d.N i)))] := hS
    refine ls_any hF (.free rfl) rfl rfl (ap_own 0 (r := i + 1) (f := dcells (snoc W i (d.W i)) (snoc H i (d.H i)) (snoc N i (d.N i))) rfl sl_38 el_60 rfl (by decide) hS rfl rfl rfl (hS.rowN 2 rfl) (fun k _ _ => dcells_one _ _ _ k) (by omega) (by omega) (by omega) (cat_demand ..)) ?_; clear hF; rintro v2 w ⟨hS, hv2⟩ a hF
    replace hS : Sat w0 w [.own v2 3 60 (i + 1) (dcells (snoc W i (d.W i)) (snoc H i (d.H i)) (snoc N i (d.N i))), .blk g1 [.int .i64 (d.W i), .int .i64 (d.H i), .int .i64 (d.N i)], .own v1 3 60 1 (dcells (fun _ => (d.W i)) (fun _ => (d.H i)) (fun _ => (d.N i)))] := hS
    refine ls_val hF (.free rfl) rfl rfl (ex_assign rfl rfl) ?_; clear hF a; intro a hF
    refine ls_nil ?_
    refine inb_normal ?_
    refine then_normal ?_
    refine wp_region_lit ?_
    refine ls_val hF (.free rfl) rfl rfl (ex_add (r := i + 1) rfl rfl rfl (by omega) (by unfold I64; omega)) ?_; clear hF a; intro a hF
    refine ls_val hF (.free rfl) rfl rfl (ex_move rfl rfl) ?_; clear hF a; intro a hF
    refine ls_nil ?_
    refine then_normal ?_
    refine ⟨_, (by omega), (snoc W i (d.W i)), (snoc H i (d.H i)), (snoc N i (d.N i)), i + 1, v2, rfl, (by omega), (by omega), ?_, ?_, (hF.pick (hF.pick (hF.pick (hF.pick (hF.pick hF.nil 8 rfl) 7 rfl) 6 rfl) 3 rfl) 2 rfl), hS.sub (.cons_cons _ (.cons _ (.cons _ .slnil)))⟩
    ·
     intro k k0 k1; exact ⟨snoc_all (fun j j0 j1 => (hW j j0 j1).1) rfl k k0 k1, snoc_all (fun j j0 j1 => (hW j j0 j1).2.1) rfl k k0 k1, snoc_all (fun j j0 j1 => (hW j j0 j1).2.2) rfl k k0 k1⟩
    ·
     exact hv2
   ·
    refine wp_exit ?_
    refine then_exit ?_
    refine then_exit ?_
    refine inb_hit ?_
    refine then_normal ?_
    refine cw_seq ?_
    refine wp_region_lit ?_
    refine ls_val hF (.free rfl) rfl rfl (ex_move rfl rfl) ?_; clear hF a; intro a hF
    refine ls_val hF (.free rfl) rfl rfl (ex_assign rfl rfl) ?_; clear hF a; intro a hF
    refine ls_nil ?_
    refine then_normal ?_
    refine wp_ret ?_
    refine (fin1 hF rfl rfl ⟨_, rfl, ?_⟩)
    obtain rfl : i = d.n := by omega
    exact ⟨_, rfl, hvb, (hS).recont 0 rfl (dcells_congr hW)⟩

theorem c_cert {x : Crt} (w0 : World) :
    Calls Try.prog 13 [.agg #[.int .i64 x.a, .int .i64 x.p, .int .i64 x.b, .int .i64 x.q]].toArray w0 fun e w => ∃ v, e = .returned v ∧ v = .agg #[.int .i64 x.a, .int .i64 x.p, .int .i64 x.b, .int .i64 x.q] ∧ Sat w0 w [] := by
  refine enterS (vs := [.agg #[.int .i64 x.a, .int .i64 x.p, .int .i64 x.b, .int .i64 x.q]]) Try.func13 rfl Try.ntmps13 rfl ?_
  intro a w hS hF
  refine cw_seq ?_
  refine wp_region_lit ?_
  refine ls_any hF (.free rfl) rfl rfl (ex_box (cs := [.int .i64 x.a, .int .i64 x.p, .int .i64 x.b, .int .i64 x.q]) rfl hS rfl rfl) ?_; clear hF; rintro _ w ⟨g1, rfl, hS⟩ a hF
  replace hS : Sat w0 w [.blk g1 [.int .i64 x.a, .int .i64 x.p, .int .i64 x.b, .int .i64 x.q]] := hS
  refine ls_any hF (.free rfl) rfl rfl (ex_alloc (cs := [.int .i64 0, .int .i64 0, .int .i64 0, .int .i64 0]) rfl el_36 hS rfl) ?_; clear hF; rintro _ w ⟨g2, rfl, hS⟩ a hF
  replace hS : Sat w0 w [.blk g1 [.int .i64 x.a, .int .i64 x.p, .int .i64 x.b, .int .i64 x.q], .blk g2 [.int .i64 0, .int .i64 0, .int .i64 0, .int .i64 0]] := hS
  refine ls_nil ?_
  refine then_normal ?_
  refine cw_seq ?_
  refine wp_region_lit ?_
  refine ls_val hF (.free rfl) rfl rfl (ex_field (b := ⟨g1, 0, none⟩) rfl fd_28_0 rfl rfl) ?_; clear hF a; intro a hF
  refine ls_val hF (.free rfl) rfl rfl (ex_loads_part 0 rfl st_26 rfl hS rfl rfl rfl) ?_; clear hF a; intro a hF
  refine ls_val hF (.free rfl) rfl rfl (ex_field (b := ⟨g1, 2, none⟩) rfl fd_28_1 rfl rfl) ?_; clear hF a; intro a hF
  refine ls_val hF (.free rfl) rfl rfl (ex_loads_part 0 rfl st_26 rfl hS rfl rfl rfl) ?_; clear hF a; intro a hF
  refine ls_val hF (.free rfl) rfl rfl (ex_any (w' := w) (r := .value (.agg #[.int .i64 x.a, .int .i64 x.p, .int .i64 x.b, .int .i64 x.q])) (by intro _ _ h; cases h) rfl (by kernel_rfl)) ?_; clear hF a; intro a hF
  refine ls_effx hF (.free rfl) rfl (st_blks 1 (ds := [.int .i64 x.a, .int .i64 x.p, .int .i64 x.b, .int .i64 x.q]) rfl st_36 hS rfl rfl rfl rfl (ones_cons rfl (ones_cons rfl (ones_cons rfl (ones_cons rfl ones_nil))))) ?_; clear hS; rintro w hS
  replace hS : Sat w0 w [.blk g1 [.int .i64 x.a, .int .i64 x.p, .int .i64 x.b, .int .i64 x.q], .blk g2 [.int .i64 x.a, .int .i64 x.p, .int .i64 x.b, .int .i64 x.q]] := hS
  refine ls_nil ?_
  refine then_normal ?_
  refine wp_ret ?_
  refine (fin_c 1 hF rfl rfl st_36 hS rfl rfl ⟨_, rfl, ?_⟩)
  exact ⟨rfl, hS.sub (.cons _ (.cons _ .slnil))⟩

theorem c_few {vD : Value} {d : Dem} (w0 : World) (hD : DAt w0 vD d.n d.W d.H d.N) :
    Calls Try.prog 11 [vD].toArray w0 fun e w => ∃ v, e = .returned v ∧ v = B (d.n ≤ 25) ∧ Sat w0 w [] := by
  refine enterS (vs := [vD]) Try.func11 rfl Try.ntmps11 rfl ?_
  intro a w hS hF
  refine cw_seq ?_
  refine wp_region_lit ?_
  refine ls_val hF (.free rfl) rfl rfl (ex_assign rfl rfl) ?_; clear hF a; intro a hF
  refine ls_nil ?_
  refine then_normal ?_
  refine cw_seq ?_
  refine wp_region_lit ?_
  refine ls_val hF (.free rfl) rfl rfl (ex_move rfl rfl) ?_; clear hF a; intro a hF
  refine ls_val hF (.free rfl) rfl rfl (ex_len rfl sl_22 rfl hD.row.slh) ?_; clear hF a; intro a hF
  refine ls_val hF (.free rfl) rfl rfl (ex_leq rfl rfl rfl) ?_; clear hF a; intro a hF
  refine ls_val hF (.free rfl) rfl rfl (ex_assign rfl rfl) ?_; clear hF a; intro a hF
  refine ls_nil ?_
  refine then_normal ?_
  refine wp_ret ?_
  refine (fin1 hF rfl rfl ⟨_, rfl, ?_⟩)
  exact ⟨B_congr (by omega), hS⟩

end Go.Proofs.Ytmlfpniaknmmfaa
