/- The walks of the candidates. -/
import Derived.Test.YtmlfpniaknmmfaaW5
import Derived.Test.YtmlfpniaknmmfaaSh
import Derived.Test.YtmlfpniaknmmfaaFc
namespace Go.Proofs.Ytmlfpniaknmmfaa
open Go Go.RowKit Go.Proofs.Gw
set_option linter.unusedVariables false

theorem cl_37 : calledT Try.prog 37 = true := by kernel_rfl
theorem cl_38 : calledT Try.prog 38 = true := by kernel_rfl
theorem el_26 : elemT Try.prog 26 = some (.agg #[.int .i64 0, .int .i64 0], 2, 16) := by kernel_rfl
theorem el_34 : elemT Try.prog 34 = some (.agg #[.int .i64 0, .int .i64 0], 2, 16) := by kernel_rfl
theorem sl_52 : sliceT Try.prog 52 = some (3, 1) := by kernel_rfl
theorem sl_76 : sliceT Try.prog 76 = some (34, 2) := by kernel_rfl
theorem sl_78 : sliceT Try.prog 78 = some (26, 2) := by kernel_rfl
set_option maxRecDepth 20000 in
theorem c_cand {vs : Value} {n c : Int} {f : Int → Int} {F : Go.Proofs.Gw.Frame} (w0 w : World) (hS : Sat w0 w [.own vs 1 3 n (ints f), .sem F]) (hsl : Slh vs n) (hn : n ≤ 1000) (hc : 0 ≤ c) (hc2 : c ≤ 1000000) :
    Calls Try.prog 28 [vs, .int .i64 c].toArray w fun e w => ∃ v, e = .returned v ∧ ∃ vr m K A g, v = vr ∧ Slh vr m ∧ CandL (CandR f n c) (candOf (CandR f n c)) ∧ FL (candOf (CandR f n c)) m K A ∧ m ≤ n + 6 ∧ Kept f g n ∧ Sat w0 w [.own vs 1 3 n (ints g), .sem F, .own vr 2 34 m (fcells K A)] := by
  have hh := half_facts hc
  have hn0 := hsl.n0
  refine enter (vs := [vs, .int .i64 c]) Try.func28 rfl Try.ntmps28 rfl fun a hF => ?_
  refine cw_seq ?_
  refine wp_region_lit ?_
  refine ls_val hF (.free rfl) rfl rfl (ex_assign rfl rfl) ?_; clear hF a; intro a hF
  refine ls_nil ?_
  refine then_normal ?_
  refine cw_seq ?_
  refine wp_region_lit ?_
  refine ls_val hF (.free rfl) rfl rfl (ex_any (w' := w) (r := .value (.agg #[.int .i64 0, .int .i64 0])) (by intro _ _ h; cases h) rfl (by kernel_rfl)) ?_; clear hF a; intro a hF
  refine ls_any hF (.free rfl) rfl rfl (ex_lit (n := 1) (len := 1) (pv := [(0, .agg #[.int .i64 0, .int .i64 0])]) (cs := [.int .i64 0, .int .i64 0]) (c := fcells (fun _ => 0) (fun _ => 0)) rfl sl_76 el_34 hS (parts_cons rfl parts0) (by kernel_rfl) (by decide) (by decide) rfl rfl (fun k hk => by rcases k with _ | _ | k <;> first | rfl | (exfalso; omega)) (by omega)) ?_; clear hF; rintro v1 w ⟨hS, hv1⟩ a hF
  replace hS : Sat w0 w [.own vs 1 3 n (ints f), .sem F, .own v1 2 34 1 (fcells (fun _ => 0) (fun _ => 0))] := hS
  refine ls_val hF (.free rfl) rfl rfl (ex_assign rfl rfl) ?_; clear hF a; intro a hF
  refine ls_nil ?_
  refine then_normal ?_
  refine cw_seq ?_
  refine cw_seq ?_
  refine wp_region_lit ?_
  refine ls_val hF (.free rfl) rfl rfl (ex_move rfl rfl) ?_; clear hF a; intro a hF
  refine ls_nil ?_
  refine then_normal ?_
  refine wp_block ?_
  refine cw_loop (fun mm a w => ∃ (m : Int) (K : Int → Int) (A : Int → Int) (i : Int) (vb : Value), mm = (((5 : Int) - i).toNat) ∧ (0 ≤ i) ∧ (i ≤ 5) ∧ (m = i + 1) ∧ (FL (base i.toNat) m K A) ∧ (Slh vb m) ∧ Fr a 41 [(0, vs), (1, .int .i64 c), (4, .slice none 0 0), (5, vb), (11, .int .i64 i)] ∧ Sat w0 w [.own vs 1 3 n (ints f), .sem F, .own vb 2 34 m (fcells K A)]) ?_ ?_ (m := (((5 : Int) - 0).toNat))
  ·
   refine ⟨1, (fun _ => 0), (fun _ => 0), 0, v1, rfl, (by omega), (by omega), (by omega), ?_, ?_, (hF.pick (hF.pick (hF.pick (hF.pick (hF.pick hF.nil 11 rfl) 5 rfl) 4 rfl) 1 rfl) 0 rfl), hS⟩
   ·
    exact fl_start
   ·
    exact hv1
  ·
   clear hF hS a w
   rintro mm a w ⟨m, K, A, i, vb, rfl, h0, h1, hm, hfl, hvb, hF, hS⟩
   refine cw_seq ?_
   refine wp_region_lit ?_
   refine ls_val hF (.free rfl) rfl rfl (ex_lss rfl rfl rfl) ?_; clear hF a; intro a hF
   refine ls_nil ?_
   refine then_normal ?_
   refine cw_seq ?_
   refine cw_if hF rfl (fun hc => ?_) (fun hc => ?_)
   ·
    refine wp_skip ?_
    refine then_normal ?_
    refine cw_seq ?_
    refine wp_block ?_
    refine cw_seq ?_
    refine wp_region_lit ?_
    refine ls_val hF (.free rfl) rfl rfl (ex_move rfl rfl) ?_; clear hF a; intro a hF
    refine ls_val hF (.free rfl) rfl rfl (ex_assign rfl rfl) ?_; clear hF a; intro a hF
    refine ls_nil ?_
    refine then_normal ?_
    refine wp_region_lit ?_
    refine ls_val hF (.free rfl) rfl rfl (ex_move rfl rfl) ?_; clear hF a; intro a hF
    refine ls_val hF (.free rfl) rfl rfl (ex_move rfl rfl) ?_; clear hF a; intro a hF
    refine ls_val hF (.free rfl) rfl rfl (ex_add (r := i + 1) rfl rfl rfl (by omega) (by unfold I64; omega)) ?_; clear hF a; intro a hF
    refine ls_val hF (.free rfl) rfl rfl (ex_any (w' := w) (r := .value (.agg #[.int .i64 1, .int .i64 (i + 1)])) (by intro _ _ h; cases h) rfl (by kernel_rfl)) ?_; clear hF a; intro a hF
    refine ls_any hF (.free rfl) rfl rfl (ex_lit (n := 1) (len := 1) (pv := [(0, .agg #[.int .i64 1, .int .i64 (i + 1)])]) (cs := [.int .i64 1, .int .i64 (i + 1)]) (c := fcells (fun _ => 1) (fun _ => i + 1)) rfl sl_76 el_34 hS (parts_cons rfl parts0) (by kernel_rfl) (by decide) (by decide) rfl rfl (fun k hk => by rcases k with _ | _ | k <;> first | rfl | (exfalso; omega)) (by omega)) ?_; clear hF; rintro v2 w ⟨hS, hv2⟩ a hF
    replace hS : Sat w0 w [.own vs 1 3 n (ints f), .sem F, .own vb 2 34 m (fcells K A), .own v2 2 34 1 (fcells (fun _ => 1) (fun _ => i + 1))] := hS
    refine ls_any hF (.free rfl) rfl rfl (ap_own 2 (r := m + 1) (f := fcells (snoc K m 1) (snoc A m (i + 1))) rfl sl_76 el_34 rfl (by decide) hS rfl rfl rfl (hS.rowN 3 rfl) (fun k _ _ => fcells_one _ _ k) (by omega) (by omega) (by omega) (cat_fn ..)) ?_; clear hF; rintro v3 w ⟨hS, hv3⟩ a hF
    replace hS : Sat w0 w [.own vs 1 3 n (ints f), .sem F, .own v3 2 34 (m + 1) (fcells (snoc K m 1) (snoc A m (i + 1))), .own v2 2 34 1 (fcells (fun _ => 1) (fun _ => i + 1))] := hS
    refine ls_val hF (.free rfl) rfl rfl (ex_assign rfl rfl) ?_; clear hF a; intro a hF
    refine ls_nil ?_
    refine inb_normal ?_
    refine then_normal ?_
    refine wp_region_lit ?_
    refine ls_val hF (.free rfl) rfl rfl (ex_add (r := i + 1) rfl rfl rfl (by omega) (by unfold I64; omega)) ?_; clear hF a; intro a hF
    refine ls_val hF (.free rfl) rfl rfl (ex_move rfl rfl) ?_; clear hF a; intro a hF
    refine ls_nil ?_
    refine then_normal ?_
    refine ⟨_, (by omega), m + 1, (snoc K m 1), (snoc A m (i + 1)), i + 1, v3, rfl, (by omega), (by omega), (by omega), ?_, ?_, (hF.pick (hF.pick (hF.pick (hF.pick (hF.pick hF.nil 11 rfl) 5 rfl) 4 rfl) 1 rfl) 0 rfl), hS.sub (.cons_cons _ (.cons_cons _ (.cons_cons _ (.cons _ .slnil))))⟩
    ·
     exact (hfl.snoc 1 (i + 1)).congr (base_next h0 rfl)
    ·
     exact hv3
   ·
    refine wp_exit ?_
    refine then_exit ?_
    refine then_exit ?_
    refine inb_hit ?_
    refine then_normal ?_
    refine cw_seq ?_
    refine wp_region_lit ?_
    refine ls_val hF (.free rfl) rfl rfl (ex_move rfl rfl) ?_; clear hF a; intro a hF
    refine ls_call hF (.free rfl) rfl rfl (ex_call0 rfl rfl cl_37 (args_cons rfl args0)) (sort_sat (fun p cap w => slices_Sort_int_none p cap w) (fun blk off cap zs w => slices_Sort_int blk off cap zs w) (l1 := []) (l2 := [.sem F, .own vb 2 34 m (fcells K A)]) hS) ?_; clear hF; rintro _ w ⟨rfl, sg1, hsosg1, hS⟩ a hF
    replace hS : Sat w0 w [.own vs 1 3 n (ints sg1), .sem F, .own vb 2 34 m (fcells K A)] := hS
    refine ls_nil ?_
    refine then_normal ?_
    refine cw_seq ?_
    refine cw_seq ?_
    refine wp_region_lit ?_
    refine ls_val hF (.free rfl) rfl rfl (ex_move rfl rfl) ?_; clear hF a; intro a hF
    refine ls_call hF (.free rfl) rfl rfl (ex_call0 rfl rfl cl_38 (args_cons rfl args0)) (compact_sat (fun p cap w => slices_Compact_int_empty p cap w) (fun blk off cap zs w => slices_Compact_int blk off cap zs w) (l1 := []) (l2 := [.sem F, .own vb 2 34 m (fcells K A)]) hS hsosg1.rise) ?_; clear hF; rintro rcg1 w ⟨_, lcg1, cg1, rfl, hcocg1, hpfcg1, hgecg1, hgzcg1, hS⟩ a hF
    replace hS : Sat w0 w [.own vs 1 3 n (ints cg1), .sem F, .own vb 2 34 m (fcells K A)] := hS
    have hlen := hcocg1.len
    obtain ⟨hfl0, him⟩ := (⟨hfl, (by omega : i = 5)⟩ : _ ∧ i = 5)
    subst him
    refine ls_val hF (.free rfl) rfl rfl (ex_len rfl sl_52 rfl hpfcg1.slh) ?_; clear hF a; intro a hF
    refine ls_val hF (.free rfl) rfl rfl (ex_move rfl rfl) ?_; clear hF a; intro a hF
    refine ls_nil ?_
    refine then_normal ?_
    refine wp_block ?_
    refine cw_loop (fun mm a w => ∃ (m : Int) (K : Int → Int) (A : Int → Int) (i : Int) (vc : Value), mm = (((lcg1.length : Int) - i).toNat) ∧ (0 ≤ i) ∧ (i ≤ (lcg1.length : Int)) ∧ (m ≤ i + 6) ∧ (∃ lc, FL lc m K A ∧ CandL (Sel cg1 (c.tdiv 2) i) lc) ∧ (Slh vc m) ∧ Fr a 41 [(1, .int .i64 c), (4, .slice none 0 0), (5, vc), (24, rcg1), (25, .int .i64 (lcg1.length : Int)), (26, .int .i64 i)] ∧ Sat w0 w [.own vs 1 3 n (ints cg1), .sem F, .own vc 2 34 m (fcells K A)]) ?_ ?_ (m := (((lcg1.length : Int) - 0).toNat))
    ·
     refine ⟨m, K, A, 0, vb, rfl, (by omega), (by omega), (by omega), ?_, ?_, (hF.pick (hF.pick (hF.pick (hF.pick (hF.pick (hF.pick hF.nil 26 rfl) 25 rfl) 24 rfl) 5 rfl) 4 rfl) 1 rfl), hS⟩
     ·
      exact ⟨_, hfl0, CandL.sel_start _ _⟩
     ·
      exact hvb
    ·
     clear hF hS a w
     rintro mm a w ⟨m, K, A, i, vc, rfl, h0, h1, hm, hcl, hvc, hF, hS⟩
     refine cw_seq ?_
     refine wp_region_lit ?_
     refine ls_val hF (.free rfl) rfl rfl (ex_lss rfl rfl rfl) ?_; clear hF a; intro a hF
     refine ls_nil ?_
     refine then_normal ?_
     refine cw_seq ?_
     refine cw_if hF rfl (fun hc => ?_) (fun hc => ?_)
     ·
      refine wp_skip ?_
      refine then_normal ?_
      refine cw_seq ?_
      refine wp_block ?_
      refine cw_seq ?_
      refine wp_region_lit ?_
      refine ls_val hF (.free rfl) rfl rfl (ex_index (k := i) rfl sl_52 rfl rfl hpfcg1.slh (by omega) (by omega) (by omega)) ?_; clear hF a; intro a hF
      refine ls_val hF (.free rfl) rfl rfl (ex_load_row (u := .int .i64 (cg1 i)) rfl pl_3 rfl (hpfcg1.row (hS.rowN 0 rfl)) (by omega) (by omega) rfl) ?_; clear hF a; intro a hF
      refine ls_val hF (.free rfl) rfl rfl (ex_assign rfl rfl) ?_; clear hF a; intro a hF
      refine ls_nil ?_
      refine then_normal ?_
      refine cw_seq ?_
      refine wp_region_lit ?_
      refine ls_val hF (.free rfl) rfl rfl (ex_move rfl rfl) ?_; clear hF a; intro a hF
      refine ls_val hF (.free rfl) rfl rfl (ex_move rfl rfl) ?_; clear hF a; intro a hF
      refine ls_val hF (.free rfl) rfl rfl (ex_quo (r := (Int.tdiv c 2)) rfl rfl rfl (by omega) rfl (by unfold I64; omega)) ?_; clear hF a; intro a hF
      refine ls_call hF (.free rfl) rfl rfl (ex_call0 rfl rfl cl_32 (args_cons rfl (args_cons rfl (args_cons rfl args0)))) (c_in w) ?_; clear hF; rintro _ w ⟨rfl, hS'⟩ a hF
      replace hS : Sat w0 w [.own vs 1 3 n (ints cg1), .sem F, .own vc 2 34 m (fcells K A)] := hS.comp hS'; clear hS'
      refine ls_nil ?_
      refine then_normal ?_
      refine cw_if hF rfl (fun hc => ?_) (fun hc => ?_)
      ·
       refine wp_region_lit ?_
       refine ls_val hF (.free rfl) rfl rfl (ex_move rfl rfl) ?_; clear hF a; intro a hF
       refine ls_val hF (.free rfl) rfl rfl (ex_move rfl rfl) ?_; clear hF a; intro a hF
       refine ls_val hF (.free rfl) rfl rfl (ex_any (w' := w) (r := .value (.agg #[.int .i64 2, .int .i64 (cg1 i)])) (by intro _ _ h; cases h) rfl (by kernel_rfl)) ?_; clear hF a; intro a hF
       refine ls_any hF (.free rfl) rfl rfl (ex_lit (n := 1) (len := 1) (pv := [(0, .agg #[.int .i64 2, .int .i64 (cg1 i)])]) (cs := [.int .i64 2, .int .i64 (cg1 i)]) (c := fcells (fun _ => 2) (fun _ => (cg1 i))) rfl sl_76 el_34 hS (parts_cons rfl parts0) (by kernel_rfl) (by decide) (by decide) rfl rfl (fun k hk => by rcases k with _ | _ | k <;> first | rfl | (exfalso; omega)) (by omega)) ?_; clear hF; rintro v4 w ⟨hS, hv4⟩ a hF
       replace hS : Sat w0 w [.own vs 1 3 n (ints cg1), .sem F, .own vc 2 34 m (fcells K A), .own v4 2 34 1 (fcells (fun _ => 2) (fun _ => (cg1 i)))] := hS
       refine ls_any hF (.free rfl) rfl rfl (ap_own 2 (r := m + 1) (f := fcells (snoc K m 2) (snoc A m (cg1 i))) rfl sl_76 el_34 rfl (by decide) hS rfl rfl rfl (hS.rowN 3 rfl) (fun k _ _ => fcells_one _ _ k) (by omega) (by omega) (by omega) (cat_fn ..)) ?_; clear hF; rintro v5 w ⟨hS, hv5⟩ a hF
       replace hS : Sat w0 w [.own vs 1 3 n (ints cg1), .sem F, .own v5 2 34 (m + 1) (fcells (snoc K m 2) (snoc A m (cg1 i))), .own v4 2 34 1 (fcells (fun _ => 2) (fun _ => (cg1 i)))] := hS
       refine ls_val hF (.free rfl) rfl rfl (ex_assign rfl rfl) ?_; clear hF a; intro a hF
       refine ls_nil ?_
       refine inb_normal ?_
       refine then_normal ?_
       refine wp_region_lit ?_
       refine ls_val hF (.free rfl) rfl rfl (ex_add (r := i + 1) rfl rfl rfl (by omega) (by unfold I64; omega)) ?_; clear hF a; intro a hF
       refine ls_val hF (.free rfl) rfl rfl (ex_move rfl rfl) ?_; clear hF a; intro a hF
       refine ls_nil ?_
       refine then_normal ?_
       refine ⟨_, (by omega), m + 1, (snoc K m 2), (snoc A m (cg1 i)), i + 1, v5, rfl, (by omega), (by omega), (by omega), ?_, ?_, (hF.pick (hF.pick (hF.pick (hF.pick (hF.pick (hF.pick hF.nil 26 rfl) 25 rfl) 24 rfl) 5 rfl) 4 rfl) 1 rfl), hS.sub (.cons_cons _ (.cons_cons _ (.cons_cons _ (.cons _ .slnil))))⟩
       ·
        obtain ⟨lc, hf, hc3⟩ := hcl
        first | exact ⟨_, hf.snoc 2 (cg1 i), hc3.sel_in h0 (fun k k0 k1 => comp_rise hcocg1 hgecg1 k0 k1 (by omega)) ‹1 ≤ cg1 i ∧ _›⟩ | exact ⟨_, hf, hc3.sel_out ‹¬ (1 ≤ cg1 i ∧ _)›⟩
       ·
        exact hv5
      ·
       refine wp_skip ?_
       refine inb_normal ?_
       refine then_normal ?_
       refine wp_region_lit ?_
       refine ls_val hF (.free rfl) rfl rfl (ex_add (r := i + 1) rfl rfl rfl (by omega) (by unfold I64; omega)) ?_; clear hF a; intro a hF
       refine ls_val hF (.free rfl) rfl rfl (ex_move rfl rfl) ?_; clear hF a; intro a hF
       refine ls_nil ?_
       refine then_normal ?_
       refine ⟨_, (by omega), m, K, A, i + 1, vc, rfl, (by omega), (by omega), (by omega), ?_, ?_, (hF.pick (hF.pick (hF.pick (hF.pick (hF.pick (hF.pick hF.nil 26 rfl) 25 rfl) 24 rfl) 5 rfl) 4 rfl) 1 rfl), hS⟩
       ·
        obtain ⟨lc, hf, hc3⟩ := hcl
        first | exact ⟨_, hf.snoc 2 (cg1 i), hc3.sel_in h0 (fun k k0 k1 => comp_rise hcocg1 hgecg1 k0 k1 (by omega)) ‹1 ≤ cg1 i ∧ _›⟩ | exact ⟨_, hf, hc3.sel_out ‹¬ (1 ≤ cg1 i ∧ _)›⟩
       ·
        exact hvc
     ·
      refine wp_exit ?_
      refine then_exit ?_
      refine then_exit ?_
      refine inb_hit ?_
      refine then_normal ?_
      refine cw_seq ?_
      refine wp_region_lit ?_
      refine ls_val hF (.free rfl) rfl rfl (ex_move rfl rfl) ?_; clear hF a; intro a hF
      refine ls_val hF (.free rfl) rfl rfl (ex_assign rfl rfl) ?_; clear hF a; intro a hF
      refine ls_nil ?_
      refine then_normal ?_
      refine wp_ret ?_
      refine (fin1 hF rfl rfl ⟨_, rfl, ?_⟩)
      obtain ⟨lc, hf, hc3⟩ := hcl
      obtain rfl : i = (lcg1.length : Int) := by omega
      have hc4 := hc3.sel_fin hsosg1 hcocg1 hgecg1
      obtain ⟨rfl, hc5⟩ := hc4.eq
      exact ⟨_, _, _, _, cg1, rfl, hvc, hc5, hf, by omega, kept_comp hsosg1 hcocg1 hgecg1 hgzcg1, hS⟩

set_option maxRecDepth 20000 in
theorem c_rcand {vs : Value} {n c : Int} {f : Int → Int} (w0 : World) (hR : Row w0 vs 1 n (ints f)) (hn : n ≤ 1000) (hc : 0 ≤ c) (hc2 : c ≤ 1000000) :
    Calls Try.prog 29 [vs, .int .i64 c].toArray w0 fun e w => ∃ v, e = .returned v ∧ ∃ vr m K A, v = vr ∧ Slh vr m ∧ CandL (CandR f n c) (candOf (CandR f n c)) ∧ FL (candOf (CandR f n c)) m K A ∧ m ≤ 1000010 ∧ Sat w0 w [.own vr 2 26 m (fcells K A)] := by
  have hh := half_facts hc
  have hn0 := hR.slh.n0; have hn1 := hR.slh.n1
  refine enterS (vs := [vs, .int .i64 c]) Try.func29 rfl Try.ntmps29 rfl ?_
  intro a w hS hF
  refine cw_seq ?_
  refine wp_region_lit ?_
  refine ls_val hF (.free rfl) rfl rfl (ex_assign rfl rfl) ?_; clear hF a; intro a hF
  refine ls_nil ?_
  refine then_normal ?_
  refine cw_seq ?_
  refine wp_region_lit ?_
  refine ls_val hF (.free rfl) rfl rfl (ex_any (w' := w) (r := .value (.agg #[.int .i64 0, .int .i64 0])) (by intro _ _ h; cases h) rfl (by kernel_rfl)) ?_; clear hF a; intro a hF
  refine ls_any hF (.free rfl) rfl rfl (ex_lit (n := 1) (len := 1) (pv := [(0, .agg #[.int .i64 0, .int .i64 0])]) (cs := [.int .i64 0, .int .i64 0]) (c := fcells (fun _ => 0) (fun _ => 0)) rfl sl_78 el_26 hS (parts_cons rfl parts0) (by kernel_rfl) (by decide) (by decide) rfl rfl (fun k hk => by rcases k with _ | _ | k <;> first | rfl | (exfalso; omega)) (by omega)) ?_; clear hF; rintro v1 w ⟨hS, hv1⟩ a hF
  replace hS : Sat w0 w [.own v1 2 26 1 (fcells (fun _ => 0) (fun _ => 0))] := hS
  refine ls_val hF (.free rfl) rfl rfl (ex_assign rfl rfl) ?_; clear hF a; intro a hF
  refine ls_nil ?_
  refine then_normal ?_
  refine cw_seq ?_
  refine cw_seq ?_
  refine wp_region_lit ?_
  refine ls_val hF (.free rfl) rfl rfl (ex_assign rfl rfl) ?_; clear hF a; intro a hF
  refine ls_nil ?_
  refine then_normal ?_
  refine wp_block ?_
  refine cw_loop (fun mm a w => ∃ (m : Int) (K : Int → Int) (A : Int → Int) (i : Int) (vb : Value), mm = (((6 : Int) - i).toNat) ∧ (1 ≤ i) ∧ (i ≤ 6) ∧ (m = i) ∧ (FL (base (i - 1).toNat) m K A) ∧ (Slh vb m) ∧ Fr a 44 [(0, vs), (1, .int .i64 c), (4, .slice none 0 0), (5, vb), (6, .int .i64 i)] ∧ Sat w0 w [.own vb 2 26 m (fcells K A)]) ?_ ?_ (m := (((6 : Int) - 1).toNat))
  ·
   refine ⟨1, (fun _ => 0), (fun _ => 0), 1, v1, rfl, (by omega), (by omega), (by omega), ?_, ?_, (hF.pick (hF.pick (hF.pick (hF.pick (hF.pick hF.nil 6 rfl) 5 rfl) 4 rfl) 1 rfl) 0 rfl), hS⟩
   ·
    exact fl_start
   ·
    exact hv1
  ·
   clear hF hS a w
   rintro mm a w ⟨m, K, A, i, vb, rfl, h0, h1, hm, hfl, hvb, hF, hS⟩
   refine cw_seq ?_
   refine cw_seq ?_
   refine wp_region_lit ?_
   refine ls_val hF (.free rfl) rfl rfl (ex_move rfl rfl) ?_; clear hF a; intro a hF
   refine ls_val hF (.free rfl) rfl rfl (ex_leq rfl rfl rfl) ?_; clear hF a; intro a hF
   refine ls_nil ?_
   refine then_normal ?_
   refine cw_if hF rfl (fun hc => ?_) (fun hc => ?_)
   ·
    refine wp_skip ?_
    refine then_normal ?_
    refine cw_seq ?_
    refine wp_block ?_
    refine wp_region_lit ?_
    refine ls_val hF (.free rfl) rfl rfl (ex_move rfl rfl) ?_; clear hF a; intro a hF
    refine ls_val hF (.free rfl) rfl rfl (ex_move rfl rfl) ?_; clear hF a; intro a hF
    refine ls_val hF (.free rfl) rfl rfl (ex_any (w' := w) (r := .value (.agg #[.int .i64 1, .int .i64 i])) (by intro _ _ h; cases h) rfl (by kernel_rfl)) ?_; clear hF a; intro a hF
    refine ls_any hF (.free rfl) rfl rfl (ex_lit (n := 1) (len := 1) (pv := [(0, .agg #[.int .i64 1, .int .i64 i])]) (cs := [.int .i64 1, .int .i64 i]) (c := fcells (fun _ => 1) (fun _ => i)) rfl sl_78 el_26 hS (parts_cons rfl parts0) (by kernel_rfl) (by decide) (by decide) rfl rfl (fun k hk => by rcases k with _ | _ | k <;> first | rfl | (exfalso; omega)) (by omega)) ?_; clear hF; rintro v2 w ⟨hS, hv2⟩ a hF
    replace hS : Sat w0 w [.own vb 2 26 m (fcells K A), .own v2 2 26 1 (fcells (fun _ => 1) (fun _ => i))] := hS
    refine ls_any hF (.free rfl) rfl rfl (ap_own 0 (r := m + 1) (f := fcells (snoc K m 1) (snoc A m i)) rfl sl_78 el_26 rfl (by decide) hS rfl rfl rfl (hS.rowN 1 rfl) (fun k _ _ => fcells_one _ _ k) (by omega) (by omega) (by omega) (cat_fn ..)) ?_; clear hF; rintro v3 w ⟨hS, hv3⟩ a hF
    replace hS : Sat w0 w [.own v3 2 26 (m + 1) (fcells (snoc K m 1) (snoc A m i)), .own v2 2 26 1 (fcells (fun _ => 1) (fun _ => i))] := hS
    refine ls_val hF (.free rfl) rfl rfl (ex_assign rfl rfl) ?_; clear hF a; intro a hF
    refine ls_nil ?_
    refine inb_normal ?_
    refine then_normal ?_
    refine wp_region_lit ?_
    refine ls_val hF (.free rfl) rfl rfl (ex_move rfl rfl) ?_; clear hF a; intro a hF
    refine ls_val hF (.free rfl) rfl rfl (ex_add (r := i + 1) rfl rfl rfl (by omega) (by unfold I64; omega)) ?_; clear hF a; intro a hF
    refine ls_val hF (.free rfl) rfl rfl (ex_assign rfl rfl) ?_; clear hF a; intro a hF
    refine ls_nil ?_
    refine then_normal ?_
    refine ⟨_, (by omega), m + 1, (snoc K m 1), (snoc A m i), i + 1, v3, rfl, (by omega), (by omega), (by omega), ?_, ?_, (hF.pick (hF.pick (hF.pick (hF.pick (hF.pick hF.nil 6 rfl) 5 rfl) 4 rfl) 1 rfl) 0 rfl), hS.sub (.cons_cons _ (.cons _ .slnil))⟩
    ·
     exact (hfl.snoc 1 i).congr ((base_next (by omega) (by omega)).trans (by congr 1; omega))
    ·
     exact hv3
   ·
    refine wp_exit ?_
    refine then_exit ?_
    refine then_exit ?_
    refine inb_hit ?_
    refine then_normal ?_
    refine cw_seq ?_
    refine cw_seq ?_
    refine wp_region_lit ?_
    refine ls_val hF (.free rfl) rfl rfl (ex_assign rfl rfl) ?_; clear hF a; intro a hF
    refine ls_nil ?_
    refine then_normal ?_
    refine wp_block ?_
    obtain rfl : i = 6 := by omega
    refine cw_loop (fun mm a w => ∃ (m : Int) (K : Int → Int) (A : Int → Int) (k : Int) (vb : Value), mm = ((c.tdiv 2 + 2 - k).toNat) ∧ (1 ≤ k) ∧ (k ≤ c.tdiv 2 + 1 ∨ (c.tdiv 2 < 1 ∧ k = 1)) ∧ (m ≤ k + 5) ∧ (∃ lc, FL lc m K A ∧ CandL (Rng f n k) lc) ∧ (Slh vb m) ∧ Fr a 44 [(0, vs), (1, .int .i64 c), (4, .slice none 0 0), (5, vb), (7, .int .i64 k)] ∧ Sat w0 w [.own vb 2 26 m (fcells K A)]) ?_ ?_ (m := ((c.tdiv 2 + 2 - 1).toNat))
    ·
     refine ⟨m, K, A, 1, vb, rfl, (by omega), (by omega), (by omega), ?_, ?_, (hF.pick (hF.pick (hF.pick (hF.pick (hF.pick hF.nil 7 rfl) 5 rfl) 4 rfl) 1 rfl) 0 rfl), hS⟩
     ·
      exact ⟨_, hfl, CandL.rng_start _ _⟩
     ·
      exact hvb
    ·
     clear hF hS a w
     rintro mm a w ⟨m, K, A, k, vb, rfl, h0, h1, hm, hcl, hvb, hF, hS⟩
     refine cw_seq ?_
     refine cw_seq ?_
     refine wp_region_lit ?_
     refine ls_val hF (.free rfl) rfl rfl (ex_move rfl rfl) ?_; clear hF a; intro a hF
     refine ls_val hF (.free rfl) rfl rfl (ex_move rfl rfl) ?_; clear hF a; intro a hF
     refine ls_val hF (.free rfl) rfl rfl (ex_quo (r := (Int.tdiv c 2)) rfl rfl rfl (by omega) rfl (by unfold I64; omega)) ?_; clear hF a; intro a hF
     refine ls_val hF (.free rfl) rfl rfl (ex_leq rfl rfl rfl) ?_; clear hF a; intro a hF
     refine ls_nil ?_
     refine then_normal ?_
     refine cw_if hF rfl (fun hc => ?_) (fun hc => ?_)
     ·
      refine wp_skip ?_
      refine then_normal ?_
      refine cw_seq ?_
      refine wp_block ?_
      refine cw_seq ?_
      refine wp_region_lit ?_
      refine ls_val hF (.free rfl) rfl rfl (ex_assign rfl rfl) ?_; clear hF a; intro a hF
      refine ls_nil ?_
      refine then_normal ?_
      refine wp_block ?_
      refine cw_loop (fun mm a w => ∃ (j : Int), mm = ((n - j).toNat) ∧ (0 ≤ j) ∧ (j ≤ n) ∧ (∀ q, 0 ≤ q → q < j → f q ≠ k) ∧ Fr a 44 [(0, vs), (1, .int .i64 c), (4, .slice none 0 0), (5, vb), (7, .int .i64 k), (8, .int .i64 j)] ∧ Sat w0 w [.own vb 2 26 m (fcells K A)]) ?_ ?_ (m := ((n - 0).toNat))
      ·
       refine ⟨0, rfl, (by omega), (by omega), ?_, (hF.pick (hF.pick (hF.pick (hF.pick (hF.pick (hF.pick hF.nil 8 rfl) 7 rfl) 5 rfl) 4 rfl) 1 rfl) 0 rfl), hS⟩
       ·
        intro q q0 q1; omega
      ·
       clear hF hS a w
       rintro mm a w ⟨j, rfl, j0, j1, hno, hF, hS⟩
       refine cw_seq ?_
       refine cw_seq ?_
       refine wp_region_lit ?_
       refine ls_val hF (.free rfl) rfl rfl (ex_move rfl rfl) ?_; clear hF a; intro a hF
       refine ls_val hF (.free rfl) rfl rfl (ex_move rfl rfl) ?_; clear hF a; intro a hF
       refine ls_val hF (.free rfl) rfl rfl (ex_len rfl sl_52 rfl hR.slh) ?_; clear hF a; intro a hF
       refine ls_val hF (.free rfl) rfl rfl (ex_lss rfl rfl rfl) ?_; clear hF a; intro a hF
       refine ls_nil ?_
       refine then_normal ?_
       refine cw_if hF rfl (fun hc => ?_) (fun hc => ?_)
       ·
        refine wp_skip ?_
        refine then_normal ?_
        refine cw_seq ?_
        refine wp_block ?_
        refine cw_seq ?_
        refine wp_region_lit ?_
        refine ls_val hF (.free rfl) rfl rfl (ex_move rfl rfl) ?_; clear hF a; intro a hF
        refine ls_val hF (.free rfl) rfl rfl (ex_move rfl rfl) ?_; clear hF a; intro a hF
        refine ls_val hF (.free rfl) rfl rfl (ex_index (k := j) rfl sl_52 rfl rfl hR.slh (by omega) (by omega) (by omega)) ?_; clear hF a; intro a hF
        refine ls_val hF (.free rfl) rfl rfl (ex_load_row (u := .int .i64 (f j)) rfl pl_3 rfl (hR.below hS.below) (by omega) (by omega) rfl) ?_; clear hF a; intro a hF
        refine ls_val hF (.free rfl) rfl rfl (ex_move rfl rfl) ?_; clear hF a; intro a hF
        refine ls_val hF (.free rfl) rfl rfl (ex_eql rfl rfl rfl) ?_; clear hF a; intro a hF
        refine ls_nil ?_
        refine then_normal ?_
        refine cw_if hF rfl (fun hc => ?_) (fun hc => ?_)
        ·
         refine cw_seq ?_
         refine wp_region_lit ?_
         refine ls_val hF (.free rfl) rfl rfl (ex_move rfl rfl) ?_; clear hF a; intro a hF
         refine ls_val hF (.free rfl) rfl rfl (ex_move rfl rfl) ?_; clear hF a; intro a hF
         refine ls_val hF (.free rfl) rfl rfl (ex_any (w' := w) (r := .value (.agg #[.int .i64 2, .int .i64 k])) (by intro _ _ h; cases h) rfl (by kernel_rfl)) ?_; clear hF a; intro a hF
         refine ls_any hF (.free rfl) rfl rfl (ex_lit (n := 1) (len := 1) (pv := [(0, .agg #[.int .i64 2, .int .i64 k])]) (cs := [.int .i64 2, .int .i64 k]) (c := fcells (fun _ => 2) (fun _ => k)) rfl sl_78 el_26 hS (parts_cons rfl parts0) (by kernel_rfl) (by decide) (by decide) rfl rfl (fun k hk => by rcases k with _ | _ | k <;> first | rfl | (exfalso; omega)) (by omega)) ?_; clear hF; rintro v4 w ⟨hS, hv4⟩ a hF
         replace hS : Sat w0 w [.own vb 2 26 m (fcells K A), .own v4 2 26 1 (fcells (fun _ => 2) (fun _ => k))] := hS
         refine ls_any hF (.free rfl) rfl rfl (ap_own 0 (r := m + 1) (f := fcells (snoc K m 2) (snoc A m k)) rfl sl_78 el_26 rfl (by decide) hS rfl rfl rfl (hS.rowN 1 rfl) (fun k _ _ => fcells_one _ _ k) (by omega) (by omega) (by omega) (cat_fn ..)) ?_; clear hF; rintro v5 w ⟨hS, hv5⟩ a hF
         replace hS : Sat w0 w [.own v5 2 26 (m + 1) (fcells (snoc K m 2) (snoc A m k)), .own v4 2 26 1 (fcells (fun _ => 2) (fun _ => k))] := hS
         refine ls_val hF (.free rfl) rfl rfl (ex_assign rfl rfl) ?_; clear hF a; intro a hF
         refine ls_nil ?_
         refine then_normal ?_
         refine wp_exit ?_
         refine inb_miss rfl ?_
         refine then_exit ?_
         refine then_exit ?_
         refine inb_hit ?_
         refine inb_normal ?_
         refine then_normal ?_
         refine wp_region_lit ?_
         refine ls_val hF (.free rfl) rfl rfl (ex_move rfl rfl) ?_; clear hF a; intro a hF
         refine ls_val hF (.free rfl) rfl rfl (ex_add (r := k + 1) rfl rfl rfl (by omega) (by unfold I64; omega)) ?_; clear hF a; intro a hF
         refine ls_val hF (.free rfl) rfl rfl (ex_assign rfl rfl) ?_; clear hF a; intro a hF
         refine ls_nil ?_
         refine then_normal ?_
         refine ⟨_, (by omega), m + 1, (snoc K m 2), (snoc A m k), k + 1, v5, rfl, (by omega), (by omega), (by omega), ?_, ?_, (hF.pick (hF.pick (hF.pick (hF.pick (hF.pick hF.nil 7 rfl) 5 rfl) 4 rfl) 1 rfl) 0 rfl), hS.sub (.cons_cons _ (.cons _ .slnil))⟩
         ·
          obtain ⟨lc, hf, hc3⟩ := hcl
          first | exact ⟨_, hf.snoc 2 k, hc3.rng_in h0 j0 (by omega) ‹_›⟩ | exact ⟨_, hf, hc3.rng_out (fun q q0 q1 => hno q q0 (by omega))⟩
         ·
          exact hv5
        ·
         refine wp_skip ?_
         refine inb_normal ?_
         refine then_normal ?_
         refine wp_region_lit ?_
         refine ls_val hF (.free rfl) rfl rfl (ex_move rfl rfl) ?_; clear hF a; intro a hF
         refine ls_val hF (.free rfl) rfl rfl (ex_add (r := j + 1) rfl rfl rfl (by omega) (by unfold I64; omega)) ?_; clear hF a; intro a hF
         refine ls_val hF (.free rfl) rfl rfl (ex_assign rfl rfl) ?_; clear hF a; intro a hF
         refine ls_nil ?_
         refine then_normal ?_
         refine ⟨_, (by omega), j + 1, rfl, (by omega), (by omega), ?_, (hF.pick (hF.pick (hF.pick (hF.pick (hF.pick (hF.pick hF.nil 8 rfl) 7 rfl) 5 rfl) 4 rfl) 1 rfl) 0 rfl), hS⟩
         ·
          intro q q0 q1; rcases Int.lt_or_eq_of_le (show q ≤ j by omega) with hh | hh; exact hno q q0 hh; rw [hh]; assumption
       ·
        refine wp_exit ?_
        refine then_exit ?_
        refine then_exit ?_
        refine inb_hit ?_
        refine inb_normal ?_
        refine then_normal ?_
        refine wp_region_lit ?_
        refine ls_val hF (.free rfl) rfl rfl (ex_move rfl rfl) ?_; clear hF a; intro a hF
        refine ls_val hF (.free rfl) rfl rfl (ex_add (r := k + 1) rfl rfl rfl (by omega) (by unfold I64; omega)) ?_; clear hF a; intro a hF
        refine ls_val hF (.free rfl) rfl rfl (ex_assign rfl rfl) ?_; clear hF a; intro a hF
        refine ls_nil ?_
        refine then_normal ?_
        refine ⟨_, (by omega), m, K, A, k + 1, vb, rfl, (by omega), (by omega), (by omega), ?_, ?_, (hF.pick (hF.pick (hF.pick (hF.pick (hF.pick hF.nil 7 rfl) 5 rfl) 4 rfl) 1 rfl) 0 rfl), hS⟩
        ·
         obtain ⟨lc, hf, hc3⟩ := hcl
         first | exact ⟨_, hf.snoc 2 k, hc3.rng_in h0 j0 (by omega) ‹_›⟩ | exact ⟨_, hf, hc3.rng_out (fun q q0 q1 => hno q q0 (by omega))⟩
        ·
         exact hvb
     ·
      refine wp_exit ?_
      refine then_exit ?_
      refine then_exit ?_
      refine inb_hit ?_
      refine then_normal ?_
      refine cw_seq ?_
      refine wp_region_lit ?_
      refine ls_val hF (.free rfl) rfl rfl (ex_move rfl rfl) ?_; clear hF a; intro a hF
      refine ls_val hF (.free rfl) rfl rfl (ex_assign rfl rfl) ?_; clear hF a; intro a hF
      refine ls_nil ?_
      refine then_normal ?_
      refine wp_ret ?_
      refine (fin1 hF rfl rfl ⟨_, rfl, ?_⟩)
      obtain ⟨lc, hf, hc3⟩ := hcl
      have hc4 := hc3.rng_fin (c := c) (by omega)
      obtain ⟨rfl, hc5⟩ := hc4.eq
      exact ⟨_, _, _, _, rfl, hvb, hc5, hf, by omega, hS⟩

end Go.Proofs.Ytmlfpniaknmmfaa
