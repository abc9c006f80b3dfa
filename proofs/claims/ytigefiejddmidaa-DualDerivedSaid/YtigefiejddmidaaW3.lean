/- The walk of dual: dearest. -/
import Derived.Test.YtigefiejddmidaaW1
namespace Go.Proofs.Ytigefiejddmidaa
open Go Go.RowKit Go.Proofs.Gw
set_option linter.unusedVariables false

set_option maxRecDepth 20000 in
theorem c_dearest {vL vD vy : Value} {p : Prob} {n : Int} {y : Int → Int} (w0 : World) (h : PAt w0 vL vD p) (hp : p.Ok) (hY : IAt w0 vy n y) (hn : n = p.m) (hy : Priced p y) :
    Calls Try.prog 27 [.agg #[vL, vD, .int .i64 p.stock, .int .i64 p.kerf], vy].toArray w0 fun e w => ∃ v, e = .returned v ∧ v = .int .i64 (Worth p y) ∧ Sat w0 w [] := by
  subst hn; have hm := hp.m1; have hm2 := hp.m2; have hd := hp.d; have hs1 := hp.s1; have hs2 := hp.s2; have hk1 := hp.k1; have hk2 := hp.k2
  refine enterS (vs := [.agg #[vL, vD, .int .i64 p.stock, .int .i64 p.kerf], vy]) Try.func27 rfl Try.ntmps27 rfl ?_
  intro a w hS hF
  refine cw_seq ?_
  refine wp_region_lit ?_
  refine ls_any hF (.free rfl) rfl rfl (ex_box (cs := [vL, vD, .int .i64 p.stock, .int .i64 p.kerf]) rfl hS rfl rfl) ?_; clear hF; rintro _ w ⟨g1, rfl, hS⟩ a hF
  replace hS : Sat w0 w [.blk g1 [vL, vD, .int .i64 p.stock, .int .i64 p.kerf]] := hS
  refine ls_val hF (.free rfl) rfl rfl (ex_assign rfl rfl) ?_; clear hF a; intro a hF
  refine ls_nil ?_
  refine then_normal ?_
  refine cw_seq ?_
  refine wp_region_lit ?_
  refine ls_val hF (.free rfl) rfl rfl (ex_field (b := ⟨g1, 2, none⟩) rfl fd_33_2 rfl rfl) ?_; clear hF a; intro a hF
  refine ls_val hF (.free rfl) rfl rfl (ex_load_blk 0 rfl pl_3 rfl hS rfl rfl) ?_; clear hF a; intro a hF
  refine ls_val hF (.free rfl) rfl rfl (ex_field (b := ⟨g1, 3, none⟩) rfl fd_33_3 rfl rfl) ?_; clear hF a; intro a hF
  refine ls_val hF (.free rfl) rfl rfl (ex_load_blk 0 rfl pl_3 rfl hS rfl rfl) ?_; clear hF a; intro a hF
  refine ls_val hF (.free rfl) rfl rfl (ex_add (r := p.stock + p.kerf) rfl rfl rfl (by omega) (by unfold I64; omega)) ?_; clear hF a; intro a hF
  refine ls_val hF (.free rfl) rfl rfl (ex_add (r := p.stock + p.kerf + 1) rfl rfl rfl (by omega) (by unfold I64; omega)) ?_; clear hF a; intro a hF
  refine ls_any hF (.free rfl) rfl rfl (ex_make rfl sl_22 el_3 rfl rfl hS rfl rfl (by omega) (by omega) (by omega)) ?_; clear hF; rintro v1 w ⟨hS, hv1⟩ a hF
  replace hS : Sat w0 w [.blk g1 [vL, vD, .int .i64 p.stock, .int .i64 p.kerf], .own v1 1 3 (p.stock + p.kerf + 1) (ints (fun _ => 0))] := hS
  refine ls_val hF (.free rfl) rfl rfl (ex_assign rfl rfl) ?_; clear hF a; intro a hF
  refine ls_nil ?_
  refine then_normal ?_
  refine cw_seq ?_
  refine cw_seq ?_
  refine wp_region_lit ?_
  refine ls_val hF (.free rfl) rfl rfl (ex_field (b := ⟨g1, 0, none⟩) rfl fd_33_0 rfl rfl) ?_; clear hF a; intro a hF
  refine ls_val hF (.free rfl) rfl rfl (ex_load_blk 0 rfl pl_22 rfl hS rfl rfl) ?_; clear hF a; intro a hF
  refine ls_val hF (.free rfl) rfl rfl (ex_len rfl sl_22 rfl h.L.slh) ?_; clear hF a; intro a hF
  refine ls_val hF (.free rfl) rfl rfl (ex_move rfl rfl) ?_; clear hF a; intro a hF
  refine ls_nil ?_
  refine then_normal ?_
  refine wp_block ?_
  refine cw_loop (fun mm a w => ∃ (i : Int) (f : Int → Int), mm = ((p.m - i).toNat) ∧ (0 ≤ i) ∧ (i ≤ p.m) ∧ (∀ j, 0 ≤ j → j ≤ p.stock + p.kerf → f j = Tab p y i.toNat j) ∧ Fr a 77 [(1, vy), (2, .pointer (some ⟨g1, 0, none⟩)), (4, .int .i64 0), (5, v1), (18, vL), (19, .int .i64 p.m), (20, .int .i64 i)] ∧ Sat w0 w [.blk g1 [vL, vD, .int .i64 p.stock, .int .i64 p.kerf], .own v1 1 3 (p.stock + p.kerf + 1) (ints f)]) ?_ ?_ (m := ((p.m - 0).toNat))
  ·
   refine ⟨0, (fun _ => 0), rfl, (by omega), (by omega), ?_, (hF.pick (hF.pick (hF.pick (hF.pick (hF.pick (hF.pick (hF.pick hF.nil 20 rfl) 19 rfl) 18 rfl) 5 rfl) 4 rfl) 2 rfl) 1 rfl), hS⟩
   ·
    intro j _ _; rfl
  ·
   clear hF hS a w
   rintro mm a w ⟨i, f, rfl, h0, h1, hf, hF, hS⟩
   refine cw_seq ?_
   refine wp_region_lit ?_
   refine ls_val hF (.free rfl) rfl rfl (ex_lss rfl rfl rfl) ?_; clear hF a; intro a hF
   refine ls_nil ?_
   refine then_normal ?_
   refine cw_seq ?_
   refine cw_if hF rfl (fun hc => ?_) (fun hc => ?_)
   ·
    refine wp_skip ?_
    refine then_normal ?_
    refine cw_seq ?_
    refine wp_block ?_
    refine cw_seq ?_
    refine wp_region_lit ?_
    refine ls_val hF (.free rfl) rfl rfl (ex_move rfl rfl) ?_; clear hF a; intro a hF
    have he := hp.all i (by omega) (by omega); unfold Prob.each at he; have hyi := hy i (by omega) (by omega)
    refine ls_val hF (.free rfl) rfl rfl (ex_index (k := i) rfl sl_22 rfl rfl h.L.slh (by omega) (by omega) (by omega)) ?_; clear hF a; intro a hF
    refine ls_val hF (.free rfl) rfl rfl (ex_load_row (u := .int .i64 (p.L i)) rfl pl_3 rfl (h.L.below hS.below) (by omega) (by omega) rfl) ?_; clear hF a; intro a hF
    have hbv := h.iL i
    refine ls_val hF (.free rfl) rfl rfl (ex_assign rfl rfl) ?_; clear hF a; intro a hF
    refine ls_val hF (.free rfl) rfl rfl (ex_assign rfl rfl) ?_; clear hF a; intro a hF
    refine ls_nil ?_
    refine then_normal ?_
    refine cw_seq ?_
    refine wp_region_lit ?_
    refine ls_val hF (.free rfl) rfl rfl (ex_move rfl rfl) ?_; clear hF a; intro a hF
    refine ls_val hF (.free rfl) rfl rfl (ex_field (b := ⟨g1, 3, none⟩) rfl fd_33_3 rfl rfl) ?_; clear hF a; intro a hF
    refine ls_val hF (.free rfl) rfl rfl (ex_load_blk 0 rfl pl_3 rfl hS rfl rfl) ?_; clear hF a; intro a hF
    refine ls_val hF (.free rfl) rfl rfl (ex_add (r := p.L i + p.kerf) rfl rfl rfl (by omega) (by unfold I64; omega)) ?_; clear hF a; intro a hF
    refine ls_val hF (.free rfl) rfl rfl (ex_assign rfl rfl) ?_; clear hF a; intro a hF
    refine ls_nil ?_
    refine then_normal ?_
    refine cw_seq ?_
    refine dr_sat (m0 := [.blk g1 [vL, vD, .int .i64 p.stock, .int .i64 p.kerf], .own v1 1 3 (p.stock + p.kerf + 1) (ints f)]) 1000 mx_ hS (.cons_cons _ (.cons_cons _ .slnil)) rfl ?_; clear hS; intro w hS hcl hB
    refine dr_val hF hcl hB 0 rfl (.free rfl) rfl rfl (by kernel_rfl) rfl (fun w => (ex_field (b := ⟨g1, 1, none⟩) rfl fd_33_1 rfl rfl)) ?_; clear hF a hcl hB; intro a hF hcl hB
    refine dr_load hF hcl hB 1 rfl (.free rfl) rfl rfl (by kernel_rfl) rfl (by kernel_rfl) (fun w hS => (ex_load_blk 0 rfl pl_22 rfl hS rfl rfl)) ?_; clear hF a hcl hB; intro a hF hcl hB
    refine dr_val hF hcl hB 2 rfl (.free rfl) rfl rfl (by kernel_rfl) rfl (fun w => (ex_move rfl rfl)) ?_; clear hF a hcl hB; intro a hF hcl hB
    refine dr_val hF hcl hB 3 rfl (.free rfl) rfl rfl (by kernel_rfl) rfl (fun w => (ex_index (k := i) rfl sl_22 rfl rfl h.D.slh (by omega) (by omega) (by omega))) ?_; clear hF a hcl hB; intro a hF hcl hB
    refine dr_load hF hcl hB 4 rfl (.free rfl) rfl rfl (by kernel_rfl) rfl (by kernel_rfl) (fun w hS => (ex_load_row (u := .int .i64 (p.D i)) rfl pl_3 rfl (h.D.below hS.below) (by omega) (by omega) rfl)) ?_; clear hF a hcl hB; intro a hF hcl hB
    have hbv := h.iD i
    refine dr_val hF hcl hB 5 rfl (.free rfl) rfl rfl (by kernel_rfl) rfl (fun w => (ex_move rfl rfl)) ?_; clear hF a hcl hB; intro a hF hcl hB
    refine dr_val hF hcl hB 6 rfl (.free rfl) rfl rfl (by kernel_rfl) rfl (fun w => (ex_len rfl sl_22 rfl hv1)) ?_; clear hF a hcl hB; intro a hF hcl hB
    refine dr_val hF hcl hB 7 rfl (.free rfl) rfl rfl (by kernel_rfl) rfl (fun w => (ex_sub (r := p.stock + p.kerf) rfl rfl rfl (by omega) (by unfold I64; omega))) ?_; clear hF a hcl hB; intro a hF hcl hB
    refine dr_val hF hcl hB 8 rfl (.free rfl) rfl rfl (by kernel_rfl) rfl (fun w => (ex_move rfl rfl)) ?_; clear hF a hcl hB; intro a hF hcl hB
    refine dr_val hF hcl hB 9 rfl (.free rfl) rfl rfl (by kernel_rfl) rfl (fun w => (ex_quo (r := (Int.tdiv (p.stock + p.kerf) (p.L i + p.kerf))) rfl rfl rfl (by omega) rfl (by have hq := quo_facts (a := p.stock + p.kerf) (b := p.L i + p.kerf) (by omega) (by omega); unfold I64; omega))) ?_; clear hF a hcl hB; intro a hF hcl hB
    have hq := quo_facts (a := p.stock + p.kerf) (b := p.L i + p.kerf) (by omega) (by omega)
    refine dr_val hF hcl hB 10 rfl (.free rfl) rfl rfl (by kernel_rfl) rfl (fun w => (ex_min (r := (min (p.D i) (Int.tdiv (p.stock + p.kerf) (p.L i + p.kerf)))) rfl rfl rfl rfl)) ?_; clear hF a hcl hB; intro a hF hcl hB
    refine dr_val hF hcl hB 11 rfl (.free rfl) rfl rfl (by kernel_rfl) rfl (fun w => (ex_move rfl rfl)) ?_; clear hF a hcl hB; intro a hF hcl hB
    refine dr_done (by kernel_rfl) ?_; clear hcl hB
    refine then_normal ?_
    refine wp_block ?_
    refine cw_loop (fun mm a w => ∃ (k : Int) (f2 : Int → Int), mm = ((min (p.D i) (Int.tdiv (p.stock + p.kerf) (p.L i + p.kerf)) - k).toNat) ∧ (0 ≤ k) ∧ (k ≤ min (p.D i) (Int.tdiv (p.stock + p.kerf) (p.L i + p.kerf))) ∧ (∀ j, 0 ≤ j → j ≤ p.stock + p.kerf → f2 j = R (Tab p y i.toNat) (p.L i + p.kerf) (y i) k.toNat j) ∧ Fr a 77 [(1, vy), (2, .pointer (some ⟨g1, 0, none⟩)), (4, .int .i64 0), (5, v1), (6, .int .i64 i), (8, .int .i64 (p.L i + p.kerf)), (18, vL), (19, .int .i64 p.m), (20, .int .i64 i), (39, .int .i64 (min (p.D i) (Int.tdiv (p.stock + p.kerf) (p.L i + p.kerf)))), (40, .int .i64 k)] ∧ Sat w0 w [.blk g1 [vL, vD, .int .i64 p.stock, .int .i64 p.kerf], .own v1 1 3 (p.stock + p.kerf + 1) (ints f2)]) ?_ ?_ (m := ((min (p.D i) (Int.tdiv (p.stock + p.kerf) (p.L i + p.kerf)) - 0).toNat))
    ·
     refine ⟨0, f, rfl, (by omega), (by omega), ?_, (hF.pick (hF.pick (hF.pick (hF.pick (hF.pick (hF.pick (hF.pick (hF.pick (hF.pick (hF.pick (hF.pick hF.nil 40 rfl) 39 rfl) 20 rfl) 19 rfl) 18 rfl) 8 rfl) 6 rfl) 5 rfl) 4 rfl) 2 rfl) 1 rfl), hS⟩
     ·
      intro j hj0 hj1; rw [hf j hj0 hj1]; rfl
    ·
     clear hF hS a w
     rintro mm a w ⟨k, f2, rfl, k0, k1, hf2, hF, hS⟩
     refine cw_seq ?_
     refine wp_region_lit ?_
     refine ls_val hF (.free rfl) rfl rfl (ex_lss rfl rfl rfl) ?_; clear hF a; intro a hF
     refine ls_nil ?_
     refine then_normal ?_
     refine cw_seq ?_
     refine cw_if hF rfl (fun hc => ?_) (fun hc => ?_)
     ·
      refine wp_skip ?_
      refine then_normal ?_
      refine cw_seq ?_
      refine wp_block ?_
      refine cw_seq ?_
      refine wp_region_lit ?_
      refine ls_val hF (.free rfl) rfl rfl (ex_move rfl rfl) ?_; clear hF a; intro a hF
      refine ls_val hF (.free rfl) rfl rfl (ex_len rfl sl_22 rfl hv1) ?_; clear hF a; intro a hF
      refine ls_val hF (.free rfl) rfl rfl (ex_sub (r := p.stock + p.kerf) rfl rfl rfl (by omega) (by unfold I64; omega)) ?_; clear hF a; intro a hF
      refine ls_val hF (.free rfl) rfl rfl (ex_assign rfl rfl) ?_; clear hF a; intro a hF
      refine ls_nil ?_
      refine then_normal ?_
      refine wp_block ?_
      refine cw_loop (fun mm a w => ∃ (c : Int) (f3 : Int → Int), mm = ((c - (p.L i + p.kerf) + 1).toNat) ∧ (p.L i + p.kerf - 1 ≤ c) ∧ (c ≤ p.stock + p.kerf) ∧ (∀ j, c < j → j ≤ p.stock + p.kerf → f3 j = R (Tab p y i.toNat) (p.L i + p.kerf) (y i) (k.toNat + 1) j) ∧ (∀ j, 0 ≤ j → j ≤ c → f3 j = R (Tab p y i.toNat) (p.L i + p.kerf) (y i) k.toNat j) ∧ Fr a 77 [(1, vy), (2, .pointer (some ⟨g1, 0, none⟩)), (4, .int .i64 0), (5, v1), (6, .int .i64 i), (8, .int .i64 (p.L i + p.kerf)), (9, .int .i64 c), (18, vL), (19, .int .i64 p.m), (20, .int .i64 i), (39, .int .i64 (min (p.D i) (Int.tdiv (p.stock + p.kerf) (p.L i + p.kerf)))), (40, .int .i64 k)] ∧ Sat w0 w [.blk g1 [vL, vD, .int .i64 p.stock, .int .i64 p.kerf], .own v1 1 3 (p.stock + p.kerf + 1) (ints f3)]) ?_ ?_ (m := (((p.stock + p.kerf) - (p.L i + p.kerf) + 1).toNat))
      ·
       refine ⟨p.stock + p.kerf, f2, rfl, (by omega), (by omega), ?_, ?_, (hF.pick (hF.pick (hF.pick (hF.pick (hF.pick (hF.pick (hF.pick (hF.pick (hF.pick (hF.pick (hF.pick (hF.pick hF.nil 40 rfl) 39 rfl) 20 rfl) 19 rfl) 18 rfl) 9 rfl) 8 rfl) 6 rfl) 5 rfl) 4 rfl) 2 rfl) 1 rfl), hS⟩
       ·
        intro j hj0 hj1; omega
       ·
        intro j hj0 hj1; exact hf2 j hj0 (by omega)
      ·
       clear hF hS a w
       rintro mm a w ⟨c, f3, rfl, c0, c1, ha3, hb3, hF, hS⟩
       refine cw_seq ?_
       refine cw_seq ?_
       refine wp_region_lit ?_
       refine ls_val hF (.free rfl) rfl rfl (ex_move rfl rfl) ?_; clear hF a; intro a hF
       refine ls_val hF (.free rfl) rfl rfl (ex_move rfl rfl) ?_; clear hF a; intro a hF
       refine ls_val hF (.free rfl) rfl rfl (ex_geq rfl rfl rfl) ?_; clear hF a; intro a hF
       refine ls_nil ?_
       refine then_normal ?_
       refine cw_if hF rfl (fun hc => ?_) (fun hc => ?_)
       ·
        refine wp_skip ?_
        refine then_normal ?_
        refine cw_seq ?_
        refine wp_block ?_
        refine dr_sat (m0 := [.blk g1 [vL, vD, .int .i64 p.stock, .int .i64 p.kerf], .own v1 1 3 (p.stock + p.kerf + 1) (ints f3)]) 19 mx_ hS (.cons_cons _ (.cons_cons _ .slnil)) rfl ?_; clear hS; intro w hS hcl hB
        refine dr_val hF hcl hB 0 rfl (.free rfl) rfl rfl (by kernel_rfl) rfl (fun w => (ex_move rfl rfl)) ?_; clear hF a hcl hB; intro a hF hcl hB
        refine dr_val hF hcl hB 1 rfl (.free rfl) rfl rfl (by kernel_rfl) rfl (fun w => (ex_move rfl rfl)) ?_; clear hF a hcl hB; intro a hF hcl hB
        refine dr_val hF hcl hB 2 rfl (.free rfl) rfl rfl (by kernel_rfl) rfl (fun w => (ex_move rfl rfl)) ?_; clear hF a hcl hB; intro a hF hcl hB
        refine dr_val hF hcl hB 3 rfl (.free rfl) rfl rfl (by kernel_rfl) rfl (fun w => (ex_move rfl rfl)) ?_; clear hF a hcl hB; intro a hF hcl hB
        refine dr_val hF hcl hB 4 rfl (.free rfl) rfl rfl (by kernel_rfl) rfl (fun w => (ex_index (k := c) rfl sl_22 rfl rfl hv1 (by omega) (by omega) (by omega))) ?_; clear hF a hcl hB; intro a hF hcl hB
        refine dr_load hF hcl hB 5 rfl (.free rfl) rfl rfl (by kernel_rfl) rfl (by kernel_rfl) (fun w hS => (ex_load_row (u := .int .i64 (f3 c)) rfl pl_3 rfl (hS.rowN 1 rfl) (by omega) (by omega) rfl)) ?_; clear hF a hcl hB; intro a hF hcl hB
        refine dr_val hF hcl hB 6 rfl (.free rfl) rfl rfl (by kernel_rfl) rfl (fun w => (ex_move rfl rfl)) ?_; clear hF a hcl hB; intro a hF hcl hB
        refine dr_val hF hcl hB 7 rfl (.free rfl) rfl rfl (by kernel_rfl) rfl (fun w => (ex_move rfl rfl)) ?_; clear hF a hcl hB; intro a hF hcl hB
        refine dr_val hF hcl hB 8 rfl (.free rfl) rfl rfl (by kernel_rfl) rfl (fun w => (ex_move rfl rfl)) ?_; clear hF a hcl hB; intro a hF hcl hB
        refine dr_val hF hcl hB 9 rfl (.free rfl) rfl rfl (by kernel_rfl) rfl (fun w => (ex_sub (r := c - p.L i - p.kerf) rfl rfl rfl (by omega) (by unfold I64; omega))) ?_; clear hF a hcl hB; intro a hF hcl hB
        refine dr_val hF hcl hB 10 rfl (.free rfl) rfl rfl (by kernel_rfl) rfl (fun w => (ex_index (k := c - p.L i - p.kerf) rfl sl_22 rfl rfl hv1 (by omega) (by omega) (by omega))) ?_; clear hF a hcl hB; intro a hF hcl hB
        refine dr_load hF hcl hB 11 rfl (.free rfl) rfl rfl (by kernel_rfl) rfl (by kernel_rfl) (fun w hS => (ex_load_row (u := .int .i64 (f3 (c - p.L i - p.kerf))) rfl pl_3 rfl (hS.rowN 1 rfl) (by omega) (by omega) rfl)) ?_; clear hF a hcl hB; intro a hF hcl hB
        refine dr_val hF hcl hB 12 rfl (.free rfl) rfl rfl (by kernel_rfl) rfl (fun w => (ex_move rfl rfl)) ?_; clear hF a hcl hB; intro a hF hcl hB
        refine dr_val hF hcl hB 13 rfl (.free rfl) rfl rfl (by kernel_rfl) rfl (fun w => (ex_move rfl rfl)) ?_; clear hF a hcl hB; intro a hF hcl hB
        refine dr_val hF hcl hB 14 rfl (.free rfl) rfl rfl (by kernel_rfl) rfl (fun w => (ex_index (k := i) rfl sl_22 rfl rfl hY.row.slh (by omega) (by omega) (by omega))) ?_; clear hF a hcl hB; intro a hF hcl hB
        refine dr_load hF hcl hB 15 rfl (.free rfl) rfl rfl (by kernel_rfl) rfl (by kernel_rfl) (fun w hS => (ex_load_row (u := .int .i64 (y i)) rfl pl_3 rfl (hY.row.below hS.below) (by omega) (by omega) rfl)) ?_; clear hF a hcl hB; intro a hF hcl hB
        have hbv := hY.i i
        refine dr_val hF hcl hB 16 rfl (.free rfl) rfl rfl (by kernel_rfl) rfl (fun w => (ex_add (r := f3 (c - p.L i - p.kerf) + y i) rfl rfl rfl (by omega) (by have e := hb3 (c - p.L i - p.kerf) (by omega) (by omega); have b := R_tab hp hy h0 (by omega) k.toNat (c := c - p.L i - p.kerf) (by omega); unfold I64; omega))) ?_; clear hF a hcl hB; intro a hF hcl hB
        refine dr_val hF hcl hB 17 rfl (.free rfl) rfl rfl (by kernel_rfl) rfl (fun w => (ex_max (r := (max (f3 c) (f3 (c - p.L i - p.kerf) + y i))) rfl rfl rfl rfl)) ?_; clear hF a hcl hB; intro a hF hcl hB
        refine dr_val hF hcl hB 18 rfl (.free rfl) rfl rfl (by kernel_rfl) rfl (fun w => (ex_index (k := c) rfl sl_22 rfl rfl hv1 (by omega) (by omega) (by omega))) ?_; clear hF a hcl hB; intro a hF hcl hB
        refine dr_effx hF hcl 19 rfl (.free rfl) rfl (by kernel_rfl) (st_own 1 rfl pl_3 hS rfl rfl rfl rfl (by omega) (by omega) (upd_ints _ _ _)) ?_; clear hS hB; rintro w hS hcl
        replace hS : Sat w0 w [.blk g1 [vL, vD, .int .i64 p.stock, .int .i64 p.kerf], .own v1 1 3 (p.stock + p.kerf + 1) (ints (upd f3 c (max (f3 c) (f3 (c - p.L i - p.kerf) + y i))))] := hS
        refine ⟨(fun h => absurd h (by decide)), fun hB => ?_⟩
        refine dr_done (by kernel_rfl) ?_; clear hcl hB
        refine inb_normal ?_
        refine then_normal ?_
        refine wp_region_lit ?_
        refine ls_val hF (.free rfl) rfl rfl (ex_move rfl rfl) ?_; clear hF a; intro a hF
        refine ls_val hF (.free rfl) rfl rfl (ex_sub (r := c - 1) rfl rfl rfl (by omega) (by unfold I64; omega)) ?_; clear hF a; intro a hF
        refine ls_val hF (.free rfl) rfl rfl (ex_assign rfl rfl) ?_; clear hF a; intro a hF
        refine ls_nil ?_
        refine then_normal ?_
        refine ⟨_, (by omega), c - 1, (upd f3 c (max (f3 c) (f3 (c - p.L i - p.kerf) + y i))), rfl, (by omega), (by omega), ?_, ?_, (hF.pick (hF.pick (hF.pick (hF.pick (hF.pick (hF.pick (hF.pick (hF.pick (hF.pick (hF.pick (hF.pick (hF.pick hF.nil 40 rfl) 39 rfl) 20 rfl) 19 rfl) 18 rfl) 9 rfl) 8 rfl) 6 rfl) 5 rfl) 4 rfl) 2 rfl) 1 rfl), hS⟩
        ·
         intro j hj0 hj1; by_cases hj : j = c
         · rw [hj, upd_self]; exact R_round hp y h0 (by omega) (by omega) hb3 rfl
         · rw [upd_ne _ _ hj]; exact ha3 j (by omega) hj1
        ·
         intro j hj0 hj1; rw [upd_ne _ _ (by omega)]; exact hb3 j hj0 (by omega)
       ·
        refine wp_exit ?_
        refine then_exit ?_
        refine then_exit ?_
        refine inb_hit ?_
        refine inb_normal ?_
        refine then_normal ?_
        refine wp_region_lit ?_
        refine ls_val hF (.free rfl) rfl rfl (ex_add (r := k + 1) rfl rfl rfl (by omega) (by unfold I64; omega)) ?_; clear hF a; intro a hF
        refine ls_val hF (.free rfl) rfl rfl (ex_move rfl rfl) ?_; clear hF a; intro a hF
        refine ls_nil ?_
        refine then_normal ?_
        refine ⟨_, (by omega), k + 1, f3, rfl, (by omega), (by omega), ?_, (hF.pick (hF.pick (hF.pick (hF.pick (hF.pick (hF.pick (hF.pick (hF.pick (hF.pick (hF.pick (hF.pick hF.nil 40 rfl) 39 rfl) 20 rfl) 19 rfl) 18 rfl) 8 rfl) 6 rfl) 5 rfl) 4 rfl) 2 rfl) 1 rfl), hS⟩
        ·
         intro j hj0 hj1; have e : (k + 1).toNat = k.toNat + 1 := by omega
         rw [e]; by_cases hj : c < j
         · exact ha3 j hj hj1
         · rw [hb3 j hj0 (by omega)]; exact R_low hp y h0 (by omega) _ hj0 (by omega)
     ·
      refine wp_exit ?_
      refine then_exit ?_
      refine then_exit ?_
      refine inb_hit ?_
      refine inb_normal ?_
      refine then_normal ?_
      refine wp_region_lit ?_
      refine ls_val hF (.free rfl) rfl rfl (ex_add (r := i + 1) rfl rfl rfl (by omega) (by unfold I64; omega)) ?_; clear hF a; intro a hF
      refine ls_val hF (.free rfl) rfl rfl (ex_move rfl rfl) ?_; clear hF a; intro a hF
      refine ls_nil ?_
      refine then_normal ?_
      refine ⟨_, (by omega), i + 1, f2, rfl, (by omega), (by omega), ?_, (hF.pick (hF.pick (hF.pick (hF.pick (hF.pick (hF.pick (hF.pick hF.nil 20 rfl) 19 rfl) 18 rfl) 5 rfl) 4 rfl) 2 rfl) 1 rfl), hS⟩
      ·
       intro j hj0 hj1; rw [hf2 j hj0 hj1]; exact Tab_next hp y h0 (by omega) k0 (by omega) (by omega) hj0 hj1
   ·
    refine wp_exit ?_
    refine then_exit ?_
    refine then_exit ?_
    refine inb_hit ?_
    refine then_normal ?_
    refine cw_seq ?_
    refine wp_region_lit ?_
    refine ls_val hF (.free rfl) rfl rfl (ex_move rfl rfl) ?_; clear hF a; intro a hF
    refine ls_val hF (.free rfl) rfl rfl (ex_move rfl rfl) ?_; clear hF a; intro a hF
    refine ls_val hF (.free rfl) rfl rfl (ex_len rfl sl_22 rfl hv1) ?_; clear hF a; intro a hF
    refine ls_val hF (.free rfl) rfl rfl (ex_sub (r := p.stock + p.kerf) rfl rfl rfl (by omega) (by unfold I64; omega)) ?_; clear hF a; intro a hF
    refine ls_val hF (.free rfl) rfl rfl (ex_index (k := p.stock + p.kerf) rfl sl_22 rfl rfl hv1 (by omega) (by omega) (by omega)) ?_; clear hF a; intro a hF
    refine ls_val hF (.free rfl) rfl rfl (ex_load_row (u := .int .i64 (f (p.stock + p.kerf))) rfl pl_3 rfl (hS.rowN 1 rfl) (by omega) (by omega) rfl) ?_; clear hF a; intro a hF
    refine ls_val hF (.free rfl) rfl rfl (ex_assign rfl rfl) ?_; clear hF a; intro a hF
    refine ls_nil ?_
    refine then_normal ?_
    refine wp_ret ?_
    refine (fin1 hF rfl rfl ⟨_, rfl, ?_⟩)
    obtain rfl : i = p.m := by omega
    exact ⟨congrArg (Value.int .i64) (by rw [hf _ (by omega) (by omega)]; rfl), hS.sub (.cons _ (.cons _ .slnil))⟩

end Go.Proofs.Ytigefiejddmidaa
