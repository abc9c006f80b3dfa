/- The walk of the reference of layer 32: worth. -/
import Derived.Test.YtigefiejddmidaaW1
namespace Go.Proofs.Ytigefiejddmidaa
open Go Go.RowKit Go.Proofs.Gw
set_option linter.unusedVariables false

set_option maxRecDepth 20000 in
theorem c_worth {vL vD vy : Value} {p : Prob} {n : Int} {y : Int → Int} (w0 : World) (h : PAt w0 vL vD p) (hp : p.Ok) (hY : IAt w0 vy n y) (hn : n = p.m) (hy : Priced p y) :
    Calls Try.prog 29 [.agg #[vL, vD, .int .i64 p.stock, .int .i64 p.kerf], vy].toArray w0 fun e w => ∃ v, e = .returned v ∧ v = .int .i64 (Worth p y) ∧ Sat w0 w [] := by
  subst hn; have hm := hp.m1; have hm2 := hp.m2; have hd := hp.d; have hs1 := hp.s1; have hs2 := hp.s2; have hk1 := hp.k1; have hk2 := hp.k2
  refine enterS (vs := [.agg #[vL, vD, .int .i64 p.stock, .int .i64 p.kerf], vy]) Try.func29 rfl Try.ntmps29 rfl ?_
  intro a w hS hF
  refine cw_seq ?_
  refine wp_region_lit ?_
  refine ls_any hF (.free rfl) rfl rfl (ex_box (cs := [vL, vD, .int .i64 p.stock, .int .i64 p.kerf]) rfl hS rfl rfl) ?_; clear hF; rintro _ w ⟨g1, rfl, hS⟩ a hF
  replace hS : Sat w0 w [.blk g1 [vL, vD, .int .i64 p.stock, .int .i64 p.kerf]] := hS
  refine ls_val hF (.free rfl) rfl rfl (ex_assign rfl rfl) ?_; clear hF a; intro a hF
  refine ls_nil ?_
  refine then_normal ?_
  refine cw_seq ?_
  refine wp_region_lit ?_
  refine ls_val hF (.free rfl) rfl rfl (ex_field (b := ⟨g1, 2, none⟩) rfl fd_24_2 rfl rfl) ?_; clear hF a; intro a hF
  refine ls_val hF (.free rfl) rfl rfl (ex_load_blk 0 rfl pl_3 rfl hS rfl rfl) ?_; clear hF a; intro a hF
  refine ls_val hF (.free rfl) rfl rfl (ex_field (b := ⟨g1, 3, none⟩) rfl fd_24_3 rfl rfl) ?_; clear hF a; intro a hF
  refine ls_val hF (.free rfl) rfl rfl (ex_load_blk 0 rfl pl_3 rfl hS rfl rfl) ?_; clear hF a; intro a hF
  refine ls_val hF (.free rfl) rfl rfl (ex_add (r := p.stock + p.kerf) rfl rfl rfl (by omega) (by unfold I64; omega)) ?_; clear hF a; intro a hF
  refine ls_val hF (.free rfl) rfl rfl (ex_assign rfl rfl) ?_; clear hF a; intro a hF
  refine ls_nil ?_
  refine then_normal ?_
  refine cw_seq ?_
  refine wp_region_lit ?_
  refine ls_val hF (.free rfl) rfl rfl (ex_move rfl rfl) ?_; clear hF a; intro a hF
  refine ls_val hF (.free rfl) rfl rfl (ex_add (r := p.stock + p.kerf + 1) rfl rfl rfl (by omega) (by unfold I64; omega)) ?_; clear hF a; intro a hF
  refine ls_any hF (.free rfl) rfl rfl (ex_make rfl sl_22 el_3 rfl rfl hS rfl rfl (by omega) (by omega) (by omega)) ?_; clear hF; rintro v1 w ⟨hS, hv1⟩ a hF
  replace hS : Sat w0 w [.blk g1 [vL, vD, .int .i64 p.stock, .int .i64 p.kerf], .own v1 1 3 (p.stock + p.kerf + 1) (ints (fun _ => 0))] := hS
  refine ls_val hF (.free rfl) rfl rfl (ex_assign rfl rfl) ?_; clear hF a; intro a hF
  refine ls_nil ?_
  refine then_normal ?_
  refine cw_seq ?_
  refine cw_seq ?_
  refine wp_region_lit ?_
  refine ls_val hF (.free rfl) rfl rfl (ex_assign rfl rfl) ?_; clear hF a; intro a hF
  refine ls_nil ?_
  refine then_normal ?_
  refine wp_block ?_
  refine cw_loop (fun mm a w => ∃ (i : Int) (vb : Value) (f : Int → Int), mm = ((p.m - i).toNat) ∧ (0 ≤ i) ∧ (i ≤ p.m) ∧ (∀ j, 0 ≤ j → j ≤ p.stock + p.kerf → f j = Tab p y i.toNat j) ∧ (Slh vb (p.stock + p.kerf + 1)) ∧ Fr a 89 [(1, vy), (2, .pointer (some ⟨g1, 0, none⟩)), (4, .int .i64 0), (5, .int .i64 (p.stock + p.kerf)), (6, vb), (7, .int .i64 i)] ∧ Sat w0 w [.blk g1 [vL, vD, .int .i64 p.stock, .int .i64 p.kerf], .own vb 1 3 (p.stock + p.kerf + 1) (ints f)]) ?_ ?_ (m := ((p.m - 0).toNat))
  ·
   refine ⟨0, v1, (fun _ => 0), rfl, (by omega), (by omega), ?_, ?_, (hF.pick (hF.pick (hF.pick (hF.pick (hF.pick (hF.pick hF.nil 7 rfl) 6 rfl) 5 rfl) 4 rfl) 2 rfl) 1 rfl), hS⟩
   ·
    intro j _ _; rfl
   ·
    exact hv1
  ·
   clear hF hS a w
   rintro mm a w ⟨i, vb, f, rfl, h0, h1, hf, hvb, hF, hS⟩
   refine cw_seq ?_
   refine cw_seq ?_
   refine wp_region_lit ?_
   refine ls_val hF (.free rfl) rfl rfl (ex_move rfl rfl) ?_; clear hF a; intro a hF
   refine ls_val hF (.free rfl) rfl rfl (ex_move rfl rfl) ?_; clear hF a; intro a hF
   refine ls_val hF (.free rfl) rfl rfl (ex_len rfl sl_22 rfl hY.row.slh) ?_; clear hF a; intro a hF
   refine ls_val hF (.free rfl) rfl rfl (ex_lss rfl rfl rfl) ?_; clear hF a; intro a hF
   refine ls_nil ?_
   refine then_normal ?_
   refine cw_if hF rfl (fun hc => ?_) (fun hc => ?_)
   ·
    refine wp_skip ?_
    refine then_normal ?_
    refine cw_seq ?_
    refine wp_block ?_
    refine cw_seq ?_
    refine dr_sat (m0 := [.blk g1 [vL, vD, .int .i64 p.stock, .int .i64 p.kerf], .own vb 1 3 (p.stock + p.kerf + 1) (ints f)]) 1000 mx_ hS (.cons_cons _ (.cons_cons _ .slnil)) rfl ?_; clear hS; intro w hS hcl hB
    refine dr_val hF hcl hB 0 rfl (.free rfl) rfl rfl (by kernel_rfl) rfl (fun w => (ex_field (b := ⟨g1, 0, none⟩) rfl fd_24_0 rfl rfl)) ?_; clear hF a hcl hB; intro a hF hcl hB
    have he := hp.all i (by omega) (by omega); unfold Prob.each at he; have hyi := hy i (by omega) (by omega)
    refine dr_load hF hcl hB 1 rfl (.free rfl) rfl rfl (by kernel_rfl) rfl (by kernel_rfl) (fun w hS => (ex_load_blk 0 rfl pl_22 rfl hS rfl rfl)) ?_; clear hF a hcl hB; intro a hF hcl hB
    refine dr_val hF hcl hB 2 rfl (.free rfl) rfl rfl (by kernel_rfl) rfl (fun w => (ex_move rfl rfl)) ?_; clear hF a hcl hB; intro a hF hcl hB
    refine dr_val hF hcl hB 3 rfl (.free rfl) rfl rfl (by kernel_rfl) rfl (fun w => (ex_index (k := i) rfl sl_22 rfl rfl h.L.slh (by omega) (by omega) (by omega))) ?_; clear hF a hcl hB; intro a hF hcl hB
    refine dr_load hF hcl hB 4 rfl (.free rfl) rfl rfl (by kernel_rfl) rfl (by kernel_rfl) (fun w hS => (ex_load_row (u := .int .i64 (p.L i)) rfl pl_3 rfl (h.L.below hS.below) (by omega) (by omega) rfl)) ?_; clear hF a hcl hB; intro a hF hcl hB
    have hbv := h.iL i
    refine dr_val hF hcl hB 5 rfl (.free rfl) rfl rfl (by kernel_rfl) rfl (fun w => (ex_field (b := ⟨g1, 3, none⟩) rfl fd_24_3 rfl rfl)) ?_; clear hF a hcl hB; intro a hF hcl hB
    refine dr_load hF hcl hB 6 rfl (.free rfl) rfl rfl (by kernel_rfl) rfl (by kernel_rfl) (fun w hS => (ex_load_blk 0 rfl pl_3 rfl hS rfl rfl)) ?_; clear hF a hcl hB; intro a hF hcl hB
    refine dr_val hF hcl hB 7 rfl (.free rfl) rfl rfl (by kernel_rfl) rfl (fun w => (ex_add (r := p.L i + p.kerf) rfl rfl rfl (by omega) (by unfold I64; omega))) ?_; clear hF a hcl hB; intro a hF hcl hB
    refine dr_val hF hcl hB 8 rfl (.free rfl) rfl rfl (by kernel_rfl) rfl (fun w => (ex_assign rfl rfl)) ?_; clear hF a hcl hB; intro a hF hcl hB
    refine dr_done (by kernel_rfl) ?_; clear hcl hB
    refine then_normal ?_
    refine cw_seq ?_
    refine wp_region_lit ?_
    refine ls_any hF (.free rfl) rfl rfl (ex_lit0 (c := ints f) rfl sl_22 hS) ?_; clear hF; rintro v2 w ⟨hS, hv2⟩ a hF
    replace hS : Sat w0 w [.blk g1 [vL, vD, .int .i64 p.stock, .int .i64 p.kerf], .own vb 1 3 (p.stock + p.kerf + 1) (ints f), .own v2 1 3 0 (ints f)] := hS
    refine ls_val hF (.free rfl) rfl rfl (ex_move rfl rfl) ?_; clear hF a; intro a hF
    refine ls_any hF (.free rfl) rfl rfl (ap_own 2 (r := p.stock + p.kerf + 1) (f := ints f) rfl sl_22 el_3 rfl (by decide) hS rfl rfl rfl (hS.rowN 1 rfl) (fun _ _ _ => rfl) (by omega) (by omega) (by omega) (by exact cat_self _ _)) ?_; clear hF; rintro v3 w ⟨hS, hv3⟩ a hF
    replace hS : Sat w0 w [.blk g1 [vL, vD, .int .i64 p.stock, .int .i64 p.kerf], .own vb 1 3 (p.stock + p.kerf + 1) (ints f), .own v3 1 3 (p.stock + p.kerf + 1) (ints f)] := hS
    refine ls_val hF (.free rfl) rfl rfl (ex_assign rfl rfl) ?_; clear hF a; intro a hF
    refine ls_nil ?_
    refine then_normal ?_
    refine cw_seq ?_
    refine cw_seq ?_
    refine wp_region_lit ?_
    refine ls_val hF (.free rfl) rfl rfl (ex_assign rfl rfl) ?_; clear hF a; intro a hF
    refine ls_nil ?_
    refine then_normal ?_
    refine wp_block ?_
    refine cw_loop (fun mm a w => ∃ (nn : Int) (g : Int → Int), mm = ((p.D i + 1 - nn).toNat) ∧ (1 ≤ nn) ∧ (nn - 1 ≤ p.D i) ∧ (∀ j, 0 ≤ j → j ≤ p.stock + p.kerf → g j = R (Tab p y i.toNat) (p.L i + p.kerf) (y i) (nn - 1).toNat j) ∧ Fr a 89 [(1, vy), (2, .pointer (some ⟨g1, 0, none⟩)), (4, .int .i64 0), (5, .int .i64 (p.stock + p.kerf)), (6, vb), (7, .int .i64 i), (8, .int .i64 (p.L i + p.kerf)), (9, v3), (10, .int .i64 nn)] ∧ Sat w0 w [.blk g1 [vL, vD, .int .i64 p.stock, .int .i64 p.kerf], .own vb 1 3 (p.stock + p.kerf + 1) (ints f), .own v3 1 3 (p.stock + p.kerf + 1) (ints g)]) ?_ ?_ (m := ((p.D i + 1 - 1).toNat))
    ·
     refine ⟨1, f, rfl, (by omega), (by omega), ?_, (hF.pick (hF.pick (hF.pick (hF.pick (hF.pick (hF.pick (hF.pick (hF.pick (hF.pick hF.nil 10 rfl) 9 rfl) 8 rfl) 7 rfl) 6 rfl) 5 rfl) 4 rfl) 2 rfl) 1 rfl), hS⟩
     ·
      intro j hj0 hj1; rw [hf j hj0 hj1]; rfl
    ·
     clear hF hS a w
     rintro mm a w ⟨nn, g, rfl, n0, n1, hg, hF, hS⟩
     refine cw_seq ?_
     refine cw_seq ?_
     refine wp_region_lit ?_
     refine ls_val hF (.free rfl) rfl rfl (ex_move rfl rfl) ?_; clear hF a; intro a hF
     refine ls_val hF (.free rfl) rfl rfl (ex_field (b := ⟨g1, 1, none⟩) rfl fd_24_1 rfl rfl) ?_; clear hF a; intro a hF
     refine ls_val hF (.free rfl) rfl rfl (ex_load_blk 0 rfl pl_22 rfl hS rfl rfl) ?_; clear hF a; intro a hF
     refine ls_val hF (.free rfl) rfl rfl (ex_move rfl rfl) ?_; clear hF a; intro a hF
     refine ls_val hF (.free rfl) rfl rfl (ex_index (k := i) rfl sl_22 rfl rfl h.D.slh (by omega) (by omega) (by omega)) ?_; clear hF a; intro a hF
     refine ls_val hF (.free rfl) rfl rfl (ex_load_row (u := .int .i64 (p.D i)) rfl pl_3 rfl (h.D.below hS.below) (by omega) (by omega) rfl) ?_; clear hF a; intro a hF
     have hbv := h.iD i
     refine ls_val hF (.free rfl) rfl rfl (ex_leq rfl rfl rfl) ?_; clear hF a; intro a hF
     refine ls_val hF (.free rfl) rfl rfl (ex_move rfl rfl) ?_; clear hF a; intro a hF
     refine by_slot hF (d := 44) rfl ?_ ?_ <;> clear hF <;> intro hc hF
     ·
      refine ls_val hF (.on rfl rfl rfl rfl rfl) rfl rfl (ex_move rfl rfl) ?_; clear hF a; intro a hF
      refine ls_val hF (.on rfl rfl rfl rfl rfl) rfl rfl (ex_move rfl rfl) ?_; clear hF a; intro a hF
      refine ls_val hF (.on rfl rfl rfl rfl rfl) rfl rfl (ex_mul (r := (nn * (p.L i + p.kerf))) rfl rfl rfl rfl (by have := size_mul hp h0 (by omega : i < p.m) (n := nn) (by omega) (by omega); unfold I64; omega)) ?_; clear hF a; intro a hF
      have hz := size_mul hp h0 (by omega : i < p.m) (n := nn) (by omega) (by omega)
      refine ls_val hF (.on rfl rfl rfl rfl rfl) rfl rfl (ex_move rfl rfl) ?_; clear hF a; intro a hF
      refine ls_val hF (.on rfl rfl rfl rfl rfl) rfl rfl (ex_leq rfl rfl rfl) ?_; clear hF a; intro a hF
      refine ls_val hF (.free rfl) rfl rfl (ex_pick_t rfl rfl rfl) ?_; clear hF a; intro a hF
      refine ls_nil ?_
      refine then_normal ?_
      refine cw_if hF rfl (fun hc => ?_) (fun hc => ?_)
      ·
       refine wp_skip ?_
       refine then_normal ?_
       refine cw_seq ?_
       refine wp_block ?_
       refine cw_seq ?_
       refine wp_region_lit ?_
       refine ls_val hF (.free rfl) rfl rfl (ex_move rfl rfl) ?_; clear hF a; intro a hF
       have hz := size_mul hp h0 (by omega : i < p.m) (n := nn) (by omega) (by omega)
       refine ls_val hF (.free rfl) rfl rfl (ex_move rfl rfl) ?_; clear hF a; intro a hF
       refine ls_val hF (.free rfl) rfl rfl (ex_mul (r := (nn * (p.L i + p.kerf))) rfl rfl rfl rfl (by unfold I64; omega)) ?_; clear hF a; intro a hF
       refine ls_val hF (.free rfl) rfl rfl (ex_assign rfl rfl) ?_; clear hF a; intro a hF
       refine ls_nil ?_
       refine then_normal ?_
       refine wp_block ?_
       refine cw_loop (fun mm a w => ∃ (c : Int) (g3 : Int → Int), mm = ((p.stock + p.kerf + 1 - c).toNat) ∧ (nn * (p.L i + p.kerf) ≤ c) ∧ (c ≤ p.stock + p.kerf + 1) ∧ (∀ j, 0 ≤ j → j < c → g3 j = R (Tab p y i.toNat) (p.L i + p.kerf) (y i) nn.toNat j) ∧ (∀ j, c ≤ j → j ≤ p.stock + p.kerf → g3 j = R (Tab p y i.toNat) (p.L i + p.kerf) (y i) (nn - 1).toNat j) ∧ Fr a 89 [(1, vy), (2, .pointer (some ⟨g1, 0, none⟩)), (4, .int .i64 0), (5, .int .i64 (p.stock + p.kerf)), (6, vb), (7, .int .i64 i), (8, .int .i64 (p.L i + p.kerf)), (9, v3), (10, .int .i64 nn), (11, .int .i64 c)] ∧ Sat w0 w [.blk g1 [vL, vD, .int .i64 p.stock, .int .i64 p.kerf], .own vb 1 3 (p.stock + p.kerf + 1) (ints f), .own v3 1 3 (p.stock + p.kerf + 1) (ints g3)]) ?_ ?_ (m := ((p.stock + p.kerf + 1 - (nn * (p.L i + p.kerf))).toNat))
       ·
        refine ⟨(nn * (p.L i + p.kerf)), g, rfl, (by omega), (by omega), ?_, ?_, (hF.pick (hF.pick (hF.pick (hF.pick (hF.pick (hF.pick (hF.pick (hF.pick (hF.pick (hF.pick hF.nil 11 rfl) 10 rfl) 9 rfl) 8 rfl) 7 rfl) 6 rfl) 5 rfl) 4 rfl) 2 rfl) 1 rfl), hS⟩
        ·
         intro j hj0 hj1; rw [hg j hj0 (by omega)]; exact (R_not _ _ _ n0 hj1).symm
        ·
         intro j hj0 hj1; exact hg j (by omega) hj1
       ·
        clear hF hS a w
        rintro mm a w ⟨c, g3, rfl, c0, c1, ha3, hb3, hF, hS⟩
        refine cw_seq ?_
        refine cw_seq ?_
        refine wp_region_lit ?_
        refine ls_val hF (.free rfl) rfl rfl (ex_move rfl rfl) ?_; clear hF a; intro a hF
        refine ls_val hF (.free rfl) rfl rfl (ex_move rfl rfl) ?_; clear hF a; intro a hF
        refine ls_val hF (.free rfl) rfl rfl (ex_leq rfl rfl rfl) ?_; clear hF a; intro a hF
        refine ls_nil ?_
        refine then_normal ?_
        refine cw_if hF rfl (fun hc => ?_) (fun hc => ?_)
        ·
         refine wp_skip ?_
         refine then_normal ?_
         refine cw_seq ?_
         refine wp_block ?_
         refine dr_sat (m0 := [.blk g1 [vL, vD, .int .i64 p.stock, .int .i64 p.kerf], .own vb 1 3 (p.stock + p.kerf + 1) (ints f), .own v3 1 3 (p.stock + p.kerf + 1) (ints g3)]) 23 mx_ hS (.cons_cons _ (.cons_cons _ (.cons_cons _ .slnil))) rfl ?_; clear hS; intro w hS hcl hB
         refine dr_val hF hcl hB 0 rfl (.free rfl) rfl rfl (by kernel_rfl) rfl (fun w => (ex_move rfl rfl)) ?_; clear hF a hcl hB; intro a hF hcl hB
         have hz2 := price_mul hy h0 (by omega : i < p.m) (n := nn) (by omega) (by omega); have hb2 := Tab_bound hp (by omega) hy i.toNat (by omega) (c - nn * (p.L i + p.kerf)) (by omega); rw [← hf _ (by omega) (by omega)] at hb2
         refine dr_val hF hcl hB 1 rfl (.free rfl) rfl rfl (by kernel_rfl) rfl (fun w => (ex_move rfl rfl)) ?_; clear hF a hcl hB; intro a hF hcl hB
         refine dr_val hF hcl hB 2 rfl (.free rfl) rfl rfl (by kernel_rfl) rfl (fun w => (ex_move rfl rfl)) ?_; clear hF a hcl hB; intro a hF hcl hB
         refine dr_val hF hcl hB 3 rfl (.free rfl) rfl rfl (by kernel_rfl) rfl (fun w => (ex_move rfl rfl)) ?_; clear hF a hcl hB; intro a hF hcl hB
         refine dr_val hF hcl hB 4 rfl (.free rfl) rfl rfl (by kernel_rfl) rfl (fun w => (ex_index (k := c) rfl sl_22 rfl rfl hv3 (by omega) (by omega) (by omega))) ?_; clear hF a hcl hB; intro a hF hcl hB
         refine dr_load hF hcl hB 5 rfl (.free rfl) rfl rfl (by kernel_rfl) rfl (by kernel_rfl) (fun w hS => (ex_load_row (u := .int .i64 (g3 c)) rfl pl_3 rfl (hS.rowN 2 rfl) (by omega) (by omega) rfl)) ?_; clear hF a hcl hB; intro a hF hcl hB
         refine dr_val hF hcl hB 6 rfl (.free rfl) rfl rfl (by kernel_rfl) rfl (fun w => (ex_move rfl rfl)) ?_; clear hF a hcl hB; intro a hF hcl hB
         refine dr_val hF hcl hB 7 rfl (.free rfl) rfl rfl (by kernel_rfl) rfl (fun w => (ex_move rfl rfl)) ?_; clear hF a hcl hB; intro a hF hcl hB
         refine dr_val hF hcl hB 8 rfl (.free rfl) rfl rfl (by kernel_rfl) rfl (fun w => (ex_move rfl rfl)) ?_; clear hF a hcl hB; intro a hF hcl hB
         refine dr_val hF hcl hB 9 rfl (.free rfl) rfl rfl (by kernel_rfl) rfl (fun w => (ex_move rfl rfl)) ?_; clear hF a hcl hB; intro a hF hcl hB
         refine dr_val hF hcl hB 10 rfl (.free rfl) rfl rfl (by kernel_rfl) rfl (fun w => (ex_mul (r := (nn * (p.L i + p.kerf))) rfl rfl rfl rfl (by unfold I64; omega))) ?_; clear hF a hcl hB; intro a hF hcl hB
         refine dr_val hF hcl hB 11 rfl (.free rfl) rfl rfl (by kernel_rfl) rfl (fun w => (ex_sub (r := c - (nn * (p.L i + p.kerf))) rfl rfl rfl (by omega) (by unfold I64; omega))) ?_; clear hF a hcl hB; intro a hF hcl hB
         refine dr_val hF hcl hB 12 rfl (.free rfl) rfl rfl (by kernel_rfl) rfl (fun w => (ex_index (k := c - (nn * (p.L i + p.kerf))) rfl sl_22 rfl rfl hvb (by omega) (by omega) (by omega))) ?_; clear hF a hcl hB; intro a hF hcl hB
         refine dr_load hF hcl hB 13 rfl (.free rfl) rfl rfl (by kernel_rfl) rfl (by kernel_rfl) (fun w hS => (ex_load_row (u := .int .i64 (f (c - (nn * (p.L i + p.kerf))))) rfl pl_3 rfl (hS.rowN 1 rfl) (by omega) (by omega) rfl)) ?_; clear hF a hcl hB; intro a hF hcl hB
         refine dr_val hF hcl hB 14 rfl (.free rfl) rfl rfl (by kernel_rfl) rfl (fun w => (ex_move rfl rfl)) ?_; clear hF a hcl hB; intro a hF hcl hB
         refine dr_val hF hcl hB 15 rfl (.free rfl) rfl rfl (by kernel_rfl) rfl (fun w => (ex_move rfl rfl)) ?_; clear hF a hcl hB; intro a hF hcl hB
         refine dr_val hF hcl hB 16 rfl (.free rfl) rfl rfl (by kernel_rfl) rfl (fun w => (ex_move rfl rfl)) ?_; clear hF a hcl hB; intro a hF hcl hB
         refine dr_val hF hcl hB 17 rfl (.free rfl) rfl rfl (by kernel_rfl) rfl (fun w => (ex_index (k := i) rfl sl_22 rfl rfl hY.row.slh (by omega) (by omega) (by omega))) ?_; clear hF a hcl hB; intro a hF hcl hB
         refine dr_load hF hcl hB 18 rfl (.free rfl) rfl rfl (by kernel_rfl) rfl (by kernel_rfl) (fun w hS => (ex_load_row (u := .int .i64 (y i)) rfl pl_3 rfl (hY.row.below hS.below) (by omega) (by omega) rfl)) ?_; clear hF a hcl hB; intro a hF hcl hB
         have hbv := hY.i i
         refine dr_val hF hcl hB 19 rfl (.free rfl) rfl rfl (by kernel_rfl) rfl (fun w => (ex_mul (r := (nn * (y i))) rfl rfl rfl rfl (by unfold I64; omega))) ?_; clear hF a hcl hB; intro a hF hcl hB
         refine dr_val hF hcl hB 20 rfl (.free rfl) rfl rfl (by kernel_rfl) rfl (fun w => (ex_add (r := f (c - (nn * (p.L i + p.kerf))) + (nn * (y i))) rfl rfl rfl (by omega) (by unfold I64; omega))) ?_; clear hF a hcl hB; intro a hF hcl hB
         refine dr_val hF hcl hB 21 rfl (.free rfl) rfl rfl (by kernel_rfl) rfl (fun w => (ex_max (r := (max (g3 c) (f (c - (nn * (p.L i + p.kerf))) + (nn * (y i))))) rfl rfl rfl rfl)) ?_; clear hF a hcl hB; intro a hF hcl hB
         refine dr_val hF hcl hB 22 rfl (.free rfl) rfl rfl (by kernel_rfl) rfl (fun w => (ex_index (k := c) rfl sl_22 rfl rfl hv3 (by omega) (by omega) (by omega))) ?_; clear hF a hcl hB; intro a hF hcl hB
         refine dr_effx hF hcl 23 rfl (.free rfl) rfl (by kernel_rfl) (st_own 2 rfl pl_3 hS rfl rfl rfl rfl (by omega) (by omega) (upd_ints _ _ _)) ?_; clear hS hB; rintro w hS hcl
         replace hS : Sat w0 w [.blk g1 [vL, vD, .int .i64 p.stock, .int .i64 p.kerf], .own vb 1 3 (p.stock + p.kerf + 1) (ints f), .own v3 1 3 (p.stock + p.kerf + 1) (ints (upd g3 c (max (g3 c) (f (c - (nn * (p.L i + p.kerf))) + (nn * (y i))))))] := hS
         refine ⟨(fun h => absurd h (by decide)), fun hB => ?_⟩
         refine dr_done (by kernel_rfl) ?_; clear hcl hB
         refine inb_normal ?_
         refine then_normal ?_
         refine wp_region_lit ?_
         refine ls_val hF (.free rfl) rfl rfl (ex_move rfl rfl) ?_; clear hF a; intro a hF
         refine ls_val hF (.free rfl) rfl rfl (ex_add (r := c + 1) rfl rfl rfl (by omega) (by unfold I64; omega)) ?_; clear hF a; intro a hF
         refine ls_val hF (.free rfl) rfl rfl (ex_assign rfl rfl) ?_; clear hF a; intro a hF
         refine ls_nil ?_
         refine then_normal ?_
         refine ⟨_, (by omega), c + 1, (upd g3 c (max (g3 c) (f (c - (nn * (p.L i + p.kerf))) + (nn * (y i))))), rfl, (by omega), (by omega), ?_, ?_, (hF.pick (hF.pick (hF.pick (hF.pick (hF.pick (hF.pick (hF.pick (hF.pick (hF.pick (hF.pick hF.nil 11 rfl) 10 rfl) 9 rfl) 8 rfl) 7 rfl) 6 rfl) 5 rfl) 4 rfl) 2 rfl) 1 rfl), hS⟩
         ·
          intro j hj0 hj1; by_cases hj : j = c
          · rw [hj, upd_self, R_at _ _ _ n0 c0, hb3 c (by omega) (by omega), hf _ (by omega) (by omega)]
          · rw [upd_ne _ _ hj]; exact ha3 j hj0 (by omega)
         ·
          intro j hj0 hj1; rw [upd_ne _ _ (by omega)]; exact hb3 j (by omega) hj1
        ·
         refine wp_exit ?_
         refine then_exit ?_
         refine then_exit ?_
         refine inb_hit ?_
         refine inb_normal ?_
         refine then_normal ?_
         refine wp_region_lit ?_
         refine ls_val hF (.free rfl) rfl rfl (ex_move rfl rfl) ?_; clear hF a; intro a hF
         refine ls_val hF (.free rfl) rfl rfl (ex_add (r := nn + 1) rfl rfl rfl (by omega) (by unfold I64; omega)) ?_; clear hF a; intro a hF
         refine ls_val hF (.free rfl) rfl rfl (ex_assign rfl rfl) ?_; clear hF a; intro a hF
         refine ls_nil ?_
         refine then_normal ?_
         refine ⟨_, (by omega), nn + 1, g3, rfl, (by omega), (by omega), ?_, (hF.pick (hF.pick (hF.pick (hF.pick (hF.pick (hF.pick (hF.pick (hF.pick (hF.pick hF.nil 10 rfl) 9 rfl) 8 rfl) 7 rfl) 6 rfl) 5 rfl) 4 rfl) 2 rfl) 1 rfl), hS⟩
         ·
          intro j hj0 hj1; rw [show nn + 1 - 1 = nn by omega]; exact ha3 j hj0 (by omega)
      ·
       refine wp_exit ?_
       refine then_exit ?_
       refine then_exit ?_
       refine inb_hit ?_
       refine then_normal ?_
       refine wp_region_lit ?_
       refine ls_val hF (.free rfl) rfl rfl (ex_move rfl rfl) ?_; clear hF a; intro a hF
       refine ls_val hF (.free rfl) rfl rfl (ex_assign rfl rfl) ?_; clear hF a; intro a hF
       refine ls_nil ?_
       refine inb_normal ?_
       refine then_normal ?_
       refine wp_region_lit ?_
       refine ls_val hF (.free rfl) rfl rfl (ex_move rfl rfl) ?_; clear hF a; intro a hF
       refine ls_val hF (.free rfl) rfl rfl (ex_add (r := i + 1) rfl rfl rfl (by omega) (by unfold I64; omega)) ?_; clear hF a; intro a hF
       refine ls_val hF (.free rfl) rfl rfl (ex_assign rfl rfl) ?_; clear hF a; intro a hF
       refine ls_nil ?_
       refine then_normal ?_
       refine ⟨_, (by omega), i + 1, v3, g, rfl, (by omega), (by omega), ?_, ?_, (hF.pick (hF.pick (hF.pick (hF.pick (hF.pick (hF.pick hF.nil 7 rfl) 6 rfl) 5 rfl) 4 rfl) 2 rfl) 1 rfl), hS.sub (.cons_cons _ (.cons _ (.cons_cons _ .slnil)))⟩
       ·
        intro j hj0 hj1; rw [hg j hj0 hj1]; exact Tab_next2 hp y h0 (by omega) n0 n1 (by omega) hj0 hj1
       ·
        exact hv3
     ·
      refine ls_off hF (.on rfl rfl rfl rfl rfl) rfl rfl ?_; clear hF a; intro a hF
      refine ls_off hF (.on rfl rfl rfl rfl rfl) rfl rfl ?_; clear hF a; intro a hF
      refine ls_off hF (.on rfl rfl rfl rfl rfl) rfl rfl ?_; clear hF a; intro a hF
      refine ls_off hF (.on rfl rfl rfl rfl rfl) rfl rfl ?_; clear hF a; intro a hF
      refine ls_off hF (.on rfl rfl rfl rfl rfl) rfl rfl ?_; clear hF a; intro a hF
      refine ls_val hF (.free rfl) rfl rfl (ex_pick_f rfl rfl rfl) ?_; clear hF a; intro a hF
      refine ls_nil ?_
      refine then_normal ?_
      refine cw_f hF rfl ?_
      refine wp_exit ?_
      refine then_exit ?_
      refine then_exit ?_
      refine inb_hit ?_
      refine then_normal ?_
      refine wp_region_lit ?_
      refine ls_val hF (.free rfl) rfl rfl (ex_move rfl rfl) ?_; clear hF a; intro a hF
      refine ls_val hF (.free rfl) rfl rfl (ex_assign rfl rfl) ?_; clear hF a; intro a hF
      refine ls_nil ?_
      refine inb_normal ?_
      refine then_normal ?_
      refine wp_region_lit ?_
      refine ls_val hF (.free rfl) rfl rfl (ex_move rfl rfl) ?_; clear hF a; intro a hF
      refine ls_val hF (.free rfl) rfl rfl (ex_add (r := i + 1) rfl rfl rfl (by omega) (by unfold I64; omega)) ?_; clear hF a; intro a hF
      refine ls_val hF (.free rfl) rfl rfl (ex_assign rfl rfl) ?_; clear hF a; intro a hF
      refine ls_nil ?_
      refine then_normal ?_
      refine ⟨_, (by omega), i + 1, v3, g, rfl, (by omega), (by omega), ?_, ?_, (hF.pick (hF.pick (hF.pick (hF.pick (hF.pick (hF.pick hF.nil 7 rfl) 6 rfl) 5 rfl) 4 rfl) 2 rfl) 1 rfl), hS.sub (.cons_cons _ (.cons _ (.cons_cons _ .slnil)))⟩
      ·
       intro j hj0 hj1; rw [hg j hj0 hj1]; exact Tab_next2 hp y h0 (by omega) n0 n1 (by omega) hj0 hj1
      ·
       exact hv3
   ·
    refine wp_exit ?_
    refine then_exit ?_
    refine then_exit ?_
    refine inb_hit ?_
    refine then_normal ?_
    refine cw_seq ?_
    refine wp_region_lit ?_
    refine ls_val hF (.free rfl) rfl rfl (ex_move rfl rfl) ?_; clear hF a; intro a hF
    refine ls_val hF (.free rfl) rfl rfl (ex_move rfl rfl) ?_; clear hF a; intro a hF
    refine ls_val hF (.free rfl) rfl rfl (ex_index (k := p.stock + p.kerf) rfl sl_22 rfl rfl hvb (by omega) (by omega) (by omega)) ?_; clear hF a; intro a hF
    refine ls_val hF (.free rfl) rfl rfl (ex_load_row (u := .int .i64 (f (p.stock + p.kerf))) rfl pl_3 rfl (hS.rowN 1 rfl) (by omega) (by omega) rfl) ?_; clear hF a; intro a hF
    refine ls_val hF (.free rfl) rfl rfl (ex_assign rfl rfl) ?_; clear hF a; intro a hF
    refine ls_nil ?_
    refine then_normal ?_
    refine wp_ret ?_
    refine (fin1 hF rfl rfl ⟨_, rfl, ?_⟩)
    obtain rfl : i = p.m := by omega
    exact ⟨congrArg (Value.int .i64) (by rw [hf _ (by omega) (by omega)]; rfl), hS.sub (.cons _ (.cons _ .slnil))⟩

end Go.Proofs.Ytigefiejddmidaa
