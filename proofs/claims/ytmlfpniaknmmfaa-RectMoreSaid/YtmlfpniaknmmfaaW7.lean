/- The walk of Best, of rectbound. -/
import Derived.Test.YtmlfpniaknmmfaaW6
namespace Go.Proofs.Ytmlfpniaknmmfaa
open Go Go.RowKit Go.Proofs.Gw
set_option linter.unusedVariables false

theorem cl_28 : calledT Try.prog 28 = true := by kernel_rfl
theorem el_3 : elemT Try.prog 3 = some (.int .i64 0, 1, 8) := by kernel_rfl
set_option maxRecDepth 20000 in
theorem c_Best {vD : Value} {d : Dem} {s : Sht} (w0 : World) (hD : DAt w0 vD d.n d.W d.H d.N) (hs : (-9223372036854775808 ≤ s.w ∧ s.w ≤ 9223372036854775807) ∧ (-9223372036854775808 ≤ s.h ∧ s.h ≤ 9223372036854775807) ∧ (-9223372036854775808 ≤ s.kf ∧ s.kf ≤ 9223372036854775807)) :
    Calls Try.prog 16 [vD, .int .i64 s.w, .int .i64 s.h, .int .i64 s.kf].toArray w0 fun e w => ∃ v, e = .returned v ∧ ∃ a fa fp fb fq e, v = .tuple #[.int .i64 a, .agg #[.int .i64 fa, .int .i64 fp, .int .i64 fb, .int .i64 fq], .int .i64 e] ∧ BestR d s a (fa, fp) (fb, fq) e ∧ Sat w0 w [] := by
  have hn := hD.row.slh.n0
  refine enterS (vs := [vD, .int .i64 s.w, .int .i64 s.h, .int .i64 s.kf]) Try.func16 rfl Try.ntmps16 rfl ?_
  intro a w hS hF
  refine cw_seq ?_
  refine wp_region_lit ?_
  refine ls_val hF (.free rfl) rfl rfl (ex_assign rfl rfl) ?_; clear hF a; intro a hF
  refine ls_any hF (.free rfl) rfl rfl (ex_alloc (cs := [.int .i64 0, .int .i64 0, .int .i64 0, .int .i64 0]) rfl el_36 hS rfl) ?_; clear hF; rintro _ w ⟨g1, rfl, hS⟩ a hF
  replace hS : Sat w0 w [.blk g1 [.int .i64 0, .int .i64 0, .int .i64 0, .int .i64 0]] := hS
  refine ls_val hF (.free rfl) rfl rfl (ex_assign rfl rfl) ?_; clear hF a; intro a hF
  refine ls_nil ?_
  refine then_normal ?_
  refine cw_seq ?_
  refine cw_seq ?_
  refine wp_region_lit ?_
  refine ls_val hF (.free rfl) rfl rfl (ex_move rfl rfl) ?_; clear hF a; intro a hF
  refine ls_val hF (.free rfl) rfl rfl (ex_move rfl rfl) ?_; clear hF a; intro a hF
  refine ls_val hF (.free rfl) rfl rfl (ex_move rfl rfl) ?_; clear hF a; intro a hF
  refine ls_val hF (.free rfl) rfl rfl (ex_move rfl rfl) ?_; clear hF a; intro a hF
  refine ls_call hF (.free rfl) rfl rfl (ex_call0 rfl rfl cl_23 (args_cons rfl (args_cons rfl (args_cons rfl (args_cons rfl args0))))) (c_check (s := s) w (hD.below hS.below) hs) ?_; clear hF; rintro _ w ⟨e1, rfl, he1, hS'⟩ a hF
  replace hS : Sat w0 w [.blk g1 [.int .i64 0, .int .i64 0, .int .i64 0, .int .i64 0]] := hS.comp hS'; clear hS'
  refine ls_val hF (.free rfl) rfl rfl (ex_assign rfl rfl) ?_; clear hF a; intro a hF
  refine ls_nil ?_
  refine then_normal ?_
  refine cw_seq ?_
  refine wp_region_lit ?_
  refine ls_val hF (.free rfl) rfl rfl (ex_move rfl rfl) ?_; clear hF a; intro a hF
  refine ls_val hF (.free rfl) rfl rfl (ex_neq rfl rfl rfl) ?_; clear hF a; intro a hF
  refine ls_nil ?_
  refine then_normal ?_
  refine cw_if hF rfl (fun hc => ?_) (fun hc => ?_)
  ·
   refine cw_seq ?_
   refine wp_region_lit ?_
   refine ls_val hF (.free rfl) rfl rfl (ex_any (w' := w) (r := .value (.agg #[.int .i64 0, .int .i64 0, .int .i64 0, .int .i64 0])) (by intro _ _ h; cases h) rfl (by kernel_rfl)) ?_; clear hF a; intro a hF
   refine ls_val hF (.free rfl) rfl rfl (ex_move rfl rfl) ?_; clear hF a; intro a hF
   refine ls_val hF (.free rfl) rfl rfl (ex_assign rfl rfl) ?_; clear hF a; intro a hF
   refine ls_effx hF (.free rfl) rfl (st_blks 0 (ds := [.int .i64 0, .int .i64 0, .int .i64 0, .int .i64 0]) rfl st_36 hS rfl rfl rfl rfl (ones_cons rfl (ones_cons rfl (ones_cons rfl (ones_cons rfl ones_nil))))) ?_; clear hS; rintro w hS
   replace hS : Sat w0 w [.blk g1 [.int .i64 0, .int .i64 0, .int .i64 0, .int .i64 0]] := hS
   refine ls_val hF (.free rfl) rfl rfl (ex_assign rfl rfl) ?_; clear hF a; intro a hF
   refine ls_nil ?_
   refine then_normal ?_
   refine wp_ret ?_
   refine then_ret ((fin_tct 0 hF rfl rfl rfl rfl st_36 hS rfl rfl ⟨_, rfl, ?_⟩))
   rcases he1 with ⟨h1, h2⟩ | ⟨h1, h2, h3⟩ | ⟨h1, h2, h3⟩
   · exact ⟨_, _, _, _, _, _, rfl, .inl ⟨h1, rfl, rfl, rfl, h2⟩, hS.sub (.cons _ .slnil)⟩
   · exact ⟨_, _, _, _, _, _, rfl, .inr (.inl ⟨h1, h2, rfl, rfl, rfl, h3⟩), hS.sub (.cons _ .slnil)⟩
   · omega
  ·
   refine wp_skip ?_
   refine then_normal ?_
   refine cw_seq ?_
   refine wp_region_lit ?_
   refine ls_val hF (.free rfl) rfl rfl (ex_assign rfl rfl) ?_; clear hF a; intro a hF
   refine ls_val hF (.free rfl) rfl rfl (ex_assign rfl rfl) ?_; clear hF a; intro a hF
   refine ls_nil ?_
   refine then_normal ?_
   refine cw_seq ?_
   refine cw_seq ?_
   refine wp_region_lit ?_
   refine ls_val hF (.free rfl) rfl rfl (ex_move rfl rfl) ?_; clear hF a; intro a hF
   refine ls_val hF (.free rfl) rfl rfl (ex_len rfl sl_38 rfl hD.row.slh) ?_; clear hF a; intro a hF
   refine ls_val hF (.free rfl) rfl rfl (ex_move rfl rfl) ?_; clear hF a; intro a hF
   refine ls_nil ?_
   refine then_normal ?_
   refine wp_block ?_
   have hk : DOk d s := by rcases he1 with ⟨h1, h2⟩ | ⟨h1, h2, h3⟩ | ⟨h1, h2, h3⟩; omega; exact h1; exact h1
   have hng : ¬ DGreat d s := by rcases he1 with ⟨h1, h2⟩ | ⟨h1, h2, h3⟩ | ⟨h1, h2, h3⟩; omega; omega; exact h2
   have b2 := hk.w1
   have b3 := hk.w2
   have b4 := hk.h1
   have b5 := hk.h2
   have b6 := hk.k1
   have b7 := hk.k2
   have b8 := hk.few
   replace hS := hS.addnil 1 3 (ints (fun _ => 0))
   replace hS : Sat w0 w [.blk g1 [.int .i64 0, .int .i64 0, .int .i64 0, .int .i64 0], .own (.slice none 0 0) 1 3 0 (ints (fun _ => 0))] := hS
   replace hS := hS.addnil 1 3 (ints (fun _ => 0))
   replace hS : Sat w0 w [.blk g1 [.int .i64 0, .int .i64 0, .int .i64 0, .int .i64 0], .own (.slice none 0 0) 1 3 0 (ints (fun _ => 0)), .own (.slice none 0 0) 1 3 0 (ints (fun _ => 0))] := hS
   refine cw_loop (fun mm a w => ∃ (m : Int) (i : Int) (va : Value) (f : Int → Int) (vb : Value) (g : Int → Int), mm = ((d.n - i).toNat) ∧ (0 ≤ i) ∧ (i ≤ d.n) ∧ (0 ≤ m) ∧ (m ≤ i) ∧ (SzInv f m d d.W s.kf i) ∧ (SzInv g m d d.H s.kf i) ∧ (Slh va m) ∧ (Slh vb m) ∧ Fr a 96 [(0, vD), (1, .int .i64 s.w), (2, .int .i64 s.h), (3, .int .i64 s.kf), (8, .int .i64 0), (9, .pointer (some ⟨g1, 0, none⟩)), (10, .int .i64 0), (12, va), (13, vb), (33, vD), (34, .int .i64 d.n), (35, .int .i64 i)] ∧ Sat w0 w [.blk g1 [.int .i64 0, .int .i64 0, .int .i64 0, .int .i64 0], .own va 1 3 m (ints f), .own vb 1 3 m (ints g)]) ?_ ?_ (m := ((d.n - 0).toNat))
   ·
    refine ⟨0, 0, (.slice none 0 0), (fun _ => 0), (.slice none 0 0), (fun _ => 0), rfl, (by omega), (by omega), (by omega), (by omega), ?_, ?_, ?_, ?_, (hF.pick (hF.pick (hF.pick (hF.pick (hF.pick (hF.pick (hF.pick (hF.pick (hF.pick (hF.pick (hF.pick (hF.pick hF.nil 35 rfl) 34 rfl) 33 rfl) 13 rfl) 12 rfl) 10 rfl) 9 rfl) 8 rfl) 3 rfl) 2 rfl) 1 rfl) 0 rfl), hS⟩
    ·
     exact SzInv.start _ _ _ _
    ·
     exact SzInv.start _ _ _ _
    ·
     exact slh_nil
    ·
     exact slh_nil
   ·
    clear hF hS a w
    rintro mm a w ⟨m, i, va, f, vb, g, rfl, h0, h1, hm0, hm1, hw, hv, hva, hvb, hF, hS⟩
    refine cw_seq ?_
    refine wp_region_lit ?_
    refine ls_val hF (.free rfl) rfl rfl (ex_lss rfl rfl rfl) ?_; clear hF a; intro a hF
    refine ls_nil ?_
    refine then_normal ?_
    refine cw_seq ?_
    refine cw_if hF rfl (fun hc => ?_) (fun hc => ?_)
    ·
     refine wp_skip ?_
     refine then_normal ?_
     refine cw_seq ?_
     refine wp_block ?_
     refine cw_seq ?_
     refine wp_region_lit ?_
     refine ls_val hF (.free rfl) rfl rfl (ex_index (k := 3 * i) rfl sl_38 rfl rfl hD.row.slh (by omega) (by omega) (by omega)) ?_; clear hF a; intro a hF
     refine ls_val hF (.free rfl) rfl rfl (ex_loads_row (cs := [.int .i64 (d.W i), .int .i64 (d.H i), .int .i64 (d.N i)]) rfl st_60 rfl (hD.row.below hS.below) (by omega) (by omega) rfl (by omega) (dcells_at d.W d.H d.N (by omega))) ?_; clear hF a; intro a hF
     have hbv := hD.bw i
     have hbv := hD.bh i
     have hbv := hD.bn i
     have hei := hk.all i h0 (by omega); unfold Dem.each at hei
     refine ls_any hF (.free rfl) rfl rfl (ex_alloc (cs := [.int .i64 0, .int .i64 0, .int .i64 0]) rfl el_60 hS rfl) ?_; clear hF; rintro _ w ⟨g2, rfl, hS⟩ a hF
     replace hS : Sat w0 w [.blk g1 [.int .i64 0, .int .i64 0, .int .i64 0, .int .i64 0], .own va 1 3 m (ints f), .own vb 1 3 m (ints g), .blk g2 [.int .i64 0, .int .i64 0, .int .i64 0]] := hS
     refine ls_effx hF (.free rfl) rfl (st_blks 3 (ds := [.int .i64 (d.W i), .int .i64 (d.H i), .int .i64 (d.N i)]) rfl st_60 hS rfl rfl rfl rfl (ones_cons rfl (ones_cons rfl (ones_cons rfl ones_nil)))) ?_; clear hS; rintro w hS
     replace hS : Sat w0 w [.blk g1 [.int .i64 0, .int .i64 0, .int .i64 0, .int .i64 0], .own va 1 3 m (ints f), .own vb 1 3 m (ints g), .blk g2 [.int .i64 (d.W i), .int .i64 (d.H i), .int .i64 (d.N i)]] := hS
     refine ls_nil ?_
     refine then_normal ?_
     refine cw_seq ?_
     refine wp_region_lit ?_
     refine ls_val hF (.free rfl) rfl rfl (ex_field (b := ⟨g2, 2, none⟩) rfl fd_60_2 rfl rfl) ?_; clear hF a; intro a hF
     refine ls_val hF (.free rfl) rfl rfl (ex_load_blk 3 rfl pl_3 rfl hS rfl rfl) ?_; clear hF a; intro a hF
     refine ls_val hF (.free rfl) rfl rfl (ex_gtr rfl rfl rfl) ?_; clear hF a; intro a hF
     refine ls_nil ?_
     refine then_normal ?_
     refine cw_if hF rfl (fun hc => ?_) (fun hc => ?_)
     ·
      refine dr_sat (m0 := [.blk g1 [.int .i64 0, .int .i64 0, .int .i64 0, .int .i64 0], .blk g2 [.int .i64 (d.W i), .int .i64 (d.H i), .int .i64 (d.N i)]]) (m1 := [.blk g1 [.int .i64 0, .int .i64 0, .int .i64 0, .int .i64 0], .blk g2 [.int .i64 (d.W i), .int .i64 (d.H i), .int .i64 (d.N i)]]) 1000 mx_ hS (.cons_cons _ (.cons _ (.cons _ (.cons_cons _ .slnil)))) (.cons_cons _ (.cons _ (.cons _ (.cons_cons _ .slnil)))) rfl ?_; clear hS; intro w hS hcl hB
      refine dr_val hF hcl hB 0 rfl (.free rfl) rfl rfl (by kernel_rfl) rfl (fun w => (ex_move rfl rfl)) ?_; clear hF a hcl hB; intro a hF hcl hB
      refine dr_val hF hcl hB 1 rfl (.free rfl) rfl rfl (by kernel_rfl) rfl (fun w => (ex_field (b := ⟨g2, 0, none⟩) rfl fd_60_0 rfl rfl)) ?_; clear hF a hcl hB; intro a hF hcl hB
      refine dr_loadA hF hcl hB 2 rfl (.free rfl) rfl rfl (by kernel_rfl) rfl (fun w hS => (ex_load_blk 1 rfl pl_3 rfl hS rfl rfl)) ?_; clear hF a hcl hB; intro a hF hcl hB
      refine dr_val hF hcl hB 3 rfl (.free rfl) rfl rfl (by kernel_rfl) rfl (fun w => (ex_move rfl rfl)) ?_; clear hF a hcl hB; intro a hF hcl hB
      refine dr_val hF hcl hB 4 rfl (.free rfl) rfl rfl (by kernel_rfl) rfl (fun w => (ex_add (r := (d.W i) + s.kf) rfl rfl rfl (by omega) (by unfold I64; omega))) ?_; clear hF a hcl hB; intro a hF hcl hB
      refine dr_val hF hcl hB 7 rfl (.free rfl) rfl rfl (by kernel_rfl) rfl (fun w => (ex_move rfl rfl)) ?_; clear hF a hcl hB; intro a hF hcl hB
      refine dr_val hF hcl hB 8 rfl (.free rfl) rfl rfl (by kernel_rfl) rfl (fun w => (ex_field (b := ⟨g2, 1, none⟩) rfl fd_60_1 rfl rfl)) ?_; clear hF a hcl hB; intro a hF hcl hB
      refine dr_loadA hF hcl hB 9 rfl (.free rfl) rfl rfl (by kernel_rfl) rfl (fun w hS => (ex_load_blk 1 rfl pl_3 rfl hS rfl rfl)) ?_; clear hF a hcl hB; intro a hF hcl hB
      refine dr_val hF hcl hB 10 rfl (.free rfl) rfl rfl (by kernel_rfl) rfl (fun w => (ex_move rfl rfl)) ?_; clear hF a hcl hB; intro a hF hcl hB
      refine dr_val hF hcl hB 11 rfl (.free rfl) rfl rfl (by kernel_rfl) rfl (fun w => (ex_add (r := (d.H i) + s.kf) rfl rfl rfl (by omega) (by unfold I64; omega))) ?_; clear hF a hcl hB; intro a hF hcl hB
      refine dr_fork (r := [5, 12]) hcl (by decide) (by kernel_rfl) ((fk_cons ?_ (fk_cons ?_ fk_nil)))
      ·
       refine fk_any hF 5 rfl (.free rfl) rfl rfl (ex_lit (n := 1) (len := 1) (pv := [(0, .int .i64 ((d.W i) + s.kf))]) (cs := [.int .i64 ((d.W i) + s.kf)]) (c := ints (fun _ => (d.W i) + s.kf)) rfl sl_52 el_3 hS (parts_cons rfl parts0) (by kernel_rfl) (by decide) (by decide) rfl rfl (fun k hk => by rcases k with _ | k <;> first | rfl | (exfalso; omega)) (by omega)) ?_; clear hF hB; rintro v1 w ⟨hS, hv1⟩ a hF hcl
       replace hS : Sat w0 w [.blk g1 [.int .i64 0, .int .i64 0, .int .i64 0, .int .i64 0], .own va 1 3 m (ints f), .own vb 1 3 m (ints g), .blk g2 [.int .i64 (d.W i), .int .i64 (d.H i), .int .i64 (d.N i)], .own v1 1 3 1 (ints (fun _ => (d.W i) + s.kf))] := hS
       refine ⟨⟨(fun _ => hS.sub (.cons_cons _ (.cons _ (.cons _ (.cons_cons _ (.cons _ .slnil)))))), hS.sub (.cons_cons _ (.cons _ (.cons _ (.cons_cons _ (.cons _ .slnil)))))⟩, fun hB => ?_⟩
       refine dr_fork (r := [6, 12]) hcl (by decide) (by kernel_rfl) ((fk_cons ?_ (fk_cons ?_ fk_nil)))
       ·
        refine fk_any hF 6 rfl (.free rfl) rfl rfl (ap_own 1 (r := m + 1) (f := ints (snoc f m ((d.W i) + s.kf))) rfl sl_52 el_3 rfl (by decide) hS rfl rfl rfl (hS.rowN 4 rfl) (fun _ _ _ => rfl) (by omega) (by omega) (by omega) (cat_snoc _ _ _)) ?_; clear hF hB; rintro v2 w ⟨hS, hv2⟩ a hF hcl
        replace hS : Sat w0 w [.blk g1 [.int .i64 0, .int .i64 0, .int .i64 0, .int .i64 0], .own v2 1 3 (m + 1) (ints (snoc f m ((d.W i) + s.kf))), .own vb 1 3 m (ints g), .blk g2 [.int .i64 (d.W i), .int .i64 (d.H i), .int .i64 (d.N i)], .own v1 1 3 1 (ints (fun _ => (d.W i) + s.kf))] := hS
        refine ⟨⟨(fun _ => hS.sub (.cons_cons _ (.cons _ (.cons _ (.cons_cons _ (.cons _ .slnil)))))), hS.sub (.cons_cons _ (.cons _ (.cons _ (.cons_cons _ (.cons _ .slnil)))))⟩, fun hB => ?_⟩
        refine dr_any hF hcl 12 rfl (.free rfl) rfl rfl (by kernel_rfl) (ex_lit (n := 1) (len := 1) (pv := [(0, .int .i64 ((d.H i) + s.kf))]) (cs := [.int .i64 ((d.H i) + s.kf)]) (c := ints (fun _ => (d.H i) + s.kf)) rfl sl_52 el_3 hS (parts_cons rfl parts0) (by kernel_rfl) (by decide) (by decide) rfl rfl (fun k hk => by rcases k with _ | k <;> first | rfl | (exfalso; omega)) (by omega)) ?_; clear hF hB; rintro v3 w ⟨hS, hv3⟩ a hF hcl
        replace hS : Sat w0 w [.blk g1 [.int .i64 0, .int .i64 0, .int .i64 0, .int .i64 0], .own v2 1 3 (m + 1) (ints (snoc f m ((d.W i) + s.kf))), .own vb 1 3 m (ints g), .blk g2 [.int .i64 (d.W i), .int .i64 (d.H i), .int .i64 (d.N i)], .own v1 1 3 1 (ints (fun _ => (d.W i) + s.kf)), .own v3 1 3 1 (ints (fun _ => (d.H i) + s.kf))] := hS
        refine ⟨⟨(fun _ => hS.sub (.cons_cons _ (.cons _ (.cons _ (.cons_cons _ (.cons _ (.cons _ .slnil))))))), hS.sub (.cons_cons _ (.cons _ (.cons _ (.cons_cons _ (.cons _ (.cons _ .slnil))))))⟩, fun hB => ?_⟩
        refine dr_any hF hcl 13 rfl (.free rfl) rfl rfl (by kernel_rfl) (ap_own 2 (r := m + 1) (f := ints (snoc g m ((d.H i) + s.kf))) rfl sl_52 el_3 rfl (by decide) hS rfl rfl rfl (hS.rowN 5 rfl) (fun _ _ _ => rfl) (by omega) (by omega) (by omega) (cat_snoc _ _ _)) ?_; clear hF hB; rintro v4 w ⟨hS, hv4⟩ a hF hcl
        replace hS : Sat w0 w [.blk g1 [.int .i64 0, .int .i64 0, .int .i64 0, .int .i64 0], .own v2 1 3 (m + 1) (ints (snoc f m ((d.W i) + s.kf))), .own v4 1 3 (m + 1) (ints (snoc g m ((d.H i) + s.kf))), .blk g2 [.int .i64 (d.W i), .int .i64 (d.H i), .int .i64 (d.N i)], .own v1 1 3 1 (ints (fun _ => (d.W i) + s.kf)), .own v3 1 3 1 (ints (fun _ => (d.H i) + s.kf))] := hS
        refine ⟨⟨(fun _ => hS.sub (.cons_cons _ (.cons _ (.cons _ (.cons_cons _ (.cons _ (.cons _ .slnil))))))), hS.sub (.cons_cons _ (.cons _ (.cons _ (.cons_cons _ (.cons _ (.cons _ .slnil))))))⟩, fun hB => ?_⟩
        refine dr_val hF hcl hB 14 rfl (.free rfl) rfl rfl (by kernel_rfl) rfl (fun w => (ex_assign rfl rfl)) ?_; clear hF a hcl hB; intro a hF hcl hB
        refine dr_val hF hcl hB 15 rfl (.free rfl) rfl rfl (by kernel_rfl) rfl (fun w => (ex_assign rfl rfl)) ?_; clear hF a hcl hB; intro a hF hcl hB
        refine dr_done (by kernel_rfl) ?_; clear hcl hB
        refine inb_normal ?_
        refine then_normal ?_
        refine wp_region_lit ?_
        refine ls_val hF (.free rfl) rfl rfl (ex_add (r := i + 1) rfl rfl rfl (by omega) (by unfold I64; omega)) ?_; clear hF a; intro a hF
        refine ls_val hF (.free rfl) rfl rfl (ex_move rfl rfl) ?_; clear hF a; intro a hF
        refine ls_nil ?_
        refine then_normal ?_
        refine ⟨_, (by omega), m + 1, i + 1, v2, (snoc f m ((d.W i) + s.kf)), v4, (snoc g m ((d.H i) + s.kf)), rfl, (by omega), (by omega), (by omega), (by omega), ?_, ?_, ?_, ?_, (hF.pick (hF.pick (hF.pick (hF.pick (hF.pick (hF.pick (hF.pick (hF.pick (hF.pick (hF.pick (hF.pick (hF.pick hF.nil 35 rfl) 34 rfl) 33 rfl) 13 rfl) 12 rfl) 10 rfl) 9 rfl) 8 rfl) 3 rfl) 2 rfl) 1 rfl) 0 rfl), hS.sub (.cons_cons _ (.cons_cons _ (.cons_cons _ (.cons _ (.cons _ (.cons _ .slnil))))))⟩
        ·
         first | exact hw.more hm0 h0 hc | exact hw.stay hc
        ·
         first | exact hv.more hm0 h0 hc | exact hv.stay hc
        ·
         exact hv2
        ·
         exact hv4
       ·
        refine fk_any hF 12 rfl (.free rfl) rfl rfl (ex_lit (n := 1) (len := 1) (pv := [(0, .int .i64 ((d.H i) + s.kf))]) (cs := [.int .i64 ((d.H i) + s.kf)]) (c := ints (fun _ => (d.H i) + s.kf)) rfl sl_52 el_3 hS (parts_cons rfl parts0) (by kernel_rfl) (by decide) (by decide) rfl rfl (fun k hk => by rcases k with _ | k <;> first | rfl | (exfalso; omega)) (by omega)) ?_; clear hF hB; rintro v2 w ⟨hS, hv2⟩ a hF hcl
        replace hS : Sat w0 w [.blk g1 [.int .i64 0, .int .i64 0, .int .i64 0, .int .i64 0], .own va 1 3 m (ints f), .own vb 1 3 m (ints g), .blk g2 [.int .i64 (d.W i), .int .i64 (d.H i), .int .i64 (d.N i)], .own v1 1 3 1 (ints (fun _ => (d.W i) + s.kf)), .own v2 1 3 1 (ints (fun _ => (d.H i) + s.kf))] := hS
        refine ⟨⟨(fun _ => hS.sub (.cons_cons _ (.cons _ (.cons _ (.cons_cons _ (.cons _ (.cons _ .slnil))))))), hS.sub (.cons_cons _ (.cons _ (.cons _ (.cons_cons _ (.cons _ (.cons _ .slnil))))))⟩, fun hB => ?_⟩
        refine dr_any hF hcl 6 rfl (.free rfl) rfl rfl (by kernel_rfl) (ap_own 1 (r := m + 1) (f := ints (snoc f m ((d.W i) + s.kf))) rfl sl_52 el_3 rfl (by decide) hS rfl rfl rfl (hS.rowN 4 rfl) (fun _ _ _ => rfl) (by omega) (by omega) (by omega) (cat_snoc _ _ _)) ?_; clear hF hB; rintro v3 w ⟨hS, hv3⟩ a hF hcl
        replace hS : Sat w0 w [.blk g1 [.int .i64 0, .int .i64 0, .int .i64 0, .int .i64 0], .own v3 1 3 (m + 1) (ints (snoc f m ((d.W i) + s.kf))), .own vb 1 3 m (ints g), .blk g2 [.int .i64 (d.W i), .int .i64 (d.H i), .int .i64 (d.N i)], .own v1 1 3 1 (ints (fun _ => (d.W i) + s.kf)), .own v2 1 3 1 (ints (fun _ => (d.H i) + s.kf))] := hS
        refine ⟨⟨(fun _ => hS.sub (.cons_cons _ (.cons _ (.cons _ (.cons_cons _ (.cons _ (.cons _ .slnil))))))), hS.sub (.cons_cons _ (.cons _ (.cons _ (.cons_cons _ (.cons _ (.cons _ .slnil))))))⟩, fun hB => ?_⟩
        refine dr_any hF hcl 13 rfl (.free rfl) rfl rfl (by kernel_rfl) (ap_own 2 (r := m + 1) (f := ints (snoc g m ((d.H i) + s.kf))) rfl sl_52 el_3 rfl (by decide) hS rfl rfl rfl (hS.rowN 5 rfl) (fun _ _ _ => rfl) (by omega) (by omega) (by omega) (cat_snoc _ _ _)) ?_; clear hF hB; rintro v4 w ⟨hS, hv4⟩ a hF hcl
        replace hS : Sat w0 w [.blk g1 [.int .i64 0, .int .i64 0, .int .i64 0, .int .i64 0], .own v3 1 3 (m + 1) (ints (snoc f m ((d.W i) + s.kf))), .own v4 1 3 (m + 1) (ints (snoc g m ((d.H i) + s.kf))), .blk g2 [.int .i64 (d.W i), .int .i64 (d.H i), .int .i64 (d.N i)], .own v1 1 3 1 (ints (fun _ => (d.W i) + s.kf)), .own v2 1 3 1 (ints (fun _ => (d.H i) + s.kf))] := hS
        refine ⟨⟨(fun _ => hS.sub (.cons_cons _ (.cons _ (.cons _ (.cons_cons _ (.cons _ (.cons _ .slnil))))))), hS.sub (.cons_cons _ (.cons _ (.cons _ (.cons_cons _ (.cons _ (.cons _ .slnil))))))⟩, fun hB => ?_⟩
        refine dr_val hF hcl hB 14 rfl (.free rfl) rfl rfl (by kernel_rfl) rfl (fun w => (ex_assign rfl rfl)) ?_; clear hF a hcl hB; intro a hF hcl hB
        refine dr_val hF hcl hB 15 rfl (.free rfl) rfl rfl (by kernel_rfl) rfl (fun w => (ex_assign rfl rfl)) ?_; clear hF a hcl hB; intro a hF hcl hB
        refine dr_done (by kernel_rfl) ?_; clear hcl hB
        refine inb_normal ?_
        refine then_normal ?_
        refine wp_region_lit ?_
        refine ls_val hF (.free rfl) rfl rfl (ex_add (r := i + 1) rfl rfl rfl (by omega) (by unfold I64; omega)) ?_; clear hF a; intro a hF
        refine ls_val hF (.free rfl) rfl rfl (ex_move rfl rfl) ?_; clear hF a; intro a hF
        refine ls_nil ?_
        refine then_normal ?_
        refine ⟨_, (by omega), m + 1, i + 1, v3, (snoc f m ((d.W i) + s.kf)), v4, (snoc g m ((d.H i) + s.kf)), rfl, (by omega), (by omega), (by omega), (by omega), ?_, ?_, ?_, ?_, (hF.pick (hF.pick (hF.pick (hF.pick (hF.pick (hF.pick (hF.pick (hF.pick (hF.pick (hF.pick (hF.pick (hF.pick hF.nil 35 rfl) 34 rfl) 33 rfl) 13 rfl) 12 rfl) 10 rfl) 9 rfl) 8 rfl) 3 rfl) 2 rfl) 1 rfl) 0 rfl), hS.sub (.cons_cons _ (.cons_cons _ (.cons_cons _ (.cons _ (.cons _ (.cons _ .slnil))))))⟩
        ·
         first | exact hw.more hm0 h0 hc | exact hw.stay hc
        ·
         first | exact hv.more hm0 h0 hc | exact hv.stay hc
        ·
         exact hv3
        ·
         exact hv4
      ·
       refine fk_any hF 12 rfl (.free rfl) rfl rfl (ex_lit (n := 1) (len := 1) (pv := [(0, .int .i64 ((d.H i) + s.kf))]) (cs := [.int .i64 ((d.H i) + s.kf)]) (c := ints (fun _ => (d.H i) + s.kf)) rfl sl_52 el_3 hS (parts_cons rfl parts0) (by kernel_rfl) (by decide) (by decide) rfl rfl (fun k hk => by rcases k with _ | k <;> first | rfl | (exfalso; omega)) (by omega)) ?_; clear hF hB; rintro v1 w ⟨hS, hv1⟩ a hF hcl
       replace hS : Sat w0 w [.blk g1 [.int .i64 0, .int .i64 0, .int .i64 0, .int .i64 0], .own va 1 3 m (ints f), .own vb 1 3 m (ints g), .blk g2 [.int .i64 (d.W i), .int .i64 (d.H i), .int .i64 (d.N i)], .own v1 1 3 1 (ints (fun _ => (d.H i) + s.kf))] := hS
       refine ⟨⟨(fun _ => hS.sub (.cons_cons _ (.cons _ (.cons _ (.cons_cons _ (.cons _ .slnil)))))), hS.sub (.cons_cons _ (.cons _ (.cons _ (.cons_cons _ (.cons _ .slnil)))))⟩, fun hB => ?_⟩
       refine dr_any hF hcl 5 rfl (.free rfl) rfl rfl (by kernel_rfl) (ex_lit (n := 1) (len := 1) (pv := [(0, .int .i64 ((d.W i) + s.kf))]) (cs := [.int .i64 ((d.W i) + s.kf)]) (c := ints (fun _ => (d.W i) + s.kf)) rfl sl_52 el_3 hS (parts_cons rfl parts0) (by kernel_rfl) (by decide) (by decide) rfl rfl (fun k hk => by rcases k with _ | k <;> first | rfl | (exfalso; omega)) (by omega)) ?_; clear hF hB; rintro v2 w ⟨hS, hv2⟩ a hF hcl
       replace hS : Sat w0 w [.blk g1 [.int .i64 0, .int .i64 0, .int .i64 0, .int .i64 0], .own va 1 3 m (ints f), .own vb 1 3 m (ints g), .blk g2 [.int .i64 (d.W i), .int .i64 (d.H i), .int .i64 (d.N i)], .own v1 1 3 1 (ints (fun _ => (d.H i) + s.kf)), .own v2 1 3 1 (ints (fun _ => (d.W i) + s.kf))] := hS
       refine ⟨⟨(fun _ => hS.sub (.cons_cons _ (.cons _ (.cons _ (.cons_cons _ (.cons _ (.cons _ .slnil))))))), hS.sub (.cons_cons _ (.cons _ (.cons _ (.cons_cons _ (.cons _ (.cons _ .slnil))))))⟩, fun hB => ?_⟩
       refine dr_any hF hcl 6 rfl (.free rfl) rfl rfl (by kernel_rfl) (ap_own 1 (r := m + 1) (f := ints (snoc f m ((d.W i) + s.kf))) rfl sl_52 el_3 rfl (by decide) hS rfl rfl rfl (hS.rowN 5 rfl) (fun _ _ _ => rfl) (by omega) (by omega) (by omega) (cat_snoc _ _ _)) ?_; clear hF hB; rintro v3 w ⟨hS, hv3⟩ a hF hcl
       replace hS : Sat w0 w [.blk g1 [.int .i64 0, .int .i64 0, .int .i64 0, .int .i64 0], .own v3 1 3 (m + 1) (ints (snoc f m ((d.W i) + s.kf))), .own vb 1 3 m (ints g), .blk g2 [.int .i64 (d.W i), .int .i64 (d.H i), .int .i64 (d.N i)], .own v1 1 3 1 (ints (fun _ => (d.H i) + s.kf)), .own v2 1 3 1 (ints (fun _ => (d.W i) + s.kf))] := hS
       refine ⟨⟨(fun _ => hS.sub (.cons_cons _ (.cons _ (.cons _ (.cons_cons _ (.cons _ (.cons _ .slnil))))))), hS.sub (.cons_cons _ (.cons _ (.cons _ (.cons_cons _ (.cons _ (.cons _ .slnil))))))⟩, fun hB => ?_⟩
       refine dr_any hF hcl 13 rfl (.free rfl) rfl rfl (by kernel_rfl) (ap_own 2 (r := m + 1) (f := ints (snoc g m ((d.H i) + s.kf))) rfl sl_52 el_3 rfl (by decide) hS rfl rfl rfl (hS.rowN 4 rfl) (fun _ _ _ => rfl) (by omega) (by omega) (by omega) (cat_snoc _ _ _)) ?_; clear hF hB; rintro v4 w ⟨hS, hv4⟩ a hF hcl
       replace hS : Sat w0 w [.blk g1 [.int .i64 0, .int .i64 0, .int .i64 0, .int .i64 0], .own v3 1 3 (m + 1) (ints (snoc f m ((d.W i) + s.kf))), .own v4 1 3 (m + 1) (ints (snoc g m ((d.H i) + s.kf))), .blk g2 [.int .i64 (d.W i), .int .i64 (d.H i), .int .i64 (d.N i)], .own v1 1 3 1 (ints (fun _ => (d.H i) + s.kf)), .own v2 1 3 1 (ints (fun _ => (d.W i) + s.kf))] := hS
       refine ⟨⟨(fun _ => hS.sub (.cons_cons _ (.cons _ (.cons _ (.cons_cons _ (.cons _ (.cons _ .slnil))))))), hS.sub (.cons_cons _ (.cons _ (.cons _ (.cons_cons _ (.cons _ (.cons _ .slnil))))))⟩, fun hB => ?_⟩
       refine dr_val hF hcl hB 14 rfl (.free rfl) rfl rfl (by kernel_rfl) rfl (fun w => (ex_assign rfl rfl)) ?_; clear hF a hcl hB; intro a hF hcl hB
       refine dr_val hF hcl hB 15 rfl (.free rfl) rfl rfl (by kernel_rfl) rfl (fun w => (ex_assign rfl rfl)) ?_; clear hF a hcl hB; intro a hF hcl hB
       refine dr_done (by kernel_rfl) ?_; clear hcl hB
       refine inb_normal ?_
       refine then_normal ?_
       refine wp_region_lit ?_
       refine ls_val hF (.free rfl) rfl rfl (ex_add (r := i + 1) rfl rfl rfl (by omega) (by unfold I64; omega)) ?_; clear hF a; intro a hF
       refine ls_val hF (.free rfl) rfl rfl (ex_move rfl rfl) ?_; clear hF a; intro a hF
       refine ls_nil ?_
       refine then_normal ?_
       refine ⟨_, (by omega), m + 1, i + 1, v3, (snoc f m ((d.W i) + s.kf)), v4, (snoc g m ((d.H i) + s.kf)), rfl, (by omega), (by omega), (by omega), (by omega), ?_, ?_, ?_, ?_, (hF.pick (hF.pick (hF.pick (hF.pick (hF.pick (hF.pick (hF.pick (hF.pick (hF.pick (hF.pick (hF.pick (hF.pick hF.nil 35 rfl) 34 rfl) 33 rfl) 13 rfl) 12 rfl) 10 rfl) 9 rfl) 8 rfl) 3 rfl) 2 rfl) 1 rfl) 0 rfl), hS.sub (.cons_cons _ (.cons_cons _ (.cons_cons _ (.cons _ (.cons _ (.cons _ .slnil))))))⟩
       ·
        first | exact hw.more hm0 h0 hc | exact hw.stay hc
       ·
        first | exact hv.more hm0 h0 hc | exact hv.stay hc
       ·
        exact hv3
       ·
        exact hv4
     ·
      refine wp_skip ?_
      refine inb_normal ?_
      refine then_normal ?_
      refine wp_region_lit ?_
      refine ls_val hF (.free rfl) rfl rfl (ex_add (r := i + 1) rfl rfl rfl (by omega) (by unfold I64; omega)) ?_; clear hF a; intro a hF
      refine ls_val hF (.free rfl) rfl rfl (ex_move rfl rfl) ?_; clear hF a; intro a hF
      refine ls_nil ?_
      refine then_normal ?_
      refine ⟨_, (by omega), m, i + 1, va, f, vb, g, rfl, (by omega), (by omega), (by omega), (by omega), ?_, ?_, ?_, ?_, (hF.pick (hF.pick (hF.pick (hF.pick (hF.pick (hF.pick (hF.pick (hF.pick (hF.pick (hF.pick (hF.pick (hF.pick hF.nil 35 rfl) 34 rfl) 33 rfl) 13 rfl) 12 rfl) 10 rfl) 9 rfl) 8 rfl) 3 rfl) 2 rfl) 1 rfl) 0 rfl), hS.sub (.cons_cons _ (.cons_cons _ (.cons_cons _ (.cons _ .slnil))))⟩
      ·
       first | exact hw.more hm0 h0 hc | exact hw.stay hc
      ·
       first | exact hv.more hm0 h0 hc | exact hv.stay hc
      ·
       exact hva
      ·
       exact hvb
    ·
     refine wp_exit ?_
     refine then_exit ?_
     refine then_exit ?_
     refine inb_hit ?_
     refine then_normal ?_
     refine cw_seq ?_
     refine wp_region_lit ?_
     refine ls_val hF (.free rfl) rfl rfl (ex_any (w' := w) (r := .value (.agg #[.int .i64 0, .int .i64 0, .int .i64 0, .int .i64 0])) (by intro _ _ h; cases h) rfl (by kernel_rfl)) ?_; clear hF a; intro a hF
     refine ls_any hF (.free rfl) rfl rfl (ex_alloc (cs := [.int .i64 0, .int .i64 0, .int .i64 0, .int .i64 0]) rfl el_36 hS rfl) ?_; clear hF; rintro _ w ⟨g3, rfl, hS⟩ a hF
     replace hS : Sat w0 w [.blk g1 [.int .i64 0, .int .i64 0, .int .i64 0, .int .i64 0], .own va 1 3 m (ints f), .own vb 1 3 m (ints g), .blk g3 [.int .i64 0, .int .i64 0, .int .i64 0, .int .i64 0]] := hS
     refine ls_val hF (.free rfl) rfl rfl (ex_assign rfl rfl) ?_; clear hF a; intro a hF
     refine ls_effx hF (.free rfl) rfl (st_blks 3 (ds := [.int .i64 0, .int .i64 0, .int .i64 0, .int .i64 0]) rfl st_36 hS rfl rfl rfl rfl (ones_cons rfl (ones_cons rfl (ones_cons rfl (ones_cons rfl ones_nil))))) ?_; clear hS; rintro w hS
     replace hS : Sat w0 w [.blk g1 [.int .i64 0, .int .i64 0, .int .i64 0, .int .i64 0], .own va 1 3 m (ints f), .own vb 1 3 m (ints g), .blk g3 [.int .i64 0, .int .i64 0, .int .i64 0, .int .i64 0]] := hS
     refine ls_nil ?_
     refine then_normal ?_
     refine cw_seq ?_
     refine cw_seq ?_
     refine wp_region_lit ?_
     refine ls_val hF (.free rfl) rfl rfl (ex_move rfl rfl) ?_; clear hF a; intro a hF
     refine ls_val hF (.free rfl) rfl rfl (ex_move rfl rfl) ?_; clear hF a; intro a hF
     refine ls_val hF (.free rfl) rfl rfl (ex_move rfl rfl) ?_; clear hF a; intro a hF
     refine ls_val hF (.free rfl) rfl rfl (ex_add (r := s.w + s.kf) rfl rfl rfl (by omega) (by unfold I64; omega)) ?_; clear hF a; intro a hF
     have hpk1 := hS.pack (l1 := [.blk g1 [.int .i64 0, .int .i64 0, .int .i64 0, .int .i64 0]]) (l2 := [.own vb 1 3 m (ints g), .blk g3 [.int .i64 0, .int .i64 0, .int .i64 0, .int .i64 0]])
     refine ls_call hF (.free rfl) rfl rfl (ex_call0 rfl rfl cl_28 (args_cons rfl (args_cons rfl args0))) (c_cand (n := m) (c := (s.w + s.kf)) (f := f) w0 w hpk1.1 hva (by omega) (by omega) (by omega)) ?_; clear hF; rintro vrk1 w ⟨_, mk1, Kk1, Ak1, gk1, rfl, hslk1, hclk1, hflk1, hmlk1, hkpk1, hS⟩ a hF
     replace hS := Sat.unpack (l1 := [.blk g1 [.int .i64 0, .int .i64 0, .int .i64 0, .int .i64 0]]) (l2 := [.own vb 1 3 m (ints g), .blk g3 [.int .i64 0, .int .i64 0, .int .i64 0, .int .i64 0]]) hS hpk1.2
     replace hS : Sat w0 w [.blk g1 [.int .i64 0, .int .i64 0, .int .i64 0, .int .i64 0], .own va 1 3 m (ints gk1), .own vb 1 3 m (ints g), .blk g3 [.int .i64 0, .int .i64 0, .int .i64 0, .int .i64 0], .own vrk1 2 34 mk1 (fcells Kk1 Ak1)] := hS
     obtain rfl : i = d.n := by omega
     have hsA := hw.cand (s.w + s.kf)
     have hcA : CandL (WSet d d.W s.kf (s.w + s.kf)) (LA d s) := by have hq := hclk1; rw [hsA] at hq; exact hq
     have hfA : FL (LA d s) mk1 Kk1 Ak1 := by have hq := hflk1; rw [hsA] at hq; exact hq
     have hlA := hfA.len; have hlA6 := hcA.len.1
     refine ls_val hF (.free rfl) rfl rfl (ex_len rfl sl_76 rfl hslk1) ?_; clear hF a; intro a hF
     refine ls_val hF (.free rfl) rfl rfl (ex_move rfl rfl) ?_; clear hF a; intro a hF
     refine ls_nil ?_
     refine then_normal ?_
     refine wp_block ?_
     refine cw_loop (fun mm a w => ∃ (best : Int) (fa : Int) (fp : Int) (fb : Int) (fq : Int) (i : Int) (gh : Int → Int), mm = ((mk1 - i).toNat) ∧ (0 ≤ i) ∧ (i ≤ mk1) ∧ (Kept g gh m) ∧ (1 ≤ i → CandL (WSet d d.H s.kf (s.h + s.kf)) (LB d s)) ∧ (Best1 (VV d s) (LA d s) (LB d s) i 0 best (fa, fp) (fb, fq)) ∧ Fr a 96 [(0, vD), (1, .int .i64 s.w), (2, .int .i64 s.h), (3, .int .i64 s.kf), (8, .int .i64 0), (9, .pointer (some ⟨g1, 0, none⟩)), (10, .int .i64 0), (13, vb), (16, .int .i64 best), (17, .pointer (some ⟨g3, 0, none⟩)), (62, vrk1), (63, .int .i64 mk1), (64, .int .i64 i)] ∧ Sat w0 w [.blk g1 [.int .i64 0, .int .i64 0, .int .i64 0, .int .i64 0], .own va 1 3 m (ints gk1), .own vb 1 3 m (ints gh), .blk g3 [.int .i64 fa, .int .i64 fp, .int .i64 fb, .int .i64 fq], .own vrk1 2 34 mk1 (fcells Kk1 Ak1)]) ?_ ?_ (m := ((mk1 - 0).toNat))
     ·
      refine ⟨(-1), 0, 0, 0, 0, 0, g, rfl, (by omega), (by omega), ?_, ?_, ?_, (hF.pick (hF.pick (hF.pick (hF.pick (hF.pick (hF.pick (hF.pick (hF.pick (hF.pick (hF.pick (hF.pick (hF.pick (hF.pick hF.nil 64 rfl) 63 rfl) 62 rfl) 17 rfl) 16 rfl) 13 rfl) 10 rfl) 9 rfl) 8 rfl) 3 rfl) 2 rfl) 1 rfl) 0 rfl), hS⟩
      ·
       exact Kept.refl _ _
      ·
       intro hh; omega
      ·
       exact .inl ⟨rfl, rfl, .inl rfl⟩
     ·
      clear hF hS a w
      rintro mm a w ⟨best, fa, fp, fb, fq, i, gh, rfl, h0, h1, hkp, hcBi, hb, hF, hS⟩
      refine cw_seq ?_
      refine wp_region_lit ?_
      refine ls_val hF (.free rfl) rfl rfl (ex_lss rfl rfl rfl) ?_; clear hF a; intro a hF
      refine ls_nil ?_
      refine then_normal ?_
      refine cw_seq ?_
      refine cw_if hF rfl (fun hc => ?_) (fun hc => ?_)
      ·
       refine wp_skip ?_
       refine then_normal ?_
       refine cw_seq ?_
       refine wp_block ?_
       refine cw_seq ?_
       refine wp_region_lit ?_
       refine ls_val hF (.free rfl) rfl rfl (ex_index (k := 2 * i) rfl sl_76 rfl rfl hslk1 (by omega) (by omega) (by omega)) ?_; clear hF a; intro a hF
       refine ls_val hF (.free rfl) rfl rfl (ex_loads_row (cs := [.int .i64 (Kk1 i), .int .i64 (Ak1 i)]) rfl st_34 rfl (hS.rowN 4 rfl) (by omega) (by omega) rfl (by omega) (fcells_at Kk1 Ak1 (by omega))) ?_; clear hF a; intro a hF
       refine ls_any hF (.free rfl) rfl rfl (ex_alloc (cs := [.int .i64 0, .int .i64 0]) rfl el_34 hS rfl) ?_; clear hF; rintro _ w ⟨g4, rfl, hS⟩ a hF
       replace hS : Sat w0 w [.blk g1 [.int .i64 0, .int .i64 0, .int .i64 0, .int .i64 0], .own va 1 3 m (ints gk1), .own vb 1 3 m (ints gh), .blk g3 [.int .i64 fa, .int .i64 fp, .int .i64 fb, .int .i64 fq], .own vrk1 2 34 mk1 (fcells Kk1 Ak1), .blk g4 [.int .i64 0, .int .i64 0]] := hS
       refine ls_effx hF (.free rfl) rfl (st_blks 5 (ds := [.int .i64 (Kk1 i), .int .i64 (Ak1 i)]) rfl st_34 hS rfl rfl rfl rfl (ones_cons rfl (ones_cons rfl ones_nil))) ?_; clear hS; rintro w hS
       replace hS : Sat w0 w [.blk g1 [.int .i64 0, .int .i64 0, .int .i64 0, .int .i64 0], .own va 1 3 m (ints gk1), .own vb 1 3 m (ints gh), .blk g3 [.int .i64 fa, .int .i64 fp, .int .i64 fb, .int .i64 fq], .own vrk1 2 34 mk1 (fcells Kk1 Ak1), .blk g4 [.int .i64 (Kk1 i), .int .i64 (Ak1 i)]] := hS
       refine ls_nil ?_
       refine then_normal ?_
       refine cw_seq ?_
       refine wp_region_lit ?_
       refine ls_val hF (.free rfl) rfl rfl (ex_move rfl rfl) ?_; clear hF a; intro a hF
       refine ls_val hF (.free rfl) rfl rfl (ex_move rfl rfl) ?_; clear hF a; intro a hF
       refine ls_val hF (.free rfl) rfl rfl (ex_move rfl rfl) ?_; clear hF a; intro a hF
       refine ls_val hF (.free rfl) rfl rfl (ex_add (r := s.h + s.kf) rfl rfl rfl (by omega) (by unfold I64; omega)) ?_; clear hF a; intro a hF
       have hpk2 := hS.pack (l1 := [.blk g1 [.int .i64 0, .int .i64 0, .int .i64 0, .int .i64 0], .own va 1 3 m (ints gk1)]) (l2 := [.blk g3 [.int .i64 fa, .int .i64 fp, .int .i64 fb, .int .i64 fq], .own vrk1 2 34 mk1 (fcells Kk1 Ak1), .blk g4 [.int .i64 (Kk1 i), .int .i64 (Ak1 i)]])
       refine ls_call hF (.free rfl) rfl rfl (ex_call0 rfl rfl cl_28 (args_cons rfl (args_cons rfl args0))) (c_cand (n := m) (c := (s.h + s.kf)) (f := gh) w0 w hpk2.1 hvb (by omega) (by omega) (by omega)) ?_; clear hF; rintro vrk2 w ⟨_, mk2, Kk2, Ak2, gk2, rfl, hslk2, hclk2, hflk2, hmlk2, hkpk2, hS⟩ a hF
       replace hS := Sat.unpack (l1 := [.blk g1 [.int .i64 0, .int .i64 0, .int .i64 0, .int .i64 0], .own va 1 3 m (ints gk1)]) (l2 := [.blk g3 [.int .i64 fa, .int .i64 fp, .int .i64 fb, .int .i64 fq], .own vrk1 2 34 mk1 (fcells Kk1 Ak1), .blk g4 [.int .i64 (Kk1 i), .int .i64 (Ak1 i)]]) hS hpk2.2
       replace hS : Sat w0 w [.blk g1 [.int .i64 0, .int .i64 0, .int .i64 0, .int .i64 0], .own va 1 3 m (ints gk1), .own vb 1 3 m (ints gk2), .blk g3 [.int .i64 fa, .int .i64 fp, .int .i64 fb, .int .i64 fq], .own vrk1 2 34 mk1 (fcells Kk1 Ak1), .blk g4 [.int .i64 (Kk1 i), .int .i64 (Ak1 i)], .own vrk2 2 34 mk2 (fcells Kk2 Ak2)] := hS
       have hsB : CandR gh m (s.h + s.kf) = WSet d d.H s.kf (s.h + s.kf) := ((hkp.cand _).trans (hv.cand _))
       have hcB : CandL (WSet d d.H s.kf (s.h + s.kf)) (LB d s) := by have hq := hclk2; rw [hsB] at hq; exact hq
       have hfB : FL (LB d s) mk2 Kk2 Ak2 := by have hq := hflk2; rw [hsB] at hq; exact hq
       have hlB := hfB.len; have hlB6 := hcB.len.1
       refine ls_val hF (.free rfl) rfl rfl (ex_len rfl sl_76 rfl hslk2) ?_; clear hF a; intro a hF
       refine ls_val hF (.free rfl) rfl rfl (ex_move rfl rfl) ?_; clear hF a; intro a hF
       refine ls_nil ?_
       refine then_normal ?_
       refine wp_block ?_
       refine cw_loop (fun mm a w => ∃ (best : Int) (fa : Int) (fp : Int) (fb : Int) (fq : Int) (j : Int), mm = ((mk2 - j).toNat) ∧ (0 ≤ j) ∧ (j ≤ mk2) ∧ (Best1 (VV d s) (LA d s) (LB d s) i j best (fa, fp) (fb, fq)) ∧ Fr a 96 [(0, vD), (1, .int .i64 s.w), (2, .int .i64 s.h), (3, .int .i64 s.kf), (8, .int .i64 0), (9, .pointer (some ⟨g1, 0, none⟩)), (10, .int .i64 0), (13, vb), (16, .int .i64 best), (17, .pointer (some ⟨g3, 0, none⟩)), (19, .pointer (some ⟨g4, 0, none⟩)), (62, vrk1), (63, .int .i64 mk1), (64, .int .i64 i), (72, vrk2), (73, .int .i64 mk2), (74, .int .i64 j)] ∧ Sat w0 w [.blk g1 [.int .i64 0, .int .i64 0, .int .i64 0, .int .i64 0], .own va 1 3 m (ints gk1), .own vb 1 3 m (ints gk2), .blk g3 [.int .i64 fa, .int .i64 fp, .int .i64 fb, .int .i64 fq], .own vrk1 2 34 mk1 (fcells Kk1 Ak1), .blk g4 [.int .i64 (Kk1 i), .int .i64 (Ak1 i)], .own vrk2 2 34 mk2 (fcells Kk2 Ak2)]) ?_ ?_ (m := ((mk2 - 0).toNat))
       ·
        refine ⟨best, fa, fp, fb, fq, 0, rfl, (by omega), (by omega), ?_, (hF.pick (hF.pick (hF.pick (hF.pick (hF.pick (hF.pick (hF.pick (hF.pick (hF.pick (hF.pick (hF.pick (hF.pick (hF.pick (hF.pick (hF.pick (hF.pick (hF.pick hF.nil 74 rfl) 73 rfl) 72 rfl) 64 rfl) 63 rfl) 62 rfl) 19 rfl) 17 rfl) 16 rfl) 13 rfl) 10 rfl) 9 rfl) 8 rfl) 3 rfl) 2 rfl) 1 rfl) 0 rfl), hS⟩
        ·
         exact hb
       ·
        clear hF hS a w
        rintro mm a w ⟨best, fa, fp, fb, fq, j, rfl, j0, j1, hb, hF, hS⟩
        refine cw_seq ?_
        refine wp_region_lit ?_
        refine ls_val hF (.free rfl) rfl rfl (ex_lss rfl rfl rfl) ?_; clear hF a; intro a hF
        refine ls_nil ?_
        refine then_normal ?_
        refine cw_seq ?_
        refine cw_if hF rfl (fun hc => ?_) (fun hc => ?_)
        ·
         refine wp_skip ?_
         refine then_normal ?_
         refine cw_seq ?_
         refine wp_block ?_
         refine cw_seq ?_
         refine wp_region_lit ?_
         refine ls_val hF (.free rfl) rfl rfl (ex_index (k := 2 * j) rfl sl_76 rfl rfl hslk2 (by omega) (by omega) (by omega)) ?_; clear hF a; intro a hF
         refine ls_val hF (.free rfl) rfl rfl (ex_loads_row (cs := [.int .i64 (Kk2 j), .int .i64 (Ak2 j)]) rfl st_34 rfl (hS.rowN 6 rfl) (by omega) (by omega) rfl (by omega) (fcells_at Kk2 Ak2 (by omega))) ?_; clear hF a; intro a hF
         refine ls_any hF (.free rfl) rfl rfl (ex_alloc (cs := [.int .i64 0, .int .i64 0]) rfl el_34 hS rfl) ?_; clear hF; rintro _ w ⟨g5, rfl, hS⟩ a hF
         replace hS : Sat w0 w [.blk g1 [.int .i64 0, .int .i64 0, .int .i64 0, .int .i64 0], .own va 1 3 m (ints gk1), .own vb 1 3 m (ints gk2), .blk g3 [.int .i64 fa, .int .i64 fp, .int .i64 fb, .int .i64 fq], .own vrk1 2 34 mk1 (fcells Kk1 Ak1), .blk g4 [.int .i64 (Kk1 i), .int .i64 (Ak1 i)], .own vrk2 2 34 mk2 (fcells Kk2 Ak2), .blk g5 [.int .i64 0, .int .i64 0]] := hS
         refine ls_effx hF (.free rfl) rfl (st_blks 7 (ds := [.int .i64 (Kk2 j), .int .i64 (Ak2 j)]) rfl st_34 hS rfl rfl rfl rfl (ones_cons rfl (ones_cons rfl ones_nil))) ?_; clear hS; rintro w hS
         replace hS : Sat w0 w [.blk g1 [.int .i64 0, .int .i64 0, .int .i64 0, .int .i64 0], .own va 1 3 m (ints gk1), .own vb 1 3 m (ints gk2), .blk g3 [.int .i64 fa, .int .i64 fp, .int .i64 fb, .int .i64 fq], .own vrk1 2 34 mk1 (fcells Kk1 Ak1), .blk g4 [.int .i64 (Kk1 i), .int .i64 (Ak1 i)], .own vrk2 2 34 mk2 (fcells Kk2 Ak2), .blk g5 [.int .i64 (Kk2 j), .int .i64 (Ak2 j)]] := hS
         refine ls_nil ?_
         refine then_normal ?_
         refine cw_seq ?_
         refine wp_region_lit ?_
         refine ls_val hF (.free rfl) rfl rfl (ex_loads_blk 5 rfl st_34 rfl hS rfl rfl) ?_; clear hF a; intro a hF
         refine ls_val hF (.free rfl) rfl rfl (ex_loads_blk 7 rfl st_34 rfl hS rfl rfl) ?_; clear hF a; intro a hF
         refine ls_val hF (.free rfl) rfl rfl (ex_any (w' := w) (r := .value (.agg #[.int .i64 (Kk1 i), .int .i64 (Ak1 i), .int .i64 (Kk2 j), .int .i64 (Ak2 j)])) (by intro _ _ h; cases h) rfl (by kernel_rfl)) ?_; clear hF a; intro a hF
         refine ls_any hF (.free rfl) rfl rfl (ex_alloc (cs := [.int .i64 0, .int .i64 0, .int .i64 0, .int .i64 0]) rfl el_36 hS rfl) ?_; clear hF; rintro _ w ⟨g6, rfl, hS⟩ a hF
         replace hS : Sat w0 w [.blk g1 [.int .i64 0, .int .i64 0, .int .i64 0, .int .i64 0], .own va 1 3 m (ints gk1), .own vb 1 3 m (ints gk2), .blk g3 [.int .i64 fa, .int .i64 fp, .int .i64 fb, .int .i64 fq], .own vrk1 2 34 mk1 (fcells Kk1 Ak1), .blk g4 [.int .i64 (Kk1 i), .int .i64 (Ak1 i)], .own vrk2 2 34 mk2 (fcells Kk2 Ak2), .blk g5 [.int .i64 (Kk2 j), .int .i64 (Ak2 j)], .blk g6 [.int .i64 0, .int .i64 0, .int .i64 0, .int .i64 0]] := hS
         refine ls_effx hF (.free rfl) rfl (st_blks 8 (ds := [.int .i64 (Kk1 i), .int .i64 (Ak1 i), .int .i64 (Kk2 j), .int .i64 (Ak2 j)]) rfl st_36 hS rfl rfl rfl rfl (ones_cons rfl (ones_cons rfl (ones_cons rfl (ones_cons rfl ones_nil))))) ?_; clear hS; rintro w hS
         replace hS : Sat w0 w [.blk g1 [.int .i64 0, .int .i64 0, .int .i64 0, .int .i64 0], .own va 1 3 m (ints gk1), .own vb 1 3 m (ints gk2), .blk g3 [.int .i64 fa, .int .i64 fp, .int .i64 fb, .int .i64 fq], .own vrk1 2 34 mk1 (fcells Kk1 Ak1), .blk g4 [.int .i64 (Kk1 i), .int .i64 (Ak1 i)], .own vrk2 2 34 mk2 (fcells Kk2 Ak2), .blk g5 [.int .i64 (Kk2 j), .int .i64 (Ak2 j)], .blk g6 [.int .i64 (Kk1 i), .int .i64 (Ak1 i), .int .i64 (Kk2 j), .int .i64 (Ak2 j)]] := hS
         refine ls_nil ?_
         refine then_normal ?_
         refine cw_seq ?_
         refine wp_region_lit ?_
         refine ls_val hF (.free rfl) rfl rfl (ex_loads_blk 8 rfl st_36 rfl hS rfl rfl) ?_; clear hF a; intro a hF
         refine ls_val hF (.free rfl) rfl rfl (ex_move rfl rfl) ?_; clear hF a; intro a hF
         refine ls_val hF (.free rfl) rfl rfl (ex_move rfl rfl) ?_; clear hF a; intro a hF
         refine ls_val hF (.free rfl) rfl rfl (ex_move rfl rfl) ?_; clear hF a; intro a hF
         refine ls_val hF (.free rfl) rfl rfl (ex_move rfl rfl) ?_; clear hF a; intro a hF
         refine ls_call hF (.free rfl) rfl rfl (ex_call0 rfl rfl cl_25 (args_cons rfl (args_cons rfl (args_cons rfl (args_cons rfl (args_cons rfl args0)))))) (c_value (x := ⟨(Kk1 i), (Ak1 i), (Kk2 j), (Ak2 j)⟩) (s := s) w (hD.below hS.below) hk (ok_of hcA hcB (hfA.at h0 (by omega)) (hfB.at j0 (by omega))) (fun k a0 a1 hh => hng ⟨k, a0, a1, hh⟩)) ?_; clear hF; rintro _ w ⟨rfl, hS'⟩ a hF
         replace hS : Sat w0 w [.blk g1 [.int .i64 0, .int .i64 0, .int .i64 0, .int .i64 0], .own va 1 3 m (ints gk1), .own vb 1 3 m (ints gk2), .blk g3 [.int .i64 fa, .int .i64 fp, .int .i64 fb, .int .i64 fq], .own vrk1 2 34 mk1 (fcells Kk1 Ak1), .blk g4 [.int .i64 (Kk1 i), .int .i64 (Ak1 i)], .own vrk2 2 34 mk2 (fcells Kk2 Ak2), .blk g5 [.int .i64 (Kk2 j), .int .i64 (Ak2 j)], .blk g6 [.int .i64 (Kk1 i), .int .i64 (Ak1 i), .int .i64 (Kk2 j), .int .i64 (Ak2 j)]] := hS.comp hS'; clear hS'
         refine ls_val hF (.free rfl) rfl rfl (ex_assign rfl rfl) ?_; clear hF a; intro a hF
         refine ls_nil ?_
         refine then_normal ?_
         refine cw_seq ?_
         refine wp_region_lit ?_
         refine ls_val hF (.free rfl) rfl rfl (ex_move rfl rfl) ?_; clear hF a; intro a hF
         refine ls_val hF (.free rfl) rfl rfl (ex_move rfl rfl) ?_; clear hF a; intro a hF
         refine ls_val hF (.free rfl) rfl rfl (ex_gtr rfl rfl rfl) ?_; clear hF a; intro a hF
         refine ls_nil ?_
         refine then_normal ?_
         refine cw_if hF rfl (fun hc => ?_) (fun hc => ?_)
         ·
          refine dr_sat (m0 := [.blk g1 [.int .i64 0, .int .i64 0, .int .i64 0, .int .i64 0], .own va 1 3 m (ints gk1), .own vb 1 3 m (ints gk2), .blk g3 [.int .i64 fa, .int .i64 fp, .int .i64 fb, .int .i64 fq], .own vrk1 2 34 mk1 (fcells Kk1 Ak1), .blk g4 [.int .i64 (Kk1 i), .int .i64 (Ak1 i)], .own vrk2 2 34 mk2 (fcells Kk2 Ak2), .blk g5 [.int .i64 (Kk2 j), .int .i64 (Ak2 j)], .blk g6 [.int .i64 (Kk1 i), .int .i64 (Ak1 i), .int .i64 (Kk2 j), .int .i64 (Ak2 j)]]) (m1 := [.blk g1 [.int .i64 0, .int .i64 0, .int .i64 0, .int .i64 0], .own va 1 3 m (ints gk1), .own vb 1 3 m (ints gk2), .own vrk1 2 34 mk1 (fcells Kk1 Ak1), .blk g4 [.int .i64 (Kk1 i), .int .i64 (Ak1 i)], .own vrk2 2 34 mk2 (fcells Kk2 Ak2), .blk g5 [.int .i64 (Kk2 j), .int .i64 (Ak2 j)], .blk g6 [.int .i64 (Kk1 i), .int .i64 (Ak1 i), .int .i64 (Kk2 j), .int .i64 (Ak2 j)]]) 3 mx_ hS (.cons_cons _ (.cons_cons _ (.cons_cons _ (.cons_cons _ (.cons_cons _ (.cons_cons _ (.cons_cons _ (.cons_cons _ (.cons_cons _ .slnil))))))))) (.cons_cons _ (.cons_cons _ (.cons_cons _ (.cons _ (.cons_cons _ (.cons_cons _ (.cons_cons _ (.cons_cons _ (.cons_cons _ .slnil))))))))) rfl ?_; clear hS; intro w hS hcl hB
          refine dr_val hF hcl hB 0 rfl (.free rfl) rfl rfl (by kernel_rfl) rfl (fun w => (ex_move rfl rfl)) ?_; clear hF a hcl hB; intro a hF hcl hB
          refine dr_loadA hF hcl hB 1 rfl (.free rfl) rfl rfl (by kernel_rfl) rfl (fun w hS => (ex_loads_blk 7 rfl st_36 rfl hS rfl rfl)) ?_; clear hF a hcl hB; intro a hF hcl hB
          refine dr_val hF hcl hB 2 rfl (.free rfl) rfl rfl (by kernel_rfl) rfl (fun w => (ex_assign rfl rfl)) ?_; clear hF a hcl hB; intro a hF hcl hB
          refine dr_effx hF hcl 3 rfl (.free rfl) rfl (by kernel_rfl) (st_blks 3 (ds := [.int .i64 (Kk1 i), .int .i64 (Ak1 i), .int .i64 (Kk2 j), .int .i64 (Ak2 j)]) rfl st_36 hS rfl rfl rfl rfl (ones_cons rfl (ones_cons rfl (ones_cons rfl (ones_cons rfl ones_nil))))) ?_; clear hS hB; rintro w hS hcl
          replace hS : Sat w0 w [.blk g1 [.int .i64 0, .int .i64 0, .int .i64 0, .int .i64 0], .own va 1 3 m (ints gk1), .own vb 1 3 m (ints gk2), .blk g3 [.int .i64 (Kk1 i), .int .i64 (Ak1 i), .int .i64 (Kk2 j), .int .i64 (Ak2 j)], .own vrk1 2 34 mk1 (fcells Kk1 Ak1), .blk g4 [.int .i64 (Kk1 i), .int .i64 (Ak1 i)], .own vrk2 2 34 mk2 (fcells Kk2 Ak2), .blk g5 [.int .i64 (Kk2 j), .int .i64 (Ak2 j)], .blk g6 [.int .i64 (Kk1 i), .int .i64 (Ak1 i), .int .i64 (Kk2 j), .int .i64 (Ak2 j)]] := hS
          refine ⟨⟨(fun h => absurd h (by decide)), hS.sub (.cons_cons _ (.cons_cons _ (.cons_cons _ (.cons _ (.cons_cons _ (.cons_cons _ (.cons_cons _ (.cons_cons _ (.cons_cons _ .slnil)))))))))⟩, fun hB => ?_⟩
          refine dr_done (by kernel_rfl) ?_; clear hcl hB
          refine inb_normal ?_
          refine then_normal ?_
          refine wp_region_lit ?_
          refine ls_val hF (.free rfl) rfl rfl (ex_add (r := j + 1) rfl rfl rfl (by omega) (by unfold I64; omega)) ?_; clear hF a; intro a hF
          refine ls_val hF (.free rfl) rfl rfl (ex_move rfl rfl) ?_; clear hF a; intro a hF
          refine ls_nil ?_
          refine then_normal ?_
          refine ⟨_, (by omega), (Crt.val (⟨(Kk1 i), (Ak1 i), (Kk2 j), (Ak2 j)⟩) d s), (Kk1 i), (Ak1 i), (Kk2 j), (Ak2 j), j + 1, rfl, (by omega), (by omega), ?_, (hF.pick (hF.pick (hF.pick (hF.pick (hF.pick (hF.pick (hF.pick (hF.pick (hF.pick (hF.pick (hF.pick (hF.pick (hF.pick (hF.pick (hF.pick (hF.pick (hF.pick hF.nil 74 rfl) 73 rfl) 72 rfl) 64 rfl) 63 rfl) 62 rfl) 19 rfl) 17 rfl) 16 rfl) 13 rfl) 10 rfl) 9 rfl) 8 rfl) 3 rfl) 2 rfl) 1 rfl) 0 rfl), hS.sub (.cons_cons _ (.cons_cons _ (.cons_cons _ (.cons_cons _ (.cons_cons _ (.cons_cons _ (.cons_cons _ (.cons _ (.cons _ .slnil)))))))))⟩
          ·
           first | exact hb.moreV h0 j0 (hfA.at h0 (by omega)) (hfB.at j0 (by omega)) (rfl) hc | exact hb.stayV h0 j0 (hfA.at h0 (by omega)) (hfB.at j0 (by omega)) (val_nonneg hk (ok_of hcA hcB (hfA.at h0 (by omega)) (hfB.at j0 (by omega))) hn hng) (rfl) hc
         ·
          refine wp_skip ?_
          refine inb_normal ?_
          refine then_normal ?_
          refine wp_region_lit ?_
          refine ls_val hF (.free rfl) rfl rfl (ex_add (r := j + 1) rfl rfl rfl (by omega) (by unfold I64; omega)) ?_; clear hF a; intro a hF
          refine ls_val hF (.free rfl) rfl rfl (ex_move rfl rfl) ?_; clear hF a; intro a hF
          refine ls_nil ?_
          refine then_normal ?_
          refine ⟨_, (by omega), best, fa, fp, fb, fq, j + 1, rfl, (by omega), (by omega), ?_, (hF.pick (hF.pick (hF.pick (hF.pick (hF.pick (hF.pick (hF.pick (hF.pick (hF.pick (hF.pick (hF.pick (hF.pick (hF.pick (hF.pick (hF.pick (hF.pick (hF.pick hF.nil 74 rfl) 73 rfl) 72 rfl) 64 rfl) 63 rfl) 62 rfl) 19 rfl) 17 rfl) 16 rfl) 13 rfl) 10 rfl) 9 rfl) 8 rfl) 3 rfl) 2 rfl) 1 rfl) 0 rfl), hS.sub (.cons_cons _ (.cons_cons _ (.cons_cons _ (.cons_cons _ (.cons_cons _ (.cons_cons _ (.cons_cons _ (.cons _ (.cons _ .slnil)))))))))⟩
          ·
           first | exact hb.moreV h0 j0 (hfA.at h0 (by omega)) (hfB.at j0 (by omega)) (rfl) hc | exact hb.stayV h0 j0 (hfA.at h0 (by omega)) (hfB.at j0 (by omega)) (val_nonneg hk (ok_of hcA hcB (hfA.at h0 (by omega)) (hfB.at j0 (by omega))) hn hng) (rfl) hc
        ·
         refine wp_exit ?_
         refine then_exit ?_
         refine then_exit ?_
         refine inb_hit ?_
         refine inb_normal ?_
         refine then_normal ?_
         refine wp_region_lit ?_
         refine ls_val hF (.free rfl) rfl rfl (ex_add (r := i + 1) rfl rfl rfl (by omega) (by unfold I64; omega)) ?_; clear hF a; intro a hF
         refine ls_val hF (.free rfl) rfl rfl (ex_move rfl rfl) ?_; clear hF a; intro a hF
         refine ls_nil ?_
         refine then_normal ?_
         refine ⟨_, (by omega), best, fa, fp, fb, fq, i + 1, gk2, rfl, (by omega), (by omega), ?_, ?_, ?_, (hF.pick (hF.pick (hF.pick (hF.pick (hF.pick (hF.pick (hF.pick (hF.pick (hF.pick (hF.pick (hF.pick (hF.pick (hF.pick hF.nil 64 rfl) 63 rfl) 62 rfl) 17 rfl) 16 rfl) 13 rfl) 10 rfl) 9 rfl) 8 rfl) 3 rfl) 2 rfl) 1 rfl) 0 rfl), hS.sub (.cons_cons _ (.cons_cons _ (.cons_cons _ (.cons_cons _ (.cons_cons _ (.cons _ (.cons _ .slnil)))))))⟩
         ·
          exact hkp.trans hkpk2
         ·
          exact fun _ => hcB
         ·
          exact hb.rowE (by omega) (by omega)
      ·
       refine wp_exit ?_
       refine then_exit ?_
       refine then_exit ?_
       refine inb_hit ?_
       refine then_normal ?_
       refine cw_seq ?_
       refine dr_sat (m0 := [.blk g1 [.int .i64 0, .int .i64 0, .int .i64 0, .int .i64 0], .own va 1 3 m (ints gk1), .own vb 1 3 m (ints gh), .blk g3 [.int .i64 fa, .int .i64 fp, .int .i64 fb, .int .i64 fq], .own vrk1 2 34 mk1 (fcells Kk1 Ak1)]) (m1 := [.own va 1 3 m (ints gk1), .own vb 1 3 m (ints gh), .blk g3 [.int .i64 fa, .int .i64 fp, .int .i64 fb, .int .i64 fq], .own vrk1 2 34 mk1 (fcells Kk1 Ak1)]) 3 mx_ hS (.cons_cons _ (.cons_cons _ (.cons_cons _ (.cons_cons _ (.cons_cons _ .slnil))))) (.cons _ (.cons_cons _ (.cons_cons _ (.cons_cons _ (.cons_cons _ .slnil))))) rfl ?_; clear hS; intro w hS hcl hB
       refine dr_val hF hcl hB 0 rfl (.free rfl) rfl rfl (by kernel_rfl) rfl (fun w => (ex_move rfl rfl)) ?_; clear hF a hcl hB; intro a hF hcl hB
       refine dr_loadA hF hcl hB 1 rfl (.free rfl) rfl rfl (by kernel_rfl) rfl (fun w hS => (ex_loads_blk 2 rfl st_36 rfl hS rfl rfl)) ?_; clear hF a hcl hB; intro a hF hcl hB
       refine dr_val hF hcl hB 2 rfl (.free rfl) rfl rfl (by kernel_rfl) rfl (fun w => (ex_assign rfl rfl)) ?_; clear hF a hcl hB; intro a hF hcl hB
       refine dr_effx hF hcl 3 rfl (.free rfl) rfl (by kernel_rfl) (st_blks 0 (ds := [.int .i64 fa, .int .i64 fp, .int .i64 fb, .int .i64 fq]) rfl st_36 hS rfl rfl rfl rfl (ones_cons rfl (ones_cons rfl (ones_cons rfl (ones_cons rfl ones_nil))))) ?_; clear hS hB; rintro w hS hcl
       replace hS : Sat w0 w [.blk g1 [.int .i64 fa, .int .i64 fp, .int .i64 fb, .int .i64 fq], .own va 1 3 m (ints gk1), .own vb 1 3 m (ints gh), .blk g3 [.int .i64 fa, .int .i64 fp, .int .i64 fb, .int .i64 fq], .own vrk1 2 34 mk1 (fcells Kk1 Ak1)] := hS
       refine ⟨⟨(fun h => absurd h (by decide)), hS.sub (.cons _ (.cons_cons _ (.cons_cons _ (.cons_cons _ (.cons_cons _ .slnil)))))⟩, fun hB => ?_⟩
       refine dr_val hF hcl hB 4 rfl (.free rfl) rfl rfl (by kernel_rfl) rfl (fun w => (ex_assign rfl rfl)) ?_; clear hF a hcl hB; intro a hF hcl hB
       refine dr_done (by kernel_rfl) ?_; clear hcl hB
       refine then_normal ?_
       refine wp_ret ?_
       refine (fin_tct 0 hF rfl rfl rfl rfl st_36 hS rfl rfl ⟨_, rfl, ?_⟩)
       exact ⟨_, _, _, _, _, _, rfl, .inr (.inr ⟨hk, hng, rfl, hcA, hcBi (by omega), hb.finE (by omega) (by omega)⟩), hS.sub (.cons _ (.cons _ (.cons _ (.cons _ (.cons _ .slnil)))))⟩

end Go.Proofs.Ytmlfpniaknmmfaa
