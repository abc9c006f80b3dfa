/- The walk of optimize, of tableau. -/
import Derived.Test.YtakgjpmhbfieeaaW6
namespace Go.Proofs.Ytakgjpmhbfieeaa
open Go Go.RowKit Go.Proofs.Gw
set_option linter.unusedVariables false

theorem cl_21 : calledT Try.prog 21 = true := by kernel_rfl
theorem cl_25 : calledT Try.prog 25 = true := by kernel_rfl
theorem c_nextB {vB vF vC : Value} {vv : Int → Value} {t : Tb} (w0 : World) (hT : TAt w0 vB vF vC vv t) : Calls Try.prog 25 [.agg #[.int .i64 t.vars, .int .i64 t.den, vB, vF, vC]].toArray w0 fun e w => ∃ v, e = .returned v ∧ ∃ r c d e, v = .tuple #[.int .i64 r, .int .i64 c, B (d = true), .int .i64 e] ∧ NextR t r c d e ∧ Sat w0 w [] :=
  (c_next w0 hT).mono fun e w h => by
    obtain ⟨v, he, r, c, d, e', hv, hn, hS⟩ := h
    exact ⟨v, he, r, c, d, e', by rw [hv, bool_B], hn, hS⟩

set_option maxRecDepth 20000 in
theorem c_optimize {vB vF vC : Value} {vv : Int → Value} {t : Tb} (w0 : World) (hT : TAt w0 vB vF vC vv t) :
    Calls Try.prog 40 [.agg #[.int .i64 t.vars, .int .i64 t.den, vB, vF, vC]].toArray w0 fun e w => ∃ v, e = .returned v ∧ ∃ xB xF xC xv u e, v = .tuple #[.agg #[.int .i64 u.vars, .int .i64 u.den, xB, xF, xC], .int .i64 e] ∧ Run 1000 t u e ∧ Slh xB u.nb ∧ Slh xF u.nf ∧ Slh xC u.nc ∧ Sat w0 w [.sem (Frame.alt (u = t ∧ xB = vB ∧ xF = vF ∧ xC = vC ∧ xv = vv) (Frame.bun [.own xB 1 3 u.nb (ints u.B), .own xF 1 3 u.nf (ints u.F), .own xC 1 22 u.nc xv, .sem (Frame.rows 3 u.nc xv u.ln u.C)]))] := by
  refine enterS (vs := [.agg #[.int .i64 t.vars, .int .i64 t.den, vB, vF, vC]]) Try.func40 rfl Try.ntmps40 rfl ?_
  intro a w hS hF
  refine cw_seq ?_
  refine wp_region_lit ?_
  refine ls_any hF (.free rfl) rfl rfl (ex_box (cs := [.int .i64 t.vars, .int .i64 t.den, vB, vF, vC]) rfl hS rfl rfl) ?_; clear hF; rintro _ w ⟨g1, rfl, hS⟩ a hF
  replace hS : Sat w0 w [.blk g1 [.int .i64 t.vars, .int .i64 t.den, vB, vF, vC]] := hS
  refine ls_any hF (.free rfl) rfl rfl (ex_alloc (cs := [.int .i64 0, .int .i64 0, .slice none 0 0, .slice none 0 0, .slice none 0 0]) rfl el_43 hS rfl) ?_; clear hF; rintro _ w ⟨g2, rfl, hS⟩ a hF
  replace hS : Sat w0 w [.blk g1 [.int .i64 t.vars, .int .i64 t.den, vB, vF, vC], .blk g2 [.int .i64 0, .int .i64 0, .slice none 0 0, .slice none 0 0, .slice none 0 0]] := hS
  refine ls_val hF (.free rfl) rfl rfl (ex_assign rfl rfl) ?_; clear hF a; intro a hF
  refine ls_nil ?_
  refine then_normal ?_
  refine cw_seq ?_
  refine wp_region_lit ?_
  refine ls_val hF (.free rfl) rfl rfl (ex_assign rfl rfl) ?_; clear hF a; intro a hF
  refine ls_nil ?_
  refine then_normal ?_
  refine wp_block ?_
  replace hS := hS.altL (Frame.bun [.own vB 1 3 t.nb (ints t.B), .own vF 1 3 t.nf (ints t.F), .own vC 1 22 t.nc vv, .sem (Frame.rows 3 t.nc vv t.ln t.C)]) (p := t = t ∧ vB = vB ∧ vF = vF ∧ vC = vC ∧ vv = vv) ⟨rfl, rfl, rfl, rfl, rfl⟩
  replace hS : Sat w0 w [.blk g1 [.int .i64 t.vars, .int .i64 t.den, vB, vF, vC], .blk g2 [.int .i64 0, .int .i64 0, .slice none 0 0, .slice none 0 0, .slice none 0 0], .sem (Frame.alt (t = t ∧ vB = vB ∧ vF = vF ∧ vC = vC ∧ vv = vv) (Frame.bun [.own vB 1 3 t.nb (ints t.B), .own vF 1 3 t.nf (ints t.F), .own vC 1 22 t.nc vv, .sem (Frame.rows 3 t.nc vv t.ln t.C)]))] := hS
  refine cw_loop (fun mm a w => ∃ (u : Tb) (xB : Value) (xF : Value) (xC : Value) (xv : Int → Value) (n : Int), mm = (((1001 : Int) - n).toNat) ∧ (0 ≤ n) ∧ (n ≤ 1000) ∧ (Slh xB u.nb) ∧ (Slh xF u.nf) ∧ (Slh xC u.nc) ∧ (∀ z e, Run (1000 - n).toNat u z e → Run 1000 t z e) ∧ Fr a 41 [(1, .pointer (some ⟨g1, 0, none⟩)), (2, .pointer (some ⟨g2, 0, none⟩)), (4, .int .i64 n)] ∧ Sat w0 w [.blk g1 [.int .i64 u.vars, .int .i64 u.den, xB, xF, xC], .blk g2 [.int .i64 0, .int .i64 0, .slice none 0 0, .slice none 0 0, .slice none 0 0], .sem (Frame.alt (u = t ∧ xB = vB ∧ xF = vF ∧ xC = vC ∧ xv = vv) (Frame.bun [.own xB 1 3 u.nb (ints u.B), .own xF 1 3 u.nf (ints u.F), .own xC 1 22 u.nc xv, .sem (Frame.rows 3 u.nc xv u.ln u.C)]))]) ?_ ?_ (m := (((1001 : Int) - 0).toNat))
  ·
   refine ⟨t, vB, vF, vC, vv, 0, rfl, (by omega), (by omega), ?_, ?_, ?_, ?_, (hF.pick (hF.pick (hF.pick hF.nil 4 rfl) 2 rfl) 1 rfl), hS.sub (List.Sublist.refl _)⟩
   ·
    exact hT.B.slh
   ·
    exact hT.F.slh
   ·
    exact hT.C.row.slh
   ·
    exact fun z e h => h
  ·
   clear hF hS a w
   rintro mm a w ⟨u, xB, xF, xC, xv, n, rfl, n0, n1, hxB, hxF, hxC, hrun, hF, hS⟩
   have htu := tat_alt (hT.below hS.below) hS 2 rfl
   have hub := htu.B.slh.n0; have hub1 := htu.B.slh.n1; have huf := htu.F.slh.n0; have huf1 := htu.F.slh.n1
   refine cw_seq ?_
   refine wp_block ?_
   refine cw_seq ?_
   refine wp_region_lit ?_
   refine ls_val hF (.free rfl) rfl rfl (ex_loads_blk 0 rfl st_43 rfl hS rfl rfl) ?_; clear hF a; intro a hF
   refine ls_call hF (.free rfl) rfl rfl (ex_call0 rfl rfl cl_25 (args_cons rfl args0)) (c_nextB (t := u) w (tat_alt (hT.below hS.below) hS 2 rfl)) ?_; clear hF; rintro _ w ⟨rn1, cn1, dn1, en1, rfl, hnn1, hS'⟩ a hF
   replace hS : Sat w0 w [.blk g1 [.int .i64 u.vars, .int .i64 u.den, xB, xF, xC], .blk g2 [.int .i64 0, .int .i64 0, .slice none 0 0, .slice none 0 0, .slice none 0 0], .sem (Frame.alt (u = t ∧ xB = vB ∧ xF = vF ∧ xC = vC ∧ xv = vv) (Frame.bun [.own xB 1 3 u.nb (ints u.B), .own xF 1 3 u.nf (ints u.F), .own xC 1 22 u.nc xv, .sem (Frame.rows 3 u.nc xv u.ln u.C)]))] := hS.comp hS'; clear hS'
   have hrc := hnn1.rng
   refine ls_val hF (.free rfl) rfl rfl (ex_move rfl rfl) ?_; clear hF a; intro a hF
   refine ls_val hF (.free rfl) rfl rfl (ex_extract rfl rfl rfl) ?_; clear hF a; intro a hF
   refine ls_val hF (.free rfl) rfl rfl (ex_extract rfl rfl rfl) ?_; clear hF a; intro a hF
   refine ls_val hF (.free rfl) rfl rfl (ex_extract rfl rfl rfl) ?_; clear hF a; intro a hF
   refine ls_val hF (.free rfl) rfl rfl (ex_extract rfl rfl rfl) ?_; clear hF a; intro a hF
   refine ls_val hF (.free rfl) rfl rfl (ex_assign rfl rfl) ?_; clear hF a; intro a hF
   refine ls_val hF (.free rfl) rfl rfl (ex_assign rfl rfl) ?_; clear hF a; intro a hF
   refine ls_val hF (.free rfl) rfl rfl (ex_assign rfl rfl) ?_; clear hF a; intro a hF
   refine ls_val hF (.free rfl) rfl rfl (ex_assign rfl rfl) ?_; clear hF a; intro a hF
   refine ls_nil ?_
   refine then_normal ?_
   refine cw_seq ?_
   refine cw_seq ?_
   refine wp_region_lit ?_
   refine ls_val hF (.free rfl) rfl rfl (ex_move rfl rfl) ?_; clear hF a; intro a hF
   refine ls_val hF (.free rfl) rfl rfl (ex_move rfl rfl) ?_; clear hF a; intro a hF
   refine by_slot hF (d := 20) rfl ?_ ?_ <;> clear hF <;> intro hc hF
   ·
    refine ls_off hF (.on rfl rfl rfl rfl rfl) rfl rfl ?_; clear hF a; intro a hF
    refine ls_off hF (.on rfl rfl rfl rfl rfl) rfl rfl ?_; clear hF a; intro a hF
    refine ls_val hF (.free rfl) rfl rfl (ex_pick_t rfl rfl rfl) ?_; clear hF a; intro a hF
    refine ls_nil ?_
    refine then_normal ?_
    refine cw_t hF rfl ?_
    refine cw_seq ?_
    refine wp_region_lit ?_
    refine ls_val hF (.free rfl) rfl rfl (ex_loads_blk 0 rfl st_43 rfl hS rfl rfl) ?_; clear hF a; intro a hF
    refine ls_val hF (.free rfl) rfl rfl (ex_move rfl rfl) ?_; clear hF a; intro a hF
    refine ls_effx hF (.free rfl) rfl (st_blks 1 (ds := [.int .i64 u.vars, .int .i64 u.den, xB, xF, xC]) rfl st_43 hS rfl rfl rfl rfl (ones_cons rfl (ones_cons rfl (ones_cons hxB.one (ones_cons hxF.one (ones_cons hxC.one ones_nil)))))) ?_; clear hS; rintro w hS
    replace hS : Sat w0 w [.blk g1 [.int .i64 u.vars, .int .i64 u.den, xB, xF, xC], .blk g2 [.int .i64 u.vars, .int .i64 u.den, xB, xF, xC], .sem (Frame.alt (u = t ∧ xB = vB ∧ xF = vF ∧ xC = vC ∧ xv = vv) (Frame.bun [.own xB 1 3 u.nb (ints u.B), .own xF 1 3 u.nf (ints u.F), .own xC 1 22 u.nc xv, .sem (Frame.rows 3 u.nc xv u.ln u.C)]))] := hS
    refine ls_val hF (.free rfl) rfl rfl (ex_assign rfl rfl) ?_; clear hF a; intro a hF
    refine ls_nil ?_
    refine then_normal ?_
    refine wp_ret ?_
    refine then_ret (inb_ret (then_ret (then_ret (inb_ret ((fin_ct 1 hF rfl rfl rfl st_43 hS rfl rfl ⟨_, rfl, ?_⟩))))))
    exact ⟨xB, xF, xC, xv, u, _, rfl, hrun _ _ (.stop hnn1 (by first | exact .inl hc | exact .inr (by omega))), hxB, hxF, hxC, hS.sub (.cons _ (.cons _ (.cons_cons _ .slnil)))⟩
   ·
    refine ls_val hF (.on rfl rfl rfl rfl rfl) rfl rfl (ex_move rfl rfl) ?_; clear hF a; intro a hF
    refine ls_val hF (.on rfl rfl rfl rfl rfl) rfl rfl (ex_neq rfl rfl rfl) ?_; clear hF a; intro a hF
    refine ls_val hF (.free rfl) rfl rfl (ex_pick_f rfl rfl rfl) ?_; clear hF a; intro a hF
    refine ls_nil ?_
    refine then_normal ?_
    refine cw_if hF rfl (fun hc => ?_) (fun hc => ?_)
    ·
     refine cw_seq ?_
     refine wp_region_lit ?_
     refine ls_val hF (.free rfl) rfl rfl (ex_loads_blk 0 rfl st_43 rfl hS rfl rfl) ?_; clear hF a; intro a hF
     refine ls_val hF (.free rfl) rfl rfl (ex_move rfl rfl) ?_; clear hF a; intro a hF
     refine ls_effx hF (.free rfl) rfl (st_blks 1 (ds := [.int .i64 u.vars, .int .i64 u.den, xB, xF, xC]) rfl st_43 hS rfl rfl rfl rfl (ones_cons rfl (ones_cons rfl (ones_cons hxB.one (ones_cons hxF.one (ones_cons hxC.one ones_nil)))))) ?_; clear hS; rintro w hS
     replace hS : Sat w0 w [.blk g1 [.int .i64 u.vars, .int .i64 u.den, xB, xF, xC], .blk g2 [.int .i64 u.vars, .int .i64 u.den, xB, xF, xC], .sem (Frame.alt (u = t ∧ xB = vB ∧ xF = vF ∧ xC = vC ∧ xv = vv) (Frame.bun [.own xB 1 3 u.nb (ints u.B), .own xF 1 3 u.nf (ints u.F), .own xC 1 22 u.nc xv, .sem (Frame.rows 3 u.nc xv u.ln u.C)]))] := hS
     refine ls_val hF (.free rfl) rfl rfl (ex_assign rfl rfl) ?_; clear hF a; intro a hF
     refine ls_nil ?_
     refine then_normal ?_
     refine wp_ret ?_
     refine then_ret (inb_ret (then_ret (then_ret (inb_ret ((fin_ct 1 hF rfl rfl rfl st_43 hS rfl rfl ⟨_, rfl, ?_⟩))))))
     exact ⟨xB, xF, xC, xv, u, _, rfl, hrun _ _ (.stop hnn1 (by first | exact .inl hc | exact .inr (by omega))), hxB, hxF, hxC, hS.sub (.cons _ (.cons _ (.cons_cons _ .slnil)))⟩
    ·
     refine wp_skip ?_
     refine then_normal ?_
     refine cw_seq ?_
     refine cw_seq ?_
     refine wp_region_lit ?_
     refine ls_val hF (.free rfl) rfl rfl (ex_move rfl rfl) ?_; clear hF a; intro a hF
     have hn0 : NextR u rn1 cn1 false 0 := by have h1 : dn1 = false := (by simpa using ‹¬ (dn1 = true)›); have h2 : en1 = 0 := (by omega); have h3 := hnn1; rw [h1, h2] at h3; exact h3
     have hpu := (hn0.prp (by omega)).1; have hq1 := hpu.n2; have hq2 := hpu.m2
     refine ls_val hF (.free rfl) rfl rfl (ex_eql rfl rfl rfl) ?_; clear hF a; intro a hF
     refine ls_nil ?_
     refine then_normal ?_
     refine cw_if hF rfl (fun hc => ?_) (fun hc => ?_)
     ·
      refine cw_seq ?_
      refine wp_region_lit ?_
      refine ls_val hF (.free rfl) rfl rfl (ex_loads_blk 0 rfl st_43 rfl hS rfl rfl) ?_; clear hF a; intro a hF
      refine ls_effx hF (.free rfl) rfl (st_blks 1 (ds := [.int .i64 u.vars, .int .i64 u.den, xB, xF, xC]) rfl st_43 hS rfl rfl rfl rfl (ones_cons rfl (ones_cons rfl (ones_cons hxB.one (ones_cons hxF.one (ones_cons hxC.one ones_nil)))))) ?_; clear hS; rintro w hS
      replace hS : Sat w0 w [.blk g1 [.int .i64 u.vars, .int .i64 u.den, xB, xF, xC], .blk g2 [.int .i64 u.vars, .int .i64 u.den, xB, xF, xC], .sem (Frame.alt (u = t ∧ xB = vB ∧ xF = vF ∧ xC = vC ∧ xv = vv) (Frame.bun [.own xB 1 3 u.nb (ints u.B), .own xF 1 3 u.nf (ints u.F), .own xC 1 22 u.nc xv, .sem (Frame.rows 3 u.nc xv u.ln u.C)]))] := hS
      refine ls_val hF (.free rfl) rfl rfl (ex_assign rfl rfl) ?_; clear hF a; intro a hF
      refine ls_nil ?_
      refine then_normal ?_
      refine wp_ret ?_
      refine then_ret (inb_ret (then_ret (then_ret (inb_ret ((fin_ct 1 hF rfl rfl rfl st_43 hS rfl rfl ⟨_, rfl, ?_⟩))))))
      exact ⟨xB, xF, xC, xv, u, _, rfl, hrun _ _ (by rw [show (1000 - n).toNat = 0 by omega]; exact .lim hn0), hxB, hxF, hxC, hS.sub (.cons _ (.cons _ (.cons_cons _ .slnil)))⟩
     ·
      refine wp_skip ?_
      refine then_normal ?_
      refine cw_seq ?_
      refine wp_region_lit ?_
      refine ls_val hF (.free rfl) rfl rfl (ex_loads_blk 0 rfl st_43 rfl hS rfl rfl) ?_; clear hF a; intro a hF
      refine ls_val hF (.free rfl) rfl rfl (ex_move rfl rfl) ?_; clear hF a; intro a hF
      refine ls_val hF (.free rfl) rfl rfl (ex_move rfl rfl) ?_; clear hF a; intro a hF
      refine ls_call hF (.free rfl) rfl rfl (ex_call0 rfl rfl cl_21 (args_cons rfl (args_cons rfl (args_cons rfl args0)))) (c_pivot (t := u) (row := rn1) (col := cn1) w (tat_alt (hT.below hS.below) hS 2 rfl) (by omega) (by omega)) ?_; clear hF; rintro _ w ⟨vBk1, vFk1, vCk1, vvk1, tk1, ek1, rfl, hpvk1, hsBk1, hsFk1, hsCk1, hS'⟩ a hF
      replace hS : Sat w0 w [.blk g1 [.int .i64 u.vars, .int .i64 u.den, xB, xF, xC], .blk g2 [.int .i64 0, .int .i64 0, .slice none 0 0, .slice none 0 0, .slice none 0 0], .sem (Frame.alt (u = t ∧ xB = vB ∧ xF = vF ∧ xC = vC ∧ xv = vv) (Frame.bun [.own xB 1 3 u.nb (ints u.B), .own xF 1 3 u.nf (ints u.F), .own xC 1 22 u.nc xv, .sem (Frame.rows 3 u.nc xv u.ln u.C)])), .own vBk1 1 3 tk1.nb (ints tk1.B), .own vFk1 1 3 tk1.nf (ints tk1.F), .own vCk1 1 22 tk1.nc vvk1, .sem (Frame.rows 3 tk1.nc vvk1 tk1.ln tk1.C)] := hS.comp hS'; clear hS'
      have hrsk1 := fun k (k0 : 0 ≤ k) (k1 : k < tk1.nc) => hS.slhIn 6 rfl k0 k1
      refine ls_val hF (.free rfl) rfl rfl (ex_move rfl rfl) ?_; clear hF a; intro a hF
      refine ls_val hF (.free rfl) rfl rfl (ex_extract rfl rfl rfl) ?_; clear hF a; intro a hF
      refine ls_val hF (.free rfl) rfl rfl (ex_extract rfl rfl rfl) ?_; clear hF a; intro a hF
      refine ls_any hF (.free rfl) rfl rfl (ex_alloc (cs := [.int .i64 0, .int .i64 0, .slice none 0 0, .slice none 0 0, .slice none 0 0]) rfl el_43 hS rfl) ?_; clear hF; rintro _ w ⟨g3, rfl, hS⟩ a hF
      replace hS : Sat w0 w [.blk g1 [.int .i64 u.vars, .int .i64 u.den, xB, xF, xC], .blk g2 [.int .i64 0, .int .i64 0, .slice none 0 0, .slice none 0 0, .slice none 0 0], .sem (Frame.alt (u = t ∧ xB = vB ∧ xF = vF ∧ xC = vC ∧ xv = vv) (Frame.bun [.own xB 1 3 u.nb (ints u.B), .own xF 1 3 u.nf (ints u.F), .own xC 1 22 u.nc xv, .sem (Frame.rows 3 u.nc xv u.ln u.C)])), .own vBk1 1 3 tk1.nb (ints tk1.B), .own vFk1 1 3 tk1.nf (ints tk1.F), .own vCk1 1 22 tk1.nc vvk1, .sem (Frame.rows 3 tk1.nc vvk1 tk1.ln tk1.C), .blk g3 [.int .i64 0, .int .i64 0, .slice none 0 0, .slice none 0 0, .slice none 0 0]] := hS
      refine ls_effx hF (.free rfl) rfl (st_blks 7 (ds := [.int .i64 tk1.vars, .int .i64 tk1.den, vBk1, vFk1, vCk1]) rfl st_43 hS rfl rfl rfl rfl (ones_cons rfl (ones_cons rfl (ones_cons hsBk1.one (ones_cons hsFk1.one (ones_cons hsCk1.one ones_nil)))))) ?_; clear hS; rintro w hS
      replace hS : Sat w0 w [.blk g1 [.int .i64 u.vars, .int .i64 u.den, xB, xF, xC], .blk g2 [.int .i64 0, .int .i64 0, .slice none 0 0, .slice none 0 0, .slice none 0 0], .sem (Frame.alt (u = t ∧ xB = vB ∧ xF = vF ∧ xC = vC ∧ xv = vv) (Frame.bun [.own xB 1 3 u.nb (ints u.B), .own xF 1 3 u.nf (ints u.F), .own xC 1 22 u.nc xv, .sem (Frame.rows 3 u.nc xv u.ln u.C)])), .own vBk1 1 3 tk1.nb (ints tk1.B), .own vFk1 1 3 tk1.nf (ints tk1.F), .own vCk1 1 22 tk1.nc vvk1, .sem (Frame.rows 3 tk1.nc vvk1 tk1.ln tk1.C), .blk g3 [.int .i64 tk1.vars, .int .i64 tk1.den, vBk1, vFk1, vCk1]] := hS
      refine ls_val hF (.free rfl) rfl rfl (ex_assign rfl rfl) ?_; clear hF a; intro a hF
      refine ls_nil ?_
      refine then_normal ?_
      refine cw_seq ?_
      refine cw_seq ?_
      refine wp_region_lit ?_
      refine ls_val hF (.free rfl) rfl rfl (ex_move rfl rfl) ?_; clear hF a; intro a hF
      refine ls_val hF (.free rfl) rfl rfl (ex_neq rfl rfl rfl) ?_; clear hF a; intro a hF
      refine ls_nil ?_
      refine then_normal ?_
      refine cw_if hF rfl (fun hc => ?_) (fun hc => ?_)
      ·
       refine cw_seq ?_
       refine wp_region_lit ?_
       refine ls_val hF (.free rfl) rfl rfl (ex_loads_blk 0 rfl st_43 rfl hS rfl rfl) ?_; clear hF a; intro a hF
       refine ls_val hF (.free rfl) rfl rfl (ex_move rfl rfl) ?_; clear hF a; intro a hF
       refine ls_effx hF (.free rfl) rfl (st_blks 1 (ds := [.int .i64 u.vars, .int .i64 u.den, xB, xF, xC]) rfl st_43 hS rfl rfl rfl rfl (ones_cons rfl (ones_cons rfl (ones_cons hxB.one (ones_cons hxF.one (ones_cons hxC.one ones_nil)))))) ?_; clear hS; rintro w hS
       replace hS : Sat w0 w [.blk g1 [.int .i64 u.vars, .int .i64 u.den, xB, xF, xC], .blk g2 [.int .i64 u.vars, .int .i64 u.den, xB, xF, xC], .sem (Frame.alt (u = t ∧ xB = vB ∧ xF = vF ∧ xC = vC ∧ xv = vv) (Frame.bun [.own xB 1 3 u.nb (ints u.B), .own xF 1 3 u.nf (ints u.F), .own xC 1 22 u.nc xv, .sem (Frame.rows 3 u.nc xv u.ln u.C)])), .own vBk1 1 3 tk1.nb (ints tk1.B), .own vFk1 1 3 tk1.nf (ints tk1.F), .own vCk1 1 22 tk1.nc vvk1, .sem (Frame.rows 3 tk1.nc vvk1 tk1.ln tk1.C), .blk g3 [.int .i64 tk1.vars, .int .i64 tk1.den, vBk1, vFk1, vCk1]] := hS
       refine ls_val hF (.free rfl) rfl rfl (ex_assign rfl rfl) ?_; clear hF a; intro a hF
       refine ls_nil ?_
       refine then_normal ?_
       refine wp_ret ?_
       refine then_ret (inb_ret (then_ret (then_ret (inb_ret ((fin_ct 1 hF rfl rfl rfl st_43 hS rfl rfl ⟨_, rfl, ?_⟩))))))
       exact ⟨xB, xF, xC, xv, u, _, rfl, hrun _ _ (by rw [show (1000 - n).toNat = (1000 - (n + 1)).toNat + 1 by omega]; exact .bad hn0 hpvk1 (by omega)), hxB, hxF, hxC, hS.sub (.cons _ (.cons _ (.cons_cons _ (.cons _ (.cons _ (.cons _ (.cons _ (.cons _ .slnil))))))))⟩
      ·
       refine wp_skip ?_
       refine then_normal ?_
       refine wp_region_lit ?_
       refine ls_val hF (.free rfl) rfl rfl (ex_loads_blk 7 rfl st_43 rfl hS rfl rfl) ?_; clear hF a; intro a hF
       refine ls_effx hF (.free rfl) rfl (st_blks 0 (ds := [.int .i64 tk1.vars, .int .i64 tk1.den, vBk1, vFk1, vCk1]) rfl st_43 hS rfl rfl rfl rfl (ones_cons rfl (ones_cons rfl (ones_cons hsBk1.one (ones_cons hsFk1.one (ones_cons hsCk1.one ones_nil)))))) ?_; clear hS; rintro w hS
       replace hS : Sat w0 w [.blk g1 [.int .i64 tk1.vars, .int .i64 tk1.den, vBk1, vFk1, vCk1], .blk g2 [.int .i64 0, .int .i64 0, .slice none 0 0, .slice none 0 0, .slice none 0 0], .sem (Frame.alt (u = t ∧ xB = vB ∧ xF = vF ∧ xC = vC ∧ xv = vv) (Frame.bun [.own xB 1 3 u.nb (ints u.B), .own xF 1 3 u.nf (ints u.F), .own xC 1 22 u.nc xv, .sem (Frame.rows 3 u.nc xv u.ln u.C)])), .own vBk1 1 3 tk1.nb (ints tk1.B), .own vFk1 1 3 tk1.nf (ints tk1.F), .own vCk1 1 22 tk1.nc vvk1, .sem (Frame.rows 3 tk1.nc vvk1 tk1.ln tk1.C), .blk g3 [.int .i64 tk1.vars, .int .i64 tk1.den, vBk1, vFk1, vCk1]] := hS
       refine ls_nil ?_
       refine inb_normal ?_
       refine then_normal ?_
       refine wp_region_lit ?_
       refine ls_val hF (.free rfl) rfl rfl (ex_move rfl rfl) ?_; clear hF a; intro a hF
       replace hS := hS.sub (.cons_cons _ (.cons_cons _ (.cons _ (.cons_cons _ (.cons_cons _ (.cons_cons _ (.cons_cons _ (.cons _ .slnil))))))))
       replace hS : Sat w0 w [.blk g1 [.int .i64 tk1.vars, .int .i64 tk1.den, vBk1, vFk1, vCk1], .blk g2 [.int .i64 0, .int .i64 0, .slice none 0 0, .slice none 0 0, .slice none 0 0], .own vBk1 1 3 tk1.nb (ints tk1.B), .own vFk1 1 3 tk1.nf (ints tk1.F), .own vCk1 1 22 tk1.nc vvk1, .sem (Frame.rows 3 tk1.nc vvk1 tk1.ln tk1.C)] := hS
       replace hS := Sat.altR (tk1 = t ∧ vBk1 = vB ∧ vFk1 = vF ∧ vCk1 = vC ∧ vvk1 = vv) (l1 := [.blk g1 [.int .i64 tk1.vars, .int .i64 tk1.den, vBk1, vFk1, vCk1], .blk g2 [.int .i64 0, .int .i64 0, .slice none 0 0, .slice none 0 0, .slice none 0 0]]) (l2 := []) (Sat.bundle (l1 := [.blk g1 [.int .i64 tk1.vars, .int .i64 tk1.den, vBk1, vFk1, vCk1], .blk g2 [.int .i64 0, .int .i64 0, .slice none 0 0, .slice none 0 0, .slice none 0 0]]) (l2 := [.own vBk1 1 3 tk1.nb (ints tk1.B), .own vFk1 1 3 tk1.nf (ints tk1.F), .own vCk1 1 22 tk1.nc vvk1, .sem (Frame.rows 3 tk1.nc vvk1 tk1.ln tk1.C)]) hS)
       replace hS : Sat w0 w [.blk g1 [.int .i64 tk1.vars, .int .i64 tk1.den, vBk1, vFk1, vCk1], .blk g2 [.int .i64 0, .int .i64 0, .slice none 0 0, .slice none 0 0, .slice none 0 0], .sem (Frame.alt (tk1 = t ∧ vBk1 = vB ∧ vFk1 = vF ∧ vCk1 = vC ∧ vvk1 = vv) (Frame.bun [.own vBk1 1 3 tk1.nb (ints tk1.B), .own vFk1 1 3 tk1.nf (ints tk1.F), .own vCk1 1 22 tk1.nc vvk1, .sem (Frame.rows 3 tk1.nc vvk1 tk1.ln tk1.C)]))] := hS
       refine ls_val hF (.free rfl) rfl rfl (ex_add (r := n + 1) rfl rfl rfl (by omega) (by unfold I64; omega)) ?_; clear hF a; intro a hF
       refine ls_val hF (.free rfl) rfl rfl (ex_assign rfl rfl) ?_; clear hF a; intro a hF
       refine ls_nil ?_
       refine then_normal ?_
       refine ⟨_, (by omega), tk1, vBk1, vFk1, vCk1, vvk1, n + 1, rfl, (by omega), (by omega), ?_, ?_, ?_, ?_, (hF.pick (hF.pick (hF.pick hF.nil 4 rfl) 2 rfl) 1 rfl), hS.sub (List.Sublist.refl _)⟩
       ·
        exact hsBk1
       ·
        exact hsFk1
       ·
        exact hsCk1
       ·
        intro z e hz; have he0 : ek1 = 0 := (by omega); rw [he0] at hpvk1; exact hrun z e (by rw [show (1000 - n).toNat = (1000 - (n + 1)).toNat + 1 by omega]; exact .go hn0 hpvk1 hz)

end Go.Proofs.Ytakgjpmhbfieeaa
