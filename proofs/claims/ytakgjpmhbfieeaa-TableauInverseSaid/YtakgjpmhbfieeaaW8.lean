/- The walk of Solve, of tableau. -/
import Derived.Test.YtakgjpmhbfieeaaW7
import Derived.Test.YtakgjpmhbfieeaaFu
namespace Go.Proofs.Ytakgjpmhbfieeaa
open Go Go.RowKit Go.Proofs.Gw
set_option linter.unusedVariables false

theorem cl_20 : calledT Try.prog 20 = true := by kernel_rfl
theorem cl_40 : calledT Try.prog 40 = true := by kernel_rfl
theorem el_30 : elemT Try.prog 30 = some (.agg #[.slice none 0 0, .slice none 0 0, .int .i64 0, .int .i64 0], 4, 64) := by kernel_rfl
theorem fd_30_0 : fieldT Try.prog 30 0 = some 0 := by kernel_rfl
theorem fd_30_1 : fieldT Try.prog 30 1 = some 1 := by kernel_rfl
theorem st_30 : structT Try.prog 30 = some 4 := by kernel_rfl
set_option maxRecDepth 20000 in
theorem c_solve {vc vA vb : Value} {vq : Int → Value} {p : Lp} (w0 : World) (hL : LAt w0 vc vA vb vq p) :
    Calls Try.prog 15 [.agg #[vc, vA, vb]].toArray w0 fun e w => ∃ v, e = .returned v ∧ ∃ vX vY s e, v = .tuple #[.agg #[vX, vY, .int .i64 s.val, .int .i64 s.den], .int .i64 e] ∧ SolveR p s e ∧ Slh vX s.n ∧ Slh vY s.m ∧ Sat w0 w [.own vX 1 3 s.n (ints s.X), .own vY 1 3 s.m (ints s.Y)] := by
  have hn := hL.c.slh.n0; have hn1 := hL.c.slh.n1; have hm := hL.A.row.slh.n0; have hm1 := hL.A.row.slh.n1; have hk := hL.b.slh.n0; have hk1 := hL.b.slh.n1
  refine enterS (vs := [.agg #[vc, vA, vb]]) Try.func15 rfl Try.ntmps15 rfl ?_
  intro a w hS hF
  refine cw_seq ?_
  refine wp_region_lit ?_
  refine ls_any hF (.free rfl) rfl rfl (ex_box (cs := [vc, vA, vb]) rfl hS rfl rfl) ?_; clear hF; rintro _ w ⟨g1, rfl, hS⟩ a hF
  replace hS : Sat w0 w [.blk g1 [vc, vA, vb]] := hS
  refine ls_any hF (.free rfl) rfl rfl (ex_alloc (cs := [.slice none 0 0, .slice none 0 0, .int .i64 0, .int .i64 0]) rfl el_30 hS rfl) ?_; clear hF; rintro _ w ⟨g2, rfl, hS⟩ a hF
  replace hS : Sat w0 w [.blk g1 [vc, vA, vb], .blk g2 [.slice none 0 0, .slice none 0 0, .int .i64 0, .int .i64 0]] := hS
  refine ls_val hF (.free rfl) rfl rfl (ex_assign rfl rfl) ?_; clear hF a; intro a hF
  refine ls_nil ?_
  refine then_normal ?_
  refine cw_seq ?_
  refine wp_region_lit ?_
  refine ls_val hF (.free rfl) rfl rfl (ex_loads_blk 0 rfl st_34 rfl hS rfl rfl) ?_; clear hF a; intro a hF
  refine ls_call hF (.free rfl) rfl rfl (ex_call0 rfl rfl cl_20 (args_cons rfl args0)) (c_start (p := p) w (hL.below hS.below)) ?_; clear hF; rintro _ w ⟨vBk1, vFk1, vCk1, vvk1, tk1, ek1, rfl, hstk1, hsBk1, hsFk1, hsCk1, hS'⟩ a hF
  replace hS : Sat w0 w [.blk g1 [vc, vA, vb], .blk g2 [.slice none 0 0, .slice none 0 0, .int .i64 0, .int .i64 0], .own vBk1 1 3 tk1.nb (ints tk1.B), .own vFk1 1 3 tk1.nf (ints tk1.F), .own vCk1 1 22 tk1.nc vvk1, .sem (Frame.rows 3 tk1.nc vvk1 tk1.ln tk1.C)] := hS.comp hS'; clear hS'
  have hrsk1 := fun k (k0 : 0 ≤ k) (k1 : k < tk1.nc) => hS.slhIn 5 rfl k0 k1
  refine ls_val hF (.free rfl) rfl rfl (ex_move rfl rfl) ?_; clear hF a; intro a hF
  refine ls_val hF (.free rfl) rfl rfl (ex_extract rfl rfl rfl) ?_; clear hF a; intro a hF
  refine ls_val hF (.free rfl) rfl rfl (ex_extract rfl rfl rfl) ?_; clear hF a; intro a hF
  refine ls_any hF (.free rfl) rfl rfl (ex_alloc (cs := [.int .i64 0, .int .i64 0, .slice none 0 0, .slice none 0 0, .slice none 0 0]) rfl el_43 hS rfl) ?_; clear hF; rintro _ w ⟨g3, rfl, hS⟩ a hF
  replace hS : Sat w0 w [.blk g1 [vc, vA, vb], .blk g2 [.slice none 0 0, .slice none 0 0, .int .i64 0, .int .i64 0], .own vBk1 1 3 tk1.nb (ints tk1.B), .own vFk1 1 3 tk1.nf (ints tk1.F), .own vCk1 1 22 tk1.nc vvk1, .sem (Frame.rows 3 tk1.nc vvk1 tk1.ln tk1.C), .blk g3 [.int .i64 0, .int .i64 0, .slice none 0 0, .slice none 0 0, .slice none 0 0]] := hS
  refine ls_effx hF (.free rfl) rfl (st_blks 6 (ds := [.int .i64 tk1.vars, .int .i64 tk1.den, vBk1, vFk1, vCk1]) rfl st_43 hS rfl rfl rfl rfl (ones_cons rfl (ones_cons rfl (ones_cons hsBk1.one (ones_cons hsFk1.one (ones_cons hsCk1.one ones_nil)))))) ?_; clear hS; rintro w hS
  replace hS : Sat w0 w [.blk g1 [vc, vA, vb], .blk g2 [.slice none 0 0, .slice none 0 0, .int .i64 0, .int .i64 0], .own vBk1 1 3 tk1.nb (ints tk1.B), .own vFk1 1 3 tk1.nf (ints tk1.F), .own vCk1 1 22 tk1.nc vvk1, .sem (Frame.rows 3 tk1.nc vvk1 tk1.ln tk1.C), .blk g3 [.int .i64 tk1.vars, .int .i64 tk1.den, vBk1, vFk1, vCk1]] := hS
  refine ls_val hF (.free rfl) rfl rfl (ex_assign rfl rfl) ?_; clear hF a; intro a hF
  refine ls_nil ?_
  refine then_normal ?_
  refine cw_seq ?_
  refine cw_seq ?_
  refine wp_region_lit ?_
  refine ls_val hF (.free rfl) rfl rfl (ex_move rfl rfl) ?_; clear hF a; intro a hF
  refine ls_val hF (.free rfl) rfl rfl (ex_neq rfl rfl rfl) ?_; clear hF a; intro a hF
  refine ls_nil ?_
  refine then_normal ?_
  refine cw_if hF rfl (fun hc => ?_) (fun hc => ?_)
  ·
   refine cw_seq ?_
   refine wp_region_lit ?_
   refine ls_val hF (.free rfl) rfl rfl (ex_any (w' := w) (r := .value (.agg #[.slice none 0 0, .slice none 0 0, .int .i64 0, .int .i64 0])) (by intro _ _ h; cases h) rfl (by kernel_rfl)) ?_; clear hF a; intro a hF
   refine ls_val hF (.free rfl) rfl rfl (ex_move rfl rfl) ?_; clear hF a; intro a hF
   refine ls_effx hF (.free rfl) rfl (st_blks 1 (ds := [.slice none 0 0, .slice none 0 0, .int .i64 0, .int .i64 0]) rfl st_30 hS rfl rfl rfl rfl (ones_cons rfl (ones_cons rfl (ones_cons rfl (ones_cons rfl ones_nil))))) ?_; clear hS; rintro w hS
   replace hS : Sat w0 w [.blk g1 [vc, vA, vb], .blk g2 [.slice none 0 0, .slice none 0 0, .int .i64 0, .int .i64 0], .own vBk1 1 3 tk1.nb (ints tk1.B), .own vFk1 1 3 tk1.nf (ints tk1.F), .own vCk1 1 22 tk1.nc vvk1, .sem (Frame.rows 3 tk1.nc vvk1 tk1.ln tk1.C), .blk g3 [.int .i64 tk1.vars, .int .i64 tk1.den, vBk1, vFk1, vCk1]] := hS
   refine ls_val hF (.free rfl) rfl rfl (ex_assign rfl rfl) ?_; clear hF a; intro a hF
   refine ls_nil ?_
   refine then_normal ?_
   refine wp_ret ?_
   refine then_ret ((fin_ct 1 hF rfl rfl rfl st_30 hS rfl rfl ⟨_, rfl, ?_⟩))
   obtain ⟨hl0, hl1⟩ := hstk1.err (by omega)
   exact ⟨_, _, So.zero, _, rfl, .inl ⟨hl0, rfl, hl1⟩, slh_nil, slh_nil, ((hS.sub (.cons _ (.cons _ (.cons _ (.cons _ (.cons _ (.cons _ (.cons _ .slnil)))))))).addnil 1 3 (ints So.zero.X)).addnil 1 3 (ints So.zero.Y)⟩
  ·
   refine wp_skip ?_
   refine then_normal ?_
   refine cw_seq ?_
   refine cw_seq ?_
   refine wp_region_lit ?_
   refine ls_val hF (.free rfl) rfl rfl (ex_loads_blk 6 rfl st_43 rfl hS rfl rfl) ?_; clear hF a; intro a hF
   refine ls_call hF (.free rfl) rfl rfl (ex_call0 rfl rfl cl_40 (args_cons rfl args0)) (c_optimize (t := tk1) w (⟨(hS.rowN 2 rfl), (hS.rowN 3 rfl), (⟨(hS.rowN 4 rfl), fun k k0 k1 => hS.rowIn 5 rfl k0 k1, fun k k0 k1 => hS.roomIn 5 rfl k0 k1⟩ : MAt _ vCk1 tk1.nc vvk1 tk1.ln tk1.C)⟩ : TAt _ vBk1 vFk1 vCk1 vvk1 tk1)) ?_; clear hF; rintro _ w ⟨xBu1, xFu1, xCu1, xvu1, uu1, euu1, rfl, hrunu1, hxBu1, hxFu1, hxCu1, hS'⟩ a hF
   replace hS : Sat w0 w [.blk g1 [vc, vA, vb], .blk g2 [.slice none 0 0, .slice none 0 0, .int .i64 0, .int .i64 0], .own vBk1 1 3 tk1.nb (ints tk1.B), .own vFk1 1 3 tk1.nf (ints tk1.F), .own vCk1 1 22 tk1.nc vvk1, .sem (Frame.rows 3 tk1.nc vvk1 tk1.ln tk1.C), .blk g3 [.int .i64 tk1.vars, .int .i64 tk1.den, vBk1, vFk1, vCk1], .sem (Frame.alt (uu1 = tk1 ∧ xBu1 = vBk1 ∧ xFu1 = vFk1 ∧ xCu1 = vCk1 ∧ xvu1 = vvk1) (Frame.bun [.own xBu1 1 3 uu1.nb (ints uu1.B), .own xFu1 1 3 uu1.nf (ints uu1.F), .own xCu1 1 22 uu1.nc xvu1, .sem (Frame.rows 3 uu1.nc xvu1 uu1.ln uu1.C)]))] := hS.comp hS'; clear hS'
   have hxru1 := fun k (k0 : 0 ≤ k) (k1 : k < uu1.nc) => ((tat_alt (⟨(hS.rowN 2 rfl), (hS.rowN 3 rfl), (⟨(hS.rowN 4 rfl), fun k k0 k1 => hS.rowIn 5 rfl k0 k1, fun k k0 k1 => hS.roomIn 5 rfl k0 k1⟩ : MAt _ vCk1 tk1.nc vvk1 tk1.ln tk1.C)⟩ : TAt _ vBk1 vFk1 vCk1 vvk1 tk1) hS 7 rfl).C.p k k0 k1).slh
   refine ls_val hF (.free rfl) rfl rfl (ex_move rfl rfl) ?_; clear hF a; intro a hF
   refine ls_val hF (.free rfl) rfl rfl (ex_extract rfl rfl rfl) ?_; clear hF a; intro a hF
   refine ls_val hF (.free rfl) rfl rfl (ex_extract rfl rfl rfl) ?_; clear hF a; intro a hF
   refine ls_effx hF (.free rfl) rfl (st_blks 6 (ds := [.int .i64 uu1.vars, .int .i64 uu1.den, xBu1, xFu1, xCu1]) rfl st_43 hS rfl rfl rfl rfl (ones_cons rfl (ones_cons rfl (ones_cons hxBu1.one (ones_cons hxFu1.one (ones_cons hxCu1.one ones_nil)))))) ?_; clear hS; rintro w hS
   replace hS : Sat w0 w [.blk g1 [vc, vA, vb], .blk g2 [.slice none 0 0, .slice none 0 0, .int .i64 0, .int .i64 0], .own vBk1 1 3 tk1.nb (ints tk1.B), .own vFk1 1 3 tk1.nf (ints tk1.F), .own vCk1 1 22 tk1.nc vvk1, .sem (Frame.rows 3 tk1.nc vvk1 tk1.ln tk1.C), .blk g3 [.int .i64 uu1.vars, .int .i64 uu1.den, xBu1, xFu1, xCu1], .sem (Frame.alt (uu1 = tk1 ∧ xBu1 = vBk1 ∧ xFu1 = vFk1 ∧ xCu1 = vCk1 ∧ xvu1 = vvk1) (Frame.bun [.own xBu1 1 3 uu1.nb (ints uu1.B), .own xFu1 1 3 uu1.nf (ints uu1.F), .own xCu1 1 22 uu1.nc xvu1, .sem (Frame.rows 3 uu1.nc xvu1 uu1.ln uu1.C)]))] := hS
   refine ls_val hF (.free rfl) rfl rfl (ex_assign rfl rfl) ?_; clear hF a; intro a hF
   refine ls_nil ?_
   refine then_normal ?_
   refine cw_seq ?_
   refine wp_region_lit ?_
   refine ls_val hF (.free rfl) rfl rfl (ex_move rfl rfl) ?_; clear hF a; intro a hF
   refine ls_val hF (.free rfl) rfl rfl (ex_neq rfl rfl rfl) ?_; clear hF a; intro a hF
   refine ls_nil ?_
   refine then_normal ?_
   refine cw_if hF rfl (fun hc => ?_) (fun hc => ?_)
   ·
    refine cw_seq ?_
    refine wp_region_lit ?_
    refine ls_val hF (.free rfl) rfl rfl (ex_any (w' := w) (r := .value (.agg #[.slice none 0 0, .slice none 0 0, .int .i64 0, .int .i64 0])) (by intro _ _ h; cases h) rfl (by kernel_rfl)) ?_; clear hF a; intro a hF
    refine ls_val hF (.free rfl) rfl rfl (ex_move rfl rfl) ?_; clear hF a; intro a hF
    refine ls_effx hF (.free rfl) rfl (st_blks 1 (ds := [.slice none 0 0, .slice none 0 0, .int .i64 0, .int .i64 0]) rfl st_30 hS rfl rfl rfl rfl (ones_cons rfl (ones_cons rfl (ones_cons rfl (ones_cons rfl ones_nil))))) ?_; clear hS; rintro w hS
    replace hS : Sat w0 w [.blk g1 [vc, vA, vb], .blk g2 [.slice none 0 0, .slice none 0 0, .int .i64 0, .int .i64 0], .own vBk1 1 3 tk1.nb (ints tk1.B), .own vFk1 1 3 tk1.nf (ints tk1.F), .own vCk1 1 22 tk1.nc vvk1, .sem (Frame.rows 3 tk1.nc vvk1 tk1.ln tk1.C), .blk g3 [.int .i64 uu1.vars, .int .i64 uu1.den, xBu1, xFu1, xCu1], .sem (Frame.alt (uu1 = tk1 ∧ xBu1 = vBk1 ∧ xFu1 = vFk1 ∧ xCu1 = vCk1 ∧ xvu1 = vvk1) (Frame.bun [.own xBu1 1 3 uu1.nb (ints uu1.B), .own xFu1 1 3 uu1.nf (ints uu1.F), .own xCu1 1 22 uu1.nc xvu1, .sem (Frame.rows 3 uu1.nc xvu1 uu1.ln uu1.C)]))] := hS
    refine ls_val hF (.free rfl) rfl rfl (ex_assign rfl rfl) ?_; clear hF a; intro a hF
    refine ls_nil ?_
    refine then_normal ?_
    refine wp_ret ?_
    refine then_ret ((fin_ct 1 hF rfl rfl rfl st_30 hS rfl rfl ⟨_, rfl, ?_⟩))
    obtain ⟨hl, hts⟩ := hstk1.ok (by omega); rw [hts] at hrunu1
    exact ⟨_, _, So.zero, _, rfl, .inr ⟨hl, _, hrunu1, .inl ⟨by omega, rfl⟩⟩, slh_nil, slh_nil, ((hS.sub (.cons _ (.cons _ (.cons _ (.cons _ (.cons _ (.cons _ (.cons _ (.cons _ .slnil))))))))).addnil 1 3 (ints So.zero.X)).addnil 1 3 (ints So.zero.Y)⟩
   ·
    refine wp_skip ?_
    refine then_normal ?_
    refine cw_seq ?_
    refine cw_cut (fun a w => ∃ (v1 : Value) (v2 : Value) (g4 : Nat), (Slh v1 p.n) ∧ (Slh v2 p.m) ∧ Fr a 100 [(0, .agg #[vc, vA, vb]), (1, .pointer (some ⟨g1, 0, none⟩)), (2, .pointer (some ⟨g2, 0, none⟩)), (3, .int .i64 0), (12, .agg #[vc, vA, vb]), (13, .tuple #[.agg #[.int .i64 tk1.vars, .int .i64 tk1.den, vBk1, vFk1, vCk1], .int .i64 ek1]), (11, .tuple #[.agg #[.int .i64 tk1.vars, .int .i64 tk1.den, vBk1, vFk1, vCk1], .int .i64 ek1]), (14, .agg #[.int .i64 tk1.vars, .int .i64 tk1.den, vBk1, vFk1, vCk1]), (15, .int .i64 ek1), (4, .pointer (some ⟨g3, 0, none⟩)), (5, .int .i64 euu1), (16, .int .i64 ek1), (17, B (ek1 ≠ 0)), (21, .agg #[.int .i64 tk1.vars, .int .i64 tk1.den, vBk1, vFk1, vCk1]), (22, .tuple #[.agg #[.int .i64 uu1.vars, .int .i64 uu1.den, xBu1, xFu1, xCu1], .int .i64 euu1]), (20, .tuple #[.agg #[.int .i64 uu1.vars, .int .i64 uu1.den, xBu1, xFu1, xCu1], .int .i64 euu1]), (23, .agg #[.int .i64 uu1.vars, .int .i64 uu1.den, xBu1, xFu1, xCu1]), (24, .int .i64 euu1), (25, .int .i64 euu1), (26, B (euu1 ≠ 0)), (29, .pointer (some ⟨g1, 0, none⟩)), (30, vc), (31, .int .i64 p.n), (33, .pointer (some ⟨g1, 1, none⟩)), (34, vA), (35, .int .i64 p.m), (37, .pointer (some ⟨g3, 4, none⟩)), (38, xCu1), (39, .pointer (some (cad xCu1 0))), (40, (xvu1 0)), (41, .pointer (some (cad (xvu1 0) 0))), (42, .int .i64 (uu1.C 0 0)), (43, .pointer (some ⟨g3, 1, none⟩)), (44, .int .i64 uu1.den), (32, v1), (36, v2), (45, .agg #[v1, v2, .int .i64 (uu1.C 0 0), .int .i64 uu1.den]), (6, .pointer (some ⟨g4, 0, none⟩))] ∧ Sat w0 w [.blk g1 [vc, vA, vb], .blk g2 [.slice none 0 0, .slice none 0 0, .int .i64 0, .int .i64 0], .own vBk1 1 3 tk1.nb (ints tk1.B), .own vFk1 1 3 tk1.nf (ints tk1.F), .own vCk1 1 22 tk1.nc vvk1, .sem (Frame.rows 3 tk1.nc vvk1 tk1.ln tk1.C), .blk g3 [.int .i64 uu1.vars, .int .i64 uu1.den, xBu1, xFu1, xCu1], .sem (Frame.alt (uu1 = tk1 ∧ xBu1 = vBk1 ∧ xFu1 = vFk1 ∧ xCu1 = vCk1 ∧ xvu1 = vvk1) (Frame.bun [.own xBu1 1 3 uu1.nb (ints uu1.B), .own xFu1 1 3 uu1.nf (ints uu1.F), .own xCu1 1 22 uu1.nc xvu1, .sem (Frame.rows 3 uu1.nc xvu1 uu1.ln uu1.C)])), .own v1 1 3 p.n (ints (fun _ => 0)), .own v2 1 3 p.m (ints (fun _ => 0)), .blk g4 [v1, v2, .int .i64 (uu1.C 0 0), .int .i64 uu1.den]]) ?_ ?_
    ·
     refine dr_sat (m0 := [.blk g1 [vc, vA, vb], .blk g2 [.slice none 0 0, .slice none 0 0, .int .i64 0, .int .i64 0], .own vBk1 1 3 tk1.nb (ints tk1.B), .own vFk1 1 3 tk1.nf (ints tk1.F), .own vCk1 1 22 tk1.nc vvk1, .sem (Frame.rows 3 tk1.nc vvk1 tk1.ln tk1.C), .blk g3 [.int .i64 uu1.vars, .int .i64 uu1.den, xBu1, xFu1, xCu1], .sem (Frame.alt (uu1 = tk1 ∧ xBu1 = vBk1 ∧ xFu1 = vFk1 ∧ xCu1 = vCk1 ∧ xvu1 = vvk1) (Frame.bun [.own xBu1 1 3 uu1.nb (ints uu1.B), .own xFu1 1 3 uu1.nf (ints uu1.F), .own xCu1 1 22 uu1.nc xvu1, .sem (Frame.rows 3 uu1.nc xvu1 uu1.ln uu1.C)]))]) (m1 := [.blk g1 [vc, vA, vb], .blk g2 [.slice none 0 0, .slice none 0 0, .int .i64 0, .int .i64 0], .own vBk1 1 3 tk1.nb (ints tk1.B), .own vFk1 1 3 tk1.nf (ints tk1.F), .own vCk1 1 22 tk1.nc vvk1, .sem (Frame.rows 3 tk1.nc vvk1 tk1.ln tk1.C), .blk g3 [.int .i64 uu1.vars, .int .i64 uu1.den, xBu1, xFu1, xCu1], .sem (Frame.alt (uu1 = tk1 ∧ xBu1 = vBk1 ∧ xFu1 = vFk1 ∧ xCu1 = vCk1 ∧ xvu1 = vvk1) (Frame.bun [.own xBu1 1 3 uu1.nb (ints uu1.B), .own xFu1 1 3 uu1.nf (ints uu1.F), .own xCu1 1 22 uu1.nc xvu1, .sem (Frame.rows 3 uu1.nc xvu1 uu1.ln uu1.C)]))]) 18 mx_ hS (.cons_cons _ (.cons_cons _ (.cons_cons _ (.cons_cons _ (.cons_cons _ (.cons_cons _ (.cons_cons _ (.cons_cons _ .slnil)))))))) (.cons_cons _ (.cons_cons _ (.cons_cons _ (.cons_cons _ (.cons_cons _ (.cons_cons _ (.cons_cons _ (.cons_cons _ .slnil)))))))) rfl ?_; clear hS; intro w hS hcl hB
     refine dr_val hF hcl hB 0 rfl (.free rfl) rfl rfl (by kernel_rfl) rfl (fun w => (ex_field (b := ⟨g1, 0, none⟩) rfl fd_34_0 rfl rfl)) ?_; clear hF a hcl hB; intro a hF hcl hB
     obtain ⟨hl, hts⟩ := hstk1.ok (by omega)
     have b1 := hl.n1
     have b2 := hl.n2
     have b3 := hl.m2
     have b4 := hl.k
     have hdm := hrunu1.dims
     obtain ⟨hp, hco, hlv, _⟩ := hrunu1.fin (.inl (by omega))
     have hd1 : uu1.nb = p.m := by rw [hdm.1, hts]; rfl
     have hd2 : uu1.nf = p.n := by rw [hdm.2.1, hts]; rfl
     have hd3 : uu1.vars = p.n := by rw [hdm.2.2.2, hts]; rfl
     have hd4 := hp.c; have hl0 := hp.len (i := 0) (by omega) (by omega)
     refine dr_loadA hF hcl hB 1 rfl (.free rfl) rfl rfl (by kernel_rfl) rfl (fun w hS => (ex_load_blk 0 rfl pl_22 rfl hS rfl rfl)) ?_; clear hF a hcl hB; intro a hF hcl hB
     refine dr_val hF hcl hB 2 rfl (.free rfl) rfl rfl (by kernel_rfl) rfl (fun w => (ex_len rfl sl_22 rfl hL.c.slh)) ?_; clear hF a hcl hB; intro a hF hcl hB
     refine dr_val hF hcl hB 4 rfl (.free rfl) rfl rfl (by kernel_rfl) rfl (fun w => (ex_field (b := ⟨g1, 1, none⟩) rfl fd_34_1 rfl rfl)) ?_; clear hF a hcl hB; intro a hF hcl hB
     refine dr_loadA hF hcl hB 5 rfl (.free rfl) rfl rfl (by kernel_rfl) rfl (fun w hS => (ex_load_blk 0 rfl pl_23 rfl hS rfl rfl)) ?_; clear hF a hcl hB; intro a hF hcl hB
     refine dr_val hF hcl hB 6 rfl (.free rfl) rfl rfl (by kernel_rfl) rfl (fun w => (ex_len rfl sl_23 rfl hL.A.row.slh)) ?_; clear hF a hcl hB; intro a hF hcl hB
     refine dr_val hF hcl hB 8 rfl (.free rfl) rfl rfl (by kernel_rfl) rfl (fun w => (ex_field (b := ⟨g3, 4, none⟩) rfl fd_43_4 rfl rfl)) ?_; clear hF a hcl hB; intro a hF hcl hB
     refine dr_loadA hF hcl hB 9 rfl (.free rfl) rfl rfl (by kernel_rfl) rfl (fun w hS => (ex_load_blk 6 rfl pl_23 rfl hS rfl rfl)) ?_; clear hF a hcl hB; intro a hF hcl hB
     refine dr_val hF hcl hB 10 rfl (.free rfl) rfl rfl (by kernel_rfl) rfl (fun w => (ex_index (k := 0) rfl sl_23 rfl rfl hxCu1 (by omega) (by omega) (by omega))) ?_; clear hF a hcl hB; intro a hF hcl hB
     refine dr_loadA hF hcl hB 11 rfl (.free rfl) rfl rfl (by kernel_rfl) rfl (fun w hS => (ex_load_row (u := (xvu1 0)) rfl pl_22 rfl (tat_alt (⟨(hS.rowN 2 rfl), (hS.rowN 3 rfl), (⟨(hS.rowN 4 rfl), fun k k0 k1 => hS.rowIn 5 rfl k0 k1, fun k k0 k1 => hS.roomIn 5 rfl k0 k1⟩ : MAt _ vCk1 tk1.nc vvk1 tk1.ln tk1.C)⟩ : TAt _ vBk1 vFk1 vCk1 vvk1 tk1) hS 7 rfl).C.row (by omega) (by omega) rfl)) ?_; clear hF a hcl hB; intro a hF hcl hB
     refine dr_val hF hcl hB 12 rfl (.free rfl) rfl rfl (by kernel_rfl) rfl (fun w => (ex_index (k := 0) rfl sl_22 rfl rfl (hxru1 0 (by omega) (by omega)) (by omega) (by omega) (by omega))) ?_; clear hF a hcl hB; intro a hF hcl hB
     refine dr_loadA hF hcl hB 13 rfl (.free rfl) rfl rfl (by kernel_rfl) rfl (fun w hS => (ex_load_row (u := .int .i64 (uu1.C 0 0)) rfl pl_3 rfl ((tat_alt (⟨(hS.rowN 2 rfl), (hS.rowN 3 rfl), (⟨(hS.rowN 4 rfl), fun k k0 k1 => hS.rowIn 5 rfl k0 k1, fun k k0 k1 => hS.roomIn 5 rfl k0 k1⟩ : MAt _ vCk1 tk1.nc vvk1 tk1.ln tk1.C)⟩ : TAt _ vBk1 vFk1 vCk1 vvk1 tk1) hS 7 rfl).C.p 0 (by omega) (by omega)) (by omega) (by omega) rfl)) ?_; clear hF a hcl hB; intro a hF hcl hB
     refine dr_val hF hcl hB 14 rfl (.free rfl) rfl rfl (by kernel_rfl) rfl (fun w => (ex_field (b := ⟨g3, 1, none⟩) rfl fd_43_1 rfl rfl)) ?_; clear hF a hcl hB; intro a hF hcl hB
     refine dr_loadA hF hcl hB 15 rfl (.free rfl) rfl rfl (by kernel_rfl) rfl (fun w hS => (ex_load_blk 6 rfl pl_3 rfl hS rfl rfl)) ?_; clear hF a hcl hB; intro a hF hcl hB
     refine dr_fork (r := [3, 7, 17]) hcl (by decide) (by kernel_rfl) ((fk_cons ?_ (fk_cons ?_ (fk_cons ?_ fk_nil))))
     ·
      refine fk_any hF 3 rfl (.free rfl) rfl rfl (ex_make rfl sl_22 el_3 rfl rfl hS rfl rfl (by omega) (by omega) (by omega)) ?_; clear hF hB; rintro v1 w ⟨hS, hv1⟩ a hF hcl
      replace hS : Sat w0 w [.blk g1 [vc, vA, vb], .blk g2 [.slice none 0 0, .slice none 0 0, .int .i64 0, .int .i64 0], .own vBk1 1 3 tk1.nb (ints tk1.B), .own vFk1 1 3 tk1.nf (ints tk1.F), .own vCk1 1 22 tk1.nc vvk1, .sem (Frame.rows 3 tk1.nc vvk1 tk1.ln tk1.C), .blk g3 [.int .i64 uu1.vars, .int .i64 uu1.den, xBu1, xFu1, xCu1], .sem (Frame.alt (uu1 = tk1 ∧ xBu1 = vBk1 ∧ xFu1 = vFk1 ∧ xCu1 = vCk1 ∧ xvu1 = vvk1) (Frame.bun [.own xBu1 1 3 uu1.nb (ints uu1.B), .own xFu1 1 3 uu1.nf (ints uu1.F), .own xCu1 1 22 uu1.nc xvu1, .sem (Frame.rows 3 uu1.nc xvu1 uu1.ln uu1.C)])), .own v1 1 3 p.n (ints (fun _ => 0))] := hS
      refine ⟨⟨(fun _ => hS.sub (.cons_cons _ (.cons_cons _ (.cons_cons _ (.cons_cons _ (.cons_cons _ (.cons_cons _ (.cons_cons _ (.cons_cons _ (.cons _ .slnil)))))))))), hS.sub (.cons_cons _ (.cons_cons _ (.cons_cons _ (.cons_cons _ (.cons_cons _ (.cons_cons _ (.cons_cons _ (.cons_cons _ (.cons _ .slnil)))))))))⟩, fun hB => ?_⟩
      refine dr_fork (r := [7, 17]) hcl (by decide) (by kernel_rfl) ((fk_cons ?_ (fk_cons ?_ fk_nil)))
      ·
       refine fk_any hF 7 rfl (.free rfl) rfl rfl (ex_make rfl sl_22 el_3 rfl rfl hS rfl rfl (by omega) (by omega) (by omega)) ?_; clear hF hB; rintro v2 w ⟨hS, hv2⟩ a hF hcl
       replace hS : Sat w0 w [.blk g1 [vc, vA, vb], .blk g2 [.slice none 0 0, .slice none 0 0, .int .i64 0, .int .i64 0], .own vBk1 1 3 tk1.nb (ints tk1.B), .own vFk1 1 3 tk1.nf (ints tk1.F), .own vCk1 1 22 tk1.nc vvk1, .sem (Frame.rows 3 tk1.nc vvk1 tk1.ln tk1.C), .blk g3 [.int .i64 uu1.vars, .int .i64 uu1.den, xBu1, xFu1, xCu1], .sem (Frame.alt (uu1 = tk1 ∧ xBu1 = vBk1 ∧ xFu1 = vFk1 ∧ xCu1 = vCk1 ∧ xvu1 = vvk1) (Frame.bun [.own xBu1 1 3 uu1.nb (ints uu1.B), .own xFu1 1 3 uu1.nf (ints uu1.F), .own xCu1 1 22 uu1.nc xvu1, .sem (Frame.rows 3 uu1.nc xvu1 uu1.ln uu1.C)])), .own v1 1 3 p.n (ints (fun _ => 0)), .own v2 1 3 p.m (ints (fun _ => 0))] := hS
       refine ⟨⟨(fun _ => hS.sub (.cons_cons _ (.cons_cons _ (.cons_cons _ (.cons_cons _ (.cons_cons _ (.cons_cons _ (.cons_cons _ (.cons_cons _ (.cons _ (.cons _ .slnil))))))))))), hS.sub (.cons_cons _ (.cons_cons _ (.cons_cons _ (.cons_cons _ (.cons_cons _ (.cons_cons _ (.cons_cons _ (.cons_cons _ (.cons _ (.cons _ .slnil))))))))))⟩, fun hB => ?_⟩
       refine dr_val hF hcl hB 16 rfl (.free rfl) rfl rfl (by kernel_rfl) rfl (fun w => (ex_any (w' := w) (r := .value (.agg #[v1, v2, .int .i64 (uu1.C 0 0), .int .i64 uu1.den])) (by intro _ _ h; cases h) rfl (by obtain ⟨_, _, _, _, rfl, _⟩ := hv1; obtain ⟨_, _, _, _, rfl, _⟩ := hv2; kernel_rfl))) ?_; clear hF a hcl hB; intro a hF hcl hB
       refine dr_any hF hcl 17 rfl (.free rfl) rfl rfl (by kernel_rfl) (ex_alloc (cs := [.slice none 0 0, .slice none 0 0, .int .i64 0, .int .i64 0]) rfl el_30 hS rfl) ?_; clear hF hB; rintro _ w ⟨g4, rfl, hS⟩ a hF hcl
       replace hS : Sat w0 w [.blk g1 [vc, vA, vb], .blk g2 [.slice none 0 0, .slice none 0 0, .int .i64 0, .int .i64 0], .own vBk1 1 3 tk1.nb (ints tk1.B), .own vFk1 1 3 tk1.nf (ints tk1.F), .own vCk1 1 22 tk1.nc vvk1, .sem (Frame.rows 3 tk1.nc vvk1 tk1.ln tk1.C), .blk g3 [.int .i64 uu1.vars, .int .i64 uu1.den, xBu1, xFu1, xCu1], .sem (Frame.alt (uu1 = tk1 ∧ xBu1 = vBk1 ∧ xFu1 = vFk1 ∧ xCu1 = vCk1 ∧ xvu1 = vvk1) (Frame.bun [.own xBu1 1 3 uu1.nb (ints uu1.B), .own xFu1 1 3 uu1.nf (ints uu1.F), .own xCu1 1 22 uu1.nc xvu1, .sem (Frame.rows 3 uu1.nc xvu1 uu1.ln uu1.C)])), .own v1 1 3 p.n (ints (fun _ => 0)), .own v2 1 3 p.m (ints (fun _ => 0)), .blk g4 [.slice none 0 0, .slice none 0 0, .int .i64 0, .int .i64 0]] := hS
       refine ⟨⟨(fun _ => hS.sub (.cons_cons _ (.cons_cons _ (.cons_cons _ (.cons_cons _ (.cons_cons _ (.cons_cons _ (.cons_cons _ (.cons_cons _ (.cons _ (.cons _ (.cons _ .slnil)))))))))))), hS.sub (.cons_cons _ (.cons_cons _ (.cons_cons _ (.cons_cons _ (.cons_cons _ (.cons_cons _ (.cons_cons _ (.cons_cons _ (.cons _ (.cons _ (.cons _ .slnil)))))))))))⟩, fun hB => ?_⟩
       refine dr_effx hF hcl 18 rfl (.free rfl) rfl (by kernel_rfl) (st_blks 10 (ds := [v1, v2, .int .i64 (uu1.C 0 0), .int .i64 uu1.den]) rfl st_30 hS rfl rfl rfl rfl (ones_cons hv1.one (ones_cons hv2.one (ones_cons rfl (ones_cons rfl ones_nil))))) ?_; clear hS hB; rintro w hS hcl
       replace hS : Sat w0 w [.blk g1 [vc, vA, vb], .blk g2 [.slice none 0 0, .slice none 0 0, .int .i64 0, .int .i64 0], .own vBk1 1 3 tk1.nb (ints tk1.B), .own vFk1 1 3 tk1.nf (ints tk1.F), .own vCk1 1 22 tk1.nc vvk1, .sem (Frame.rows 3 tk1.nc vvk1 tk1.ln tk1.C), .blk g3 [.int .i64 uu1.vars, .int .i64 uu1.den, xBu1, xFu1, xCu1], .sem (Frame.alt (uu1 = tk1 ∧ xBu1 = vBk1 ∧ xFu1 = vFk1 ∧ xCu1 = vCk1 ∧ xvu1 = vvk1) (Frame.bun [.own xBu1 1 3 uu1.nb (ints uu1.B), .own xFu1 1 3 uu1.nf (ints uu1.F), .own xCu1 1 22 uu1.nc xvu1, .sem (Frame.rows 3 uu1.nc xvu1 uu1.ln uu1.C)])), .own v1 1 3 p.n (ints (fun _ => 0)), .own v2 1 3 p.m (ints (fun _ => 0)), .blk g4 [v1, v2, .int .i64 (uu1.C 0 0), .int .i64 uu1.den]] := hS
       refine ⟨⟨(fun h => absurd h (by decide)), hS.sub (.cons_cons _ (.cons_cons _ (.cons_cons _ (.cons_cons _ (.cons_cons _ (.cons_cons _ (.cons_cons _ (.cons_cons _ (.cons _ (.cons _ (.cons _ .slnil)))))))))))⟩, fun hB => ?_⟩
       refine dr_done (by kernel_rfl) ?_; clear hcl hB
       refine then_normal ?_
       exact ⟨v1, v2, g4, hv1, hv2, (hF.pick (hF.pick (hF.pick (hF.pick (hF.pick (hF.pick (hF.pick (hF.pick (hF.pick (hF.pick (hF.pick (hF.pick (hF.pick (hF.pick (hF.pick (hF.pick (hF.pick (hF.pick (hF.pick (hF.pick (hF.pick (hF.pick (hF.pick (hF.pick (hF.pick (hF.pick (hF.pick (hF.pick (hF.pick (hF.pick (hF.pick (hF.pick (hF.pick (hF.pick (hF.pick (hF.pick (hF.pick (hF.pick hF.nil 6 rfl) 45 rfl) 36 rfl) 32 rfl) 44 rfl) 43 rfl) 42 rfl) 41 rfl) 40 rfl) 39 rfl) 38 rfl) 37 rfl) 35 rfl) 34 rfl) 33 rfl) 31 rfl) 30 rfl) 29 rfl) 26 rfl) 25 rfl) 24 rfl) 23 rfl) 20 rfl) 22 rfl) 21 rfl) 17 rfl) 16 rfl) 5 rfl) 4 rfl) 15 rfl) 14 rfl) 11 rfl) 13 rfl) 12 rfl) 3 rfl) 2 rfl) 1 rfl) 0 rfl), hS⟩
      ·
       refine fk_any hF 17 rfl (.free rfl) rfl rfl (ex_alloc (cs := [.slice none 0 0, .slice none 0 0, .int .i64 0, .int .i64 0]) rfl el_30 hS rfl) ?_; clear hF hB; rintro _ w ⟨g4, rfl, hS⟩ a hF hcl
       replace hS : Sat w0 w [.blk g1 [vc, vA, vb], .blk g2 [.slice none 0 0, .slice none 0 0, .int .i64 0, .int .i64 0], .own vBk1 1 3 tk1.nb (ints tk1.B), .own vFk1 1 3 tk1.nf (ints tk1.F), .own vCk1 1 22 tk1.nc vvk1, .sem (Frame.rows 3 tk1.nc vvk1 tk1.ln tk1.C), .blk g3 [.int .i64 uu1.vars, .int .i64 uu1.den, xBu1, xFu1, xCu1], .sem (Frame.alt (uu1 = tk1 ∧ xBu1 = vBk1 ∧ xFu1 = vFk1 ∧ xCu1 = vCk1 ∧ xvu1 = vvk1) (Frame.bun [.own xBu1 1 3 uu1.nb (ints uu1.B), .own xFu1 1 3 uu1.nf (ints uu1.F), .own xCu1 1 22 uu1.nc xvu1, .sem (Frame.rows 3 uu1.nc xvu1 uu1.ln uu1.C)])), .own v1 1 3 p.n (ints (fun _ => 0)), .blk g4 [.slice none 0 0, .slice none 0 0, .int .i64 0, .int .i64 0]] := hS
       refine ⟨⟨(fun _ => hS.sub (.cons_cons _ (.cons_cons _ (.cons_cons _ (.cons_cons _ (.cons_cons _ (.cons_cons _ (.cons_cons _ (.cons_cons _ (.cons _ (.cons _ .slnil))))))))))), hS.sub (.cons_cons _ (.cons_cons _ (.cons_cons _ (.cons_cons _ (.cons_cons _ (.cons_cons _ (.cons_cons _ (.cons_cons _ (.cons _ (.cons _ .slnil))))))))))⟩, fun hB => ?_⟩
       refine dr_any hF hcl 7 rfl (.free rfl) rfl rfl (by kernel_rfl) (ex_make rfl sl_22 el_3 rfl rfl hS rfl rfl (by omega) (by omega) (by omega)) ?_; clear hF hB; rintro v2 w ⟨hS, hv2⟩ a hF hcl
       replace hS : Sat w0 w [.blk g1 [vc, vA, vb], .blk g2 [.slice none 0 0, .slice none 0 0, .int .i64 0, .int .i64 0], .own vBk1 1 3 tk1.nb (ints tk1.B), .own vFk1 1 3 tk1.nf (ints tk1.F), .own vCk1 1 22 tk1.nc vvk1, .sem (Frame.rows 3 tk1.nc vvk1 tk1.ln tk1.C), .blk g3 [.int .i64 uu1.vars, .int .i64 uu1.den, xBu1, xFu1, xCu1], .sem (Frame.alt (uu1 = tk1 ∧ xBu1 = vBk1 ∧ xFu1 = vFk1 ∧ xCu1 = vCk1 ∧ xvu1 = vvk1) (Frame.bun [.own xBu1 1 3 uu1.nb (ints uu1.B), .own xFu1 1 3 uu1.nf (ints uu1.F), .own xCu1 1 22 uu1.nc xvu1, .sem (Frame.rows 3 uu1.nc xvu1 uu1.ln uu1.C)])), .own v1 1 3 p.n (ints (fun _ => 0)), .blk g4 [.slice none 0 0, .slice none 0 0, .int .i64 0, .int .i64 0], .own v2 1 3 p.m (ints (fun _ => 0))] := hS
       refine ⟨⟨(fun _ => hS.sub (.cons_cons _ (.cons_cons _ (.cons_cons _ (.cons_cons _ (.cons_cons _ (.cons_cons _ (.cons_cons _ (.cons_cons _ (.cons _ (.cons _ (.cons _ .slnil)))))))))))), hS.sub (.cons_cons _ (.cons_cons _ (.cons_cons _ (.cons_cons _ (.cons_cons _ (.cons_cons _ (.cons_cons _ (.cons_cons _ (.cons _ (.cons _ (.cons _ .slnil)))))))))))⟩, fun hB => ?_⟩
       refine dr_val hF hcl hB 16 rfl (.free rfl) rfl rfl (by kernel_rfl) rfl (fun w => (ex_any (w' := w) (r := .value (.agg #[v1, v2, .int .i64 (uu1.C 0 0), .int .i64 uu1.den])) (by intro _ _ h; cases h) rfl (by obtain ⟨_, _, _, _, rfl, _⟩ := hv1; obtain ⟨_, _, _, _, rfl, _⟩ := hv2; kernel_rfl))) ?_; clear hF a hcl hB; intro a hF hcl hB
       refine dr_effx hF hcl 18 rfl (.free rfl) rfl (by kernel_rfl) (st_blks 9 (ds := [v1, v2, .int .i64 (uu1.C 0 0), .int .i64 uu1.den]) rfl st_30 hS rfl rfl rfl rfl (ones_cons hv1.one (ones_cons hv2.one (ones_cons rfl (ones_cons rfl ones_nil))))) ?_; clear hS hB; rintro w hS hcl
       replace hS : Sat w0 w [.blk g1 [vc, vA, vb], .blk g2 [.slice none 0 0, .slice none 0 0, .int .i64 0, .int .i64 0], .own vBk1 1 3 tk1.nb (ints tk1.B), .own vFk1 1 3 tk1.nf (ints tk1.F), .own vCk1 1 22 tk1.nc vvk1, .sem (Frame.rows 3 tk1.nc vvk1 tk1.ln tk1.C), .blk g3 [.int .i64 uu1.vars, .int .i64 uu1.den, xBu1, xFu1, xCu1], .sem (Frame.alt (uu1 = tk1 ∧ xBu1 = vBk1 ∧ xFu1 = vFk1 ∧ xCu1 = vCk1 ∧ xvu1 = vvk1) (Frame.bun [.own xBu1 1 3 uu1.nb (ints uu1.B), .own xFu1 1 3 uu1.nf (ints uu1.F), .own xCu1 1 22 uu1.nc xvu1, .sem (Frame.rows 3 uu1.nc xvu1 uu1.ln uu1.C)])), .own v1 1 3 p.n (ints (fun _ => 0)), .blk g4 [v1, v2, .int .i64 (uu1.C 0 0), .int .i64 uu1.den], .own v2 1 3 p.m (ints (fun _ => 0))] := hS
       refine ⟨⟨(fun h => absurd h (by decide)), hS.sub (.cons_cons _ (.cons_cons _ (.cons_cons _ (.cons_cons _ (.cons_cons _ (.cons_cons _ (.cons_cons _ (.cons_cons _ (.cons _ (.cons _ (.cons _ .slnil)))))))))))⟩, fun hB => ?_⟩
       refine dr_done (by kernel_rfl) ?_; clear hcl hB
       refine then_normal ?_
       exact ⟨v1, v2, g4, hv1, hv2, (hF.pick (hF.pick (hF.pick (hF.pick (hF.pick (hF.pick (hF.pick (hF.pick (hF.pick (hF.pick (hF.pick (hF.pick (hF.pick (hF.pick (hF.pick (hF.pick (hF.pick (hF.pick (hF.pick (hF.pick (hF.pick (hF.pick (hF.pick (hF.pick (hF.pick (hF.pick (hF.pick (hF.pick (hF.pick (hF.pick (hF.pick (hF.pick (hF.pick (hF.pick (hF.pick (hF.pick (hF.pick (hF.pick hF.nil 6 rfl) 45 rfl) 36 rfl) 32 rfl) 44 rfl) 43 rfl) 42 rfl) 41 rfl) 40 rfl) 39 rfl) 38 rfl) 37 rfl) 35 rfl) 34 rfl) 33 rfl) 31 rfl) 30 rfl) 29 rfl) 26 rfl) 25 rfl) 24 rfl) 23 rfl) 20 rfl) 22 rfl) 21 rfl) 17 rfl) 16 rfl) 5 rfl) 4 rfl) 15 rfl) 14 rfl) 11 rfl) 13 rfl) 12 rfl) 3 rfl) 2 rfl) 1 rfl) 0 rfl), hS.perm (List.Perm.cons _ (List.Perm.cons _ (List.Perm.cons _ (List.Perm.cons _ (List.Perm.cons _ (List.Perm.cons _ (List.Perm.cons _ (List.Perm.cons _ (List.Perm.cons _ (perm_step (l1 := [.blk g4 [v1, v2, .int .i64 (uu1.C 0 0), .int .i64 uu1.den]]) (l2 := []) (List.Perm.refl _)))))))))))⟩
     ·
      refine fk_any hF 7 rfl (.free rfl) rfl rfl (ex_make rfl sl_22 el_3 rfl rfl hS rfl rfl (by omega) (by omega) (by omega)) ?_; clear hF hB; rintro v1 w ⟨hS, hv1⟩ a hF hcl
      replace hS : Sat w0 w [.blk g1 [vc, vA, vb], .blk g2 [.slice none 0 0, .slice none 0 0, .int .i64 0, .int .i64 0], .own vBk1 1 3 tk1.nb (ints tk1.B), .own vFk1 1 3 tk1.nf (ints tk1.F), .own vCk1 1 22 tk1.nc vvk1, .sem (Frame.rows 3 tk1.nc vvk1 tk1.ln tk1.C), .blk g3 [.int .i64 uu1.vars, .int .i64 uu1.den, xBu1, xFu1, xCu1], .sem (Frame.alt (uu1 = tk1 ∧ xBu1 = vBk1 ∧ xFu1 = vFk1 ∧ xCu1 = vCk1 ∧ xvu1 = vvk1) (Frame.bun [.own xBu1 1 3 uu1.nb (ints uu1.B), .own xFu1 1 3 uu1.nf (ints uu1.F), .own xCu1 1 22 uu1.nc xvu1, .sem (Frame.rows 3 uu1.nc xvu1 uu1.ln uu1.C)])), .own v1 1 3 p.m (ints (fun _ => 0))] := hS
      refine ⟨⟨(fun _ => hS.sub (.cons_cons _ (.cons_cons _ (.cons_cons _ (.cons_cons _ (.cons_cons _ (.cons_cons _ (.cons_cons _ (.cons_cons _ (.cons _ .slnil)))))))))), hS.sub (.cons_cons _ (.cons_cons _ (.cons_cons _ (.cons_cons _ (.cons_cons _ (.cons_cons _ (.cons_cons _ (.cons_cons _ (.cons _ .slnil)))))))))⟩, fun hB => ?_⟩
      refine dr_fork (r := [3, 17]) hcl (by decide) (by kernel_rfl) ((fk_cons ?_ (fk_cons ?_ fk_nil)))
      ·
       refine fk_any hF 3 rfl (.free rfl) rfl rfl (ex_make rfl sl_22 el_3 rfl rfl hS rfl rfl (by omega) (by omega) (by omega)) ?_; clear hF hB; rintro v2 w ⟨hS, hv2⟩ a hF hcl
       replace hS : Sat w0 w [.blk g1 [vc, vA, vb], .blk g2 [.slice none 0 0, .slice none 0 0, .int .i64 0, .int .i64 0], .own vBk1 1 3 tk1.nb (ints tk1.B), .own vFk1 1 3 tk1.nf (ints tk1.F), .own vCk1 1 22 tk1.nc vvk1, .sem (Frame.rows 3 tk1.nc vvk1 tk1.ln tk1.C), .blk g3 [.int .i64 uu1.vars, .int .i64 uu1.den, xBu1, xFu1, xCu1], .sem (Frame.alt (uu1 = tk1 ∧ xBu1 = vBk1 ∧ xFu1 = vFk1 ∧ xCu1 = vCk1 ∧ xvu1 = vvk1) (Frame.bun [.own xBu1 1 3 uu1.nb (ints uu1.B), .own xFu1 1 3 uu1.nf (ints uu1.F), .own xCu1 1 22 uu1.nc xvu1, .sem (Frame.rows 3 uu1.nc xvu1 uu1.ln uu1.C)])), .own v1 1 3 p.m (ints (fun _ => 0)), .own v2 1 3 p.n (ints (fun _ => 0))] := hS
       refine ⟨⟨(fun _ => hS.sub (.cons_cons _ (.cons_cons _ (.cons_cons _ (.cons_cons _ (.cons_cons _ (.cons_cons _ (.cons_cons _ (.cons_cons _ (.cons _ (.cons _ .slnil))))))))))), hS.sub (.cons_cons _ (.cons_cons _ (.cons_cons _ (.cons_cons _ (.cons_cons _ (.cons_cons _ (.cons_cons _ (.cons_cons _ (.cons _ (.cons _ .slnil))))))))))⟩, fun hB => ?_⟩
       refine dr_val hF hcl hB 16 rfl (.free rfl) rfl rfl (by kernel_rfl) rfl (fun w => (ex_any (w' := w) (r := .value (.agg #[v2, v1, .int .i64 (uu1.C 0 0), .int .i64 uu1.den])) (by intro _ _ h; cases h) rfl (by obtain ⟨_, _, _, _, rfl, _⟩ := hv2; obtain ⟨_, _, _, _, rfl, _⟩ := hv1; kernel_rfl))) ?_; clear hF a hcl hB; intro a hF hcl hB
       refine dr_any hF hcl 17 rfl (.free rfl) rfl rfl (by kernel_rfl) (ex_alloc (cs := [.slice none 0 0, .slice none 0 0, .int .i64 0, .int .i64 0]) rfl el_30 hS rfl) ?_; clear hF hB; rintro _ w ⟨g4, rfl, hS⟩ a hF hcl
       replace hS : Sat w0 w [.blk g1 [vc, vA, vb], .blk g2 [.slice none 0 0, .slice none 0 0, .int .i64 0, .int .i64 0], .own vBk1 1 3 tk1.nb (ints tk1.B), .own vFk1 1 3 tk1.nf (ints tk1.F), .own vCk1 1 22 tk1.nc vvk1, .sem (Frame.rows 3 tk1.nc vvk1 tk1.ln tk1.C), .blk g3 [.int .i64 uu1.vars, .int .i64 uu1.den, xBu1, xFu1, xCu1], .sem (Frame.alt (uu1 = tk1 ∧ xBu1 = vBk1 ∧ xFu1 = vFk1 ∧ xCu1 = vCk1 ∧ xvu1 = vvk1) (Frame.bun [.own xBu1 1 3 uu1.nb (ints uu1.B), .own xFu1 1 3 uu1.nf (ints uu1.F), .own xCu1 1 22 uu1.nc xvu1, .sem (Frame.rows 3 uu1.nc xvu1 uu1.ln uu1.C)])), .own v1 1 3 p.m (ints (fun _ => 0)), .own v2 1 3 p.n (ints (fun _ => 0)), .blk g4 [.slice none 0 0, .slice none 0 0, .int .i64 0, .int .i64 0]] := hS
       refine ⟨⟨(fun _ => hS.sub (.cons_cons _ (.cons_cons _ (.cons_cons _ (.cons_cons _ (.cons_cons _ (.cons_cons _ (.cons_cons _ (.cons_cons _ (.cons _ (.cons _ (.cons _ .slnil)))))))))))), hS.sub (.cons_cons _ (.cons_cons _ (.cons_cons _ (.cons_cons _ (.cons_cons _ (.cons_cons _ (.cons_cons _ (.cons_cons _ (.cons _ (.cons _ (.cons _ .slnil)))))))))))⟩, fun hB => ?_⟩
       refine dr_effx hF hcl 18 rfl (.free rfl) rfl (by kernel_rfl) (st_blks 10 (ds := [v2, v1, .int .i64 (uu1.C 0 0), .int .i64 uu1.den]) rfl st_30 hS rfl rfl rfl rfl (ones_cons hv2.one (ones_cons hv1.one (ones_cons rfl (ones_cons rfl ones_nil))))) ?_; clear hS hB; rintro w hS hcl
       replace hS : Sat w0 w [.blk g1 [vc, vA, vb], .blk g2 [.slice none 0 0, .slice none 0 0, .int .i64 0, .int .i64 0], .own vBk1 1 3 tk1.nb (ints tk1.B), .own vFk1 1 3 tk1.nf (ints tk1.F), .own vCk1 1 22 tk1.nc vvk1, .sem (Frame.rows 3 tk1.nc vvk1 tk1.ln tk1.C), .blk g3 [.int .i64 uu1.vars, .int .i64 uu1.den, xBu1, xFu1, xCu1], .sem (Frame.alt (uu1 = tk1 ∧ xBu1 = vBk1 ∧ xFu1 = vFk1 ∧ xCu1 = vCk1 ∧ xvu1 = vvk1) (Frame.bun [.own xBu1 1 3 uu1.nb (ints uu1.B), .own xFu1 1 3 uu1.nf (ints uu1.F), .own xCu1 1 22 uu1.nc xvu1, .sem (Frame.rows 3 uu1.nc xvu1 uu1.ln uu1.C)])), .own v1 1 3 p.m (ints (fun _ => 0)), .own v2 1 3 p.n (ints (fun _ => 0)), .blk g4 [v2, v1, .int .i64 (uu1.C 0 0), .int .i64 uu1.den]] := hS
       refine ⟨⟨(fun h => absurd h (by decide)), hS.sub (.cons_cons _ (.cons_cons _ (.cons_cons _ (.cons_cons _ (.cons_cons _ (.cons_cons _ (.cons_cons _ (.cons_cons _ (.cons _ (.cons _ (.cons _ .slnil)))))))))))⟩, fun hB => ?_⟩
       refine dr_done (by kernel_rfl) ?_; clear hcl hB
       refine then_normal ?_
       exact ⟨v2, v1, g4, hv2, hv1, (hF.pick (hF.pick (hF.pick (hF.pick (hF.pick (hF.pick (hF.pick (hF.pick (hF.pick (hF.pick (hF.pick (hF.pick (hF.pick (hF.pick (hF.pick (hF.pick (hF.pick (hF.pick (hF.pick (hF.pick (hF.pick (hF.pick (hF.pick (hF.pick (hF.pick (hF.pick (hF.pick (hF.pick (hF.pick (hF.pick (hF.pick (hF.pick (hF.pick (hF.pick (hF.pick (hF.pick (hF.pick (hF.pick hF.nil 6 rfl) 45 rfl) 36 rfl) 32 rfl) 44 rfl) 43 rfl) 42 rfl) 41 rfl) 40 rfl) 39 rfl) 38 rfl) 37 rfl) 35 rfl) 34 rfl) 33 rfl) 31 rfl) 30 rfl) 29 rfl) 26 rfl) 25 rfl) 24 rfl) 23 rfl) 20 rfl) 22 rfl) 21 rfl) 17 rfl) 16 rfl) 5 rfl) 4 rfl) 15 rfl) 14 rfl) 11 rfl) 13 rfl) 12 rfl) 3 rfl) 2 rfl) 1 rfl) 0 rfl), hS.perm (List.Perm.cons _ (List.Perm.cons _ (List.Perm.cons _ (List.Perm.cons _ (List.Perm.cons _ (List.Perm.cons _ (List.Perm.cons _ (List.Perm.cons _ (perm_step (l1 := [.own v1 1 3 p.m (ints (fun _ => 0))]) (l2 := [.blk g4 [v2, v1, .int .i64 (uu1.C 0 0), .int .i64 uu1.den]]) (List.Perm.refl _))))))))))⟩
      ·
       refine fk_any hF 17 rfl (.free rfl) rfl rfl (ex_alloc (cs := [.slice none 0 0, .slice none 0 0, .int .i64 0, .int .i64 0]) rfl el_30 hS rfl) ?_; clear hF hB; rintro _ w ⟨g4, rfl, hS⟩ a hF hcl
       replace hS : Sat w0 w [.blk g1 [vc, vA, vb], .blk g2 [.slice none 0 0, .slice none 0 0, .int .i64 0, .int .i64 0], .own vBk1 1 3 tk1.nb (ints tk1.B), .own vFk1 1 3 tk1.nf (ints tk1.F), .own vCk1 1 22 tk1.nc vvk1, .sem (Frame.rows 3 tk1.nc vvk1 tk1.ln tk1.C), .blk g3 [.int .i64 uu1.vars, .int .i64 uu1.den, xBu1, xFu1, xCu1], .sem (Frame.alt (uu1 = tk1 ∧ xBu1 = vBk1 ∧ xFu1 = vFk1 ∧ xCu1 = vCk1 ∧ xvu1 = vvk1) (Frame.bun [.own xBu1 1 3 uu1.nb (ints uu1.B), .own xFu1 1 3 uu1.nf (ints uu1.F), .own xCu1 1 22 uu1.nc xvu1, .sem (Frame.rows 3 uu1.nc xvu1 uu1.ln uu1.C)])), .own v1 1 3 p.m (ints (fun _ => 0)), .blk g4 [.slice none 0 0, .slice none 0 0, .int .i64 0, .int .i64 0]] := hS
       refine ⟨⟨(fun _ => hS.sub (.cons_cons _ (.cons_cons _ (.cons_cons _ (.cons_cons _ (.cons_cons _ (.cons_cons _ (.cons_cons _ (.cons_cons _ (.cons _ (.cons _ .slnil))))))))))), hS.sub (.cons_cons _ (.cons_cons _ (.cons_cons _ (.cons_cons _ (.cons_cons _ (.cons_cons _ (.cons_cons _ (.cons_cons _ (.cons _ (.cons _ .slnil))))))))))⟩, fun hB => ?_⟩
       refine dr_any hF hcl 3 rfl (.free rfl) rfl rfl (by kernel_rfl) (ex_make rfl sl_22 el_3 rfl rfl hS rfl rfl (by omega) (by omega) (by omega)) ?_; clear hF hB; rintro v2 w ⟨hS, hv2⟩ a hF hcl
       replace hS : Sat w0 w [.blk g1 [vc, vA, vb], .blk g2 [.slice none 0 0, .slice none 0 0, .int .i64 0, .int .i64 0], .own vBk1 1 3 tk1.nb (ints tk1.B), .own vFk1 1 3 tk1.nf (ints tk1.F), .own vCk1 1 22 tk1.nc vvk1, .sem (Frame.rows 3 tk1.nc vvk1 tk1.ln tk1.C), .blk g3 [.int .i64 uu1.vars, .int .i64 uu1.den, xBu1, xFu1, xCu1], .sem (Frame.alt (uu1 = tk1 ∧ xBu1 = vBk1 ∧ xFu1 = vFk1 ∧ xCu1 = vCk1 ∧ xvu1 = vvk1) (Frame.bun [.own xBu1 1 3 uu1.nb (ints uu1.B), .own xFu1 1 3 uu1.nf (ints uu1.F), .own xCu1 1 22 uu1.nc xvu1, .sem (Frame.rows 3 uu1.nc xvu1 uu1.ln uu1.C)])), .own v1 1 3 p.m (ints (fun _ => 0)), .blk g4 [.slice none 0 0, .slice none 0 0, .int .i64 0, .int .i64 0], .own v2 1 3 p.n (ints (fun _ => 0))] := hS
       refine ⟨⟨(fun _ => hS.sub (.cons_cons _ (.cons_cons _ (.cons_cons _ (.cons_cons _ (.cons_cons _ (.cons_cons _ (.cons_cons _ (.cons_cons _ (.cons _ (.cons _ (.cons _ .slnil)))))))))))), hS.sub (.cons_cons _ (.cons_cons _ (.cons_cons _ (.cons_cons _ (.cons_cons _ (.cons_cons _ (.cons_cons _ (.cons_cons _ (.cons _ (.cons _ (.cons _ .slnil)))))))))))⟩, fun hB => ?_⟩
       refine dr_val hF hcl hB 16 rfl (.free rfl) rfl rfl (by kernel_rfl) rfl (fun w => (ex_any (w' := w) (r := .value (.agg #[v2, v1, .int .i64 (uu1.C 0 0), .int .i64 uu1.den])) (by intro _ _ h; cases h) rfl (by obtain ⟨_, _, _, _, rfl, _⟩ := hv2; obtain ⟨_, _, _, _, rfl, _⟩ := hv1; kernel_rfl))) ?_; clear hF a hcl hB; intro a hF hcl hB
       refine dr_effx hF hcl 18 rfl (.free rfl) rfl (by kernel_rfl) (st_blks 9 (ds := [v2, v1, .int .i64 (uu1.C 0 0), .int .i64 uu1.den]) rfl st_30 hS rfl rfl rfl rfl (ones_cons hv2.one (ones_cons hv1.one (ones_cons rfl (ones_cons rfl ones_nil))))) ?_; clear hS hB; rintro w hS hcl
       replace hS : Sat w0 w [.blk g1 [vc, vA, vb], .blk g2 [.slice none 0 0, .slice none 0 0, .int .i64 0, .int .i64 0], .own vBk1 1 3 tk1.nb (ints tk1.B), .own vFk1 1 3 tk1.nf (ints tk1.F), .own vCk1 1 22 tk1.nc vvk1, .sem (Frame.rows 3 tk1.nc vvk1 tk1.ln tk1.C), .blk g3 [.int .i64 uu1.vars, .int .i64 uu1.den, xBu1, xFu1, xCu1], .sem (Frame.alt (uu1 = tk1 ∧ xBu1 = vBk1 ∧ xFu1 = vFk1 ∧ xCu1 = vCk1 ∧ xvu1 = vvk1) (Frame.bun [.own xBu1 1 3 uu1.nb (ints uu1.B), .own xFu1 1 3 uu1.nf (ints uu1.F), .own xCu1 1 22 uu1.nc xvu1, .sem (Frame.rows 3 uu1.nc xvu1 uu1.ln uu1.C)])), .own v1 1 3 p.m (ints (fun _ => 0)), .blk g4 [v2, v1, .int .i64 (uu1.C 0 0), .int .i64 uu1.den], .own v2 1 3 p.n (ints (fun _ => 0))] := hS
       refine ⟨⟨(fun h => absurd h (by decide)), hS.sub (.cons_cons _ (.cons_cons _ (.cons_cons _ (.cons_cons _ (.cons_cons _ (.cons_cons _ (.cons_cons _ (.cons_cons _ (.cons _ (.cons _ (.cons _ .slnil)))))))))))⟩, fun hB => ?_⟩
       refine dr_done (by kernel_rfl) ?_; clear hcl hB
       refine then_normal ?_
       exact ⟨v2, v1, g4, hv2, hv1, (hF.pick (hF.pick (hF.pick (hF.pick (hF.pick (hF.pick (hF.pick (hF.pick (hF.pick (hF.pick (hF.pick (hF.pick (hF.pick (hF.pick (hF.pick (hF.pick (hF.pick (hF.pick (hF.pick (hF.pick (hF.pick (hF.pick (hF.pick (hF.pick (hF.pick (hF.pick (hF.pick (hF.pick (hF.pick (hF.pick (hF.pick (hF.pick (hF.pick (hF.pick (hF.pick (hF.pick (hF.pick (hF.pick hF.nil 6 rfl) 45 rfl) 36 rfl) 32 rfl) 44 rfl) 43 rfl) 42 rfl) 41 rfl) 40 rfl) 39 rfl) 38 rfl) 37 rfl) 35 rfl) 34 rfl) 33 rfl) 31 rfl) 30 rfl) 29 rfl) 26 rfl) 25 rfl) 24 rfl) 23 rfl) 20 rfl) 22 rfl) 21 rfl) 17 rfl) 16 rfl) 5 rfl) 4 rfl) 15 rfl) 14 rfl) 11 rfl) 13 rfl) 12 rfl) 3 rfl) 2 rfl) 1 rfl) 0 rfl), hS.perm (List.Perm.cons _ (List.Perm.cons _ (List.Perm.cons _ (List.Perm.cons _ (List.Perm.cons _ (List.Perm.cons _ (List.Perm.cons _ (List.Perm.cons _ (perm_step (l1 := [.own v1 1 3 p.m (ints (fun _ => 0)), .blk g4 [v2, v1, .int .i64 (uu1.C 0 0), .int .i64 uu1.den]]) (l2 := []) (List.Perm.refl _))))))))))⟩
     ·
      refine fk_any hF 17 rfl (.free rfl) rfl rfl (ex_alloc (cs := [.slice none 0 0, .slice none 0 0, .int .i64 0, .int .i64 0]) rfl el_30 hS rfl) ?_; clear hF hB; rintro _ w ⟨g4, rfl, hS⟩ a hF hcl
      replace hS : Sat w0 w [.blk g1 [vc, vA, vb], .blk g2 [.slice none 0 0, .slice none 0 0, .int .i64 0, .int .i64 0], .own vBk1 1 3 tk1.nb (ints tk1.B), .own vFk1 1 3 tk1.nf (ints tk1.F), .own vCk1 1 22 tk1.nc vvk1, .sem (Frame.rows 3 tk1.nc vvk1 tk1.ln tk1.C), .blk g3 [.int .i64 uu1.vars, .int .i64 uu1.den, xBu1, xFu1, xCu1], .sem (Frame.alt (uu1 = tk1 ∧ xBu1 = vBk1 ∧ xFu1 = vFk1 ∧ xCu1 = vCk1 ∧ xvu1 = vvk1) (Frame.bun [.own xBu1 1 3 uu1.nb (ints uu1.B), .own xFu1 1 3 uu1.nf (ints uu1.F), .own xCu1 1 22 uu1.nc xvu1, .sem (Frame.rows 3 uu1.nc xvu1 uu1.ln uu1.C)])), .blk g4 [.slice none 0 0, .slice none 0 0, .int .i64 0, .int .i64 0]] := hS
      refine ⟨⟨(fun _ => hS.sub (.cons_cons _ (.cons_cons _ (.cons_cons _ (.cons_cons _ (.cons_cons _ (.cons_cons _ (.cons_cons _ (.cons_cons _ (.cons _ .slnil)))))))))), hS.sub (.cons_cons _ (.cons_cons _ (.cons_cons _ (.cons_cons _ (.cons_cons _ (.cons_cons _ (.cons_cons _ (.cons_cons _ (.cons _ .slnil)))))))))⟩, fun hB => ?_⟩
      refine dr_fork (r := [3, 7]) hcl (by decide) (by kernel_rfl) ((fk_cons ?_ (fk_cons ?_ fk_nil)))
      ·
       refine fk_any hF 3 rfl (.free rfl) rfl rfl (ex_make rfl sl_22 el_3 rfl rfl hS rfl rfl (by omega) (by omega) (by omega)) ?_; clear hF hB; rintro v1 w ⟨hS, hv1⟩ a hF hcl
       replace hS : Sat w0 w [.blk g1 [vc, vA, vb], .blk g2 [.slice none 0 0, .slice none 0 0, .int .i64 0, .int .i64 0], .own vBk1 1 3 tk1.nb (ints tk1.B), .own vFk1 1 3 tk1.nf (ints tk1.F), .own vCk1 1 22 tk1.nc vvk1, .sem (Frame.rows 3 tk1.nc vvk1 tk1.ln tk1.C), .blk g3 [.int .i64 uu1.vars, .int .i64 uu1.den, xBu1, xFu1, xCu1], .sem (Frame.alt (uu1 = tk1 ∧ xBu1 = vBk1 ∧ xFu1 = vFk1 ∧ xCu1 = vCk1 ∧ xvu1 = vvk1) (Frame.bun [.own xBu1 1 3 uu1.nb (ints uu1.B), .own xFu1 1 3 uu1.nf (ints uu1.F), .own xCu1 1 22 uu1.nc xvu1, .sem (Frame.rows 3 uu1.nc xvu1 uu1.ln uu1.C)])), .blk g4 [.slice none 0 0, .slice none 0 0, .int .i64 0, .int .i64 0], .own v1 1 3 p.n (ints (fun _ => 0))] := hS
       refine ⟨⟨(fun _ => hS.sub (.cons_cons _ (.cons_cons _ (.cons_cons _ (.cons_cons _ (.cons_cons _ (.cons_cons _ (.cons_cons _ (.cons_cons _ (.cons _ (.cons _ .slnil))))))))))), hS.sub (.cons_cons _ (.cons_cons _ (.cons_cons _ (.cons_cons _ (.cons_cons _ (.cons_cons _ (.cons_cons _ (.cons_cons _ (.cons _ (.cons _ .slnil))))))))))⟩, fun hB => ?_⟩
       refine dr_any hF hcl 7 rfl (.free rfl) rfl rfl (by kernel_rfl) (ex_make rfl sl_22 el_3 rfl rfl hS rfl rfl (by omega) (by omega) (by omega)) ?_; clear hF hB; rintro v2 w ⟨hS, hv2⟩ a hF hcl
       replace hS : Sat w0 w [.blk g1 [vc, vA, vb], .blk g2 [.slice none 0 0, .slice none 0 0, .int .i64 0, .int .i64 0], .own vBk1 1 3 tk1.nb (ints tk1.B), .own vFk1 1 3 tk1.nf (ints tk1.F), .own vCk1 1 22 tk1.nc vvk1, .sem (Frame.rows 3 tk1.nc vvk1 tk1.ln tk1.C), .blk g3 [.int .i64 uu1.vars, .int .i64 uu1.den, xBu1, xFu1, xCu1], .sem (Frame.alt (uu1 = tk1 ∧ xBu1 = vBk1 ∧ xFu1 = vFk1 ∧ xCu1 = vCk1 ∧ xvu1 = vvk1) (Frame.bun [.own xBu1 1 3 uu1.nb (ints uu1.B), .own xFu1 1 3 uu1.nf (ints uu1.F), .own xCu1 1 22 uu1.nc xvu1, .sem (Frame.rows 3 uu1.nc xvu1 uu1.ln uu1.C)])), .blk g4 [.slice none 0 0, .slice none 0 0, .int .i64 0, .int .i64 0], .own v1 1 3 p.n (ints (fun _ => 0)), .own v2 1 3 p.m (ints (fun _ => 0))] := hS
       refine ⟨⟨(fun _ => hS.sub (.cons_cons _ (.cons_cons _ (.cons_cons _ (.cons_cons _ (.cons_cons _ (.cons_cons _ (.cons_cons _ (.cons_cons _ (.cons _ (.cons _ (.cons _ .slnil)))))))))))), hS.sub (.cons_cons _ (.cons_cons _ (.cons_cons _ (.cons_cons _ (.cons_cons _ (.cons_cons _ (.cons_cons _ (.cons_cons _ (.cons _ (.cons _ (.cons _ .slnil)))))))))))⟩, fun hB => ?_⟩
       refine dr_val hF hcl hB 16 rfl (.free rfl) rfl rfl (by kernel_rfl) rfl (fun w => (ex_any (w' := w) (r := .value (.agg #[v1, v2, .int .i64 (uu1.C 0 0), .int .i64 uu1.den])) (by intro _ _ h; cases h) rfl (by obtain ⟨_, _, _, _, rfl, _⟩ := hv1; obtain ⟨_, _, _, _, rfl, _⟩ := hv2; kernel_rfl))) ?_; clear hF a hcl hB; intro a hF hcl hB
       refine dr_effx hF hcl 18 rfl (.free rfl) rfl (by kernel_rfl) (st_blks 8 (ds := [v1, v2, .int .i64 (uu1.C 0 0), .int .i64 uu1.den]) rfl st_30 hS rfl rfl rfl rfl (ones_cons hv1.one (ones_cons hv2.one (ones_cons rfl (ones_cons rfl ones_nil))))) ?_; clear hS hB; rintro w hS hcl
       replace hS : Sat w0 w [.blk g1 [vc, vA, vb], .blk g2 [.slice none 0 0, .slice none 0 0, .int .i64 0, .int .i64 0], .own vBk1 1 3 tk1.nb (ints tk1.B), .own vFk1 1 3 tk1.nf (ints tk1.F), .own vCk1 1 22 tk1.nc vvk1, .sem (Frame.rows 3 tk1.nc vvk1 tk1.ln tk1.C), .blk g3 [.int .i64 uu1.vars, .int .i64 uu1.den, xBu1, xFu1, xCu1], .sem (Frame.alt (uu1 = tk1 ∧ xBu1 = vBk1 ∧ xFu1 = vFk1 ∧ xCu1 = vCk1 ∧ xvu1 = vvk1) (Frame.bun [.own xBu1 1 3 uu1.nb (ints uu1.B), .own xFu1 1 3 uu1.nf (ints uu1.F), .own xCu1 1 22 uu1.nc xvu1, .sem (Frame.rows 3 uu1.nc xvu1 uu1.ln uu1.C)])), .blk g4 [v1, v2, .int .i64 (uu1.C 0 0), .int .i64 uu1.den], .own v1 1 3 p.n (ints (fun _ => 0)), .own v2 1 3 p.m (ints (fun _ => 0))] := hS
       refine ⟨⟨(fun h => absurd h (by decide)), hS.sub (.cons_cons _ (.cons_cons _ (.cons_cons _ (.cons_cons _ (.cons_cons _ (.cons_cons _ (.cons_cons _ (.cons_cons _ (.cons _ (.cons _ (.cons _ .slnil)))))))))))⟩, fun hB => ?_⟩
       refine dr_done (by kernel_rfl) ?_; clear hcl hB
       refine then_normal ?_
       exact ⟨v1, v2, g4, hv1, hv2, (hF.pick (hF.pick (hF.pick (hF.pick (hF.pick (hF.pick (hF.pick (hF.pick (hF.pick (hF.pick (hF.pick (hF.pick (hF.pick (hF.pick (hF.pick (hF.pick (hF.pick (hF.pick (hF.pick (hF.pick (hF.pick (hF.pick (hF.pick (hF.pick (hF.pick (hF.pick (hF.pick (hF.pick (hF.pick (hF.pick (hF.pick (hF.pick (hF.pick (hF.pick (hF.pick (hF.pick (hF.pick (hF.pick hF.nil 6 rfl) 45 rfl) 36 rfl) 32 rfl) 44 rfl) 43 rfl) 42 rfl) 41 rfl) 40 rfl) 39 rfl) 38 rfl) 37 rfl) 35 rfl) 34 rfl) 33 rfl) 31 rfl) 30 rfl) 29 rfl) 26 rfl) 25 rfl) 24 rfl) 23 rfl) 20 rfl) 22 rfl) 21 rfl) 17 rfl) 16 rfl) 5 rfl) 4 rfl) 15 rfl) 14 rfl) 11 rfl) 13 rfl) 12 rfl) 3 rfl) 2 rfl) 1 rfl) 0 rfl), hS.perm (List.Perm.cons _ (List.Perm.cons _ (List.Perm.cons _ (List.Perm.cons _ (List.Perm.cons _ (List.Perm.cons _ (List.Perm.cons _ (List.Perm.cons _ (perm_step (l1 := [.blk g4 [v1, v2, .int .i64 (uu1.C 0 0), .int .i64 uu1.den]]) (l2 := [.own v2 1 3 p.m (ints (fun _ => 0))]) (perm_step (l1 := [.blk g4 [v1, v2, .int .i64 (uu1.C 0 0), .int .i64 uu1.den]]) (l2 := []) (List.Perm.refl _)))))))))))⟩
      ·
       refine fk_any hF 7 rfl (.free rfl) rfl rfl (ex_make rfl sl_22 el_3 rfl rfl hS rfl rfl (by omega) (by omega) (by omega)) ?_; clear hF hB; rintro v1 w ⟨hS, hv1⟩ a hF hcl
       replace hS : Sat w0 w [.blk g1 [vc, vA, vb], .blk g2 [.slice none 0 0, .slice none 0 0, .int .i64 0, .int .i64 0], .own vBk1 1 3 tk1.nb (ints tk1.B), .own vFk1 1 3 tk1.nf (ints tk1.F), .own vCk1 1 22 tk1.nc vvk1, .sem (Frame.rows 3 tk1.nc vvk1 tk1.ln tk1.C), .blk g3 [.int .i64 uu1.vars, .int .i64 uu1.den, xBu1, xFu1, xCu1], .sem (Frame.alt (uu1 = tk1 ∧ xBu1 = vBk1 ∧ xFu1 = vFk1 ∧ xCu1 = vCk1 ∧ xvu1 = vvk1) (Frame.bun [.own xBu1 1 3 uu1.nb (ints uu1.B), .own xFu1 1 3 uu1.nf (ints uu1.F), .own xCu1 1 22 uu1.nc xvu1, .sem (Frame.rows 3 uu1.nc xvu1 uu1.ln uu1.C)])), .blk g4 [.slice none 0 0, .slice none 0 0, .int .i64 0, .int .i64 0], .own v1 1 3 p.m (ints (fun _ => 0))] := hS
       refine ⟨⟨(fun _ => hS.sub (.cons_cons _ (.cons_cons _ (.cons_cons _ (.cons_cons _ (.cons_cons _ (.cons_cons _ (.cons_cons _ (.cons_cons _ (.cons _ (.cons _ .slnil))))))))))), hS.sub (.cons_cons _ (.cons_cons _ (.cons_cons _ (.cons_cons _ (.cons_cons _ (.cons_cons _ (.cons_cons _ (.cons_cons _ (.cons _ (.cons _ .slnil))))))))))⟩, fun hB => ?_⟩
       refine dr_any hF hcl 3 rfl (.free rfl) rfl rfl (by kernel_rfl) (ex_make rfl sl_22 el_3 rfl rfl hS rfl rfl (by omega) (by omega) (by omega)) ?_; clear hF hB; rintro v2 w ⟨hS, hv2⟩ a hF hcl
       replace hS : Sat w0 w [.blk g1 [vc, vA, vb], .blk g2 [.slice none 0 0, .slice none 0 0, .int .i64 0, .int .i64 0], .own vBk1 1 3 tk1.nb (ints tk1.B), .own vFk1 1 3 tk1.nf (ints tk1.F), .own vCk1 1 22 tk1.nc vvk1, .sem (Frame.rows 3 tk1.nc vvk1 tk1.ln tk1.C), .blk g3 [.int .i64 uu1.vars, .int .i64 uu1.den, xBu1, xFu1, xCu1], .sem (Frame.alt (uu1 = tk1 ∧ xBu1 = vBk1 ∧ xFu1 = vFk1 ∧ xCu1 = vCk1 ∧ xvu1 = vvk1) (Frame.bun [.own xBu1 1 3 uu1.nb (ints uu1.B), .own xFu1 1 3 uu1.nf (ints uu1.F), .own xCu1 1 22 uu1.nc xvu1, .sem (Frame.rows 3 uu1.nc xvu1 uu1.ln uu1.C)])), .blk g4 [.slice none 0 0, .slice none 0 0, .int .i64 0, .int .i64 0], .own v1 1 3 p.m (ints (fun _ => 0)), .own v2 1 3 p.n (ints (fun _ => 0))] := hS
       refine ⟨⟨(fun _ => hS.sub (.cons_cons _ (.cons_cons _ (.cons_cons _ (.cons_cons _ (.cons_cons _ (.cons_cons _ (.cons_cons _ (.cons_cons _ (.cons _ (.cons _ (.cons _ .slnil)))))))))))), hS.sub (.cons_cons _ (.cons_cons _ (.cons_cons _ (.cons_cons _ (.cons_cons _ (.cons_cons _ (.cons_cons _ (.cons_cons _ (.cons _ (.cons _ (.cons _ .slnil)))))))))))⟩, fun hB => ?_⟩
       refine dr_val hF hcl hB 16 rfl (.free rfl) rfl rfl (by kernel_rfl) rfl (fun w => (ex_any (w' := w) (r := .value (.agg #[v2, v1, .int .i64 (uu1.C 0 0), .int .i64 uu1.den])) (by intro _ _ h; cases h) rfl (by obtain ⟨_, _, _, _, rfl, _⟩ := hv2; obtain ⟨_, _, _, _, rfl, _⟩ := hv1; kernel_rfl))) ?_; clear hF a hcl hB; intro a hF hcl hB
       refine dr_effx hF hcl 18 rfl (.free rfl) rfl (by kernel_rfl) (st_blks 8 (ds := [v2, v1, .int .i64 (uu1.C 0 0), .int .i64 uu1.den]) rfl st_30 hS rfl rfl rfl rfl (ones_cons hv2.one (ones_cons hv1.one (ones_cons rfl (ones_cons rfl ones_nil))))) ?_; clear hS hB; rintro w hS hcl
       replace hS : Sat w0 w [.blk g1 [vc, vA, vb], .blk g2 [.slice none 0 0, .slice none 0 0, .int .i64 0, .int .i64 0], .own vBk1 1 3 tk1.nb (ints tk1.B), .own vFk1 1 3 tk1.nf (ints tk1.F), .own vCk1 1 22 tk1.nc vvk1, .sem (Frame.rows 3 tk1.nc vvk1 tk1.ln tk1.C), .blk g3 [.int .i64 uu1.vars, .int .i64 uu1.den, xBu1, xFu1, xCu1], .sem (Frame.alt (uu1 = tk1 ∧ xBu1 = vBk1 ∧ xFu1 = vFk1 ∧ xCu1 = vCk1 ∧ xvu1 = vvk1) (Frame.bun [.own xBu1 1 3 uu1.nb (ints uu1.B), .own xFu1 1 3 uu1.nf (ints uu1.F), .own xCu1 1 22 uu1.nc xvu1, .sem (Frame.rows 3 uu1.nc xvu1 uu1.ln uu1.C)])), .blk g4 [v2, v1, .int .i64 (uu1.C 0 0), .int .i64 uu1.den], .own v1 1 3 p.m (ints (fun _ => 0)), .own v2 1 3 p.n (ints (fun _ => 0))] := hS
       refine ⟨⟨(fun h => absurd h (by decide)), hS.sub (.cons_cons _ (.cons_cons _ (.cons_cons _ (.cons_cons _ (.cons_cons _ (.cons_cons _ (.cons_cons _ (.cons_cons _ (.cons _ (.cons _ (.cons _ .slnil)))))))))))⟩, fun hB => ?_⟩
       refine dr_done (by kernel_rfl) ?_; clear hcl hB
       refine then_normal ?_
       exact ⟨v2, v1, g4, hv2, hv1, (hF.pick (hF.pick (hF.pick (hF.pick (hF.pick (hF.pick (hF.pick (hF.pick (hF.pick (hF.pick (hF.pick (hF.pick (hF.pick (hF.pick (hF.pick (hF.pick (hF.pick (hF.pick (hF.pick (hF.pick (hF.pick (hF.pick (hF.pick (hF.pick (hF.pick (hF.pick (hF.pick (hF.pick (hF.pick (hF.pick (hF.pick (hF.pick (hF.pick (hF.pick (hF.pick (hF.pick (hF.pick (hF.pick hF.nil 6 rfl) 45 rfl) 36 rfl) 32 rfl) 44 rfl) 43 rfl) 42 rfl) 41 rfl) 40 rfl) 39 rfl) 38 rfl) 37 rfl) 35 rfl) 34 rfl) 33 rfl) 31 rfl) 30 rfl) 29 rfl) 26 rfl) 25 rfl) 24 rfl) 23 rfl) 20 rfl) 22 rfl) 21 rfl) 17 rfl) 16 rfl) 5 rfl) 4 rfl) 15 rfl) 14 rfl) 11 rfl) 13 rfl) 12 rfl) 3 rfl) 2 rfl) 1 rfl) 0 rfl), hS.perm (List.Perm.cons _ (List.Perm.cons _ (List.Perm.cons _ (List.Perm.cons _ (List.Perm.cons _ (List.Perm.cons _ (List.Perm.cons _ (List.Perm.cons _ (perm_step (l1 := [.blk g4 [v2, v1, .int .i64 (uu1.C 0 0), .int .i64 uu1.den], .own v1 1 3 p.m (ints (fun _ => 0))]) (l2 := []) (perm_step (l1 := [.blk g4 [v2, v1, .int .i64 (uu1.C 0 0), .int .i64 uu1.den]]) (l2 := []) (List.Perm.refl _)))))))))))⟩
    ·
     clear hF hS a w; rintro a w ⟨v1, v2, g4, hv1, hv2, hF, hS⟩
     refine then_normal ?_
     refine cw_seq ?_
     refine cw_seq ?_
     refine wp_region_lit ?_
     refine ls_val hF (.free rfl) rfl rfl (ex_field (b := ⟨g3, 2, none⟩) rfl fd_43_2 rfl rfl) ?_; clear hF a; intro a hF
     obtain ⟨hl, hts⟩ := hstk1.ok (by omega)
     have b1 := hl.n1
     have b2 := hl.n2
     have b3 := hl.m2
     have b4 := hl.k
     have hdm := hrunu1.dims
     obtain ⟨hp, hco, hlv, _⟩ := hrunu1.fin (.inl (by omega))
     have hd1 : uu1.nb = p.m := by rw [hdm.1, hts]; rfl
     have hd2 : uu1.nf = p.n := by rw [hdm.2.1, hts]; rfl
     have hd3 : uu1.vars = p.n := by rw [hdm.2.2.2, hts]; rfl
     have hd4 := hp.c; have hl0 := hp.len (i := 0) (by omega) (by omega)
     refine ls_val hF (.free rfl) rfl rfl (ex_load_blk 6 rfl pl_22 rfl hS rfl rfl) ?_; clear hF a; intro a hF
     refine ls_val hF (.free rfl) rfl rfl (ex_len rfl sl_22 rfl hxBu1) ?_; clear hF a; intro a hF
     refine ls_val hF (.free rfl) rfl rfl (ex_move rfl rfl) ?_; clear hF a; intro a hF
     refine ls_nil ?_
     refine then_normal ?_
     refine wp_block ?_
     refine cw_loop (fun mm a w => ∃ (i : Int) (fX : Int → Int), mm = ((uu1.nb - i).toNat) ∧ (0 ≤ i) ∧ (i ≤ uu1.nb) ∧ (fX = rdX uu1 i.toNat) ∧ Fr a 100 [(2, .pointer (some ⟨g2, 0, none⟩)), (3, .int .i64 0), (4, .pointer (some ⟨g3, 0, none⟩)), (6, .pointer (some ⟨g4, 0, none⟩)), (47, xBu1), (48, .int .i64 uu1.nb), (49, .int .i64 i)] ∧ Sat w0 w [.blk g1 [vc, vA, vb], .blk g2 [.slice none 0 0, .slice none 0 0, .int .i64 0, .int .i64 0], .own vBk1 1 3 tk1.nb (ints tk1.B), .own vFk1 1 3 tk1.nf (ints tk1.F), .own vCk1 1 22 tk1.nc vvk1, .sem (Frame.rows 3 tk1.nc vvk1 tk1.ln tk1.C), .blk g3 [.int .i64 uu1.vars, .int .i64 uu1.den, xBu1, xFu1, xCu1], .sem (Frame.alt (uu1 = tk1 ∧ xBu1 = vBk1 ∧ xFu1 = vFk1 ∧ xCu1 = vCk1 ∧ xvu1 = vvk1) (Frame.bun [.own xBu1 1 3 uu1.nb (ints uu1.B), .own xFu1 1 3 uu1.nf (ints uu1.F), .own xCu1 1 22 uu1.nc xvu1, .sem (Frame.rows 3 uu1.nc xvu1 uu1.ln uu1.C)])), .own v1 1 3 p.n (ints fX), .own v2 1 3 p.m (ints (fun _ => 0)), .blk g4 [v1, v2, .int .i64 (uu1.C 0 0), .int .i64 uu1.den]]) ?_ ?_ (m := ((uu1.nb - 0).toNat))
     ·
      refine ⟨0, (fun _ => 0), rfl, (by omega), (by omega), ?_, (hF.pick (hF.pick (hF.pick (hF.pick (hF.pick (hF.pick (hF.pick hF.nil 49 rfl) 48 rfl) 47 rfl) 6 rfl) 4 rfl) 3 rfl) 2 rfl), hS⟩
      ·
       rfl
     ·
      clear hF hS a w
      rintro mm a w ⟨i, fX, rfl, h0, h1, hfX, hF, hS⟩
      refine cw_seq ?_
      refine wp_region_lit ?_
      refine ls_val hF (.free rfl) rfl rfl (ex_lss rfl rfl rfl) ?_; clear hF a; intro a hF
      refine ls_nil ?_
      refine then_normal ?_
      refine cw_seq ?_
      refine cw_if hF rfl (fun hc => ?_) (fun hc => ?_)
      ·
       refine wp_skip ?_
       refine then_normal ?_
       refine cw_seq ?_
       refine wp_block ?_
       refine cw_seq ?_
       refine wp_region_lit ?_
       refine ls_val hF (.free rfl) rfl rfl (ex_move rfl rfl) ?_; clear hF a; intro a hF
       refine ls_val hF (.free rfl) rfl rfl (ex_index (k := i) rfl sl_22 rfl rfl hxBu1 (by omega) (by omega) (by omega)) ?_; clear hF a; intro a hF
       refine ls_val hF (.free rfl) rfl rfl (ex_load_row (u := .int .i64 (uu1.B i)) rfl pl_3 rfl (tat_alt (⟨(hS.rowN 2 rfl), (hS.rowN 3 rfl), (⟨(hS.rowN 4 rfl), fun k k0 k1 => hS.rowIn 5 rfl k0 k1, fun k k0 k1 => hS.roomIn 5 rfl k0 k1⟩ : MAt _ vCk1 tk1.nc vvk1 tk1.ln tk1.C)⟩ : TAt _ vBk1 vFk1 vCk1 vvk1 tk1) hS 7 rfl).B (by omega) (by omega) rfl) ?_; clear hF a; intro a hF
       have hrg := hp.rngB (i := i) h0 (by omega)
       refine ls_val hF (.free rfl) rfl rfl (ex_assign rfl rfl) ?_; clear hF a; intro a hF
       refine ls_val hF (.free rfl) rfl rfl (ex_assign rfl rfl) ?_; clear hF a; intro a hF
       refine ls_nil ?_
       refine then_normal ?_
       refine cw_seq ?_
       refine wp_region_lit ?_
       refine ls_val hF (.free rfl) rfl rfl (ex_move rfl rfl) ?_; clear hF a; intro a hF
       refine ls_val hF (.free rfl) rfl rfl (ex_field (b := ⟨g3, 0, none⟩) rfl fd_43_0 rfl rfl) ?_; clear hF a; intro a hF
       refine ls_val hF (.free rfl) rfl rfl (ex_load_blk 6 rfl pl_3 rfl hS rfl rfl) ?_; clear hF a; intro a hF
       refine ls_val hF (.free rfl) rfl rfl (ex_lss rfl rfl rfl) ?_; clear hF a; intro a hF
       refine ls_nil ?_
       refine then_normal ?_
       refine cw_if hF rfl (fun hc => ?_) (fun hc => ?_)
       ·
        refine dr_sat (m0 := [.blk g1 [vc, vA, vb], .blk g2 [.slice none 0 0, .slice none 0 0, .int .i64 0, .int .i64 0], .own vBk1 1 3 tk1.nb (ints tk1.B), .own vFk1 1 3 tk1.nf (ints tk1.F), .own vCk1 1 22 tk1.nc vvk1, .sem (Frame.rows 3 tk1.nc vvk1 tk1.ln tk1.C), .blk g3 [.int .i64 uu1.vars, .int .i64 uu1.den, xBu1, xFu1, xCu1], .sem (Frame.alt (uu1 = tk1 ∧ xBu1 = vBk1 ∧ xFu1 = vFk1 ∧ xCu1 = vCk1 ∧ xvu1 = vvk1) (Frame.bun [.own xBu1 1 3 uu1.nb (ints uu1.B), .own xFu1 1 3 uu1.nf (ints uu1.F), .own xCu1 1 22 uu1.nc xvu1, .sem (Frame.rows 3 uu1.nc xvu1 uu1.ln uu1.C)])), .own v1 1 3 p.n (ints fX), .own v2 1 3 p.m (ints (fun _ => 0)), .blk g4 [v1, v2, .int .i64 (uu1.C 0 0), .int .i64 uu1.den]]) (m1 := [.blk g1 [vc, vA, vb], .blk g2 [.slice none 0 0, .slice none 0 0, .int .i64 0, .int .i64 0], .own vBk1 1 3 tk1.nb (ints tk1.B), .own vFk1 1 3 tk1.nf (ints tk1.F), .own vCk1 1 22 tk1.nc vvk1, .sem (Frame.rows 3 tk1.nc vvk1 tk1.ln tk1.C), .blk g3 [.int .i64 uu1.vars, .int .i64 uu1.den, xBu1, xFu1, xCu1], .sem (Frame.alt (uu1 = tk1 ∧ xBu1 = vBk1 ∧ xFu1 = vFk1 ∧ xCu1 = vCk1 ∧ xvu1 = vvk1) (Frame.bun [.own xBu1 1 3 uu1.nb (ints uu1.B), .own xFu1 1 3 uu1.nf (ints uu1.F), .own xCu1 1 22 uu1.nc xvu1, .sem (Frame.rows 3 uu1.nc xvu1 uu1.ln uu1.C)])), .own v2 1 3 p.m (ints (fun _ => 0)), .blk g4 [v1, v2, .int .i64 (uu1.C 0 0), .int .i64 uu1.den]]) 12 mx_ hS (.cons_cons _ (.cons_cons _ (.cons_cons _ (.cons_cons _ (.cons_cons _ (.cons_cons _ (.cons_cons _ (.cons_cons _ (.cons_cons _ (.cons_cons _ (.cons_cons _ .slnil))))))))))) (.cons_cons _ (.cons_cons _ (.cons_cons _ (.cons_cons _ (.cons_cons _ (.cons_cons _ (.cons_cons _ (.cons_cons _ (.cons _ (.cons_cons _ (.cons_cons _ .slnil))))))))))) rfl ?_; clear hS; intro w hS hcl hB
        refine dr_val hF hcl hB 0 rfl (.free rfl) rfl rfl (by kernel_rfl) rfl (fun w => (ex_field (b := ⟨g4, 0, none⟩) rfl fd_30_0 rfl rfl)) ?_; clear hF a hcl hB; intro a hF hcl hB
        have hli := hp.len (i := i + 1) (by omega) (by omega)
        refine dr_loadA hF hcl hB 1 rfl (.free rfl) rfl rfl (by kernel_rfl) rfl (fun w hS => (ex_load_blk 9 rfl pl_22 rfl hS rfl rfl)) ?_; clear hF a hcl hB; intro a hF hcl hB
        refine dr_val hF hcl hB 2 rfl (.free rfl) rfl rfl (by kernel_rfl) rfl (fun w => (ex_move rfl rfl)) ?_; clear hF a hcl hB; intro a hF hcl hB
        refine dr_val hF hcl hB 3 rfl (.free rfl) rfl rfl (by kernel_rfl) rfl (fun w => (ex_field (b := ⟨g3, 4, none⟩) rfl fd_43_4 rfl rfl)) ?_; clear hF a hcl hB; intro a hF hcl hB
        refine dr_loadA hF hcl hB 4 rfl (.free rfl) rfl rfl (by kernel_rfl) rfl (fun w hS => (ex_load_blk 6 rfl pl_23 rfl hS rfl rfl)) ?_; clear hF a hcl hB; intro a hF hcl hB
        refine dr_val hF hcl hB 5 rfl (.free rfl) rfl rfl (by kernel_rfl) rfl (fun w => (ex_move rfl rfl)) ?_; clear hF a hcl hB; intro a hF hcl hB
        refine dr_val hF hcl hB 6 rfl (.free rfl) rfl rfl (by kernel_rfl) rfl (fun w => (ex_add (r := i + 1) rfl rfl rfl (by omega) (by unfold I64; omega))) ?_; clear hF a hcl hB; intro a hF hcl hB
        refine dr_val hF hcl hB 7 rfl (.free rfl) rfl rfl (by kernel_rfl) rfl (fun w => (ex_index (k := i + 1) rfl sl_23 rfl rfl hxCu1 (by omega) (by omega) (by omega))) ?_; clear hF a hcl hB; intro a hF hcl hB
        refine dr_loadA hF hcl hB 8 rfl (.free rfl) rfl rfl (by kernel_rfl) rfl (fun w hS => (ex_load_row (u := (xvu1 (i + 1))) rfl pl_22 rfl (tat_alt (⟨(hS.rowN 2 rfl), (hS.rowN 3 rfl), (⟨(hS.rowN 4 rfl), fun k k0 k1 => hS.rowIn 5 rfl k0 k1, fun k k0 k1 => hS.roomIn 5 rfl k0 k1⟩ : MAt _ vCk1 tk1.nc vvk1 tk1.ln tk1.C)⟩ : TAt _ vBk1 vFk1 vCk1 vvk1 tk1) hS 7 rfl).C.row (by omega) (by omega) rfl)) ?_; clear hF a hcl hB; intro a hF hcl hB
        refine dr_val hF hcl hB 9 rfl (.free rfl) rfl rfl (by kernel_rfl) rfl (fun w => (ex_index (k := 0) rfl sl_22 rfl rfl (hxru1 (i + 1) (by omega) (by omega)) (by omega) (by omega) (by omega))) ?_; clear hF a hcl hB; intro a hF hcl hB
        refine dr_loadA hF hcl hB 10 rfl (.free rfl) rfl rfl (by kernel_rfl) rfl (fun w hS => (ex_load_row (u := .int .i64 (uu1.C (i + 1) 0)) rfl pl_3 rfl ((tat_alt (⟨(hS.rowN 2 rfl), (hS.rowN 3 rfl), (⟨(hS.rowN 4 rfl), fun k k0 k1 => hS.rowIn 5 rfl k0 k1, fun k k0 k1 => hS.roomIn 5 rfl k0 k1⟩ : MAt _ vCk1 tk1.nc vvk1 tk1.ln tk1.C)⟩ : TAt _ vBk1 vFk1 vCk1 vvk1 tk1) hS 7 rfl).C.p (i + 1) (by omega) (by omega)) (by omega) (by omega) rfl)) ?_; clear hF a hcl hB; intro a hF hcl hB
        refine dr_val hF hcl hB 11 rfl (.free rfl) rfl rfl (by kernel_rfl) rfl (fun w => (ex_index (k := (uu1.B i)) rfl sl_22 rfl rfl hv1 (by omega) (by omega) (by omega))) ?_; clear hF a hcl hB; intro a hF hcl hB
        refine dr_effx hF hcl 12 rfl (.free rfl) rfl (by kernel_rfl) (st_own 8 rfl pl_3 hS rfl rfl rfl rfl (by omega) (by omega) (upd_ints _ _ _)) ?_; clear hS hB; rintro w hS hcl
        replace hS : Sat w0 w [.blk g1 [vc, vA, vb], .blk g2 [.slice none 0 0, .slice none 0 0, .int .i64 0, .int .i64 0], .own vBk1 1 3 tk1.nb (ints tk1.B), .own vFk1 1 3 tk1.nf (ints tk1.F), .own vCk1 1 22 tk1.nc vvk1, .sem (Frame.rows 3 tk1.nc vvk1 tk1.ln tk1.C), .blk g3 [.int .i64 uu1.vars, .int .i64 uu1.den, xBu1, xFu1, xCu1], .sem (Frame.alt (uu1 = tk1 ∧ xBu1 = vBk1 ∧ xFu1 = vFk1 ∧ xCu1 = vCk1 ∧ xvu1 = vvk1) (Frame.bun [.own xBu1 1 3 uu1.nb (ints uu1.B), .own xFu1 1 3 uu1.nf (ints uu1.F), .own xCu1 1 22 uu1.nc xvu1, .sem (Frame.rows 3 uu1.nc xvu1 uu1.ln uu1.C)])), .own v1 1 3 p.n (ints (upd fX (uu1.B i) (uu1.C (i + 1) 0))), .own v2 1 3 p.m (ints (fun _ => 0)), .blk g4 [v1, v2, .int .i64 (uu1.C 0 0), .int .i64 uu1.den]] := hS
        refine ⟨⟨(fun h => absurd h (by decide)), hS.sub (.cons_cons _ (.cons_cons _ (.cons_cons _ (.cons_cons _ (.cons_cons _ (.cons_cons _ (.cons_cons _ (.cons_cons _ (.cons _ (.cons_cons _ (.cons_cons _ .slnil)))))))))))⟩, fun hB => ?_⟩
        refine dr_done (by kernel_rfl) ?_; clear hcl hB
        refine inb_normal ?_
        refine then_normal ?_
        refine wp_region_lit ?_
        refine ls_val hF (.free rfl) rfl rfl (ex_add (r := i + 1) rfl rfl rfl (by omega) (by unfold I64; omega)) ?_; clear hF a; intro a hF
        refine ls_val hF (.free rfl) rfl rfl (ex_move rfl rfl) ?_; clear hF a; intro a hF
        refine ls_nil ?_
        refine then_normal ?_
        refine ⟨_, (by omega), i + 1, (upd fX (uu1.B i) (uu1.C (i + 1) 0)), rfl, (by omega), (by omega), ?_, (hF.pick (hF.pick (hF.pick (hF.pick (hF.pick (hF.pick (hF.pick hF.nil 49 rfl) 48 rfl) 47 rfl) 6 rfl) 4 rfl) 3 rfl) 2 rfl), hS⟩
        ·
         rw [rdX_next uu1 h0, ← hfX]; first | rw [if_pos (by omega)] | rw [if_neg (by omega)]
       ·
        refine wp_skip ?_
        refine inb_normal ?_
        refine then_normal ?_
        refine wp_region_lit ?_
        refine ls_val hF (.free rfl) rfl rfl (ex_add (r := i + 1) rfl rfl rfl (by omega) (by unfold I64; omega)) ?_; clear hF a; intro a hF
        refine ls_val hF (.free rfl) rfl rfl (ex_move rfl rfl) ?_; clear hF a; intro a hF
        refine ls_nil ?_
        refine then_normal ?_
        refine ⟨_, (by omega), i + 1, fX, rfl, (by omega), (by omega), ?_, (hF.pick (hF.pick (hF.pick (hF.pick (hF.pick (hF.pick (hF.pick hF.nil 49 rfl) 48 rfl) 47 rfl) 6 rfl) 4 rfl) 3 rfl) 2 rfl), hS⟩
        ·
         rw [rdX_next uu1 h0, ← hfX]; first | rw [if_pos (by omega)] | rw [if_neg (by omega)]
      ·
       refine wp_exit ?_
       refine then_exit ?_
       refine then_exit ?_
       refine inb_hit ?_
       refine then_normal ?_
       refine cw_seq ?_
       refine cw_seq ?_
       refine wp_region_lit ?_
       refine ls_val hF (.free rfl) rfl rfl (ex_field (b := ⟨g3, 3, none⟩) rfl fd_43_3 rfl rfl) ?_; clear hF a; intro a hF
       refine ls_val hF (.free rfl) rfl rfl (ex_load_blk 6 rfl pl_22 rfl hS rfl rfl) ?_; clear hF a; intro a hF
       refine ls_val hF (.free rfl) rfl rfl (ex_len rfl sl_22 rfl hxFu1) ?_; clear hF a; intro a hF
       refine ls_val hF (.free rfl) rfl rfl (ex_move rfl rfl) ?_; clear hF a; intro a hF
       refine ls_nil ?_
       refine then_normal ?_
       refine wp_block ?_
       refine cw_loop (fun mm a w => ∃ (j : Int) (fY : Int → Int), mm = ((uu1.nf - j).toNat) ∧ (0 ≤ j) ∧ (j ≤ uu1.nf) ∧ (fY = rdY uu1 j.toNat) ∧ Fr a 100 [(2, .pointer (some ⟨g2, 0, none⟩)), (3, .int .i64 0), (4, .pointer (some ⟨g3, 0, none⟩)), (6, .pointer (some ⟨g4, 0, none⟩)), (72, xFu1), (73, .int .i64 uu1.nf), (74, .int .i64 j)] ∧ Sat w0 w [.blk g1 [vc, vA, vb], .blk g2 [.slice none 0 0, .slice none 0 0, .int .i64 0, .int .i64 0], .own vBk1 1 3 tk1.nb (ints tk1.B), .own vFk1 1 3 tk1.nf (ints tk1.F), .own vCk1 1 22 tk1.nc vvk1, .sem (Frame.rows 3 tk1.nc vvk1 tk1.ln tk1.C), .blk g3 [.int .i64 uu1.vars, .int .i64 uu1.den, xBu1, xFu1, xCu1], .sem (Frame.alt (uu1 = tk1 ∧ xBu1 = vBk1 ∧ xFu1 = vFk1 ∧ xCu1 = vCk1 ∧ xvu1 = vvk1) (Frame.bun [.own xBu1 1 3 uu1.nb (ints uu1.B), .own xFu1 1 3 uu1.nf (ints uu1.F), .own xCu1 1 22 uu1.nc xvu1, .sem (Frame.rows 3 uu1.nc xvu1 uu1.ln uu1.C)])), .own v1 1 3 p.n (ints fX), .own v2 1 3 p.m (ints fY), .blk g4 [v1, v2, .int .i64 (uu1.C 0 0), .int .i64 uu1.den]]) ?_ ?_ (m := ((uu1.nf - 0).toNat))
       ·
        refine ⟨0, (fun _ => 0), rfl, (by omega), (by omega), ?_, (hF.pick (hF.pick (hF.pick (hF.pick (hF.pick (hF.pick (hF.pick hF.nil 74 rfl) 73 rfl) 72 rfl) 6 rfl) 4 rfl) 3 rfl) 2 rfl), hS⟩
        ·
         rfl
       ·
        clear hF hS a w
        rintro mm a w ⟨j, fY, rfl, j0, j1, hfY, hF, hS⟩
        refine cw_seq ?_
        refine wp_region_lit ?_
        refine ls_val hF (.free rfl) rfl rfl (ex_lss rfl rfl rfl) ?_; clear hF a; intro a hF
        refine ls_nil ?_
        refine then_normal ?_
        refine cw_seq ?_
        refine cw_if hF rfl (fun hc => ?_) (fun hc => ?_)
        ·
         refine wp_skip ?_
         refine then_normal ?_
         refine cw_seq ?_
         refine wp_block ?_
         refine cw_seq ?_
         refine wp_region_lit ?_
         refine ls_val hF (.free rfl) rfl rfl (ex_move rfl rfl) ?_; clear hF a; intro a hF
         refine ls_val hF (.free rfl) rfl rfl (ex_index (k := j) rfl sl_22 rfl rfl hxFu1 (by omega) (by omega) (by omega)) ?_; clear hF a; intro a hF
         refine ls_val hF (.free rfl) rfl rfl (ex_load_row (u := .int .i64 (uu1.F j)) rfl pl_3 rfl (tat_alt (⟨(hS.rowN 2 rfl), (hS.rowN 3 rfl), (⟨(hS.rowN 4 rfl), fun k k0 k1 => hS.rowIn 5 rfl k0 k1, fun k k0 k1 => hS.roomIn 5 rfl k0 k1⟩ : MAt _ vCk1 tk1.nc vvk1 tk1.ln tk1.C)⟩ : TAt _ vBk1 vFk1 vCk1 vvk1 tk1) hS 7 rfl).F (by omega) (by omega) rfl) ?_; clear hF a; intro a hF
         have hrg := hp.rngF (i := j) j0 (by omega) (by omega)
         refine ls_val hF (.free rfl) rfl rfl (ex_assign rfl rfl) ?_; clear hF a; intro a hF
         refine ls_val hF (.free rfl) rfl rfl (ex_assign rfl rfl) ?_; clear hF a; intro a hF
         refine ls_nil ?_
         refine then_normal ?_
         refine cw_seq ?_
         refine wp_region_lit ?_
         refine ls_val hF (.free rfl) rfl rfl (ex_move rfl rfl) ?_; clear hF a; intro a hF
         refine ls_val hF (.free rfl) rfl rfl (ex_field (b := ⟨g3, 0, none⟩) rfl fd_43_0 rfl rfl) ?_; clear hF a; intro a hF
         refine ls_val hF (.free rfl) rfl rfl (ex_load_blk 6 rfl pl_3 rfl hS rfl rfl) ?_; clear hF a; intro a hF
         refine ls_val hF (.free rfl) rfl rfl (ex_geq rfl rfl rfl) ?_; clear hF a; intro a hF
         refine ls_nil ?_
         refine then_normal ?_
         refine cw_if hF rfl (fun hc => ?_) (fun hc => ?_)
         ·
          refine dr_sat (m0 := [.blk g1 [vc, vA, vb], .blk g2 [.slice none 0 0, .slice none 0 0, .int .i64 0, .int .i64 0], .own vBk1 1 3 tk1.nb (ints tk1.B), .own vFk1 1 3 tk1.nf (ints tk1.F), .own vCk1 1 22 tk1.nc vvk1, .sem (Frame.rows 3 tk1.nc vvk1 tk1.ln tk1.C), .blk g3 [.int .i64 uu1.vars, .int .i64 uu1.den, xBu1, xFu1, xCu1], .sem (Frame.alt (uu1 = tk1 ∧ xBu1 = vBk1 ∧ xFu1 = vFk1 ∧ xCu1 = vCk1 ∧ xvu1 = vvk1) (Frame.bun [.own xBu1 1 3 uu1.nb (ints uu1.B), .own xFu1 1 3 uu1.nf (ints uu1.F), .own xCu1 1 22 uu1.nc xvu1, .sem (Frame.rows 3 uu1.nc xvu1 uu1.ln uu1.C)])), .own v1 1 3 p.n (ints fX), .own v2 1 3 p.m (ints fY), .blk g4 [v1, v2, .int .i64 (uu1.C 0 0), .int .i64 uu1.den]]) (m1 := [.blk g1 [vc, vA, vb], .blk g2 [.slice none 0 0, .slice none 0 0, .int .i64 0, .int .i64 0], .own vBk1 1 3 tk1.nb (ints tk1.B), .own vFk1 1 3 tk1.nf (ints tk1.F), .own vCk1 1 22 tk1.nc vvk1, .sem (Frame.rows 3 tk1.nc vvk1 tk1.ln tk1.C), .blk g3 [.int .i64 uu1.vars, .int .i64 uu1.den, xBu1, xFu1, xCu1], .sem (Frame.alt (uu1 = tk1 ∧ xBu1 = vBk1 ∧ xFu1 = vFk1 ∧ xCu1 = vCk1 ∧ xvu1 = vvk1) (Frame.bun [.own xBu1 1 3 uu1.nb (ints uu1.B), .own xFu1 1 3 uu1.nf (ints uu1.F), .own xCu1 1 22 uu1.nc xvu1, .sem (Frame.rows 3 uu1.nc xvu1 uu1.ln uu1.C)])), .own v1 1 3 p.n (ints fX), .blk g4 [v1, v2, .int .i64 (uu1.C 0 0), .int .i64 uu1.den]]) 15 mx_ hS (.cons_cons _ (.cons_cons _ (.cons_cons _ (.cons_cons _ (.cons_cons _ (.cons_cons _ (.cons_cons _ (.cons_cons _ (.cons_cons _ (.cons_cons _ (.cons_cons _ .slnil))))))))))) (.cons_cons _ (.cons_cons _ (.cons_cons _ (.cons_cons _ (.cons_cons _ (.cons_cons _ (.cons_cons _ (.cons_cons _ (.cons_cons _ (.cons _ (.cons_cons _ .slnil))))))))))) rfl ?_; clear hS; intro w hS hcl hB
          refine dr_val hF hcl hB 0 rfl (.free rfl) rfl rfl (by kernel_rfl) rfl (fun w => (ex_field (b := ⟨g4, 1, none⟩) rfl fd_30_1 rfl rfl)) ?_; clear hF a hcl hB; intro a hF hcl hB
          refine dr_loadA hF hcl hB 1 rfl (.free rfl) rfl rfl (by kernel_rfl) rfl (fun w hS => (ex_load_blk 9 rfl pl_22 rfl hS rfl rfl)) ?_; clear hF a hcl hB; intro a hF hcl hB
          refine dr_val hF hcl hB 2 rfl (.free rfl) rfl rfl (by kernel_rfl) rfl (fun w => (ex_move rfl rfl)) ?_; clear hF a hcl hB; intro a hF hcl hB
          refine dr_val hF hcl hB 3 rfl (.free rfl) rfl rfl (by kernel_rfl) rfl (fun w => (ex_field (b := ⟨g3, 0, none⟩) rfl fd_43_0 rfl rfl)) ?_; clear hF a hcl hB; intro a hF hcl hB
          refine dr_loadA hF hcl hB 4 rfl (.free rfl) rfl rfl (by kernel_rfl) rfl (fun w hS => (ex_load_blk 6 rfl pl_3 rfl hS rfl rfl)) ?_; clear hF a hcl hB; intro a hF hcl hB
          refine dr_val hF hcl hB 5 rfl (.free rfl) rfl rfl (by kernel_rfl) rfl (fun w => (ex_sub (r := (uu1.F j) - uu1.vars) rfl rfl rfl (by omega) (by unfold I64; omega))) ?_; clear hF a hcl hB; intro a hF hcl hB
          refine dr_val hF hcl hB 6 rfl (.free rfl) rfl rfl (by kernel_rfl) rfl (fun w => (ex_field (b := ⟨g3, 4, none⟩) rfl fd_43_4 rfl rfl)) ?_; clear hF a hcl hB; intro a hF hcl hB
          refine dr_loadA hF hcl hB 7 rfl (.free rfl) rfl rfl (by kernel_rfl) rfl (fun w hS => (ex_load_blk 6 rfl pl_23 rfl hS rfl rfl)) ?_; clear hF a hcl hB; intro a hF hcl hB
          refine dr_val hF hcl hB 8 rfl (.free rfl) rfl rfl (by kernel_rfl) rfl (fun w => (ex_index (k := 0) rfl sl_23 rfl rfl hxCu1 (by omega) (by omega) (by omega))) ?_; clear hF a hcl hB; intro a hF hcl hB
          refine dr_loadA hF hcl hB 9 rfl (.free rfl) rfl rfl (by kernel_rfl) rfl (fun w hS => (ex_load_row (u := (xvu1 0)) rfl pl_22 rfl (tat_alt (⟨(hS.rowN 2 rfl), (hS.rowN 3 rfl), (⟨(hS.rowN 4 rfl), fun k k0 k1 => hS.rowIn 5 rfl k0 k1, fun k k0 k1 => hS.roomIn 5 rfl k0 k1⟩ : MAt _ vCk1 tk1.nc vvk1 tk1.ln tk1.C)⟩ : TAt _ vBk1 vFk1 vCk1 vvk1 tk1) hS 7 rfl).C.row (by omega) (by omega) rfl)) ?_; clear hF a hcl hB; intro a hF hcl hB
          refine dr_val hF hcl hB 10 rfl (.free rfl) rfl rfl (by kernel_rfl) rfl (fun w => (ex_move rfl rfl)) ?_; clear hF a hcl hB; intro a hF hcl hB
          refine dr_val hF hcl hB 11 rfl (.free rfl) rfl rfl (by kernel_rfl) rfl (fun w => (ex_add (r := j + 1) rfl rfl rfl (by omega) (by unfold I64; omega))) ?_; clear hF a hcl hB; intro a hF hcl hB
          refine dr_val hF hcl hB 12 rfl (.free rfl) rfl rfl (by kernel_rfl) rfl (fun w => (ex_index (k := j + 1) rfl sl_22 rfl rfl (hxru1 0 (by omega) (by omega)) (by omega) (by omega) (by omega))) ?_; clear hF a hcl hB; intro a hF hcl hB
          refine dr_loadA hF hcl hB 13 rfl (.free rfl) rfl rfl (by kernel_rfl) rfl (fun w hS => (ex_load_row (u := .int .i64 (uu1.C 0 (j + 1))) rfl pl_3 rfl ((tat_alt (⟨(hS.rowN 2 rfl), (hS.rowN 3 rfl), (⟨(hS.rowN 4 rfl), fun k k0 k1 => hS.rowIn 5 rfl k0 k1, fun k k0 k1 => hS.roomIn 5 rfl k0 k1⟩ : MAt _ vCk1 tk1.nc vvk1 tk1.ln tk1.C)⟩ : TAt _ vBk1 vFk1 vCk1 vvk1 tk1) hS 7 rfl).C.p 0 (by omega) (by omega)) (by omega) (by omega) rfl)) ?_; clear hF a hcl hB; intro a hF hcl hB
          refine dr_val hF hcl hB 14 rfl (.free rfl) rfl rfl (by kernel_rfl) rfl (fun w => (ex_index (k := (uu1.F j) - uu1.vars) rfl sl_22 rfl rfl hv2 (by omega) (by omega) (by omega))) ?_; clear hF a hcl hB; intro a hF hcl hB
          refine dr_effx hF hcl 15 rfl (.free rfl) rfl (by kernel_rfl) (st_own 9 rfl pl_3 hS rfl rfl rfl rfl (by omega) (by omega) (upd_ints _ _ _)) ?_; clear hS hB; rintro w hS hcl
          replace hS : Sat w0 w [.blk g1 [vc, vA, vb], .blk g2 [.slice none 0 0, .slice none 0 0, .int .i64 0, .int .i64 0], .own vBk1 1 3 tk1.nb (ints tk1.B), .own vFk1 1 3 tk1.nf (ints tk1.F), .own vCk1 1 22 tk1.nc vvk1, .sem (Frame.rows 3 tk1.nc vvk1 tk1.ln tk1.C), .blk g3 [.int .i64 uu1.vars, .int .i64 uu1.den, xBu1, xFu1, xCu1], .sem (Frame.alt (uu1 = tk1 ∧ xBu1 = vBk1 ∧ xFu1 = vFk1 ∧ xCu1 = vCk1 ∧ xvu1 = vvk1) (Frame.bun [.own xBu1 1 3 uu1.nb (ints uu1.B), .own xFu1 1 3 uu1.nf (ints uu1.F), .own xCu1 1 22 uu1.nc xvu1, .sem (Frame.rows 3 uu1.nc xvu1 uu1.ln uu1.C)])), .own v1 1 3 p.n (ints fX), .own v2 1 3 p.m (ints (upd fY ((uu1.F j) - uu1.vars) (uu1.C 0 (j + 1)))), .blk g4 [v1, v2, .int .i64 (uu1.C 0 0), .int .i64 uu1.den]] := hS
          refine ⟨⟨(fun h => absurd h (by decide)), hS.sub (.cons_cons _ (.cons_cons _ (.cons_cons _ (.cons_cons _ (.cons_cons _ (.cons_cons _ (.cons_cons _ (.cons_cons _ (.cons_cons _ (.cons _ (.cons_cons _ .slnil)))))))))))⟩, fun hB => ?_⟩
          refine dr_done (by kernel_rfl) ?_; clear hcl hB
          refine inb_normal ?_
          refine then_normal ?_
          refine wp_region_lit ?_
          refine ls_val hF (.free rfl) rfl rfl (ex_add (r := j + 1) rfl rfl rfl (by omega) (by unfold I64; omega)) ?_; clear hF a; intro a hF
          refine ls_val hF (.free rfl) rfl rfl (ex_move rfl rfl) ?_; clear hF a; intro a hF
          refine ls_nil ?_
          refine then_normal ?_
          refine ⟨_, (by omega), j + 1, (upd fY ((uu1.F j) - uu1.vars) (uu1.C 0 (j + 1))), rfl, (by omega), (by omega), ?_, (hF.pick (hF.pick (hF.pick (hF.pick (hF.pick (hF.pick (hF.pick hF.nil 74 rfl) 73 rfl) 72 rfl) 6 rfl) 4 rfl) 3 rfl) 2 rfl), hS⟩
          ·
           rw [rdY_next uu1 j0, ← hfY]; first | rw [if_pos (by omega)] | rw [if_neg (by omega)]
         ·
          refine wp_skip ?_
          refine inb_normal ?_
          refine then_normal ?_
          refine wp_region_lit ?_
          refine ls_val hF (.free rfl) rfl rfl (ex_add (r := j + 1) rfl rfl rfl (by omega) (by unfold I64; omega)) ?_; clear hF a; intro a hF
          refine ls_val hF (.free rfl) rfl rfl (ex_move rfl rfl) ?_; clear hF a; intro a hF
          refine ls_nil ?_
          refine then_normal ?_
          refine ⟨_, (by omega), j + 1, fY, rfl, (by omega), (by omega), ?_, (hF.pick (hF.pick (hF.pick (hF.pick (hF.pick (hF.pick (hF.pick hF.nil 74 rfl) 73 rfl) 72 rfl) 6 rfl) 4 rfl) 3 rfl) 2 rfl), hS⟩
          ·
           rw [rdY_next uu1 j0, ← hfY]; first | rw [if_pos (by omega)] | rw [if_neg (by omega)]
        ·
         refine wp_exit ?_
         refine then_exit ?_
         refine then_exit ?_
         refine inb_hit ?_
         refine then_normal ?_
         refine cw_seq ?_
         refine wp_region_lit ?_
         refine ls_val hF (.free rfl) rfl rfl (ex_loads_blk 10 rfl st_30 rfl hS rfl rfl) ?_; clear hF a; intro a hF
         refine ls_effx hF (.free rfl) rfl (st_blks 1 (ds := [v1, v2, .int .i64 (uu1.C 0 0), .int .i64 uu1.den]) rfl st_30 hS rfl rfl rfl rfl (ones_cons hv1.one (ones_cons hv2.one (ones_cons rfl (ones_cons rfl ones_nil))))) ?_; clear hS; rintro w hS
         replace hS : Sat w0 w [.blk g1 [vc, vA, vb], .blk g2 [v1, v2, .int .i64 (uu1.C 0 0), .int .i64 uu1.den], .own vBk1 1 3 tk1.nb (ints tk1.B), .own vFk1 1 3 tk1.nf (ints tk1.F), .own vCk1 1 22 tk1.nc vvk1, .sem (Frame.rows 3 tk1.nc vvk1 tk1.ln tk1.C), .blk g3 [.int .i64 uu1.vars, .int .i64 uu1.den, xBu1, xFu1, xCu1], .sem (Frame.alt (uu1 = tk1 ∧ xBu1 = vBk1 ∧ xFu1 = vFk1 ∧ xCu1 = vCk1 ∧ xvu1 = vvk1) (Frame.bun [.own xBu1 1 3 uu1.nb (ints uu1.B), .own xFu1 1 3 uu1.nf (ints uu1.F), .own xCu1 1 22 uu1.nc xvu1, .sem (Frame.rows 3 uu1.nc xvu1 uu1.ln uu1.C)])), .own v1 1 3 p.n (ints fX), .own v2 1 3 p.m (ints fY), .blk g4 [v1, v2, .int .i64 (uu1.C 0 0), .int .i64 uu1.den]] := hS
         refine ls_val hF (.free rfl) rfl rfl (ex_assign rfl rfl) ?_; clear hF a; intro a hF
         refine ls_nil ?_
         refine then_normal ?_
         refine wp_ret ?_
         refine (fin_ct 1 hF rfl rfl rfl st_30 hS rfl rfl ⟨_, rfl, ?_⟩)
         obtain rfl : i = uu1.nb := by omega
         obtain rfl : j = uu1.nf := by omega
         have he0 : euu1 = 0 := by omega
         rw [hts, he0] at hrunu1
         rw [← hd2] at hv1; rw [← hd1] at hv2; replace hS := hS.sub (.cons _ (.cons _ (.cons _ (.cons _ (.cons _ (.cons _ (.cons _ (.cons _ (.cons_cons _ (.cons_cons _ (.cons _ .slnil))))))))))); rw [← hd2, ← hd1] at hS; subst hfX; subst hfY
         exact ⟨_, _, readS uu1, 0, rfl, .inr ⟨hl, uu1, hrunu1, .inr ⟨rfl, rfl⟩⟩, hv1, hv2, hS⟩

end Go.Proofs.Ytakgjpmhbfieeaa
