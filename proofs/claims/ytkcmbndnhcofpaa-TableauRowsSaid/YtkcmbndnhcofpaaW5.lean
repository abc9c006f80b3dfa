/- The walk of Pivot, of tableau. -/
import Derived.Test.YtkcmbndnhcofpaaGv
import Derived.Test.YtkcmbndnhcofpaaW4
namespace Go.Proofs.Ytkcmbndnhcofpaa
open Go Go.RowKit Go.Proofs.Gw
set_option linter.unusedVariables false

theorem cl_16 : calledT Try.prog 16 = true := by kernel_rfl
theorem cl_17 : calledT Try.prog 17 = true := by kernel_rfl
theorem el_30 : elemT Try.prog 30 = some (.agg #[.int .i64 0, .int .i64 0, .slice none 0 0, .slice none 0 0, .slice none 0 0], 5, 88) := by kernel_rfl
set_option maxRecDepth 20000 in
theorem c_pivot {vB vF vC : Value} {vv : Int → Value} {t : Tb} {row col : Int} (w0 : World) (hT : TAt w0 vB vF vC vv t) (hrow0 : -9223372036854775808 ≤ row ∧ row ≤ 9223372036854775807) (hcol0 : -9223372036854775808 ≤ col ∧ col ≤ 9223372036854775807) :
    Calls Try.prog 10 [.agg #[.int .i64 t.vars, .int .i64 t.den, vB, vF, vC], .int .i64 row, .int .i64 col].toArray w0 fun e w => ∃ v, e = .returned v ∧ ∃ vB vF vC vv t' e, v = .tuple #[.agg #[.int .i64 t'.vars, .int .i64 t'.den, vB, vF, vC], .int .i64 e] ∧ PivR t row col t' e ∧ Slh vB t'.nb ∧ Slh vF t'.nf ∧ Slh vC t'.nc ∧ Sat w0 w [.own vB 1 3 t'.nb (ints t'.B), .own vF 1 3 t'.nf (ints t'.F), .own vC 1 22 t'.nc vv, .sem (Frame.rows 3 t'.nc vv t'.ln t'.C)] := by
  have hn := hT.F.slh.n0; have hn1 := hT.F.slh.n1; have hb := hT.B.slh.n0; have hb1 := hT.B.slh.n1; have hc0 := hT.C.row.slh.n0; have hc1 := hT.C.row.slh.n1
  refine zenG Try.func10 Try.ntmps10 fun w hS => ?_
  refine zsr ?_
  refine zla (xbx (cs := [_, _, _, _, _]) hS) ?_; rintro _ w ⟨g1, rfl, hS⟩
  replace hS := hS.n1
  refine zla (xal (cs := [_, _, _, _, _]) el_30 hS) ?_; rintro _ w ⟨g2, rfl, hS⟩
  replace hS := hS.n2
  refine zlv xas ?_
  refine zlt <| zsq <| zsr ?_
  refine zlv (xls 0 st_30 hS) ?_
  refine zlc (xc0 cl_15) (c_proper (t := t) w (hT.below hS.below)) ?_; rintro _ w ⟨rfl, hS'⟩
  replace hS := hS.cmp hS'; clear hS'
  refine zs2 ?_
  refine zlb 23 ?_ ?_ <;> intro hc
  ·
   iterate 2 refine zlo ?_
   refine zs2 ?_
   iterate 5 refine zlo ?_
   refine zs2 ?_
   iterate 2 refine zlo ?_
   refine zs2 ?_
   iterate 5 refine zlo ?_
   refine zs2 ?_
   iterate 11 refine zlo ?_
   refine zlv xpt ?_
   refine zlt <| zct <| zsr ?_
   refine zlv (xany (v := .agg #[.int .i64 0, .int .i64 0, .slice none 0 0, .slice none 0 0, .slice none 0 0])) ?_
   refine zle (xsw 1 st_30 hS) ?_; clear hS; rintro w hS
   replace hS := hS.n2
   refine zlv xas ?_
   refine zlt <| zrt <| ztr <| zfct 1 st_30 hS ⟨_, rfl, ?_⟩
   exact ⟨_, _, _, fun _ => undef, Tb.zero, 1, rfl, .inl ⟨by first | exact fun hh => absurd hh.1 ‹_› | (rintro ⟨_, p1, p2, p3, p4, p5⟩; omega), rfl, rfl⟩, slh_nil, slh_nil, slh_nil, ((((hS.sub (.cons _ (.cons _ .slnil))).addnil 1 3 (ints Tb.zero.B)).addnil 1 3 (ints Tb.zero.F)).addnil 1 22 (fun _ => undef)).addrows 3 (fun _ => undef) Tb.zero.ln Tb.zero.C⟩
  refine zlv xmv ?_
  have hp := (Classical.not_not.1 ‹¬ ¬ (TPrp t)›)
  have b1 := hp.n1
  have b2 := hp.n2
  have b3 := hp.m2
  have b4 := hp.v
  have b5 := hp.d1
  have b6 := hp.d2
  have b7 := hp.c
  refine zs3 ?_
  refine zlb 27 ?_ ?_ <;> intro hc
  ·
   iterate 5 refine zlo ?_
   refine zs2 ?_
   iterate 2 refine zlo ?_
   refine zs2 ?_
   iterate 5 refine zlo ?_
   refine zs2 ?_
   iterate 11 refine zlo ?_
   refine zlv xpt ?_
   refine zlt <| zct <| zsr ?_
   refine zlv (xany (v := .agg #[.int .i64 0, .int .i64 0, .slice none 0 0, .slice none 0 0, .slice none 0 0])) ?_
   refine zle (xsw 1 st_30 hS) ?_; clear hS; rintro w hS
   replace hS := hS.n2
   refine zlv xas ?_
   refine zlt <| zrt <| ztr <| zfct 1 st_30 hS ⟨_, rfl, ?_⟩
   exact ⟨_, _, _, fun _ => undef, Tb.zero, 1, rfl, .inl ⟨by first | exact fun hh => absurd hh.1 ‹_› | (rintro ⟨_, p1, p2, p3, p4, p5⟩; omega), rfl, rfl⟩, slh_nil, slh_nil, slh_nil, ((((hS.sub (.cons _ (.cons _ .slnil))).addnil 1 3 (ints Tb.zero.B)).addnil 1 3 (ints Tb.zero.F)).addnil 1 22 (fun _ => undef)).addrows 3 (fun _ => undef) Tb.zero.ln Tb.zero.C⟩
  refine zlv xmv ?_
  refine zlv (xfb 2 fd_30_2) ?_
  refine zlv (xlb 0 pl_22 hS) ?_
  refine zlv (xln sl_22 hT.B.slh) ?_
  refine zs3 ?_
  refine zlb 34 ?_ ?_ <;> intro hc
  ·
   iterate 2 refine zlo ?_
   refine zs2 ?_
   iterate 5 refine zlo ?_
   refine zs2 ?_
   iterate 11 refine zlo ?_
   refine zlv xpt ?_
   refine zlt <| zct <| zsr ?_
   refine zlv (xany (v := .agg #[.int .i64 0, .int .i64 0, .slice none 0 0, .slice none 0 0, .slice none 0 0])) ?_
   refine zle (xsw 1 st_30 hS) ?_; clear hS; rintro w hS
   replace hS := hS.n2
   refine zlv xas ?_
   refine zlt <| zrt <| ztr <| zfct 1 st_30 hS ⟨_, rfl, ?_⟩
   exact ⟨_, _, _, fun _ => undef, Tb.zero, 1, rfl, .inl ⟨by first | exact fun hh => absurd hh.1 ‹_› | (rintro ⟨_, p1, p2, p3, p4, p5⟩; omega), rfl, rfl⟩, slh_nil, slh_nil, slh_nil, ((((hS.sub (.cons _ (.cons _ .slnil))).addnil 1 3 (ints Tb.zero.B)).addnil 1 3 (ints Tb.zero.F)).addnil 1 22 (fun _ => undef)).addrows 3 (fun _ => undef) Tb.zero.ln Tb.zero.C⟩
  refine zs4 ?_
  refine zlb 38 ?_ ?_ <;> intro hc
  ·
   iterate 5 refine zlo ?_
   refine zs2 ?_
   iterate 11 refine zlo ?_
   refine zlv xpt ?_
   refine zlt <| zct <| zsr ?_
   refine zlv (xany (v := .agg #[.int .i64 0, .int .i64 0, .slice none 0 0, .slice none 0 0, .slice none 0 0])) ?_
   refine zle (xsw 1 st_30 hS) ?_; clear hS; rintro w hS
   replace hS := hS.n2
   refine zlv xas ?_
   refine zlt <| zrt <| ztr <| zfct 1 st_30 hS ⟨_, rfl, ?_⟩
   exact ⟨_, _, _, fun _ => undef, Tb.zero, 1, rfl, .inl ⟨by first | exact fun hh => absurd hh.1 ‹_› | (rintro ⟨_, p1, p2, p3, p4, p5⟩; omega), rfl, rfl⟩, slh_nil, slh_nil, slh_nil, ((((hS.sub (.cons _ (.cons _ .slnil))).addnil 1 3 (ints Tb.zero.B)).addnil 1 3 (ints Tb.zero.F)).addnil 1 22 (fun _ => undef)).addrows 3 (fun _ => undef) Tb.zero.ln Tb.zero.C⟩
  refine zlv xmv ?_
  refine zlv (xfb 3 fd_30_3) ?_
  refine zlv (xlb 0 pl_22 hS) ?_
  refine zlv (xln sl_22 hT.F.slh) ?_
  refine zs3 ?_
  refine zlb 45 ?_ ?_ <;> intro hc
  ·
   iterate 11 refine zlo ?_
   refine zlv xpt ?_
   refine zlt <| zct <| zsr ?_
   refine zlv (xany (v := .agg #[.int .i64 0, .int .i64 0, .slice none 0 0, .slice none 0 0, .slice none 0 0])) ?_
   refine zle (xsw 1 st_30 hS) ?_; clear hS; rintro w hS
   replace hS := hS.n2
   refine zlv xas ?_
   refine zlt <| zrt <| ztr <| zfct 1 st_30 hS ⟨_, rfl, ?_⟩
   exact ⟨_, _, _, fun _ => undef, Tb.zero, 1, rfl, .inl ⟨by first | exact fun hh => absurd hh.1 ‹_› | (rintro ⟨_, p1, p2, p3, p4, p5⟩; omega), rfl, rfl⟩, slh_nil, slh_nil, slh_nil, ((((hS.sub (.cons _ (.cons _ .slnil))).addnil 1 3 (ints Tb.zero.B)).addnil 1 3 (ints Tb.zero.F)).addnil 1 22 (fun _ => undef)).addrows 3 (fun _ => undef) Tb.zero.ln Tb.zero.C⟩
  refine zlv (xfb 4 fd_30_4) ?_
  refine zlv (xlb 0 pl_23 hS) ?_
  refine zlv xmv ?_
  refine zlv (xadd (r := row + 1)) ?_
  refine zlv (xix (kk := row + 1) sl_23 hT.C.row.slh) ?_
  refine zlv (xlr (u := (vv (row + 1))) pl_22 (hT.C.row.below hS.below)) ?_
  have hlr := hp.len (i := row + 1) (by omega) (by omega)
  refine zlv xmv ?_
  refine zlv (xadd (r := col + 1)) ?_
  refine zlv (xix (kk := col + 1) sl_22 (hT.C.p (row + 1) (by omega) (by omega)).slh) ?_
  refine zlv (xlr (u := .int .i64 ((t.C (row + 1)) (col + 1))) pl_3 ((hT.C.p (row + 1) (by omega) (by omega)).below hS.below)) ?_
  refine zs2 ?_
  refine zlt ?_
  refine zcif ?_ ?_ <;> intro hc
  ·
   refine zsr ?_
   refine zlv (xany (v := .agg #[.int .i64 0, .int .i64 0, .slice none 0 0, .slice none 0 0, .slice none 0 0])) ?_
   refine zle (xsw 1 st_30 hS) ?_; clear hS; rintro w hS
   replace hS := hS.n2
   refine zlv xas ?_
   refine zlt <| zrt <| ztr <| zfct 1 st_30 hS ⟨_, rfl, ?_⟩
   exact ⟨_, _, _, fun _ => undef, Tb.zero, 1, rfl, .inl ⟨by first | exact fun hh => absurd hh.1 ‹_› | (rintro ⟨_, p1, p2, p3, p4, p5⟩; omega), rfl, rfl⟩, slh_nil, slh_nil, slh_nil, ((((hS.sub (.cons _ (.cons _ .slnil))).addnil 1 3 (ints Tb.zero.B)).addnil 1 3 (ints Tb.zero.F)).addnil 1 22 (fun _ => undef)).addrows 3 (fun _ => undef) Tb.zero.ln Tb.zero.C⟩
  refine zsk <| ztn <| zsr ?_
  refine zlv xmv ?_
  refine zlv (xadd (r := row + 1)) ?_
  have hnz : t.C (row + 1) (col + 1) ≠ 0 := by omega
  have hpb := hp.cell (i := row + 1) (j := col + 1) (by omega) (by omega) (by omega) (by omega)
  refine zlv xmv ?_
  refine zlv (xadd (r := col + 1)) ?_
  refine zs2 ?_
  refine zlt <| zsq ?_
  refine zdst [0, 1] [0, 1] 1000 mx_ hS ?_; clear hS; intro w hS
  refine zdv 0 (fun _ => (xfb 4 fd_30_4)) ?_
  refine zdla 1 (fun w hS => (xlb 0 pl_23 hS)) ?_
  refine zdv 2 (fun _ => xmv) ?_
  refine zdv 3 (fun _ => (xix (kk := row + 1) sl_23 hT.C.row.slh)) ?_
  refine zdla 4 (fun w hS => (xlr (u := (vv (row + 1))) pl_22 (hT.C.row.below hS.below))) ?_
  refine zdv 5 (fun _ => xmv) ?_
  refine zdv 6 (fun _ => (xix (kk := col + 1) sl_22 (hT.C.p (row + 1) (by omega) (by omega)).slh)) ?_
  refine zdla 7 (fun w hS => (xlr (u := .int .i64 ((t.C (row + 1)) (col + 1))) pl_3 ((hT.C.p (row + 1) (by omega) (by omega)).below hS.below))) ?_
  refine zdv 8 (fun _ => (xfb 1 fd_30_1)) ?_
  refine zdla 9 (fun w hS => (xlb 0 pl_3 hS)) ?_
  refine zdv 10 (fun _ => xas) ?_
  refine zdv 11 (fun _ => xas) ?_
  refine zdd <| ztn <| zsq <| ?_
  refine zgcut (fun M w => ∃ (g3 : Nat) (vq1 : Value) (vq2 : Value) (voq3 : Value) (vwq3 : Int → Value), (Slh vq1 t.nb) ∧ (Slh vq2 t.nf) ∧ (Slh voq3 t.nc) ∧ (∀ k, 0 ≤ k → k < t.nc → Slh (vwq3 k) (t.ln k)) ∧ M = [(0, .agg #[.int .i64 t.vars, .int .i64 t.den, vB, vF, vC]), (1, .int .i64 row), (2, .int .i64 col), (3, .pointer (some ⟨g1, 0, none⟩)), (6, .pointer (some ⟨g2, 0, none⟩)), (7, .int .i64 0), (20, .agg #[.int .i64 t.vars, .int .i64 t.den, vB, vF, vC]), (21, B (TPrp t)), (22, B (¬ (TPrp t))), (23, .bool false), (24, .int .i64 row), (25, B (row < 0)), (26, B (row < 0)), (27, .bool false), (28, .int .i64 row), (29, .pointer (some ⟨g1, 2, none⟩)), (30, vB), (31, .int .i64 t.nb), (32, B (t.nb ≤ row)), (33, B (t.nb ≤ row)), (34, .bool false), (35, .int .i64 col), (36, B (col < 0)), (37, B (col < 0)), (38, .bool false), (39, .int .i64 col), (40, .pointer (some ⟨g1, 3, none⟩)), (41, vF), (42, .int .i64 t.nf), (43, B (t.nf ≤ col)), (44, B (t.nf ≤ col)), (45, .bool false), (46, .pointer (some ⟨g1, 4, none⟩)), (47, vC), (48, .int .i64 row), (49, .int .i64 (row + 1)), (50, .pointer (some (cad vC (row + 1)))), (51, (vv (row + 1))), (52, .int .i64 col), (53, .int .i64 (col + 1)), (54, .pointer (some (cad (vv (row + 1)) (col + 1)))), (55, .int .i64 ((t.C (row + 1)) (col + 1))), (56, B (((t.C (row + 1)) (col + 1)) = 0)), (57, B (((t.C (row + 1)) (col + 1)) = 0)), (59, .int .i64 row), (60, .int .i64 (row + 1)), (61, .int .i64 col), (62, .int .i64 (col + 1)), (8, .int .i64 (row + 1)), (9, .int .i64 (col + 1)), (63, .pointer (some ⟨g1, 4, none⟩)), (64, vC), (65, .int .i64 (row + 1)), (66, .pointer (some (cad vC (row + 1)))), (67, (vv (row + 1))), (68, .int .i64 (col + 1)), (69, .pointer (some (cad (vv (row + 1)) (col + 1)))), (70, .int .i64 ((t.C (row + 1)) (col + 1))), (71, .pointer (some ⟨g1, 1, none⟩)), (72, .int .i64 t.den), (10, .int .i64 ((t.C (row + 1)) (col + 1))), (11, .int .i64 t.den), (73, .pointer (some ⟨g1, 0, none⟩)), (74, .int .i64 t.vars), (75, .int .i64 ((t.C (row + 1)) (col + 1))), (76, .pointer (some ⟨g1, 2, none⟩)), (77, vB), (79, .pointer (some ⟨g1, 3, none⟩)), (80, vF), (82, .pointer (some ⟨g1, 4, none⟩)), (83, vC), (78, vq1), (81, vq2), (84, voq3), (85, .agg #[.int .i64 t.vars, .int .i64 ((t.C (row + 1)) (col + 1)), vq1, vq2, voq3]), (12, .pointer (some ⟨g3, 0, none⟩))] ∧ Sat w0 w [.blk g1 [.int .i64 t.vars, .int .i64 t.den, vB, vF, vC], .blk g2 [.int .i64 0, .int .i64 0, .slice none 0 0, .slice none 0 0, .slice none 0 0], .own vq1 1 3 t.nb (ints t.B), .own vq2 1 3 t.nf (ints t.F), .own voq3 1 22 t.nc vwq3, .sem (Frame.rows 3 t.nc vwq3 t.ln t.C), .blk g3 [.int .i64 t.vars, .int .i64 ((t.C (row + 1)) (col + 1)), vq1, vq2, voq3]]) ?_ ?_
  ·
   refine zdst [0, 1] [0, 1] 14 mx_ hS ?_; clear hS; intro w hS
   refine zdv 0 (fun _ => (xfb 0 fd_30_0)) ?_
   refine zdla 1 (fun w hS => (xlb 0 pl_3 hS)) ?_
   refine zdv 2 (fun _ => xmv) ?_
   refine zdv 3 (fun _ => (xfb 2 fd_30_2)) ?_
   refine zdla 4 (fun w hS => (xlb 0 pl_22 hS)) ?_
   refine zdv 6 (fun _ => (xfb 3 fd_30_3)) ?_
   refine zdla 7 (fun w hS => (xlb 0 pl_22 hS)) ?_
   refine zdv 9 (fun _ => (xfb 4 fd_30_4)) ?_
   refine zdla 10 (fun w hS => (xlb 0 pl_23 hS)) ?_
   refine zdfk (r := [5, 13]) ((zdn1 ?_ (zdn1 ?_ zdn0)))
   ·
    refine zkc (xc0 cl_16) (c_clone (n := t.nb) (f := t.B) w (hT.B.below hS.below) (by omega)) ?_; rintro vq1 w ⟨_, rfl, hslq1, hS'⟩
    replace hS : Sat w0 w [.blk g1 [.int .i64 t.vars, .int .i64 t.den, vB, vF, vC], .blk g2 [.int .i64 0, .int .i64 0, .slice none 0 0, .slice none 0 0, .slice none 0 0], .own vq1 1 3 t.nb (ints t.B)] := hS.comp hS'; clear hS'
    refine ⟨⟨fun _ => hS.pk [0, 1], hS.pk [0, 1]⟩, ?_⟩
    refine zdfk (r := [8, 13]) ((zdn1 ?_ (zdn1 ?_ zdn0)))
    ·
     refine zkc (xc0 cl_16) (c_clone (n := t.nf) (f := t.F) w (hT.F.below hS.below) (by omega)) ?_; rintro vq2 w ⟨_, rfl, hslq2, hS'⟩
     replace hS : Sat w0 w [.blk g1 [.int .i64 t.vars, .int .i64 t.den, vB, vF, vC], .blk g2 [.int .i64 0, .int .i64 0, .slice none 0 0, .slice none 0 0, .slice none 0 0], .own vq1 1 3 t.nb (ints t.B), .own vq2 1 3 t.nf (ints t.F)] := hS.comp hS'; clear hS'
     refine ⟨⟨fun _ => hS.pk [0, 1], hS.pk [0, 1]⟩, ?_⟩
     refine zdfk (r := [11, 13]) ((zdn1 ?_ (zdn1 ?_ zdn0)))
     ·
      refine zkc (xc0 cl_17) (c_cloned (n := t.nc) (vv := vv) (ln := t.ln) (f := t.C) w (hT.C.below hS.below) (by omega) (fun k k0 k1 => by have := hp.len (i := k) (by omega) (by omega); omega)) ?_; rintro voq3 w ⟨_, vwq3, rfl, hslq3, hS'⟩
      replace hS : Sat w0 w [.blk g1 [.int .i64 t.vars, .int .i64 t.den, vB, vF, vC], .blk g2 [.int .i64 0, .int .i64 0, .slice none 0 0, .slice none 0 0, .slice none 0 0], .own vq1 1 3 t.nb (ints t.B), .own vq2 1 3 t.nf (ints t.F), .own voq3 1 22 t.nc vwq3, .sem (Frame.rows 3 t.nc vwq3 t.ln t.C)] := hS.comp hS'; clear hS'
      have hrsq3 := fun k (k0 : 0 ≤ k) (k1 : k < t.nc) => hS.slhIn 5 rfl k0 k1
      refine ⟨⟨fun _ => hS.pk [0, 1], hS.pk [0, 1]⟩, ?_⟩
      refine zdv 12 (fun _ => (xany (v := .agg #[.int .i64 t.vars, .int .i64 ((t.C (row + 1)) (col + 1)), vq1, vq2, voq3]) (hr := by obtain ⟨_, _, _, _, rfl, _⟩ := hslq1; obtain ⟨_, _, _, _, rfl, _⟩ := hslq2; obtain ⟨_, _, _, _, rfl, _⟩ := hslq3; kernel_rfl))) ?_
      refine zda 13 (xal (cs := [_, _, _, _, _]) el_30 hS) ?_; rintro _ w ⟨g3, rfl, hS⟩
      replace hS := hS.n7
      refine ⟨⟨fun _ => hS.pk [0, 1], hS.pk [0, 1]⟩, ?_⟩
      refine zde 14 (xsw 6 st_30 hS (hd := (ones_cons rfl (ones_cons rfl (ones_cons hslq1.one (ones_cons hslq2.one (ones_cons hslq3.one ones_nil))))))) ?_; clear hS; rintro w hS
      replace hS := hS.n7
      refine ⟨⟨fun h => absurd h (by decide), hS.pk [0, 1]⟩, ?_⟩
      refine zdd <| zgj ⟨g3, vq1, vq2, voq3, vwq3, hslq1, hslq2, hslq3, hrsq3, rfl, hS⟩
     refine zka (xal (cs := [_, _, _, _, _]) el_30 hS) ?_; rintro _ w ⟨g3, rfl, hS⟩
     replace hS := hS.n5
     refine ⟨⟨fun _ => hS.pk [0, 1], hS.pk [0, 1]⟩, ?_⟩
     refine zdc 11 (xc0 cl_17) (c_cloned (n := t.nc) (vv := vv) (ln := t.ln) (f := t.C) w (hT.C.below hS.below) (by omega) (fun k k0 k1 => by have := hp.len (i := k) (by omega) (by omega); omega)) ?_; rintro voq3 w ⟨_, vwq3, rfl, hslq3, hS'⟩
     replace hS : Sat w0 w [.blk g1 [.int .i64 t.vars, .int .i64 t.den, vB, vF, vC], .blk g2 [.int .i64 0, .int .i64 0, .slice none 0 0, .slice none 0 0, .slice none 0 0], .own vq1 1 3 t.nb (ints t.B), .own vq2 1 3 t.nf (ints t.F), .blk g3 [.int .i64 0, .int .i64 0, .slice none 0 0, .slice none 0 0, .slice none 0 0], .own voq3 1 22 t.nc vwq3, .sem (Frame.rows 3 t.nc vwq3 t.ln t.C)] := hS.comp hS'; clear hS'
     have hrsq3 := fun k (k0 : 0 ≤ k) (k1 : k < t.nc) => hS.slhIn 6 rfl k0 k1
     refine ⟨⟨fun _ => hS.pk [0, 1], hS.pk [0, 1]⟩, ?_⟩
     refine zdv 12 (fun _ => (xany (v := .agg #[.int .i64 t.vars, .int .i64 ((t.C (row + 1)) (col + 1)), vq1, vq2, voq3]) (hr := by obtain ⟨_, _, _, _, rfl, _⟩ := hslq1; obtain ⟨_, _, _, _, rfl, _⟩ := hslq2; obtain ⟨_, _, _, _, rfl, _⟩ := hslq3; kernel_rfl))) ?_
     refine zde 14 (xsw 4 st_30 hS (hd := (ones_cons rfl (ones_cons rfl (ones_cons hslq1.one (ones_cons hslq2.one (ones_cons hslq3.one ones_nil))))))) ?_; clear hS; rintro w hS
     replace hS := hS.n7
     refine ⟨⟨fun h => absurd h (by decide), hS.pk [0, 1]⟩, ?_⟩
     refine zdd <| zgj ⟨g3, vq1, vq2, voq3, vwq3, hslq1, hslq2, hslq3, hrsq3, rfl, hS.pk [0, 1, 2, 3, 5, 6, 4]⟩
    refine zka (xal (cs := [_, _, _, _, _]) el_30 hS) ?_; rintro _ w ⟨g3, rfl, hS⟩
    replace hS := hS.n4
    refine ⟨⟨fun _ => hS.pk [0, 1], hS.pk [0, 1]⟩, ?_⟩
    refine zdc 8 (xc0 cl_16) (c_clone (n := t.nf) (f := t.F) w (hT.F.below hS.below) (by omega)) ?_; rintro vq2 w ⟨_, rfl, hslq2, hS'⟩
    replace hS : Sat w0 w [.blk g1 [.int .i64 t.vars, .int .i64 t.den, vB, vF, vC], .blk g2 [.int .i64 0, .int .i64 0, .slice none 0 0, .slice none 0 0, .slice none 0 0], .own vq1 1 3 t.nb (ints t.B), .blk g3 [.int .i64 0, .int .i64 0, .slice none 0 0, .slice none 0 0, .slice none 0 0], .own vq2 1 3 t.nf (ints t.F)] := hS.comp hS'; clear hS'
    refine ⟨⟨fun _ => hS.pk [0, 1], hS.pk [0, 1]⟩, ?_⟩
    refine zdc 11 (xc0 cl_17) (c_cloned (n := t.nc) (vv := vv) (ln := t.ln) (f := t.C) w (hT.C.below hS.below) (by omega) (fun k k0 k1 => by have := hp.len (i := k) (by omega) (by omega); omega)) ?_; rintro voq3 w ⟨_, vwq3, rfl, hslq3, hS'⟩
    replace hS : Sat w0 w [.blk g1 [.int .i64 t.vars, .int .i64 t.den, vB, vF, vC], .blk g2 [.int .i64 0, .int .i64 0, .slice none 0 0, .slice none 0 0, .slice none 0 0], .own vq1 1 3 t.nb (ints t.B), .blk g3 [.int .i64 0, .int .i64 0, .slice none 0 0, .slice none 0 0, .slice none 0 0], .own vq2 1 3 t.nf (ints t.F), .own voq3 1 22 t.nc vwq3, .sem (Frame.rows 3 t.nc vwq3 t.ln t.C)] := hS.comp hS'; clear hS'
    have hrsq3 := fun k (k0 : 0 ≤ k) (k1 : k < t.nc) => hS.slhIn 6 rfl k0 k1
    refine ⟨⟨fun _ => hS.pk [0, 1], hS.pk [0, 1]⟩, ?_⟩
    refine zdv 12 (fun _ => (xany (v := .agg #[.int .i64 t.vars, .int .i64 ((t.C (row + 1)) (col + 1)), vq1, vq2, voq3]) (hr := by obtain ⟨_, _, _, _, rfl, _⟩ := hslq1; obtain ⟨_, _, _, _, rfl, _⟩ := hslq2; obtain ⟨_, _, _, _, rfl, _⟩ := hslq3; kernel_rfl))) ?_
    refine zde 14 (xsw 3 st_30 hS (hd := (ones_cons rfl (ones_cons rfl (ones_cons hslq1.one (ones_cons hslq2.one (ones_cons hslq3.one ones_nil))))))) ?_; clear hS; rintro w hS
    replace hS := hS.n7
    refine ⟨⟨fun h => absurd h (by decide), hS.pk [0, 1]⟩, ?_⟩
    refine zdd <| zgj ⟨g3, vq1, vq2, voq3, vwq3, hslq1, hslq2, hslq3, hrsq3, rfl, hS.pk [0, 1, 2, 4, 5, 6, 3]⟩
   refine zka (xal (cs := [_, _, _, _, _]) el_30 hS) ?_; rintro _ w ⟨g3, rfl, hS⟩
   replace hS := hS.n3
   refine ⟨⟨fun _ => hS.pk [0, 1], hS.pk [0, 1]⟩, ?_⟩
   refine zdc 5 (xc0 cl_16) (c_clone (n := t.nb) (f := t.B) w (hT.B.below hS.below) (by omega)) ?_; rintro vq1 w ⟨_, rfl, hslq1, hS'⟩
   replace hS : Sat w0 w [.blk g1 [.int .i64 t.vars, .int .i64 t.den, vB, vF, vC], .blk g2 [.int .i64 0, .int .i64 0, .slice none 0 0, .slice none 0 0, .slice none 0 0], .blk g3 [.int .i64 0, .int .i64 0, .slice none 0 0, .slice none 0 0, .slice none 0 0], .own vq1 1 3 t.nb (ints t.B)] := hS.comp hS'; clear hS'
   refine ⟨⟨fun _ => hS.pk [0, 1], hS.pk [0, 1]⟩, ?_⟩
   refine zdc 8 (xc0 cl_16) (c_clone (n := t.nf) (f := t.F) w (hT.F.below hS.below) (by omega)) ?_; rintro vq2 w ⟨_, rfl, hslq2, hS'⟩
   replace hS : Sat w0 w [.blk g1 [.int .i64 t.vars, .int .i64 t.den, vB, vF, vC], .blk g2 [.int .i64 0, .int .i64 0, .slice none 0 0, .slice none 0 0, .slice none 0 0], .blk g3 [.int .i64 0, .int .i64 0, .slice none 0 0, .slice none 0 0, .slice none 0 0], .own vq1 1 3 t.nb (ints t.B), .own vq2 1 3 t.nf (ints t.F)] := hS.comp hS'; clear hS'
   refine ⟨⟨fun _ => hS.pk [0, 1], hS.pk [0, 1]⟩, ?_⟩
   refine zdc 11 (xc0 cl_17) (c_cloned (n := t.nc) (vv := vv) (ln := t.ln) (f := t.C) w (hT.C.below hS.below) (by omega) (fun k k0 k1 => by have := hp.len (i := k) (by omega) (by omega); omega)) ?_; rintro voq3 w ⟨_, vwq3, rfl, hslq3, hS'⟩
   replace hS : Sat w0 w [.blk g1 [.int .i64 t.vars, .int .i64 t.den, vB, vF, vC], .blk g2 [.int .i64 0, .int .i64 0, .slice none 0 0, .slice none 0 0, .slice none 0 0], .blk g3 [.int .i64 0, .int .i64 0, .slice none 0 0, .slice none 0 0, .slice none 0 0], .own vq1 1 3 t.nb (ints t.B), .own vq2 1 3 t.nf (ints t.F), .own voq3 1 22 t.nc vwq3, .sem (Frame.rows 3 t.nc vwq3 t.ln t.C)] := hS.comp hS'; clear hS'
   have hrsq3 := fun k (k0 : 0 ≤ k) (k1 : k < t.nc) => hS.slhIn 6 rfl k0 k1
   refine ⟨⟨fun _ => hS.pk [0, 1], hS.pk [0, 1]⟩, ?_⟩
   refine zdv 12 (fun _ => (xany (v := .agg #[.int .i64 t.vars, .int .i64 ((t.C (row + 1)) (col + 1)), vq1, vq2, voq3]) (hr := by obtain ⟨_, _, _, _, rfl, _⟩ := hslq1; obtain ⟨_, _, _, _, rfl, _⟩ := hslq2; obtain ⟨_, _, _, _, rfl, _⟩ := hslq3; kernel_rfl))) ?_
   refine zde 14 (xsw 2 st_30 hS (hd := (ones_cons rfl (ones_cons rfl (ones_cons hslq1.one (ones_cons hslq2.one (ones_cons hslq3.one ones_nil))))))) ?_; clear hS; rintro w hS
   replace hS := hS.n7
   refine ⟨⟨fun h => absurd h (by decide), hS.pk [0, 1]⟩, ?_⟩
   refine zdd <| zgj ⟨g3, vq1, vq2, voq3, vwq3, hslq1, hslq2, hslq3, hrsq3, rfl, hS.pk [0, 1, 3, 4, 5, 6, 2]⟩
  clear hS w; rintro M w ⟨g3, vq1, vq2, voq3, vwq3, hslq1, hslq2, hslq3, hrsq3, rfl, hS⟩
  refine ztn <| zsq ?_
  refine zdst [0, 1, 2, 3, 4, 5, 6] [0, 1, 4, 5, 6] 17 mx_ hS ?_; clear hS; intro w hS
  refine zdv 0 (fun _ => (xfb 2 fd_30_2)) ?_
  refine zdla 1 (fun w hS => (xlb 4 pl_22 hS)) ?_
  refine zdv 2 (fun _ => xmv) ?_
  refine zdv 3 (fun _ => (xfb 3 fd_30_3)) ?_
  refine zdla 4 (fun w hS => (xlb 4 pl_22 hS)) ?_
  refine zdv 5 (fun _ => xmv) ?_
  refine zdv 6 (fun _ => (xfb 3 fd_30_3)) ?_
  refine zdla 7 (fun w hS => (xlb 0 pl_22 hS)) ?_
  refine zdv 8 (fun _ => xmv) ?_
  refine zdv 9 (fun _ => (xix (kk := col) sl_22 hT.F.slh)) ?_
  refine zdla 10 (fun w hS => (xlr (u := .int .i64 (t.F col)) pl_3 (hT.F.below hS.below))) ?_
  refine zdv 11 (fun _ => (xfb 2 fd_30_2)) ?_
  refine zdla 12 (fun w hS => (xlb 0 pl_22 hS)) ?_
  refine zdv 13 (fun _ => xmv) ?_
  refine zdv 14 (fun _ => (xix (kk := row) sl_22 hT.B.slh)) ?_
  refine zdla 15 (fun w hS => (xlr (u := .int .i64 (t.B row)) pl_3 (hT.B.below hS.below))) ?_
  refine zdv 16 (fun _ => (xix (kk := row) sl_22 hslq1)) ?_
  refine zde 17 (xso 2 pl_3 hS (upd_ints _ _ _)) ?_; clear hS; rintro w hS
  replace hS := hS.n7
  refine ⟨⟨fun h => absurd h (by decide), hS.pk [0, 1, 4, 5, 6]⟩, ?_⟩
  refine zdv 18 (fun _ => (xix (kk := col) sl_22 hslq2)) ?_
  refine zde 19 (xso 3 pl_3 hS (upd_ints _ _ _)) ?_; clear hS; rintro w hS
  replace hS := hS.n7
  refine ⟨⟨fun h => absurd h (by decide), hS.pk [0, 1, 4, 5, 6]⟩, ?_⟩
  refine zdd <| ztn <| zsq <| zsr ?_
  refine zlv (xfb 4 fd_30_4) ?_
  refine zlv (xlb 0 pl_23 hS) ?_
  refine zlv (xln sl_23 hT.C.row.slh) ?_
  refine zlv xmv ?_
  refine zlt <| zbk <| zlp (fun mm M w => ∃ (cf : Int → Int → Int) (i : Int), mm = ((t.nc - i).toNat) ∧ (0 ≤ i) ∧ (i ≤ t.nc) ∧ (∀ a b, 0 ≤ a → a < i → 0 ≤ b → b ≤ t.nf → cf a b = pcell t (row + 1) (col + 1) a b) ∧ (∀ a b, 0 ≤ a → a < i → 0 ≤ b → b ≤ t.nf → divs t (row + 1) (col + 1) a b) ∧ M = [(3, .pointer (some ⟨g1, 0, none⟩)), (6, .pointer (some ⟨g2, 0, none⟩)), (8, .int .i64 (row + 1)), (9, .int .i64 (col + 1)), (10, .int .i64 ((t.C (row + 1)) (col + 1))), (11, .int .i64 t.den), (12, .pointer (some ⟨g3, 0, none⟩)), (105, vC), (106, .int .i64 t.nc), (107, .int .i64 i)] ∧ Sat w0 w [.blk g1 [.int .i64 t.vars, .int .i64 t.den, vB, vF, vC], .blk g2 [.int .i64 0, .int .i64 0, .slice none 0 0, .slice none 0 0, .slice none 0 0], .own vq1 1 3 t.nb (ints (upd t.B row (t.F col))), .own vq2 1 3 t.nf (ints (upd t.F col (t.B row))), .own voq3 1 22 t.nc vwq3, .sem (Frame.rows 3 t.nc vwq3 t.ln cf), .blk g3 [.int .i64 t.vars, .int .i64 ((t.C (row + 1)) (col + 1)), vq1, vq2, voq3]]) ⟨t.C, 0, rfl, (by omega), (by omega), ?_, ?_, rfl, hS⟩ ?_
  ·
   intro a b a0 a1; omega
  ·
   intro a b a0 a1; omega
  clear hS w
  rintro mm M w ⟨cf, i, rfl, h0, h1, hcf, hdv, rfl, hS⟩
  refine zsr ?_
  refine zlv xlss ?_
  refine zlt <| zsq ?_
  refine zcif ?_ ?_ <;> intro hc
  ·
   refine zsk <| ztn <| zsq <| zbk <| zsr ?_
   refine zlv xmv ?_
   refine zlv (xix (kk := i) sl_23 hT.C.row.slh) ?_
   refine zlv (xlr (u := (vv i)) pl_22 (hT.C.row.below hS.below)) ?_
   have hli := hp.len (i := i) (by omega) (by omega)
   refine zs2 ?_
   refine zlz ?_
   refine zlv xmv ?_
   refine zlv (xln sl_22 (hT.C.p i (by omega) (by omega)).slh) ?_
   refine zlv xmv ?_
   refine zlt <| zbk <| zlp (fun mm M w => ∃ (cf : Int → Int → Int) (j : Int), mm = ((t.nf + 1 - j).toNat) ∧ (0 ≤ j) ∧ (j ≤ t.nf + 1) ∧ (∀ a b, 0 ≤ a → a < i → 0 ≤ b → b ≤ t.nf → cf a b = pcell t (row + 1) (col + 1) a b) ∧ (∀ b, 0 ≤ b → b < j → cf i b = pcell t (row + 1) (col + 1) i b) ∧ (∀ b, 0 ≤ b → b < j → divs t (row + 1) (col + 1) i b) ∧ M = [(3, .pointer (some ⟨g1, 0, none⟩)), (6, .pointer (some ⟨g2, 0, none⟩)), (8, .int .i64 (row + 1)), (9, .int .i64 (col + 1)), (10, .int .i64 ((t.C (row + 1)) (col + 1))), (11, .int .i64 t.den), (12, .pointer (some ⟨g3, 0, none⟩)), (13, .int .i64 i), (14, (vv i)), (105, vC), (106, .int .i64 t.nc), (107, .int .i64 i), (112, (vv i)), (113, .int .i64 (t.ln i)), (114, .int .i64 j)] ∧ Sat w0 w [.blk g1 [.int .i64 t.vars, .int .i64 t.den, vB, vF, vC], .blk g2 [.int .i64 0, .int .i64 0, .slice none 0 0, .slice none 0 0, .slice none 0 0], .own vq1 1 3 t.nb (ints (upd t.B row (t.F col))), .own vq2 1 3 t.nf (ints (upd t.F col (t.B row))), .own voq3 1 22 t.nc vwq3, .sem (Frame.rows 3 t.nc vwq3 t.ln cf), .blk g3 [.int .i64 t.vars, .int .i64 ((t.C (row + 1)) (col + 1)), vq1, vq2, voq3]]) ⟨cf, 0, rfl, (by omega), (by omega), ?_, ?_, ?_, rfl, hS⟩ ?_
   ·
    exact hcf
   ·
    intro b b0 b1; omega
   ·
    intro b b0 b1; omega
   clear hS w
   rintro mm M w ⟨cf, j, rfl, j0, j1, hold, hrow, hdr, rfl, hS⟩
   refine zsr ?_
   refine zlv xlss ?_
   refine zlt <| zsq ?_
   refine zcif ?_ ?_ <;> intro hc
   ·
    refine zsk <| ztn <| zsq <| zbk <| zsr ?_
    refine zlv xmv ?_
    refine zlv (xix (kk := j) sl_22 (hT.C.p i (by omega) (by omega)).slh) ?_
    refine zlv (xlr (u := .int .i64 ((t.C i) j)) pl_3 ((hT.C.p i (by omega) (by omega)).below hS.below)) ?_
    have hcb := hp.cell (i := i) (j := j) (by omega) (by omega) (by omega) (by omega)
    refine zs2 ?_
    refine zlt <| zsq <| zbk <| zsr ?_
    refine zs4 ?_
    refine zlb 123 ?_ ?_ <;> intro hc
    ·
     refine zs5 ?_
     refine zlt ?_
     refine zcif ?_ ?_ <;> intro hc
     ·
      refine zrg ?_
      refine zs2 ?_
      refine zln <| zbn <| ztn <| zrg ?_
      refine zlv (xfb 4 fd_30_4) ?_
      refine zlv (xlb 6 pl_23 hS) ?_
      refine zlv xmv ?_
      refine zlv (xix (kk := i) sl_23 hslq3) ?_
      refine zlv (xlr (u := (vwq3 i)) pl_22 (hS.rowN 4 rfl)) ?_
      skip
      refine zs2 ?_
      refine zlv (xix (kk := j) sl_22 (hrsq3 i (by omega) (by omega))) ?_
      refine zle (xsr 5 pl_3 hS rfl) ?_; clear hS; rintro w hS
      replace hS := hS.n7
      refine zln <| zbn <| ztn <| zrg ?_
      refine zlv (xadd (r := j + 1)) ?_
      refine zlv xmv ?_
      refine zln <| zlq ⟨upd cf i (upd (cf i) j t.den), j + 1, rfl, (by omega), (by omega), ?_, ?_, ?_, rfl, hS⟩
      ·
       intro a b a0 a1 b0 b1; rw [gu_ne (by omega)]; exact hold a b a0 a1 b0 b1
      ·
       intro b b0 b1
       by_cases e : b = j
       · subst e; rw [gu_self, gu_self]; unfold pcell; (repeat' split) <;> first | rfl | omega | (exfalso; omega)
       · rw [gu_self, gu_ne e]; exact hrow b b0 (by omega)
      ·
       intro b b0 b1
       by_cases e : b = j
       · subst e; intro e1 e2; first | omega | exact Classical.not_not.1 ‹_›
       · exact hdr b b0 (by omega)
     refine zsr ?_
     refine zs2 ?_
     refine zlv (xkt xeql) ?_
     refine zlv xas ?_
     refine zlt <| zct <| zrg ?_
     refine zlv xmv ?_
     refine zlv (xneg (r := -(((t.C i) j))) (hr := (by unfold I64; omega))) ?_
     refine zlv xas ?_
     refine zln <| zbn <| ztn <| zrg ?_
     refine zlv (xfb 4 fd_30_4) ?_
     refine zlv (xlb 6 pl_23 hS) ?_
     refine zlv xmv ?_
     refine zlv (xix (kk := i) sl_23 hslq3) ?_
     refine zlv (xlr (u := (vwq3 i)) pl_22 (hS.rowN 4 rfl)) ?_
     skip
     refine zs2 ?_
     refine zlv (xix (kk := j) sl_22 (hrsq3 i (by omega) (by omega))) ?_
     refine zle (xsr 5 pl_3 hS rfl) ?_; clear hS; rintro w hS
     replace hS := hS.n7
     refine zln <| zbn <| ztn <| zrg ?_
     refine zlv (xadd (r := j + 1)) ?_
     refine zlv xmv ?_
     refine zln <| zlq ⟨upd cf i (upd (cf i) j (-(((t.C i) j)))), j + 1, rfl, (by omega), (by omega), ?_, ?_, ?_, rfl, hS⟩
     ·
      intro a b a0 a1 b0 b1; rw [gu_ne (by omega)]; exact hold a b a0 a1 b0 b1
     ·
      intro b b0 b1
      by_cases e : b = j
      · subst e; rw [gu_self, gu_self]; unfold pcell; (repeat' split) <;> first | rfl | omega | (exfalso; omega)
      · rw [gu_self, gu_ne e]; exact hrow b b0 (by omega)
     ·
      intro b b0 b1
      by_cases e : b = j
      · subst e; intro e1 e2; first | omega | exact Classical.not_not.1 ‹_›
      · exact hdr b b0 (by omega)
    iterate 3 refine zlo ?_
    refine zs2 ?_
    refine zlt <| zcf <| zsr ?_
    refine zs4 ?_
    refine zlt ?_
    refine zcif ?_ ?_ <;> intro hc
    ·
     exfalso; omega
    refine zsr ?_
    refine zs4 ?_
    refine zlt ?_
    refine zcif ?_ ?_ <;> intro hc
    ·
     refine zsq ?_
     refine zdst [0, 1, 2, 3, 4, 5, 6] [0, 1, 2, 3, 4, 5, 6] 1000 mx_ hS ?_; clear hS; intro w hS
     refine zdv 0 (fun _ => xmv) ?_
     have hm1 := mul_abs hpb hcb; have hm2 := mul_abs (hp.cell (i := i) (j := col + 1) (by omega) (by omega) (by omega) (by omega)) (hp.cell (i := row + 1) (j := j) (by omega) (by omega) (by omega) (by omega))
     have hqd := tdiv_abs (a := t.C (row + 1) (col + 1) * t.C i j - t.C i (col + 1) * t.C (row + 1) j) (d := t.den) (A := 2305843009213693952) (by omega) (by omega)
     refine zdv 1 (fun _ => xmv) ?_
     refine zdv 2 (fun _ => (xmul (r := (((t.C (row + 1)) (col + 1)) * ((t.C i) j))) (e := rfl) (hr := (by unfold I64; omega)))) ?_
     refine zdv 3 (fun _ => xmv) ?_
     refine zdv 4 (fun _ => xmv) ?_
     refine zdv 5 (fun _ => (xix (kk := col + 1) sl_22 (hT.C.p i (by omega) (by omega)).slh)) ?_
     refine zdla 6 (fun w hS => (xlr (u := .int .i64 ((t.C i) (col + 1))) pl_3 ((hT.C.p i (by omega) (by omega)).below hS.below))) ?_
     refine zdv 7 (fun _ => (xfb 4 fd_30_4)) ?_
     refine zdla 8 (fun w hS => (xlb 0 pl_23 hS)) ?_
     refine zdv 9 (fun _ => xmv) ?_
     refine zdv 10 (fun _ => (xix (kk := row + 1) sl_23 hT.C.row.slh)) ?_
     refine zdla 11 (fun w hS => (xlr (u := (vv (row + 1))) pl_22 (hT.C.row.below hS.below))) ?_
     refine zdv 12 (fun _ => xmv) ?_
     refine zdv 13 (fun _ => (xix (kk := j) sl_22 (hT.C.p (row + 1) (by omega) (by omega)).slh)) ?_
     refine zdla 14 (fun w hS => (xlr (u := .int .i64 ((t.C (row + 1)) j)) pl_3 ((hT.C.p (row + 1) (by omega) (by omega)).below hS.below))) ?_
     refine zdv 15 (fun _ => (xmul (r := (((t.C i) (col + 1)) * ((t.C (row + 1)) j))) (e := rfl) (hr := (by unfold I64; omega)))) ?_
     refine zdv 16 (fun _ => (xsub (r := (((t.C (row + 1)) (col + 1)) * ((t.C i) j)) - (((t.C i) (col + 1)) * ((t.C (row + 1)) j))) (hr := (by unfold I64; omega)))) ?_
     refine zdv 17 (fun _ => xas) ?_
     refine zdd <| ztn <| zsq <| zsr ?_
     refine zs2 ?_
     refine zlv (xrem (r := (Int.tmod ((((t.C (row + 1)) (col + 1)) * ((t.C i) j)) - (((t.C i) (col + 1)) * ((t.C (row + 1)) j))) t.den)) (hn := (by omega))) ?_
     refine zlv xneq ?_
     refine zlt ?_
     refine zcif ?_ ?_ <;> intro hc
     ·
      refine zsr ?_
      refine zlv (xany (v := .agg #[.int .i64 0, .int .i64 0, .slice none 0 0, .slice none 0 0, .slice none 0 0])) ?_
      refine zle (xsw 1 st_30 hS) ?_; clear hS; rintro w hS
      replace hS := hS.n7
      refine zlv xas ?_
      refine zlt <| zrt <| ztr <| zbr <| ztr <| zbr <| ztr <| ztr <| zbr <| zbr <| ztr <| ztr <| zbr <| ztr <| zfct 1 st_30 hS ⟨_, rfl, ?_⟩
      exact ⟨_, _, _, fun _ => undef, Tb.zero, 4, rfl, .inr (.inl ⟨⟨hp, by omega, by omega, by omega, by omega, hnz⟩, fun hd => by have := hd i j h0 (by omega) j0 (by omega) (by omega) (by omega); omega, rfl, rfl⟩), slh_nil, slh_nil, slh_nil, ((((hS.sub (.cons _ (.cons _ (.cons _ (.cons _ (.cons _ (.cons _ (.cons _ .slnil)))))))).addnil 1 3 (ints Tb.zero.B)).addnil 1 3 (ints Tb.zero.F)).addnil 1 22 (fun _ => undef)).addrows 3 (fun _ => undef) Tb.zero.ln Tb.zero.C⟩
     refine zsk <| ztn <| zrg ?_
     refine zs2 ?_
     refine zlv (xquo (r := (Int.tdiv ((((t.C (row + 1)) (col + 1)) * ((t.C i) j)) - (((t.C i) (col + 1)) * ((t.C (row + 1)) j))) t.den)) (hn := (by omega)) (hr := (by unfold I64; omega))) ?_
     refine zlv xas ?_
     refine zln <| zbn <| ztn <| zrg ?_
     refine zlv (xfb 4 fd_30_4) ?_
     refine zlv (xlb 6 pl_23 hS) ?_
     refine zlv xmv ?_
     refine zlv (xix (kk := i) sl_23 hslq3) ?_
     refine zlv (xlr (u := (vwq3 i)) pl_22 (hS.rowN 4 rfl)) ?_
     skip
     refine zs2 ?_
     refine zlv (xix (kk := j) sl_22 (hrsq3 i (by omega) (by omega))) ?_
     refine zle (xsr 5 pl_3 hS rfl) ?_; clear hS; rintro w hS
     replace hS := hS.n7
     refine zln <| zbn <| ztn <| zrg ?_
     refine zlv (xadd (r := j + 1)) ?_
     refine zlv xmv ?_
     refine zln <| zlq ⟨upd cf i (upd (cf i) j (Int.tdiv ((((t.C (row + 1)) (col + 1)) * ((t.C i) j)) - (((t.C i) (col + 1)) * ((t.C (row + 1)) j))) t.den)), j + 1, rfl, (by omega), (by omega), ?_, ?_, ?_, rfl, hS⟩
     ·
      intro a b a0 a1 b0 b1; rw [gu_ne (by omega)]; exact hold a b a0 a1 b0 b1
     ·
      intro b b0 b1
      by_cases e : b = j
      · subst e; rw [gu_self, gu_self]; unfold pcell; (repeat' split) <;> first | rfl | omega | (exfalso; omega)
      · rw [gu_self, gu_ne e]; exact hrow b b0 (by omega)
     ·
      intro b b0 b1
      by_cases e : b = j
      · subst e; intro e1 e2; first | omega | exact Classical.not_not.1 ‹_›
      · exact hdr b b0 (by omega)
    refine zsk <| zbn <| ztn <| zrg ?_
    refine zlv (xfb 4 fd_30_4) ?_
    refine zlv (xlb 6 pl_23 hS) ?_
    refine zlv xmv ?_
    refine zlv (xix (kk := i) sl_23 hslq3) ?_
    refine zlv (xlr (u := (vwq3 i)) pl_22 (hS.rowN 4 rfl)) ?_
    skip
    refine zs2 ?_
    refine zlv (xix (kk := j) sl_22 (hrsq3 i (by omega) (by omega))) ?_
    refine zle (xsr 5 pl_3 hS rfl) ?_; clear hS; rintro w hS
    replace hS := hS.n7
    refine zln <| zbn <| ztn <| zrg ?_
    refine zlv (xadd (r := j + 1)) ?_
    refine zlv xmv ?_
    refine zln <| zlq ⟨upd cf i (upd (cf i) j ((t.C i) j)), j + 1, rfl, (by omega), (by omega), ?_, ?_, ?_, rfl, hS⟩
    ·
     intro a b a0 a1 b0 b1; rw [gu_ne (by omega)]; exact hold a b a0 a1 b0 b1
    ·
     intro b b0 b1
     by_cases e : b = j
     · subst e; rw [gu_self, gu_self]; unfold pcell; (repeat' split) <;> first | rfl | omega | (exfalso; omega)
     · rw [gu_self, gu_ne e]; exact hrow b b0 (by omega)
    ·
     intro b b0 b1
     by_cases e : b = j
     · subst e; intro e1 e2; first | omega | exact Classical.not_not.1 ‹_›
     · exact hdr b b0 (by omega)
   refine zxt <| ztx <| ztx <| zbh <| zbn <| ztn <| zrg ?_
   refine zlv (xadd (r := i + 1)) ?_
   refine zlv xmv ?_
   refine zln <| zlq ⟨cf, i + 1, rfl, (by omega), (by omega), ?_, ?_, rfl, hS⟩
   ·
    intro a b a0 a1 b0 b1
    by_cases e : a = i
    · subst e; exact hrow b b0 (by omega)
    · exact hold a b a0 (by omega) b0 b1
   ·
    intro a b a0 a1 b0 b1
    by_cases e : a = i
    · subst e; exact hdr b b0 (by omega)
    · exact hdv a b a0 (by omega) b0 b1
  refine zxt <| ztx <| ztx <| zbh <| ztn <| zsq <| zsr ?_
  refine zlv xmv ?_
  have hin : i = t.nc := by omega
  have hdv' : pdiv t row col := fun a b a0 a1 b0 b1 => hdv a b a0 (by omega) b0 b1
  refine zlv xlss ?_
  refine zlt ?_
  refine zcif ?_ ?_ <;> intro hc
  ·
   refine zsr ?_
   refine zlv xmv ?_
   refine zlv (xneg (r := -(((t.C (row + 1)) (col + 1)))) (hr := (by unfold I64; omega))) ?_
   refine zlv (xfb 1 fd_30_1) ?_
   refine zle (xsb 6 pl_3 hS) ?_; clear hS; rintro w hS
   replace hS := hS.n7
   refine zlz ?_
   refine zlv (xfb 4 fd_30_4) ?_
   refine zlv (xlb 6 pl_23 hS) ?_
   refine zlv (xln sl_23 hslq3) ?_
   refine zlv xmv ?_
   refine zlt <| zbk <| zlp (fun mm M w => ∃ (cf : Int → Int → Int) (k : Int), mm = ((t.nc - k).toNat) ∧ (0 ≤ k) ∧ (k ≤ t.nc) ∧ (∀ a b, 0 ≤ a → a < k → 0 ≤ b → b ≤ t.nf → cf a b = -pcell t (row + 1) (col + 1) a b) ∧ (∀ a b, k ≤ a → a < t.nc → 0 ≤ b → b ≤ t.nf → cf a b = pcell t (row + 1) (col + 1) a b) ∧ M = [(6, .pointer (some ⟨g2, 0, none⟩)), (12, .pointer (some ⟨g3, 0, none⟩)), (180, voq3), (181, .int .i64 t.nc), (182, .int .i64 k)] ∧ Sat w0 w [.blk g1 [.int .i64 t.vars, .int .i64 t.den, vB, vF, vC], .blk g2 [.int .i64 0, .int .i64 0, .slice none 0 0, .slice none 0 0, .slice none 0 0], .own vq1 1 3 t.nb (ints (upd t.B row (t.F col))), .own vq2 1 3 t.nf (ints (upd t.F col (t.B row))), .own voq3 1 22 t.nc vwq3, .sem (Frame.rows 3 t.nc vwq3 t.ln cf), .blk g3 [.int .i64 t.vars, .int .i64 (-(((t.C (row + 1)) (col + 1)))), vq1, vq2, voq3]]) ⟨cf, 0, rfl, (by omega), (by omega), ?_, ?_, rfl, hS⟩ ?_
   ·
    intro a b a0 a1; omega
   ·
    intro a b a0 a1 b0 b1; exact hcf a b (by omega) (by omega) b0 b1
   clear hS w
   rintro mm M w ⟨cf, k, rfl, k0, k1, hng, hps, rfl, hS⟩
   refine zsr ?_
   refine zlv xlss ?_
   refine zlt <| zsq ?_
   refine zcif ?_ ?_ <;> intro hc
   ·
    refine zsk <| ztn <| zsq <| zbk <| zsr ?_
    refine zlv (xix (kk := k) sl_23 hslq3) ?_
    refine zlv (xlr (u := (vwq3 k)) pl_22 (hS.rowN 4 rfl)) ?_
    have hlk := hp.len (i := k) (by omega) (by omega)
    refine zlv xas ?_
    refine zlz ?_
    refine zlv xmv ?_
    refine zlv (xln sl_22 (hrsq3 k (by omega) (by omega))) ?_
    refine zlv xmv ?_
    refine zlt <| zbk <| zlp (fun mm M w => ∃ (cf : Int → Int → Int) (q : Int), mm = ((t.nf + 1 - q).toNat) ∧ (0 ≤ q) ∧ (q ≤ t.nf + 1) ∧ (∀ a b, 0 ≤ a → a < k → 0 ≤ b → b ≤ t.nf → cf a b = -pcell t (row + 1) (col + 1) a b) ∧ (∀ a b, k + 1 ≤ a → a < t.nc → 0 ≤ b → b ≤ t.nf → cf a b = pcell t (row + 1) (col + 1) a b) ∧ (∀ b, 0 ≤ b → b < q → cf k b = -pcell t (row + 1) (col + 1) k b) ∧ (∀ b, q ≤ b → b ≤ t.nf → cf k b = pcell t (row + 1) (col + 1) k b) ∧ M = [(6, .pointer (some ⟨g2, 0, none⟩)), (12, .pointer (some ⟨g3, 0, none⟩)), (18, (vwq3 k)), (180, voq3), (181, .int .i64 t.nc), (182, .int .i64 k), (187, .int .i64 (t.ln k)), (188, .int .i64 q)] ∧ Sat w0 w [.blk g1 [.int .i64 t.vars, .int .i64 t.den, vB, vF, vC], .blk g2 [.int .i64 0, .int .i64 0, .slice none 0 0, .slice none 0 0, .slice none 0 0], .own vq1 1 3 t.nb (ints (upd t.B row (t.F col))), .own vq2 1 3 t.nf (ints (upd t.F col (t.B row))), .own voq3 1 22 t.nc vwq3, .sem (Frame.rows 3 t.nc vwq3 t.ln cf), .blk g3 [.int .i64 t.vars, .int .i64 (-(((t.C (row + 1)) (col + 1)))), vq1, vq2, voq3]]) ⟨cf, 0, rfl, (by omega), (by omega), ?_, ?_, ?_, ?_, rfl, hS⟩ ?_
    ·
     exact hng
    ·
     intro a b a0 a1 b0 b1; exact hps a b (by omega) a1 b0 b1
    ·
     intro b b0 b1; omega
    ·
     intro b b0 b1; exact hps k b (Int.le_refl _) (by omega) (by omega) b1
    clear hS w
    rintro mm M w ⟨cf, q, rfl, q0, q1, hng, hps, hng3, hng2, rfl, hS⟩
    refine zsr ?_
    refine zlv xlss ?_
    refine zlt <| zsq ?_
    refine zcif ?_ ?_ <;> intro hc
    ·
     refine zsk <| ztn <| zsq <| zbk <| zsr ?_
     refine zs2 ?_
     refine zlt <| zrg ?_
     refine zs4 ?_
     refine zlv (xix (kk := q) sl_22 (hrsq3 k (by omega) (by omega))) ?_
     refine zlv (xlr (u := .int .i64 (cf k q)) pl_3 (hS.rowIn (k := k) 5 rfl (by omega) (by omega))) ?_
     have hng1 := hng2 q (Int.le_refl _) (by omega)
     have hpc : -9223372036854775807 ≤ cf k q ∧ cf k q ≤ 9223372036854775807 := by rw [hng1]; exact pcell_bd hp (by omega) (by omega) (by omega) (by omega) (by omega) (by omega) (by omega) (by omega)
     refine zlv (xneg (r := -((cf k q))) (hr := (by unfold I64; omega))) ?_
     refine zlv (xix (kk := q) sl_22 (hrsq3 k (by omega) (by omega))) ?_
     refine zle (xsr 5 pl_3 hS rfl) ?_; clear hS; rintro w hS
     replace hS := hS.n7
     refine zln <| zbn <| ztn <| zrg ?_
     refine zlv (xadd (r := q + 1)) ?_
     refine zlv xmv ?_
     refine zln <| zlq ⟨upd cf k (upd (cf k) q (-((cf k q)))), q + 1, rfl, (by omega), (by omega), ?_, ?_, ?_, ?_, rfl, hS⟩
     ·
      intro a b a0 a1 b0 b1; rw [gu_ne (by omega)]; exact hng a b a0 a1 b0 b1
     ·
      intro a b a0 a1 b0 b1; rw [gu_ne (by omega)]; exact hps a b a0 a1 b0 b1
     ·
      intro b b0 b1
      by_cases e : b = q
      · subst e; rw [gu_self, gu_self, hng1]
      · rw [gu_self, gu_ne e]; exact hng3 b b0 (by omega)
     ·
      intro b b0 b1; rw [gu_self, gu_ne (by omega)]; exact hng2 b (by omega) b1
    refine zxt <| ztx <| ztx <| zbh <| zbn <| ztn <| zrg ?_
    refine zlv (xadd (r := k + 1)) ?_
    refine zlv xmv ?_
    refine zln <| zlq ⟨cf, k + 1, rfl, (by omega), (by omega), ?_, ?_, rfl, hS⟩
    ·
     intro a b a0 a1 b0 b1
     by_cases e : a = k
     · subst e; exact hng3 b b0 (by omega)
     · exact hng a b a0 (by omega) b0 b1
    ·
     intro a b a0 a1 b0 b1; exact hps a b (by omega) a1 b0 b1
   refine zxt <| ztx <| ztx <| zbh <| ztn <| zsq <| zsr ?_
   refine zlv (xls 6 st_30 hS) ?_
   have hden : -(((t.C (row + 1)) (col + 1))) = (piv t row col).den := (if_pos (by omega)).symm
   replace hS := hS.rerows (vv' := vwq3) (ln' := (piv t row col).ln) (f' := (piv t row col).C) 5 rfl (fun k k0 k1 => ⟨rfl, rfl, fun j j0 j1 => by
     have hlk := hp.len (i := k) (by omega) (by omega)
     exact (hng k j k0 (by omega) j0 (by omega)).trans (if_pos (by omega)).symm⟩)
   rw [hden] at hS ⊢
   obtain ⟨u, huu⟩ : ∃ u, u = piv t row col := ⟨_, rfl⟩
   have hslnbu : Slh vq1 u.nb := by subst huu; exact hslq1
   have hslnfu : Slh vq2 u.nf := by subst huu; exact hslq2
   have hslncu : Slh voq3 u.nc := by subst huu; exact hslq3
   replace hS : Sat w0 w [.blk g1 [.int .i64 t.vars, .int .i64 t.den, vB, vF, vC], .blk g2 [.int .i64 0, .int .i64 0, .slice none 0 0, .slice none 0 0, .slice none 0 0], .own vq1 1 3 u.nb (ints u.B), .own vq2 1 3 u.nf (ints u.F), .own voq3 1 22 u.nc vwq3, .sem (Frame.rows 3 u.nc vwq3 u.ln u.C), .blk g3 [.int .i64 u.vars, .int .i64 u.den, vq1, vq2, voq3]] := by subst huu; exact hS
   have hrsu := fun k (k0 : 0 ≤ k) (k1 : k < u.nc) => hS.slhIn 5 rfl k0 k1
   refine zlas 201 (u := .agg #[.int .i64 u.vars, .int .i64 u.den, vq1, vq2, voq3]) (by subst huu; first | rfl | (congr 1)) ?_
   refine zlc (xc0 cl_15) (c_proper (t := u) w (⟨(hS.rowN 2 rfl), (hS.rowN 3 rfl), (⟨(hS.rowN 4 rfl), fun k k0 k1 => hS.rowIn 5 rfl k0 k1, fun k k0 k1 => hS.roomIn 5 rfl k0 k1⟩ : MAt _ voq3 u.nc vwq3 u.ln u.C)⟩ : TAt _ vq1 vq2 voq3 vwq3 u)) ?_; rintro _ w ⟨rfl, hS'⟩
   replace hS := hS.cmp hS'; clear hS'
   refine zlv xnot ?_
   refine zlt ?_
   refine zcif ?_ ?_ <;> intro hc
   ·
    refine zsr ?_
    refine zlv (xany (v := .agg #[.int .i64 0, .int .i64 0, .slice none 0 0, .slice none 0 0, .slice none 0 0])) ?_
    refine zle (xsw 1 st_30 hS) ?_; clear hS; rintro w hS
    replace hS := hS.n7
    refine zlv xas ?_
    refine zlt <| zrt <| ztr <| zfct 1 st_30 hS ⟨_, rfl, ?_⟩
    exact ⟨_, _, _, fun _ => undef, Tb.zero, 2, rfl, .inr (.inr (.inl ⟨⟨hp, by omega, by omega, by omega, by omega, hnz⟩, hdv', huu ▸ ‹¬ TPrp u›, rfl, rfl⟩)), slh_nil, slh_nil, slh_nil, ((((hS.sub (.cons _ (.cons _ (.cons _ (.cons _ (.cons _ (.cons _ (.cons _ .slnil)))))))).addnil 1 3 (ints Tb.zero.B)).addnil 1 3 (ints Tb.zero.F)).addnil 1 22 (fun _ => undef)).addrows 3 (fun _ => undef) Tb.zero.ln Tb.zero.C⟩
   refine zsk <| ztn <| zsr ?_
   refine zlv (xls 6 st_30 hS) ?_
   refine zle (xsw 1 st_30 hS (hd := (ones_cons rfl (ones_cons rfl (ones_cons hslnbu.one (ones_cons hslnfu.one (ones_cons hslncu.one ones_nil))))))) ?_; clear hS; rintro w hS
   replace hS := hS.n7
   refine zlv xas ?_
   refine zlt <| zrt <| zfct 1 st_30 hS ⟨_, rfl, ?_⟩
   exact ⟨_, _, _, _, u, 0, rfl, .inr (.inr (.inr ⟨⟨hp, by omega, by omega, by omega, by omega, hnz⟩, hdv', huu ▸ (Classical.not_not.1 ‹¬ ¬ (TPrp u)›), huu, rfl⟩)), hslnbu, hslnfu, hslncu, hS.pk [2, 3, 4, 5]⟩
  refine zsk <| ztn <| zsq <| zsr ?_
  refine zlv (xls 6 st_30 hS) ?_
  have hden : ((t.C (row + 1)) (col + 1)) = (piv t row col).den := (if_neg (by omega)).symm
  replace hS := hS.rerows (vv' := vwq3) (ln' := (piv t row col).ln) (f' := (piv t row col).C) 5 rfl (fun k k0 k1 => ⟨rfl, rfl, fun j j0 j1 => by
    have hlk := hp.len (i := k) (by omega) (by omega)
    exact (hcf k j k0 (by omega) j0 (by omega)).trans (if_neg (by omega)).symm⟩)
  rw [hden] at hS ⊢
  obtain ⟨u, huu⟩ : ∃ u, u = piv t row col := ⟨_, rfl⟩
  have hslnbu : Slh vq1 u.nb := by subst huu; exact hslq1
  have hslnfu : Slh vq2 u.nf := by subst huu; exact hslq2
  have hslncu : Slh voq3 u.nc := by subst huu; exact hslq3
  replace hS : Sat w0 w [.blk g1 [.int .i64 t.vars, .int .i64 t.den, vB, vF, vC], .blk g2 [.int .i64 0, .int .i64 0, .slice none 0 0, .slice none 0 0, .slice none 0 0], .own vq1 1 3 u.nb (ints u.B), .own vq2 1 3 u.nf (ints u.F), .own voq3 1 22 u.nc vwq3, .sem (Frame.rows 3 u.nc vwq3 u.ln u.C), .blk g3 [.int .i64 u.vars, .int .i64 u.den, vq1, vq2, voq3]] := by subst huu; exact hS
  have hrsu := fun k (k0 : 0 ≤ k) (k1 : k < u.nc) => hS.slhIn 5 rfl k0 k1
  refine zlas 201 (u := .agg #[.int .i64 u.vars, .int .i64 u.den, vq1, vq2, voq3]) (by subst huu; first | rfl | (congr 1)) ?_
  refine zlc (xc0 cl_15) (c_proper (t := u) w (⟨(hS.rowN 2 rfl), (hS.rowN 3 rfl), (⟨(hS.rowN 4 rfl), fun k k0 k1 => hS.rowIn 5 rfl k0 k1, fun k k0 k1 => hS.roomIn 5 rfl k0 k1⟩ : MAt _ voq3 u.nc vwq3 u.ln u.C)⟩ : TAt _ vq1 vq2 voq3 vwq3 u)) ?_; rintro _ w ⟨rfl, hS'⟩
  replace hS := hS.cmp hS'; clear hS'
  refine zlv xnot ?_
  refine zlt ?_
  refine zcif ?_ ?_ <;> intro hc
  ·
   refine zsr ?_
   refine zlv (xany (v := .agg #[.int .i64 0, .int .i64 0, .slice none 0 0, .slice none 0 0, .slice none 0 0])) ?_
   refine zle (xsw 1 st_30 hS) ?_; clear hS; rintro w hS
   replace hS := hS.n7
   refine zlv xas ?_
   refine zlt <| zrt <| ztr <| zfct 1 st_30 hS ⟨_, rfl, ?_⟩
   exact ⟨_, _, _, fun _ => undef, Tb.zero, 2, rfl, .inr (.inr (.inl ⟨⟨hp, by omega, by omega, by omega, by omega, hnz⟩, hdv', huu ▸ ‹¬ TPrp u›, rfl, rfl⟩)), slh_nil, slh_nil, slh_nil, ((((hS.sub (.cons _ (.cons _ (.cons _ (.cons _ (.cons _ (.cons _ (.cons _ .slnil)))))))).addnil 1 3 (ints Tb.zero.B)).addnil 1 3 (ints Tb.zero.F)).addnil 1 22 (fun _ => undef)).addrows 3 (fun _ => undef) Tb.zero.ln Tb.zero.C⟩
  refine zsk <| ztn <| zsr ?_
  refine zlv (xls 6 st_30 hS) ?_
  refine zle (xsw 1 st_30 hS (hd := (ones_cons rfl (ones_cons rfl (ones_cons hslnbu.one (ones_cons hslnfu.one (ones_cons hslncu.one ones_nil))))))) ?_; clear hS; rintro w hS
  replace hS := hS.n7
  refine zlv xas ?_
  refine zlt <| zrt <| zfct 1 st_30 hS ⟨_, rfl, ?_⟩
  exact ⟨_, _, _, _, u, 0, rfl, .inr (.inr (.inr ⟨⟨hp, by omega, by omega, by omega, by omega, hnz⟩, hdv', huu ▸ (Classical.not_not.1 ‹¬ ¬ (TPrp u)›), huu, rfl⟩)), hslnbu, hslnfu, hslncu, hS.pk [2, 3, 4, 5]⟩

end Go.Proofs.Ytkcmbndnhcofpaa
