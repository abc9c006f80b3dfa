/- The walk of Pivot, of the reference. -/
import Derived.Test.YtelfplepnodbgaaGv
import Derived.Test.YtelfplepnodbgaaW25
namespace Go.Proofs.Ytelfplepnodbgaa
open Go Go.RowKit Go.Proofs.Gw
set_option linter.unusedVariables false

theorem cl_134 : calledT Try.prog 134 = true := by kernel_rfl
theorem el_25 : elemT Try.prog 25 = some (.agg #[.int .i64 0, .int .i64 0, .slice none 0 0, .slice none 0 0, .slice none 0 0], 5, 88) := by kernel_rfl
theorem piv_prp {t : Tb} {row col : Int} (ha : pargs t row col) (hb : ∀ a b, 0 ≤ a → a ≤ t.nb → 0 ≤ b → b ≤ t.nf → -1073741824 ≤ pcell t (row + 1) (col + 1) a b ∧ pcell t (row + 1) (col + 1) a b ≤ 1073741824) : TPrp (piv t row col) := by
  obtain ⟨hp, r0, r1, c0, c1, hne⟩ := ha
  have hcl := hp.cell (i := row + 1) (j := col + 1) (by omega) (by omega) (by omega) (by omega)
  have hs := sg_cases (t.C (row + 1) (col + 1))
  have hden : 1 ≤ (piv t row col).den ∧ (piv t row col).den ≤ 1073741824 := by
    rw [piv_den]; unfold sg; split <;> omega
  have hcc := hp.c
  refine ⟨hp.n1, hp.n2, hp.m2, hp.v, hden.1, hden.2, hp.c, ?_, fun i i0 i1 => ⟨(hp.rows i i0 i1).1, fun j j0 j1 => ?_⟩⟩
  · have tr : ∀ i, 0 ≤ i → i < t.nf + t.nb → ∃ k, 0 ≤ k ∧ k < t.nf + t.nb ∧ cat t.nf (upd t.F col (t.B row)) (upd t.B row (t.F col)) i = cat t.nf t.F t.B k ∧ (i = col → k = t.nf + row) ∧ (i = t.nf + row → k = col) ∧ (i ≠ col → i ≠ t.nf + row → k = i) := fun i i0 i1 => by
      by_cases e1 : i = col
      · refine ⟨t.nf + row, by omega, by omega, ?_, fun _ => rfl, fun h => by omega, fun h => absurd e1 h⟩
        unfold cat; rw [if_pos (by omega), if_neg (by omega), e1, upd_self]; congr 1; omega
      · by_cases e2 : i = t.nf + row
        · refine ⟨col, by omega, by omega, ?_, fun h => by omega, fun _ => rfl, fun _ h => absurd e2 h⟩
          unfold cat; rw [if_neg (by omega), if_pos (by omega), e2, show t.nf + row - t.nf = row by omega, upd_self]
        · refine ⟨i, by omega, by omega, ?_, fun h => by omega, fun h => by omega, fun _ _ => rfl⟩
          unfold cat; split
          · rw [upd_ne _ _ e1]
          · rw [upd_ne _ _ (by omega)]
    refine ⟨fun i i0 i1 => ?_, fun i j i0 i1 j0 j1 e => ?_⟩
    · obtain ⟨k, k0, k1, e, _⟩ := tr i i0 i1
      have := hp.perm.1 k k0 k1
      have h3 : 0 ≤ cat t.nf (upd t.F col (t.B row)) (upd t.B row (t.F col)) i ∧ cat t.nf (upd t.F col (t.B row)) (upd t.B row (t.F col)) i < t.nf + t.nb := by rw [e]; exact this
      exact h3
    · obtain ⟨k, k0, k1, e1, x1, x2, x3⟩ := tr i i0 i1
      obtain ⟨q, q0, q1, e2, y1, y2, y3⟩ := tr j j0 j1
      have := hp.perm.2 k q k0 k1 q0 q1 (by rw [← e1, ← e2]; exact e)
      by_cases a1 : i = col <;> by_cases a2 : i = t.nf + row <;> by_cases b1 : j = col <;> by_cases b2 : j = t.nf + row <;> simp only [a1, a2, b1, b2, true_implies, false_implies, not_true, not_false_eq_true, ne_eq] at x1 x2 x3 y1 y2 y3 <;> omega
  · have h1 : t.ln i = t.nf + 1 := (hp.rows i i0 i1).1
    have j2 : j < t.ln i := j1
    have i2 : i < t.nc := i1
    have := hb i j i0 (by omega) j0 (by omega)
    rw [piv_C]
    rcases hs with h | h <;> rw [h] <;> omega

set_option maxHeartbeats 4000000 in
set_option maxRecDepth 20000 in
theorem c_rpivot {vB vF vC : Value} {vv : Int → Value} {t : Tb} {row col : Int} (w0 : World) (hT : TAt w0 vB vF vC vv t) (hrow0 : -9223372036854775808 ≤ row ∧ row ≤ 9223372036854775807) (hcol0 : -9223372036854775808 ≤ col ∧ col ≤ 9223372036854775807) :
    Calls Try.prog 125 [.agg #[.int .i64 t.vars, .int .i64 t.den, vB, vF, vC], .int .i64 row, .int .i64 col].toArray w0 fun e w => ∃ v, e = .returned v ∧ ∃ vB vF vC vv t' e, v = .tuple #[.agg #[.int .i64 t'.vars, .int .i64 t'.den, vB, vF, vC], .int .i64 e] ∧ PivR t row col t' e ∧ Slh vB t'.nb ∧ Slh vF t'.nf ∧ Slh vC t'.nc ∧ Sat w0 w [.own vB 1 3 t'.nb (ints t'.B), .own vF 1 3 t'.nf (ints t'.F), .own vC 1 22 t'.nc vv, .sem (Frame.rows 3 t'.nc vv t'.ln t'.C)] := by
  have hn := hT.F.slh.n0; have hn1 := hT.F.slh.n1; have hb := hT.B.slh.n0; have hb1 := hT.B.slh.n1; have hc0 := hT.C.row.slh.n0; have hc1 := hT.C.row.slh.n1
  refine zenG Try.func125 Try.ntmps125 fun w hS => ?_
  refine zsr ?_
  refine zla (xbx (cs := [_, _, _, _, _]) hS) ?_; rintro _ w ⟨g1, rfl, hS⟩
  replace hS := hS.n1
  refine zla (xal (cs := [_, _, _, _, _]) el_25 hS) ?_; rintro _ w ⟨g2, rfl, hS⟩
  replace hS := hS.n2
  refine zlv xas ?_
  refine zlt <| zsq <| zsr ?_
  refine zlv (xls 0 st_25 hS) ?_
  refine zlc (xc0 cl_62) (c_rproper (t := t) w (hT.below hS.below)) ?_; rintro _ w ⟨rfl, hS'⟩
  replace hS := hS.cmp hS'; clear hS'
  refine zs2 ?_
  refine zlb 21 ?_ ?_ <;> intro hc
  ·
   iterate 2 refine zlo ?_
   refine zs2 ?_
   iterate 5 refine zlo ?_
   refine zs2 ?_
   iterate 2 refine zlo ?_
   refine zs2 ?_
   iterate 5 refine zlo ?_
   refine zs2 ?_
   iterate 11 refine zlo ?_
   refine zlv xpt ?_
   refine zlt <| zct <| zsr ?_
   refine zlv (xany (v := .agg #[.int .i64 0, .int .i64 0, .slice none 0 0, .slice none 0 0, .slice none 0 0])) ?_
   refine zle (xsw 1 st_25 hS) ?_; clear hS; rintro w hS
   replace hS := hS.n2
   refine zlv xas ?_
   refine zlt <| zrt <| ztr <| zfct 1 st_25 hS ⟨_, rfl, ?_⟩
   exact ⟨_, _, _, fun _ => undef, Tb.zero, 1, rfl, .inl ⟨by first | exact fun hh => absurd hh.1 ‹_› | (rintro ⟨_, p1, p2, p3, p4, p5⟩; omega), rfl, rfl⟩, slh_nil, slh_nil, slh_nil, ((((hS.sub (.cons _ (.cons _ .slnil))).addnil 1 3 (ints Tb.zero.B)).addnil 1 3 (ints Tb.zero.F)).addnil 1 22 (fun _ => undef)).addrows 3 (fun _ => undef) Tb.zero.ln Tb.zero.C⟩
  refine zlv xmv ?_
  have hp : TPrp t := by first | assumption | exact Classical.not_not.1 ‹¬ ¬ (TPrp t)›
  have b1 := hp.n1
  have b2 := hp.n2
  have b3 := hp.m2
  have b4 := hp.v
  have b5 := hp.d1
  have b6 := hp.d2
  have b7 := hp.c
  have hl0 := hp.len (i := 0) (by omega) (by omega)
  refine zs3 ?_
  refine zlb 25 ?_ ?_ <;> intro hc
  ·
   iterate 5 refine zlo ?_
   refine zs2 ?_
   iterate 2 refine zlo ?_
   refine zs2 ?_
   iterate 5 refine zlo ?_
   refine zs2 ?_
   iterate 11 refine zlo ?_
   refine zlv xpt ?_
   refine zlt <| zct <| zsr ?_
   refine zlv (xany (v := .agg #[.int .i64 0, .int .i64 0, .slice none 0 0, .slice none 0 0, .slice none 0 0])) ?_
   refine zle (xsw 1 st_25 hS) ?_; clear hS; rintro w hS
   replace hS := hS.n2
   refine zlv xas ?_
   refine zlt <| zrt <| ztr <| zfct 1 st_25 hS ⟨_, rfl, ?_⟩
   exact ⟨_, _, _, fun _ => undef, Tb.zero, 1, rfl, .inl ⟨by first | exact fun hh => absurd hh.1 ‹_› | (rintro ⟨_, p1, p2, p3, p4, p5⟩; omega), rfl, rfl⟩, slh_nil, slh_nil, slh_nil, ((((hS.sub (.cons _ (.cons _ .slnil))).addnil 1 3 (ints Tb.zero.B)).addnil 1 3 (ints Tb.zero.F)).addnil 1 22 (fun _ => undef)).addrows 3 (fun _ => undef) Tb.zero.ln Tb.zero.C⟩
  refine zlv xmv ?_
  refine zlv (xfb 2 fd_25_2) ?_
  refine zlv (xlb 0 pl_22 hS) ?_
  refine zlv (xln sl_22 hT.B.slh) ?_
  refine zs3 ?_
  refine zlb 32 ?_ ?_ <;> intro hc
  ·
   iterate 2 refine zlo ?_
   refine zs2 ?_
   iterate 5 refine zlo ?_
   refine zs2 ?_
   iterate 11 refine zlo ?_
   refine zlv xpt ?_
   refine zlt <| zct <| zsr ?_
   refine zlv (xany (v := .agg #[.int .i64 0, .int .i64 0, .slice none 0 0, .slice none 0 0, .slice none 0 0])) ?_
   refine zle (xsw 1 st_25 hS) ?_; clear hS; rintro w hS
   replace hS := hS.n2
   refine zlv xas ?_
   refine zlt <| zrt <| ztr <| zfct 1 st_25 hS ⟨_, rfl, ?_⟩
   exact ⟨_, _, _, fun _ => undef, Tb.zero, 1, rfl, .inl ⟨by first | exact fun hh => absurd hh.1 ‹_› | (rintro ⟨_, p1, p2, p3, p4, p5⟩; omega), rfl, rfl⟩, slh_nil, slh_nil, slh_nil, ((((hS.sub (.cons _ (.cons _ .slnil))).addnil 1 3 (ints Tb.zero.B)).addnil 1 3 (ints Tb.zero.F)).addnil 1 22 (fun _ => undef)).addrows 3 (fun _ => undef) Tb.zero.ln Tb.zero.C⟩
  refine zs4 ?_
  refine zlb 36 ?_ ?_ <;> intro hc
  ·
   iterate 5 refine zlo ?_
   refine zs2 ?_
   iterate 11 refine zlo ?_
   refine zlv xpt ?_
   refine zlt <| zct <| zsr ?_
   refine zlv (xany (v := .agg #[.int .i64 0, .int .i64 0, .slice none 0 0, .slice none 0 0, .slice none 0 0])) ?_
   refine zle (xsw 1 st_25 hS) ?_; clear hS; rintro w hS
   replace hS := hS.n2
   refine zlv xas ?_
   refine zlt <| zrt <| ztr <| zfct 1 st_25 hS ⟨_, rfl, ?_⟩
   exact ⟨_, _, _, fun _ => undef, Tb.zero, 1, rfl, .inl ⟨by first | exact fun hh => absurd hh.1 ‹_› | (rintro ⟨_, p1, p2, p3, p4, p5⟩; omega), rfl, rfl⟩, slh_nil, slh_nil, slh_nil, ((((hS.sub (.cons _ (.cons _ .slnil))).addnil 1 3 (ints Tb.zero.B)).addnil 1 3 (ints Tb.zero.F)).addnil 1 22 (fun _ => undef)).addrows 3 (fun _ => undef) Tb.zero.ln Tb.zero.C⟩
  refine zlv xmv ?_
  refine zlv (xfb 3 fd_25_3) ?_
  refine zlv (xlb 0 pl_22 hS) ?_
  refine zlv (xln sl_22 hT.F.slh) ?_
  refine zs3 ?_
  refine zlb 43 ?_ ?_ <;> intro hc
  ·
   iterate 11 refine zlo ?_
   refine zlv xpt ?_
   refine zlt <| zct <| zsr ?_
   refine zlv (xany (v := .agg #[.int .i64 0, .int .i64 0, .slice none 0 0, .slice none 0 0, .slice none 0 0])) ?_
   refine zle (xsw 1 st_25 hS) ?_; clear hS; rintro w hS
   replace hS := hS.n2
   refine zlv xas ?_
   refine zlt <| zrt <| ztr <| zfct 1 st_25 hS ⟨_, rfl, ?_⟩
   exact ⟨_, _, _, fun _ => undef, Tb.zero, 1, rfl, .inl ⟨by first | exact fun hh => absurd hh.1 ‹_› | (rintro ⟨_, p1, p2, p3, p4, p5⟩; omega), rfl, rfl⟩, slh_nil, slh_nil, slh_nil, ((((hS.sub (.cons _ (.cons _ .slnil))).addnil 1 3 (ints Tb.zero.B)).addnil 1 3 (ints Tb.zero.F)).addnil 1 22 (fun _ => undef)).addrows 3 (fun _ => undef) Tb.zero.ln Tb.zero.C⟩
  refine zlv (xfb 4 fd_25_4) ?_
  refine zlv (xlb 0 pl_23 hS) ?_
  refine zlv xmv ?_
  refine zlv (xadd (r := row + 1)) ?_
  refine zlv (xix (kk := row + 1) sl_23 hT.C.row.slh) ?_
  refine zlv (xlr (u := (vv (row + 1))) pl_22 (hT.C.row.below hS.below)) ?_
  refine zlv xmv ?_
  have hlr := hp.len (i := row + 1) (by omega) (by omega)
  refine zlv (xadd (r := col + 1)) ?_
  refine zlv (xix (kk := col + 1) sl_22 (hT.C.p (row + 1) (by omega) (by omega)).slh) ?_
  refine zlv (xlr (u := .int .i64 ((t.C (row + 1)) (col + 1))) pl_3 ((hT.C.p (row + 1) (by omega) (by omega)).below hS.below)) ?_
  refine zs2 ?_
  refine zlt ?_
  refine zcif ?_ ?_ <;> intro hc
  ·
   refine zsr ?_
   refine zlv (xany (v := .agg #[.int .i64 0, .int .i64 0, .slice none 0 0, .slice none 0 0, .slice none 0 0])) ?_
   refine zle (xsw 1 st_25 hS) ?_; clear hS; rintro w hS
   replace hS := hS.n2
   refine zlv xas ?_
   refine zlt <| zrt <| ztr <| zfct 1 st_25 hS ⟨_, rfl, ?_⟩
   exact ⟨_, _, _, fun _ => undef, Tb.zero, 1, rfl, .inl ⟨by first | exact fun hh => absurd hh.1 ‹_› | (rintro ⟨_, p1, p2, p3, p4, p5⟩; omega), rfl, rfl⟩, slh_nil, slh_nil, slh_nil, ((((hS.sub (.cons _ (.cons _ .slnil))).addnil 1 3 (ints Tb.zero.B)).addnil 1 3 (ints Tb.zero.F)).addnil 1 22 (fun _ => undef)).addrows 3 (fun _ => undef) Tb.zero.ln Tb.zero.C⟩
  refine zsk <| ztn <| zsr ?_
  refine zlv xmv ?_
  have hnz : t.C (row + 1) (col + 1) ≠ 0 := by omega
  have hpb := hp.cell (i := row + 1) (j := col + 1) (by omega) (by omega) (by omega) (by omega)
  refine zlv (xadd (r := row + 1)) ?_
  refine zlv xmv ?_
  refine zlv (xadd (r := col + 1)) ?_
  refine zs2 ?_
  refine zlz ?_
  refine zlv xas ?_
  refine zlt <| zsq <| zsr ?_
  refine zlv (xfb 4 fd_25_4) ?_
  refine zlv (xlb 0 pl_23 hS) ?_
  refine zlv xmv ?_
  refine zlv (xix (kk := row + 1) sl_23 hT.C.row.slh) ?_
  refine zlv (xlr (u := (vv (row + 1))) pl_22 (hT.C.row.below hS.below)) ?_
  refine zlv xmv ?_
  refine zlv (xix (kk := col + 1) sl_22 (hT.C.p (row + 1) (by omega) (by omega)).slh) ?_
  refine zlv (xlr (u := .int .i64 ((t.C (row + 1)) (col + 1))) pl_3 ((hT.C.p (row + 1) (by omega) (by omega)).below hS.below)) ?_
  refine zlv xlss ?_
  refine zlt ?_
  refine zcif ?_ ?_ <;> intro hc
  ·
   refine zrg ?_
   refine zlv xas ?_
   refine zlt <| zsq <| ?_
   refine zgcut (fun M w => ∃ (g3 : Nat) (v1 : Value) (v2 : Value) (v3 : Value) (v4 : Value), (Slh v2 t.nb) ∧ (Slh v4 t.nf) ∧ M = [(0, .agg #[.int .i64 t.vars, .int .i64 t.den, vB, vF, vC]), (1, .int .i64 row), (2, .int .i64 col), (3, .pointer (some ⟨g1, 0, none⟩)), (6, .pointer (some ⟨g2, 0, none⟩)), (7, .int .i64 0), (18, .agg #[.int .i64 t.vars, .int .i64 t.den, vB, vF, vC]), (19, B (TPrp t)), (20, B (¬ (TPrp t))), (21, .bool false), (22, .int .i64 row), (23, B (row < 0)), (24, B (row < 0)), (25, .bool false), (26, .int .i64 row), (27, .pointer (some ⟨g1, 2, none⟩)), (28, vB), (29, .int .i64 t.nb), (30, B (t.nb ≤ row)), (31, B (t.nb ≤ row)), (32, .bool false), (33, .int .i64 col), (34, B (col < 0)), (35, B (col < 0)), (36, .bool false), (37, .int .i64 col), (38, .pointer (some ⟨g1, 3, none⟩)), (39, vF), (40, .int .i64 t.nf), (41, B (t.nf ≤ col)), (42, B (t.nf ≤ col)), (43, .bool false), (44, .pointer (some ⟨g1, 4, none⟩)), (45, vC), (46, .int .i64 row), (47, .int .i64 (row + 1)), (48, .pointer (some (cad vC (row + 1)))), (49, (vv (row + 1))), (50, .int .i64 col), (51, .int .i64 (col + 1)), (52, .pointer (some (cad (vv (row + 1)) (col + 1)))), (53, .int .i64 ((t.C (row + 1)) (col + 1))), (54, B (((t.C (row + 1)) (col + 1)) = 0)), (55, B (((t.C (row + 1)) (col + 1)) = 0)), (57, .int .i64 row), (58, .int .i64 (row + 1)), (59, .int .i64 col), (60, .int .i64 (col + 1)), (8, .int .i64 (row + 1)), (9, .int .i64 (col + 1)), (10, .int .i64 (-1)), (61, .pointer (some ⟨g1, 4, none⟩)), (62, vC), (63, .int .i64 (row + 1)), (64, .pointer (some (cad vC (row + 1)))), (65, (vv (row + 1))), (66, .int .i64 (col + 1)), (67, .pointer (some (cad (vv (row + 1)) (col + 1)))), (68, .int .i64 ((t.C (row + 1)) (col + 1))), (69, B (((t.C (row + 1)) (col + 1)) < 0)), (70, .pointer (some ⟨g1, 0, none⟩)), (71, .int .i64 t.vars), (72, .int .i64 (-1)), (73, .pointer (some ⟨g1, 4, none⟩)), (74, vC), (75, .int .i64 (row + 1)), (76, .pointer (some (cad vC (row + 1)))), (77, (vv (row + 1))), (78, .int .i64 (col + 1)), (79, .pointer (some (cad (vv (row + 1)) (col + 1)))), (80, .int .i64 ((t.C (row + 1)) (col + 1))), (81, .int .i64 (-(((t.C (row + 1)) (col + 1))))), (83, .pointer (some ⟨g1, 2, none⟩)), (84, vB), (87, .pointer (some ⟨g1, 3, none⟩)), (88, vF), (82, v1), (85, v2), (86, v3), (89, v4), (90, .agg #[.int .i64 t.vars, .int .i64 (-(((t.C (row + 1)) (col + 1)))), v2, v4, .slice none 0 0]), (11, .pointer (some ⟨g3, 0, none⟩))] ∧ Sat w0 w [.blk g1 [.int .i64 t.vars, .int .i64 t.den, vB, vF, vC], .blk g2 [.int .i64 0, .int .i64 0, .slice none 0 0, .slice none 0 0, .slice none 0 0], .own v2 1 3 t.nb (ints (cat 0 (fun _ => 0) t.B)), .own v4 1 3 t.nf (ints (cat 0 (fun _ => 0) t.F)), .blk g3 [.int .i64 t.vars, .int .i64 (-(((t.C (row + 1)) (col + 1)))), v2, v4, .slice none 0 0]]) ?_ ?_
   ·
    refine zdst [0, 1] [0, 1] 22 mx_ hS ?_; clear hS; intro w hS
    refine zdv 0 (fun _ => (xfb 0 fd_25_0)) ?_
    refine zdla 1 (fun w hS => (xlb 0 pl_3 hS)) ?_
    refine zdv 2 (fun _ => xmv) ?_
    refine zdv 3 (fun _ => (xfb 4 fd_25_4)) ?_
    refine zdla 4 (fun w hS => (xlb 0 pl_23 hS)) ?_
    refine zdv 5 (fun _ => xmv) ?_
    refine zdv 6 (fun _ => (xix (kk := row + 1) sl_23 hT.C.row.slh)) ?_
    refine zdla 7 (fun w hS => (xlr (u := (vv (row + 1))) pl_22 (hT.C.row.below hS.below))) ?_
    refine zdv 8 (fun _ => xmv) ?_
    refine zdv 9 (fun _ => (xix (kk := col + 1) sl_22 (hT.C.p (row + 1) (by omega) (by omega)).slh)) ?_
    refine zdla 10 (fun w hS => (xlr (u := .int .i64 ((t.C (row + 1)) (col + 1))) pl_3 ((hT.C.p (row + 1) (by omega) (by omega)).below hS.below))) ?_
    refine zdv 11 (fun _ => (xmul (r := -(((t.C (row + 1)) (col + 1)))))) ?_
    refine zdv 13 (fun _ => (xfb 2 fd_25_2)) ?_
    refine zdla 14 (fun w hS => (xlb 0 pl_22 hS)) ?_
    refine zdv 17 (fun _ => (xfb 3 fd_25_3)) ?_
    refine zdla 18 (fun w hS => (xlb 0 pl_22 hS)) ?_
    refine zdfk (r := [12, 16, 21]) ((zdn1 ?_ (zdn1 ?_ (zdn1 ?_ zdn0))))
    ·
     refine zka (xl0 (c := ints (fun _ => 0)) sl_22 hS) ?_; rintro v1 w ⟨hS, hv1⟩
     replace hS := hS.n3
     refine ⟨⟨fun _ => hS.pk [0, 1], hS.pk [0, 1]⟩, ?_⟩
     refine zdfk (r := [15, 16, 21]) ((zdn1 ?_ (zdn1 ?_ (zdn1 ?_ zdn0))))
     ·
      refine zka (xap 2 (r := t.nb) (f := ints (cat 0 (fun _ => 0) t.B)) sl_22 el_3 hS (hT.B.below hS.below) (by exact cat_ints1 _ _ _)) ?_; rintro v2 w ⟨hS, hv2⟩
      replace hS := hS.n3
      refine ⟨⟨fun _ => hS.pk [0, 1], hS.pk [0, 1]⟩, ?_⟩
      refine zdfk (r := [16, 21]) ((zdn1 ?_ (zdn1 ?_ zdn0)))
      ·
       refine zka (xl0 (c := ints (fun _ => 0)) sl_22 hS) ?_; rintro v3 w ⟨hS, hv3⟩
       replace hS := hS.n4
       refine ⟨⟨fun _ => hS.pk [0, 1], hS.pk [0, 1]⟩, ?_⟩
       refine zdfk (r := [19, 21]) ((zdn1 ?_ (zdn1 ?_ zdn0)))
       ·
        refine zka (xap 3 (r := t.nf) (f := ints (cat 0 (fun _ => 0) t.F)) sl_22 el_3 hS (hT.F.below hS.below) (by exact cat_ints1 _ _ _)) ?_; rintro v4 w ⟨hS, hv4⟩
        replace hS := hS.n4
        refine ⟨⟨fun _ => hS.pk [0, 1], hS.pk [0, 1]⟩, ?_⟩
        refine zdv 20 (fun _ => (xany (v := .agg #[.int .i64 t.vars, .int .i64 (-(((t.C (row + 1)) (col + 1)))), v2, v4, .slice none 0 0]) (hr := by obtain ⟨_, _, _, _, rfl, _⟩ := hv2; obtain ⟨_, _, _, _, rfl, _⟩ := hv4; kernel_rfl))) ?_
        refine zda 21 (xal (cs := [_, _, _, _, _]) el_25 hS) ?_; rintro _ w ⟨g3, rfl, hS⟩
        replace hS := hS.n5
        refine ⟨⟨fun _ => hS.pk [0, 1], hS.pk [0, 1]⟩, ?_⟩
        refine zde 22 (xsw 4 st_25 hS (hd := (ones_cons rfl (ones_cons rfl (ones_cons hv2.one (ones_cons hv4.one (ones_cons rfl ones_nil))))))) ?_; clear hS; rintro w hS
        replace hS := hS.n5
        refine ⟨⟨fun h => absurd h (by decide), hS.pk [0, 1]⟩, ?_⟩
        refine zdd <| zgj ⟨g3, v1, v2, v3, v4, hv2, hv4, rfl, hS⟩
       refine zka (xal (cs := [_, _, _, _, _]) el_25 hS) ?_; rintro _ w ⟨g3, rfl, hS⟩
       replace hS := hS.n5
       refine ⟨⟨fun _ => hS.pk [0, 1], hS.pk [0, 1]⟩, ?_⟩
       refine zda 19 (xap 3 (r := t.nf) (f := ints (cat 0 (fun _ => 0) t.F)) sl_22 el_3 hS (hT.F.below hS.below) (by exact cat_ints1 _ _ _)) ?_; rintro v4 w ⟨hS, hv4⟩
       replace hS := hS.n5
       refine ⟨⟨fun _ => hS.pk [0, 1], hS.pk [0, 1]⟩, ?_⟩
       refine zdv 20 (fun _ => (xany (v := .agg #[.int .i64 t.vars, .int .i64 (-(((t.C (row + 1)) (col + 1)))), v2, v4, .slice none 0 0]) (hr := by obtain ⟨_, _, _, _, rfl, _⟩ := hv2; obtain ⟨_, _, _, _, rfl, _⟩ := hv4; kernel_rfl))) ?_
       refine zde 22 (xsw 4 st_25 hS (hd := (ones_cons rfl (ones_cons rfl (ones_cons hv2.one (ones_cons hv4.one (ones_cons rfl ones_nil))))))) ?_; clear hS; rintro w hS
       replace hS := hS.n5
       refine ⟨⟨fun h => absurd h (by decide), hS.pk [0, 1]⟩, ?_⟩
       refine zdd <| zgj ⟨g3, v1, v2, v3, v4, hv2, hv4, rfl, hS⟩
      refine zka (xal (cs := [_, _, _, _, _]) el_25 hS) ?_; rintro _ w ⟨g3, rfl, hS⟩
      replace hS := hS.n4
      refine ⟨⟨fun _ => hS.pk [0, 1], hS.pk [0, 1]⟩, ?_⟩
      refine zda 16 (xl0 (c := ints (fun _ => 0)) sl_22 hS) ?_; rintro v3 w ⟨hS, hv3⟩
      replace hS := hS.n5
      refine ⟨⟨fun _ => hS.pk [0, 1], hS.pk [0, 1]⟩, ?_⟩
      refine zda 19 (xap 4 (r := t.nf) (f := ints (cat 0 (fun _ => 0) t.F)) sl_22 el_3 hS (hT.F.below hS.below) (by exact cat_ints1 _ _ _)) ?_; rintro v4 w ⟨hS, hv4⟩
      replace hS := hS.n5
      refine ⟨⟨fun _ => hS.pk [0, 1], hS.pk [0, 1]⟩, ?_⟩
      refine zdv 20 (fun _ => (xany (v := .agg #[.int .i64 t.vars, .int .i64 (-(((t.C (row + 1)) (col + 1)))), v2, v4, .slice none 0 0]) (hr := by obtain ⟨_, _, _, _, rfl, _⟩ := hv2; obtain ⟨_, _, _, _, rfl, _⟩ := hv4; kernel_rfl))) ?_
      refine zde 22 (xsw 3 st_25 hS (hd := (ones_cons rfl (ones_cons rfl (ones_cons hv2.one (ones_cons hv4.one (ones_cons rfl ones_nil))))))) ?_; clear hS; rintro w hS
      replace hS := hS.n5
      refine ⟨⟨fun h => absurd h (by decide), hS.pk [0, 1]⟩, ?_⟩
      refine zdd <| zgj ⟨g3, v1, v2, v3, v4, hv2, hv4, rfl, hS.pk [0, 1, 2, 4, 3]⟩
     ·
      refine zka (xl0 (c := ints (fun _ => 0)) sl_22 hS) ?_; rintro v2 w ⟨hS, hv2⟩
      replace hS := hS.n4
      refine ⟨⟨fun _ => hS.pk [0, 1], hS.pk [0, 1]⟩, ?_⟩
      refine zdfk (r := [15, 21]) ((zdn1 ?_ (zdn1 ?_ zdn0)))
      ·
       refine zka (xap 2 (r := t.nb) (f := ints (cat 0 (fun _ => 0) t.B)) sl_22 el_3 hS (hT.B.below hS.below) (by exact cat_ints1 _ _ _)) ?_; rintro v3 w ⟨hS, hv3⟩
       replace hS := hS.n4
       refine ⟨⟨fun _ => hS.pk [0, 1], hS.pk [0, 1]⟩, ?_⟩
       refine zdfk (r := [19, 21]) ((zdn1 ?_ (zdn1 ?_ zdn0)))
       ·
        refine zka (xap 3 (r := t.nf) (f := ints (cat 0 (fun _ => 0) t.F)) sl_22 el_3 hS (hT.F.below hS.below) (by exact cat_ints1 _ _ _)) ?_; rintro v4 w ⟨hS, hv4⟩
        replace hS := hS.n4
        refine ⟨⟨fun _ => hS.pk [0, 1], hS.pk [0, 1]⟩, ?_⟩
        refine zdv 20 (fun _ => (xany (v := .agg #[.int .i64 t.vars, .int .i64 (-(((t.C (row + 1)) (col + 1)))), v3, v4, .slice none 0 0]) (hr := by obtain ⟨_, _, _, _, rfl, _⟩ := hv3; obtain ⟨_, _, _, _, rfl, _⟩ := hv4; kernel_rfl))) ?_
        refine zda 21 (xal (cs := [_, _, _, _, _]) el_25 hS) ?_; rintro _ w ⟨g3, rfl, hS⟩
        replace hS := hS.n5
        refine ⟨⟨fun _ => hS.pk [0, 1], hS.pk [0, 1]⟩, ?_⟩
        refine zde 22 (xsw 4 st_25 hS (hd := (ones_cons rfl (ones_cons rfl (ones_cons hv3.one (ones_cons hv4.one (ones_cons rfl ones_nil))))))) ?_; clear hS; rintro w hS
        replace hS := hS.n5
        refine ⟨⟨fun h => absurd h (by decide), hS.pk [0, 1]⟩, ?_⟩
        refine zdd <| zgj ⟨g3, v1, v3, v2, v4, hv3, hv4, rfl, hS⟩
       refine zka (xal (cs := [_, _, _, _, _]) el_25 hS) ?_; rintro _ w ⟨g3, rfl, hS⟩
       replace hS := hS.n5
       refine ⟨⟨fun _ => hS.pk [0, 1], hS.pk [0, 1]⟩, ?_⟩
       refine zda 19 (xap 3 (r := t.nf) (f := ints (cat 0 (fun _ => 0) t.F)) sl_22 el_3 hS (hT.F.below hS.below) (by exact cat_ints1 _ _ _)) ?_; rintro v4 w ⟨hS, hv4⟩
       replace hS := hS.n5
       refine ⟨⟨fun _ => hS.pk [0, 1], hS.pk [0, 1]⟩, ?_⟩
       refine zdv 20 (fun _ => (xany (v := .agg #[.int .i64 t.vars, .int .i64 (-(((t.C (row + 1)) (col + 1)))), v3, v4, .slice none 0 0]) (hr := by obtain ⟨_, _, _, _, rfl, _⟩ := hv3; obtain ⟨_, _, _, _, rfl, _⟩ := hv4; kernel_rfl))) ?_
       refine zde 22 (xsw 4 st_25 hS (hd := (ones_cons rfl (ones_cons rfl (ones_cons hv3.one (ones_cons hv4.one (ones_cons rfl ones_nil))))))) ?_; clear hS; rintro w hS
       replace hS := hS.n5
       refine ⟨⟨fun h => absurd h (by decide), hS.pk [0, 1]⟩, ?_⟩
       refine zdd <| zgj ⟨g3, v1, v3, v2, v4, hv3, hv4, rfl, hS⟩
      refine zka (xal (cs := [_, _, _, _, _]) el_25 hS) ?_; rintro _ w ⟨g3, rfl, hS⟩
      replace hS := hS.n5
      refine ⟨⟨fun _ => hS.pk [0, 1], hS.pk [0, 1]⟩, ?_⟩
      refine zda 15 (xap 2 (r := t.nb) (f := ints (cat 0 (fun _ => 0) t.B)) sl_22 el_3 hS (hT.B.below hS.below) (by exact cat_ints1 _ _ _)) ?_; rintro v3 w ⟨hS, hv3⟩
      replace hS := hS.n5
      refine ⟨⟨fun _ => hS.pk [0, 1], hS.pk [0, 1]⟩, ?_⟩
      refine zda 19 (xap 3 (r := t.nf) (f := ints (cat 0 (fun _ => 0) t.F)) sl_22 el_3 hS (hT.F.below hS.below) (by exact cat_ints1 _ _ _)) ?_; rintro v4 w ⟨hS, hv4⟩
      replace hS := hS.n5
      refine ⟨⟨fun _ => hS.pk [0, 1], hS.pk [0, 1]⟩, ?_⟩
      refine zdv 20 (fun _ => (xany (v := .agg #[.int .i64 t.vars, .int .i64 (-(((t.C (row + 1)) (col + 1)))), v3, v4, .slice none 0 0]) (hr := by obtain ⟨_, _, _, _, rfl, _⟩ := hv3; obtain ⟨_, _, _, _, rfl, _⟩ := hv4; kernel_rfl))) ?_
      refine zde 22 (xsw 4 st_25 hS (hd := (ones_cons rfl (ones_cons rfl (ones_cons hv3.one (ones_cons hv4.one (ones_cons rfl ones_nil))))))) ?_; clear hS; rintro w hS
      replace hS := hS.n5
      refine ⟨⟨fun h => absurd h (by decide), hS.pk [0, 1]⟩, ?_⟩
      refine zdd <| zgj ⟨g3, v1, v3, v2, v4, hv3, hv4, rfl, hS⟩
     refine zka (xal (cs := [_, _, _, _, _]) el_25 hS) ?_; rintro _ w ⟨g3, rfl, hS⟩
     replace hS := hS.n4
     refine ⟨⟨fun _ => hS.pk [0, 1], hS.pk [0, 1]⟩, ?_⟩
     refine zdfk (r := [15, 16]) ((zdn1 ?_ (zdn1 ?_ zdn0)))
     ·
      refine zka (xap 2 (r := t.nb) (f := ints (cat 0 (fun _ => 0) t.B)) sl_22 el_3 hS (hT.B.below hS.below) (by exact cat_ints1 _ _ _)) ?_; rintro v2 w ⟨hS, hv2⟩
      replace hS := hS.n4
      refine ⟨⟨fun _ => hS.pk [0, 1], hS.pk [0, 1]⟩, ?_⟩
      refine zda 16 (xl0 (c := ints (fun _ => 0)) sl_22 hS) ?_; rintro v3 w ⟨hS, hv3⟩
      replace hS := hS.n5
      refine ⟨⟨fun _ => hS.pk [0, 1], hS.pk [0, 1]⟩, ?_⟩
      refine zda 19 (xap 4 (r := t.nf) (f := ints (cat 0 (fun _ => 0) t.F)) sl_22 el_3 hS (hT.F.below hS.below) (by exact cat_ints1 _ _ _)) ?_; rintro v4 w ⟨hS, hv4⟩
      replace hS := hS.n5
      refine ⟨⟨fun _ => hS.pk [0, 1], hS.pk [0, 1]⟩, ?_⟩
      refine zdv 20 (fun _ => (xany (v := .agg #[.int .i64 t.vars, .int .i64 (-(((t.C (row + 1)) (col + 1)))), v2, v4, .slice none 0 0]) (hr := by obtain ⟨_, _, _, _, rfl, _⟩ := hv2; obtain ⟨_, _, _, _, rfl, _⟩ := hv4; kernel_rfl))) ?_
      refine zde 22 (xsw 3 st_25 hS (hd := (ones_cons rfl (ones_cons rfl (ones_cons hv2.one (ones_cons hv4.one (ones_cons rfl ones_nil))))))) ?_; clear hS; rintro w hS
      replace hS := hS.n5
      refine ⟨⟨fun h => absurd h (by decide), hS.pk [0, 1]⟩, ?_⟩
      refine zdd <| zgj ⟨g3, v1, v2, v3, v4, hv2, hv4, rfl, hS.pk [0, 1, 2, 4, 3]⟩
     refine zka (xl0 (c := ints (fun _ => 0)) sl_22 hS) ?_; rintro v2 w ⟨hS, hv2⟩
     replace hS := hS.n5
     refine ⟨⟨fun _ => hS.pk [0, 1], hS.pk [0, 1]⟩, ?_⟩
     refine zda 15 (xap 2 (r := t.nb) (f := ints (cat 0 (fun _ => 0) t.B)) sl_22 el_3 hS (hT.B.below hS.below) (by exact cat_ints1 _ _ _)) ?_; rintro v3 w ⟨hS, hv3⟩
     replace hS := hS.n5
     refine ⟨⟨fun _ => hS.pk [0, 1], hS.pk [0, 1]⟩, ?_⟩
     refine zda 19 (xap 4 (r := t.nf) (f := ints (cat 0 (fun _ => 0) t.F)) sl_22 el_3 hS (hT.F.below hS.below) (by exact cat_ints1 _ _ _)) ?_; rintro v4 w ⟨hS, hv4⟩
     replace hS := hS.n5
     refine ⟨⟨fun _ => hS.pk [0, 1], hS.pk [0, 1]⟩, ?_⟩
     refine zdv 20 (fun _ => (xany (v := .agg #[.int .i64 t.vars, .int .i64 (-(((t.C (row + 1)) (col + 1)))), v3, v4, .slice none 0 0]) (hr := by obtain ⟨_, _, _, _, rfl, _⟩ := hv3; obtain ⟨_, _, _, _, rfl, _⟩ := hv4; kernel_rfl))) ?_
     refine zde 22 (xsw 3 st_25 hS (hd := (ones_cons rfl (ones_cons rfl (ones_cons hv3.one (ones_cons hv4.one (ones_cons rfl ones_nil))))))) ?_; clear hS; rintro w hS
     replace hS := hS.n5
     refine ⟨⟨fun h => absurd h (by decide), hS.pk [0, 1]⟩, ?_⟩
     refine zdd <| zgj ⟨g3, v1, v3, v2, v4, hv3, hv4, rfl, hS.pk [0, 1, 2, 4, 3]⟩
    ·
     refine zka (xl0 (c := ints (fun _ => 0)) sl_22 hS) ?_; rintro v1 w ⟨hS, hv1⟩
     replace hS := hS.n3
     refine ⟨⟨fun _ => hS.pk [0, 1], hS.pk [0, 1]⟩, ?_⟩
     refine zdfk (r := [12, 21]) ((zdn1 ?_ (zdn1 ?_ zdn0)))
     ·
      refine zka (xl0 (c := ints (fun _ => 0)) sl_22 hS) ?_; rintro v2 w ⟨hS, hv2⟩
      replace hS := hS.n4
      refine ⟨⟨fun _ => hS.pk [0, 1], hS.pk [0, 1]⟩, ?_⟩
      refine zdfk (r := [15, 21]) ((zdn1 ?_ (zdn1 ?_ zdn0)))
      ·
       refine zka (xap 3 (r := t.nb) (f := ints (cat 0 (fun _ => 0) t.B)) sl_22 el_3 hS (hT.B.below hS.below) (by exact cat_ints1 _ _ _)) ?_; rintro v3 w ⟨hS, hv3⟩
       replace hS := hS.n4
       refine ⟨⟨fun _ => hS.pk [0, 1], hS.pk [0, 1]⟩, ?_⟩
       refine zdfk (r := [19, 21]) ((zdn1 ?_ (zdn1 ?_ zdn0)))
       ·
        refine zka (xap 2 (r := t.nf) (f := ints (cat 0 (fun _ => 0) t.F)) sl_22 el_3 hS (hT.F.below hS.below) (by exact cat_ints1 _ _ _)) ?_; rintro v4 w ⟨hS, hv4⟩
        replace hS := hS.n4
        refine ⟨⟨fun _ => hS.pk [0, 1], hS.pk [0, 1]⟩, ?_⟩
        refine zdv 20 (fun _ => (xany (v := .agg #[.int .i64 t.vars, .int .i64 (-(((t.C (row + 1)) (col + 1)))), v3, v4, .slice none 0 0]) (hr := by obtain ⟨_, _, _, _, rfl, _⟩ := hv3; obtain ⟨_, _, _, _, rfl, _⟩ := hv4; kernel_rfl))) ?_
        refine zda 21 (xal (cs := [_, _, _, _, _]) el_25 hS) ?_; rintro _ w ⟨g3, rfl, hS⟩
        replace hS := hS.n5
        refine ⟨⟨fun _ => hS.pk [0, 1], hS.pk [0, 1]⟩, ?_⟩
        refine zde 22 (xsw 4 st_25 hS (hd := (ones_cons rfl (ones_cons rfl (ones_cons hv3.one (ones_cons hv4.one (ones_cons rfl ones_nil))))))) ?_; clear hS; rintro w hS
        replace hS := hS.n5
        refine ⟨⟨fun h => absurd h (by decide), hS.pk [0, 1]⟩, ?_⟩
        refine zdd <| zgj ⟨g3, v2, v3, v1, v4, hv3, hv4, rfl, hS.pk [0, 1, 3, 2, 4]⟩
       refine zka (xal (cs := [_, _, _, _, _]) el_25 hS) ?_; rintro _ w ⟨g3, rfl, hS⟩
       replace hS := hS.n5
       refine ⟨⟨fun _ => hS.pk [0, 1], hS.pk [0, 1]⟩, ?_⟩
       refine zda 19 (xap 2 (r := t.nf) (f := ints (cat 0 (fun _ => 0) t.F)) sl_22 el_3 hS (hT.F.below hS.below) (by exact cat_ints1 _ _ _)) ?_; rintro v4 w ⟨hS, hv4⟩
       replace hS := hS.n5
       refine ⟨⟨fun _ => hS.pk [0, 1], hS.pk [0, 1]⟩, ?_⟩
       refine zdv 20 (fun _ => (xany (v := .agg #[.int .i64 t.vars, .int .i64 (-(((t.C (row + 1)) (col + 1)))), v3, v4, .slice none 0 0]) (hr := by obtain ⟨_, _, _, _, rfl, _⟩ := hv3; obtain ⟨_, _, _, _, rfl, _⟩ := hv4; kernel_rfl))) ?_
       refine zde 22 (xsw 4 st_25 hS (hd := (ones_cons rfl (ones_cons rfl (ones_cons hv3.one (ones_cons hv4.one (ones_cons rfl ones_nil))))))) ?_; clear hS; rintro w hS
       replace hS := hS.n5
       refine ⟨⟨fun h => absurd h (by decide), hS.pk [0, 1]⟩, ?_⟩
       refine zdd <| zgj ⟨g3, v2, v3, v1, v4, hv3, hv4, rfl, hS.pk [0, 1, 3, 2, 4]⟩
      refine zka (xal (cs := [_, _, _, _, _]) el_25 hS) ?_; rintro _ w ⟨g3, rfl, hS⟩
      replace hS := hS.n5
      refine ⟨⟨fun _ => hS.pk [0, 1], hS.pk [0, 1]⟩, ?_⟩
      refine zda 15 (xap 3 (r := t.nb) (f := ints (cat 0 (fun _ => 0) t.B)) sl_22 el_3 hS (hT.B.below hS.below) (by exact cat_ints1 _ _ _)) ?_; rintro v3 w ⟨hS, hv3⟩
      replace hS := hS.n5
      refine ⟨⟨fun _ => hS.pk [0, 1], hS.pk [0, 1]⟩, ?_⟩
      refine zda 19 (xap 2 (r := t.nf) (f := ints (cat 0 (fun _ => 0) t.F)) sl_22 el_3 hS (hT.F.below hS.below) (by exact cat_ints1 _ _ _)) ?_; rintro v4 w ⟨hS, hv4⟩
      replace hS := hS.n5
      refine ⟨⟨fun _ => hS.pk [0, 1], hS.pk [0, 1]⟩, ?_⟩
      refine zdv 20 (fun _ => (xany (v := .agg #[.int .i64 t.vars, .int .i64 (-(((t.C (row + 1)) (col + 1)))), v3, v4, .slice none 0 0]) (hr := by obtain ⟨_, _, _, _, rfl, _⟩ := hv3; obtain ⟨_, _, _, _, rfl, _⟩ := hv4; kernel_rfl))) ?_
      refine zde 22 (xsw 4 st_25 hS (hd := (ones_cons rfl (ones_cons rfl (ones_cons hv3.one (ones_cons hv4.one (ones_cons rfl ones_nil))))))) ?_; clear hS; rintro w hS
      replace hS := hS.n5
      refine ⟨⟨fun h => absurd h (by decide), hS.pk [0, 1]⟩, ?_⟩
      refine zdd <| zgj ⟨g3, v2, v3, v1, v4, hv3, hv4, rfl, hS.pk [0, 1, 3, 2, 4]⟩
     refine zka (xal (cs := [_, _, _, _, _]) el_25 hS) ?_; rintro _ w ⟨g3, rfl, hS⟩
     replace hS := hS.n4
     refine ⟨⟨fun _ => hS.pk [0, 1], hS.pk [0, 1]⟩, ?_⟩
     refine zda 12 (xl0 (c := ints (fun _ => 0)) sl_22 hS) ?_; rintro v2 w ⟨hS, hv2⟩
     replace hS := hS.n5
     refine ⟨⟨fun _ => hS.pk [0, 1], hS.pk [0, 1]⟩, ?_⟩
     refine zda 15 (xap 4 (r := t.nb) (f := ints (cat 0 (fun _ => 0) t.B)) sl_22 el_3 hS (hT.B.below hS.below) (by exact cat_ints1 _ _ _)) ?_; rintro v3 w ⟨hS, hv3⟩
     replace hS := hS.n5
     refine ⟨⟨fun _ => hS.pk [0, 1], hS.pk [0, 1]⟩, ?_⟩
     refine zda 19 (xap 2 (r := t.nf) (f := ints (cat 0 (fun _ => 0) t.F)) sl_22 el_3 hS (hT.F.below hS.below) (by exact cat_ints1 _ _ _)) ?_; rintro v4 w ⟨hS, hv4⟩
     replace hS := hS.n5
     refine ⟨⟨fun _ => hS.pk [0, 1], hS.pk [0, 1]⟩, ?_⟩
     refine zdv 20 (fun _ => (xany (v := .agg #[.int .i64 t.vars, .int .i64 (-(((t.C (row + 1)) (col + 1)))), v3, v4, .slice none 0 0]) (hr := by obtain ⟨_, _, _, _, rfl, _⟩ := hv3; obtain ⟨_, _, _, _, rfl, _⟩ := hv4; kernel_rfl))) ?_
     refine zde 22 (xsw 3 st_25 hS (hd := (ones_cons rfl (ones_cons rfl (ones_cons hv3.one (ones_cons hv4.one (ones_cons rfl ones_nil))))))) ?_; clear hS; rintro w hS
     replace hS := hS.n5
     refine ⟨⟨fun h => absurd h (by decide), hS.pk [0, 1]⟩, ?_⟩
     refine zdd <| zgj ⟨g3, v2, v3, v1, v4, hv3, hv4, rfl, hS.pk [0, 1, 4, 2, 3]⟩
    refine zka (xal (cs := [_, _, _, _, _]) el_25 hS) ?_; rintro _ w ⟨g3, rfl, hS⟩
    replace hS := hS.n3
    refine ⟨⟨fun _ => hS.pk [0, 1], hS.pk [0, 1]⟩, ?_⟩
    refine zdfk (r := [12, 16]) ((zdn1 ?_ (zdn1 ?_ zdn0)))
    ·
     refine zka (xl0 (c := ints (fun _ => 0)) sl_22 hS) ?_; rintro v1 w ⟨hS, hv1⟩
     replace hS := hS.n4
     refine ⟨⟨fun _ => hS.pk [0, 1], hS.pk [0, 1]⟩, ?_⟩
     refine zdfk (r := [15, 16]) ((zdn1 ?_ (zdn1 ?_ zdn0)))
     ·
      refine zka (xap 3 (r := t.nb) (f := ints (cat 0 (fun _ => 0) t.B)) sl_22 el_3 hS (hT.B.below hS.below) (by exact cat_ints1 _ _ _)) ?_; rintro v2 w ⟨hS, hv2⟩
      replace hS := hS.n4
      refine ⟨⟨fun _ => hS.pk [0, 1], hS.pk [0, 1]⟩, ?_⟩
      refine zda 16 (xl0 (c := ints (fun _ => 0)) sl_22 hS) ?_; rintro v3 w ⟨hS, hv3⟩
      replace hS := hS.n5
      refine ⟨⟨fun _ => hS.pk [0, 1], hS.pk [0, 1]⟩, ?_⟩
      refine zda 19 (xap 4 (r := t.nf) (f := ints (cat 0 (fun _ => 0) t.F)) sl_22 el_3 hS (hT.F.below hS.below) (by exact cat_ints1 _ _ _)) ?_; rintro v4 w ⟨hS, hv4⟩
      replace hS := hS.n5
      refine ⟨⟨fun _ => hS.pk [0, 1], hS.pk [0, 1]⟩, ?_⟩
      refine zdv 20 (fun _ => (xany (v := .agg #[.int .i64 t.vars, .int .i64 (-(((t.C (row + 1)) (col + 1)))), v2, v4, .slice none 0 0]) (hr := by obtain ⟨_, _, _, _, rfl, _⟩ := hv2; obtain ⟨_, _, _, _, rfl, _⟩ := hv4; kernel_rfl))) ?_
      refine zde 22 (xsw 2 st_25 hS (hd := (ones_cons rfl (ones_cons rfl (ones_cons hv2.one (ones_cons hv4.one (ones_cons rfl ones_nil))))))) ?_; clear hS; rintro w hS
      replace hS := hS.n5
      refine ⟨⟨fun h => absurd h (by decide), hS.pk [0, 1]⟩, ?_⟩
      refine zdd <| zgj ⟨g3, v1, v2, v3, v4, hv2, hv4, rfl, hS.pk [0, 1, 3, 4, 2]⟩
     refine zka (xl0 (c := ints (fun _ => 0)) sl_22 hS) ?_; rintro v2 w ⟨hS, hv2⟩
     replace hS := hS.n5
     refine ⟨⟨fun _ => hS.pk [0, 1], hS.pk [0, 1]⟩, ?_⟩
     refine zda 15 (xap 3 (r := t.nb) (f := ints (cat 0 (fun _ => 0) t.B)) sl_22 el_3 hS (hT.B.below hS.below) (by exact cat_ints1 _ _ _)) ?_; rintro v3 w ⟨hS, hv3⟩
     replace hS := hS.n5
     refine ⟨⟨fun _ => hS.pk [0, 1], hS.pk [0, 1]⟩, ?_⟩
     refine zda 19 (xap 4 (r := t.nf) (f := ints (cat 0 (fun _ => 0) t.F)) sl_22 el_3 hS (hT.F.below hS.below) (by exact cat_ints1 _ _ _)) ?_; rintro v4 w ⟨hS, hv4⟩
     replace hS := hS.n5
     refine ⟨⟨fun _ => hS.pk [0, 1], hS.pk [0, 1]⟩, ?_⟩
     refine zdv 20 (fun _ => (xany (v := .agg #[.int .i64 t.vars, .int .i64 (-(((t.C (row + 1)) (col + 1)))), v3, v4, .slice none 0 0]) (hr := by obtain ⟨_, _, _, _, rfl, _⟩ := hv3; obtain ⟨_, _, _, _, rfl, _⟩ := hv4; kernel_rfl))) ?_
     refine zde 22 (xsw 2 st_25 hS (hd := (ones_cons rfl (ones_cons rfl (ones_cons hv3.one (ones_cons hv4.one (ones_cons rfl ones_nil))))))) ?_; clear hS; rintro w hS
     replace hS := hS.n5
     refine ⟨⟨fun h => absurd h (by decide), hS.pk [0, 1]⟩, ?_⟩
     refine zdd <| zgj ⟨g3, v1, v3, v2, v4, hv3, hv4, rfl, hS.pk [0, 1, 3, 4, 2]⟩
    refine zka (xl0 (c := ints (fun _ => 0)) sl_22 hS) ?_; rintro v1 w ⟨hS, hv1⟩
    replace hS := hS.n4
    refine ⟨⟨fun _ => hS.pk [0, 1], hS.pk [0, 1]⟩, ?_⟩
    refine zda 12 (xl0 (c := ints (fun _ => 0)) sl_22 hS) ?_; rintro v2 w ⟨hS, hv2⟩
    replace hS := hS.n5
    refine ⟨⟨fun _ => hS.pk [0, 1], hS.pk [0, 1]⟩, ?_⟩
    refine zda 15 (xap 4 (r := t.nb) (f := ints (cat 0 (fun _ => 0) t.B)) sl_22 el_3 hS (hT.B.below hS.below) (by exact cat_ints1 _ _ _)) ?_; rintro v3 w ⟨hS, hv3⟩
    replace hS := hS.n5
    refine ⟨⟨fun _ => hS.pk [0, 1], hS.pk [0, 1]⟩, ?_⟩
    refine zda 19 (xap 3 (r := t.nf) (f := ints (cat 0 (fun _ => 0) t.F)) sl_22 el_3 hS (hT.F.below hS.below) (by exact cat_ints1 _ _ _)) ?_; rintro v4 w ⟨hS, hv4⟩
    replace hS := hS.n5
    refine ⟨⟨fun _ => hS.pk [0, 1], hS.pk [0, 1]⟩, ?_⟩
    refine zdv 20 (fun _ => (xany (v := .agg #[.int .i64 t.vars, .int .i64 (-(((t.C (row + 1)) (col + 1)))), v3, v4, .slice none 0 0]) (hr := by obtain ⟨_, _, _, _, rfl, _⟩ := hv3; obtain ⟨_, _, _, _, rfl, _⟩ := hv4; kernel_rfl))) ?_
    refine zde 22 (xsw 2 st_25 hS (hd := (ones_cons rfl (ones_cons rfl (ones_cons hv3.one (ones_cons hv4.one (ones_cons rfl ones_nil))))))) ?_; clear hS; rintro w hS
    replace hS := hS.n5
    refine ⟨⟨fun h => absurd h (by decide), hS.pk [0, 1]⟩, ?_⟩
    refine zdd <| zgj ⟨g3, v2, v3, v1, v4, hv3, hv4, rfl, hS.pk [0, 1, 4, 3, 2]⟩
   clear hS w; rintro M w ⟨g3, v1, v2, v3, v4, hv2, hv4, rfl, hS⟩
   refine ztn <| zsq ?_
   refine zdst [0, 1, 2, 3, 4] [0, 1, 4] 17 mx_ hS ?_; clear hS; intro w hS
   refine zdv 0 (fun _ => (xfb 2 fd_25_2)) ?_
   have hsg : sg (t.C (row + 1) (col + 1)) = -1 := by unfold sg; rw [if_pos (by omega)]
   refine zdla 1 (fun w hS => (xlb 2 pl_22 hS)) ?_
   refine zdv 2 (fun _ => xmv) ?_
   refine zdv 3 (fun _ => (xfb 3 fd_25_3)) ?_
   refine zdla 4 (fun w hS => (xlb 2 pl_22 hS)) ?_
   refine zdv 5 (fun _ => xmv) ?_
   refine zdv 6 (fun _ => (xfb 3 fd_25_3)) ?_
   refine zdla 7 (fun w hS => (xlb 0 pl_22 hS)) ?_
   refine zdv 8 (fun _ => xmv) ?_
   refine zdv 9 (fun _ => (xix (kk := col) sl_22 hT.F.slh)) ?_
   refine zdla 10 (fun w hS => (xlr (u := .int .i64 (t.F col)) pl_3 (hT.F.below hS.below))) ?_
   refine zdv 11 (fun _ => (xfb 2 fd_25_2)) ?_
   refine zdla 12 (fun w hS => (xlb 0 pl_22 hS)) ?_
   refine zdv 13 (fun _ => xmv) ?_
   refine zdv 14 (fun _ => (xix (kk := row) sl_22 hT.B.slh)) ?_
   refine zdla 15 (fun w hS => (xlr (u := .int .i64 (t.B row)) pl_3 (hT.B.below hS.below))) ?_
   refine zdv 16 (fun _ => (xix (kk := row) sl_22 hv2)) ?_
   refine zde 17 (xso 2 pl_3 hS (upd_ints _ _ _)) ?_; clear hS; rintro w hS
   replace hS := hS.n5
   refine ⟨⟨fun h => absurd h (by decide), hS.pk [0, 1, 4]⟩, ?_⟩
   refine zdv 18 (fun _ => (xix (kk := col) sl_22 hv4)) ?_
   refine zde 19 (xso 3 pl_3 hS (upd_ints _ _ _)) ?_; clear hS; rintro w hS
   replace hS := hS.n5
   refine ⟨⟨fun h => absurd h (by decide), hS.pk [0, 1, 4]⟩, ?_⟩
   refine zdd <| ztn <| zsr ?_
   refine zlv xas ?_
   refine zlas 12 (u := B (True)) (B_true trivial).symm ?_
   refine zlt <| zsq <| zsr ?_
   refine zlv xas ?_
   refine zlt <| zbk ?_
   replace hS := hS.addnil 1 22 (fun _ => Value.slice none 0 0)
   replace hS := hS.n6
   replace hS := hS.addrows 3 (fun _ => Value.slice none 0 0) t.ln ((piv t row col).C)
   replace hS := hS.n7
   replace hS := hS.n7
   have hrs0 := fun k (k0 : 0 ≤ k) (k1 : k < 0) => hS.slhIn 6 rfl k0 k1
   refine zlp (fun mm M w => ∃ (sm : Prop) (nC : Int) (wv : Int → Value) (i : Int) (wC : Value), mm = ((t.nc - i).toNat) ∧ (0 ≤ i) ∧ (i ≤ t.nc) ∧ (nC = i) ∧ (sm ↔ (∀ a b, 0 ≤ a → a < i → 0 ≤ b → b ≤ t.nf → -1073741824 ≤ pcell t (row + 1) (col + 1) a b ∧ pcell t (row + 1) (col + 1) a b ≤ 1073741824)) ∧ (∀ a b, 0 ≤ a → a < i → 0 ≤ b → b ≤ t.nf → divs t (row + 1) (col + 1) a b) ∧ (Slh wC nC) ∧ M = [(3, .pointer (some ⟨g1, 0, none⟩)), (6, .pointer (some ⟨g2, 0, none⟩)), (8, .int .i64 (row + 1)), (9, .int .i64 (col + 1)), (10, .int .i64 (-1)), (11, .pointer (some ⟨g3, 0, none⟩)), (12, B (sm)), (13, .int .i64 i)] ∧ Sat w0 w [.blk g1 [.int .i64 t.vars, .int .i64 t.den, vB, vF, vC], .blk g2 [.int .i64 0, .int .i64 0, .slice none 0 0, .slice none 0 0, .slice none 0 0], .own v2 1 3 t.nb (ints (upd (cat 0 (fun _ => 0) t.B) row (t.F col))), .own v4 1 3 t.nf (ints (upd (cat 0 (fun _ => 0) t.F) col (t.B row))), .blk g3 [.int .i64 t.vars, .int .i64 (-(((t.C (row + 1)) (col + 1)))), v2, v4, wC], .own wC 1 22 nC wv, .sem (Frame.rows 3 nC wv t.ln ((piv t row col).C))]) ⟨True, 0, (fun _ => Value.slice none 0 0), 0, (.slice none 0 0), rfl, (by omega), (by omega), (by omega), ?_, ?_, ?_, rfl, hS⟩ ?_
   ·
    exact ⟨fun _ a b a0 a1 => by omega, fun _ => trivial⟩
   ·
    intro a b a0 a1; omega
   ·
    exact slh_nil
   clear hS w
   rintro mm M w ⟨sm, nC, wv, i, wC, rfl, h0, h1, hnC, hsm, hdv, hwC, rfl, hS⟩
   have hrs1 := fun k (k0 : 0 ≤ k) (k1 : k < nC) => hS.slhIn 6 rfl k0 k1
   refine zsq <| zsr ?_
   refine zlv xmv ?_
   refine zlv (xfb 4 fd_25_4) ?_
   refine zlv (xlb 0 pl_23 hS) ?_
   refine zlv (xln sl_23 hT.C.row.slh) ?_
   refine zlv xlss ?_
   refine zlt ?_
   refine zcif ?_ ?_ <;> intro hc
   ·
    refine zsk <| ztn <| zsq <| zbk <| zsr ?_
    refine zlv xas ?_
    refine zlt <| zsq <| zsr ?_
    refine zlv xas ?_
    refine zlt <| zbk ?_
    replace hS := hS.addnil 1 3 (ints (fun _ => 0))
    replace hS := hS.n8
    refine zlp (fun mm M w => ∃ (sn : Prop) (nl : Int) (j : Int) (wl : Value) (fl : Int → Int), mm = ((t.nf + 1 - j).toNat) ∧ (0 ≤ j) ∧ (j ≤ t.nf + 1) ∧ (nl = j) ∧ (sn ↔ ((∀ a b, 0 ≤ a → a < i → 0 ≤ b → b ≤ t.nf → -1073741824 ≤ pcell t (row + 1) (col + 1) a b ∧ pcell t (row + 1) (col + 1) a b ≤ 1073741824) ∧ ∀ b, 0 ≤ b → b < j → -1073741824 ≤ pcell t (row + 1) (col + 1) i b ∧ pcell t (row + 1) (col + 1) i b ≤ 1073741824)) ∧ (∀ b, 0 ≤ b → b < j → divs t (row + 1) (col + 1) i b) ∧ (∀ b, 0 ≤ b → b < j → fl b = (piv t row col).C i b) ∧ (Slh wl nl) ∧ M = [(3, .pointer (some ⟨g1, 0, none⟩)), (6, .pointer (some ⟨g2, 0, none⟩)), (8, .int .i64 (row + 1)), (9, .int .i64 (col + 1)), (10, .int .i64 (-1)), (11, .pointer (some ⟨g3, 0, none⟩)), (12, B (sn)), (13, .int .i64 i), (14, wl), (15, .int .i64 j)] ∧ Sat w0 w [.blk g1 [.int .i64 t.vars, .int .i64 t.den, vB, vF, vC], .blk g2 [.int .i64 0, .int .i64 0, .slice none 0 0, .slice none 0 0, .slice none 0 0], .own v2 1 3 t.nb (ints (upd (cat 0 (fun _ => 0) t.B) row (t.F col))), .own v4 1 3 t.nf (ints (upd (cat 0 (fun _ => 0) t.F) col (t.B row))), .blk g3 [.int .i64 t.vars, .int .i64 (-(((t.C (row + 1)) (col + 1)))), v2, v4, wC], .own wC 1 22 nC wv, .sem (Frame.rows 3 nC wv t.ln ((piv t row col).C)), .own wl 1 3 nl (ints fl)]) ⟨sm, 0, 0, (.slice none 0 0), (fun _ => 0), rfl, (by omega), (by omega), (by omega), ?_, ?_, ?_, ?_, rfl, hS⟩ ?_
    ·
     exact ⟨fun h => ⟨hsm.1 h, fun b b0 b1 => by omega⟩, fun h => hsm.2 h.1⟩
    ·
     intro b b0 b1; omega
    ·
     intro b b0 b1; omega
    ·
     exact slh_nil
    clear hS w
    rintro mm M w ⟨sn, nl, j, wl, fl, rfl, j0, j1, hnl, hsn, hdr, hfl, hwl, rfl, hS⟩
    refine zsq <| zsr ?_
    refine zlv xmv ?_
    refine zlv (xfb 4 fd_25_4) ?_
    refine zlv (xlb 0 pl_23 hS) ?_
    have hli := hp.len (i := i) (by omega) (by omega)
    refine zlv xmv ?_
    refine zlv (xix (kk := i) sl_23 hT.C.row.slh) ?_
    refine zlv (xlr (u := (vv i)) pl_22 (hT.C.row.below hS.below)) ?_
    refine zlv (xln sl_22 (hT.C.p i (by omega) (by omega)).slh) ?_
    refine zlv xlss ?_
    refine zlt ?_
    refine zcif ?_ ?_ <;> intro hc
    ·
     refine zsk <| ztn <| zsq <| zbk <| zsr ?_
     refine zlv (xls 0 st_25 hS) ?_
     refine zs4 ?_
     refine zlc (xc0 cl_134) (c_cell (t := t) (i := i) (j := j) (r := (row + 1)) (s := (col + 1)) w (hT.below hS.below) hp (by omega) (by omega) (by omega) (by omega) (by omega) (by omega) (by omega) (by omega)) ?_; rintro _ w ⟨nn1, _, rfl, hnn1, rfl, hS'⟩
     replace hS := hS.cmp hS'; clear hS'
     refine zs2 ?_
     have hpcb := pcell_bd hp (r := row + 1) (s := col + 1) (i := i) (j := j) (by omega) (by omega) (by omega) (by omega) (by omega) (by omega) (by omega) (by omega); rw [← hnn1] at hpcb
     refine zs3 ?_
     refine zlt <| zsq <| zsr ?_
     refine zs2 ?_
     refine zlt ?_
     refine zcif ?_ ?_ <;> intro hc
     ·
      refine zsr ?_
      refine zlv (xany (v := .agg #[.int .i64 0, .int .i64 0, .slice none 0 0, .slice none 0 0, .slice none 0 0])) ?_
      refine zle (xsw 1 st_25 hS) ?_; clear hS; rintro w hS
      replace hS := hS.n8
      refine zlv xas ?_
      refine zlt <| zrt <| ztr <| zbr <| ztr <| ztr <| zbr <| ztr <| zbr <| ztr <| ztr <| zbr <| ztr <| zfct 1 st_25 hS ⟨_, rfl, ?_⟩
      exact ⟨_, _, _, fun _ => undef, Tb.zero, 4, rfl, .inr (.inl ⟨⟨hp, by omega, by omega, by omega, by omega, hnz⟩, fun hd => absurd (hd i j (by omega) (by omega) (by omega) (by omega)) ‹_›, rfl, rfl⟩), slh_nil, slh_nil, slh_nil, ((((hS.sub (.cons _ (.cons _ (.cons _ (.cons _ (.cons _ (.cons _ (.cons _ (.cons _ .slnil))))))))).addnil 1 3 (ints Tb.zero.B)).addnil 1 3 (ints Tb.zero.F)).addnil 1 22 (fun _ => undef)).addrows 3 (fun _ => undef) Tb.zero.ln Tb.zero.C⟩
     refine zsk <| ztn <| zsr ?_
     refine zs2 ?_
     refine zlb 139 ?_ ?_ <;> intro hc
     ·
      refine zs4 ?_
      refine zlb 143 ?_ ?_ <;> intro hc
      ·
       refine zs4 ?_
       refine zlt <| zrg ?_
       refine zs3 ?_
       refine zlv (xmul (r := -nn1)) ?_
       refine zla (xli (n := 1) (len := 1) (pv := [(0, .int .i64 (-nn1))]) (cs := [.int .i64 (-nn1)]) (c := ints (fun _ => -nn1)) sl_22 el_3 hS) ?_; rintro v5 w ⟨hS, hv5⟩
       replace hS := hS.n9
       refine zla (xap 7 (r := nl + 1) sl_22 el_3 hS (hS.rowN 8 rfl) (cat_snoc _ _ _)) ?_; rintro v6 w ⟨hS, hv6⟩
       replace hS := hS.n9
       refine zlv xas ?_
       refine zln <| zbn <| ztn <| zrg ?_
       refine zlv xmv ?_
       refine zlv (xadd (r := j + 1)) ?_
       refine zlv xas ?_
       refine zln <| zlq ⟨nn1 ≤ 1073741824, nl + 1, j + 1, v6, (snoc fl nl (-nn1)), rfl, (by omega), (by omega), (by omega), ?_, ?_, ?_, ?_, rfl, hS.pk [0, 1, 2, 3, 4, 5, 6, 7]⟩
       ·
        constructor
        · intro hx
          first
          | exact hx.elim
          | exact ⟨(hsn.1 (by assumption)).1, fun b b0 b1 => by
            by_cases e : b = j
            · rw [e]; omega
            · exact (hsn.1 (by assumption)).2 b b0 (by omega)⟩
        · rintro ⟨h1, h2⟩
          have h3 := h2 j j0 (by omega)
          first
          | omega
          | exact absurd (hsn.2 ⟨h1, fun b b0 b1 => h2 b b0 (by omega)⟩) (by assumption)
       ·
        have hdq : divs t (row + 1) (col + 1) i j := by first | assumption | exact Classical.not_not.1 ‹_›
        intro b b0 b1
        by_cases e : b = j
        · rw [e]; exact hdq
        · exact hdr b b0 (by omega)
       ·
        intro b b0 b1; by_cases e : b < nl
        · rw [snoc_lt e]; exact hfl b b0 (by omega)
        · obtain rfl : b = j := by omega
          rw [snoc_at e, piv_C, hsg, ← hnn1]; omega
       ·
        exact hv6
      iterate 2 refine zlo ?_
      refine zs2 ?_
      refine zlas 12 (u := B (False)) (B_false not_false).symm ?_
      refine zlt <| zrg ?_
      refine zs3 ?_
      refine zlv (xmul (r := -nn1)) ?_
      refine zla (xli (n := 1) (len := 1) (pv := [(0, .int .i64 (-nn1))]) (cs := [.int .i64 (-nn1)]) (c := ints (fun _ => -nn1)) sl_22 el_3 hS) ?_; rintro v7 w ⟨hS, hv7⟩
      replace hS := hS.n9
      refine zla (xap 7 (r := nl + 1) sl_22 el_3 hS (hS.rowN 8 rfl) (cat_snoc _ _ _)) ?_; rintro v8 w ⟨hS, hv8⟩
      replace hS := hS.n9
      refine zlv xas ?_
      refine zln <| zbn <| ztn <| zrg ?_
      refine zlv xmv ?_
      refine zlv (xadd (r := j + 1)) ?_
      refine zlv xas ?_
      refine zln <| zlq ⟨False, nl + 1, j + 1, v8, (snoc fl nl (-nn1)), rfl, (by omega), (by omega), (by omega), ?_, ?_, ?_, ?_, rfl, hS.pk [0, 1, 2, 3, 4, 5, 6, 7]⟩
      ·
       constructor
       · intro hx
         first
         | exact hx.elim
         | exact ⟨(hsn.1 (by assumption)).1, fun b b0 b1 => by
           by_cases e : b = j
           · rw [e]; omega
           · exact (hsn.1 (by assumption)).2 b b0 (by omega)⟩
       · rintro ⟨h1, h2⟩
         have h3 := h2 j j0 (by omega)
         first
         | omega
         | exact absurd (hsn.2 ⟨h1, fun b b0 b1 => h2 b b0 (by omega)⟩) (by assumption)
      ·
       have hdq : divs t (row + 1) (col + 1) i j := by first | assumption | exact Classical.not_not.1 ‹_›
       intro b b0 b1
       by_cases e : b = j
       · rw [e]; exact hdq
       · exact hdr b b0 (by omega)
      ·
       intro b b0 b1; by_cases e : b < nl
       · rw [snoc_lt e]; exact hfl b b0 (by omega)
       · obtain rfl : b = j := by omega
         rw [snoc_at e, piv_C, hsg, ← hnn1]; omega
      ·
       exact hv8
     iterate 2 refine zlo ?_
     refine zs2 ?_
     iterate 2 refine zlo ?_
     refine zs2 ?_
     refine zlas 12 (u := B (False)) (B_false not_false).symm ?_
     refine zlt <| zrg ?_
     refine zs3 ?_
     refine zlv (xmul (r := -nn1)) ?_
     refine zla (xli (n := 1) (len := 1) (pv := [(0, .int .i64 (-nn1))]) (cs := [.int .i64 (-nn1)]) (c := ints (fun _ => -nn1)) sl_22 el_3 hS) ?_; rintro v9 w ⟨hS, hv9⟩
     replace hS := hS.n9
     refine zla (xap 7 (r := nl + 1) sl_22 el_3 hS (hS.rowN 8 rfl) (cat_snoc _ _ _)) ?_; rintro v10 w ⟨hS, hv10⟩
     replace hS := hS.n9
     refine zlv xas ?_
     refine zln <| zbn <| ztn <| zrg ?_
     refine zlv xmv ?_
     refine zlv (xadd (r := j + 1)) ?_
     refine zlv xas ?_
     refine zln <| zlq ⟨False, nl + 1, j + 1, v10, (snoc fl nl (-nn1)), rfl, (by omega), (by omega), (by omega), ?_, ?_, ?_, ?_, rfl, hS.pk [0, 1, 2, 3, 4, 5, 6, 7]⟩
     ·
      constructor
      · intro hx
        first
        | exact hx.elim
        | exact ⟨(hsn.1 (by assumption)).1, fun b b0 b1 => by
          by_cases e : b = j
          · rw [e]; omega
          · exact (hsn.1 (by assumption)).2 b b0 (by omega)⟩
      · rintro ⟨h1, h2⟩
        have h3 := h2 j j0 (by omega)
        first
        | omega
        | exact absurd (hsn.2 ⟨h1, fun b b0 b1 => h2 b b0 (by omega)⟩) (by assumption)
     ·
      have hdq : divs t (row + 1) (col + 1) i j := by first | assumption | exact Classical.not_not.1 ‹_›
      intro b b0 b1
      by_cases e : b = j
      · rw [e]; exact hdq
      · exact hdr b b0 (by omega)
     ·
      intro b b0 b1; by_cases e : b < nl
      · rw [snoc_lt e]; exact hfl b b0 (by omega)
      · obtain rfl : b = j := by omega
        rw [snoc_at e, piv_C, hsg, ← hnn1]; omega
     ·
      exact hv10
    refine zxt <| ztx <| ztx <| zbh <| ztn <| zrg ?_
    refine zlv (xfb 4 fd_25_4) ?_
    refine zlv (xlb 4 pl_23 hS) ?_
    refine zlv xmv ?_
    refine zla (xli (n := 1) (len := 1) (pv := [(0, wl)]) (cs := [wl]) (c := (fun _ => wl)) sl_23 el_22 hS (hf := by obtain ⟨_, _, _, _, rfl, _⟩ := hwl; kernel_rfl)) ?_; rintro v11 w ⟨hS, hv11⟩
    replace hS := hS.n9
    refine zla (xap 5 (r := nC + 1) sl_23 el_22 hS (hS.rowN 8 rfl) (cat_gsn _ _ _) (h1 := fun _ _ _ => hwl.one)) ?_; rintro v12 w ⟨hS, hv12⟩
    replace hS := hS.n9
    replace hS := Sat.merge (l1 := [_, _, _, _, _, _]) (l2 := []) (l3 := [_]) hS (by omega)
    have hrs2 := fun k (k0 : 0 ≤ k) (k1 : k < nC + 1) => hS.slhIn 6 rfl k0 k1
    replace hS := hS.n8
    replace hS := hS.rerows (vv' := gsn wv nC wl) (ln' := t.ln) (f' := (piv t row col).C) 6 rfl (fun k k0 k1 => by
      by_cases e : k < i
      · exact ⟨rfl, gsn_lt (by omega), fun j _ _ => by rw [gsn_lt (by omega)]⟩
      · have hki : k = i := by omega
        refine ⟨rfl, ?_, fun b b0 b1 => ?_⟩
        · rw [gsn_at (by omega), hki]; omega
        · rw [gsn_at (by omega), hki]; exact hfl b b0 (by rw [gsn_at (by omega)] at b1; omega))
    replace hS := hS.n8
    have hrs2x := fun k (k0 : 0 ≤ k) (k1 : k < nC + 1) => hS.slhIn 6 rfl k0 k1
    refine zlv (xfb 4 fd_25_4) ?_
    refine zle (xsb 4 pl_23 hS (hv := hv12.one)) ?_; clear hS; rintro w hS
    replace hS := hS.n8
    refine zln <| zbn <| ztn <| zrg ?_
    refine zlv xmv ?_
    refine zlv (xadd (r := i + 1)) ?_
    refine zlv xas ?_
    refine zln <| zlq ⟨sn, nC + 1, gsn wv nC wl, i + 1, v12, rfl, (by omega), (by omega), (by omega), ?_, ?_, ?_, rfl, hS.pk [0, 1, 2, 3, 4, 5, 6]⟩
    ·
     exact hsn.trans ⟨fun ⟨h1, h2⟩ a b a0 a1 b0 b1 => by
      by_cases e : a = i
      · rw [e]; exact h2 b b0 (by omega)
      · exact h1 a b a0 (by omega) b0 b1, fun h => ⟨fun a b a0 a1 b0 b1 => h a b a0 (by omega) b0 b1, fun b b0 b1 => h i b h0 (by omega) b0 (by omega)⟩⟩
    ·
     intro a b a0 a1 b0 b1
     by_cases e : a = i
     · subst e; exact hdr b b0 (by omega)
     · exact hdv a b a0 (by omega) b0 b1
    ·
     exact hv12
   refine zxt <| ztx <| ztx <| zbh <| ztn <| zsq <| zsr ?_
   refine zs2 ?_
   refine zlt ?_
   refine zcif ?_ ?_ <;> intro hc
   ·
    refine zsr ?_
    refine zlv (xany (v := .agg #[.int .i64 0, .int .i64 0, .slice none 0 0, .slice none 0 0, .slice none 0 0])) ?_
    refine zle (xsw 1 st_25 hS) ?_; clear hS; rintro w hS
    replace hS := hS.n7
    refine zlv xas ?_
    refine zlt <| zrt <| ztr <| zfct 1 st_25 hS ⟨_, rfl, ?_⟩
    exact ⟨_, _, _, fun _ => undef, Tb.zero, 2, rfl, .inr (.inr (.inl ⟨⟨hp, by omega, by omega, by omega, by omega, hnz⟩, fun a b a0 a1 b0 b1 => hdv a b a0 (by omega) b0 b1, fun hq => absurd (hsm.2 fun a b a0 a1 b0 b1 => by have hq1 := hq.cell (i := a) (j := b) a0 (by show a ≤ t.nb; omega) b0 b1; rw [piv_C, hsg] at hq1; omega) ‹_›, rfl, rfl⟩)), slh_nil, slh_nil, slh_nil, ((((hS.sub (.cons _ (.cons _ (.cons _ (.cons _ (.cons _ (.cons _ (.cons _ .slnil)))))))).addnil 1 3 (ints Tb.zero.B)).addnil 1 3 (ints Tb.zero.F)).addnil 1 22 (fun _ => undef)).addrows 3 (fun _ => undef) Tb.zero.ln Tb.zero.C⟩
   refine zsk <| ztn <| zsr ?_
   refine zlv (xls 4 st_25 hS) ?_
   refine zle (xsw 1 st_25 hS (hd := (ones_cons rfl (ones_cons rfl (ones_cons hv2.one (ones_cons hv4.one (ones_cons hwC.one ones_nil))))))) ?_; clear hS; rintro w hS
   replace hS := hS.n7
   refine zlv xas ?_
   refine zlt <| zrt <| zfct 1 st_25 hS ⟨_, rfl, ?_⟩
   obtain rfl : i = t.nc := by omega
   have hden : -(((t.C (row + 1)) (col + 1))) = (piv t row col).den := by rw [piv_den, hsg]; omega
   replace hS := hS.recont 2 rfl (d := ints (piv t row col).B) (fun k k0 k1 => by unfold ints; show Value.int .i64 (upd (cat 0 (fun _ => 0) t.B) row (t.F col) k) = Value.int .i64 (upd t.B row (t.F col) k); congr 1; by_cases e : k = row; rw [e, upd_self, upd_self]; rw [upd_ne _ _ e, upd_ne _ _ e]; unfold cat; rw [if_neg (by omega), Int.sub_zero])
   replace hS := hS.recont 3 rfl (d := ints (piv t row col).F) (fun k k0 k1 => by unfold ints; show Value.int .i64 (upd (cat 0 (fun _ => 0) t.F) col (t.B row) k) = Value.int .i64 (upd t.F col (t.B row) k); congr 1; by_cases e : k = col; rw [e, upd_self, upd_self]; rw [upd_ne _ _ e, upd_ne _ _ e]; unfold cat; rw [if_neg (by omega), Int.sub_zero])
   have hsm1 := hsm.1 (by first | assumption | exact Classical.not_not.1 ‹_›)
   subst hnC
   exact ⟨_, _, _, _, piv t row col, 0, by rw [← hden]; rfl, .inr (.inr (.inr ⟨⟨hp, by omega, by omega, by omega, by omega, hnz⟩, fun a b a0 a1 b0 b1 => hdv a b a0 (by omega) b0 b1, piv_prp ⟨hp, by omega, by omega, by omega, by omega, hnz⟩ (fun a b a0 a1 b0 b1 => hsm1 a b a0 (by omega) b0 b1), rfl, rfl⟩)), hv2, hv4, hwC, hS.pk [2, 3, 5, 6]⟩
  refine zsk <| ztn <| zsq <| ?_
  refine zgcut (fun M w => ∃ (g3 : Nat) (v1 : Value) (v2 : Value) (v3 : Value) (v4 : Value), (Slh v2 t.nb) ∧ (Slh v4 t.nf) ∧ M = [(0, .agg #[.int .i64 t.vars, .int .i64 t.den, vB, vF, vC]), (1, .int .i64 row), (2, .int .i64 col), (3, .pointer (some ⟨g1, 0, none⟩)), (6, .pointer (some ⟨g2, 0, none⟩)), (7, .int .i64 0), (18, .agg #[.int .i64 t.vars, .int .i64 t.den, vB, vF, vC]), (19, B (TPrp t)), (20, B (¬ (TPrp t))), (21, .bool false), (22, .int .i64 row), (23, B (row < 0)), (24, B (row < 0)), (25, .bool false), (26, .int .i64 row), (27, .pointer (some ⟨g1, 2, none⟩)), (28, vB), (29, .int .i64 t.nb), (30, B (t.nb ≤ row)), (31, B (t.nb ≤ row)), (32, .bool false), (33, .int .i64 col), (34, B (col < 0)), (35, B (col < 0)), (36, .bool false), (37, .int .i64 col), (38, .pointer (some ⟨g1, 3, none⟩)), (39, vF), (40, .int .i64 t.nf), (41, B (t.nf ≤ col)), (42, B (t.nf ≤ col)), (43, .bool false), (44, .pointer (some ⟨g1, 4, none⟩)), (45, vC), (46, .int .i64 row), (47, .int .i64 (row + 1)), (48, .pointer (some (cad vC (row + 1)))), (49, (vv (row + 1))), (50, .int .i64 col), (51, .int .i64 (col + 1)), (52, .pointer (some (cad (vv (row + 1)) (col + 1)))), (53, .int .i64 ((t.C (row + 1)) (col + 1))), (54, B (((t.C (row + 1)) (col + 1)) = 0)), (55, B (((t.C (row + 1)) (col + 1)) = 0)), (57, .int .i64 row), (58, .int .i64 (row + 1)), (59, .int .i64 col), (60, .int .i64 (col + 1)), (8, .int .i64 (row + 1)), (9, .int .i64 (col + 1)), (10, .int .i64 1), (61, .pointer (some ⟨g1, 4, none⟩)), (62, vC), (63, .int .i64 (row + 1)), (64, .pointer (some (cad vC (row + 1)))), (65, (vv (row + 1))), (66, .int .i64 (col + 1)), (67, .pointer (some (cad (vv (row + 1)) (col + 1)))), (68, .int .i64 ((t.C (row + 1)) (col + 1))), (69, B (((t.C (row + 1)) (col + 1)) < 0)), (70, .pointer (some ⟨g1, 0, none⟩)), (71, .int .i64 t.vars), (72, .int .i64 1), (73, .pointer (some ⟨g1, 4, none⟩)), (74, vC), (75, .int .i64 (row + 1)), (76, .pointer (some (cad vC (row + 1)))), (77, (vv (row + 1))), (78, .int .i64 (col + 1)), (79, .pointer (some (cad (vv (row + 1)) (col + 1)))), (80, .int .i64 ((t.C (row + 1)) (col + 1))), (81, .int .i64 ((t.C (row + 1)) (col + 1))), (83, .pointer (some ⟨g1, 2, none⟩)), (84, vB), (87, .pointer (some ⟨g1, 3, none⟩)), (88, vF), (82, v1), (85, v2), (86, v3), (89, v4), (90, .agg #[.int .i64 t.vars, .int .i64 ((t.C (row + 1)) (col + 1)), v2, v4, .slice none 0 0]), (11, .pointer (some ⟨g3, 0, none⟩))] ∧ Sat w0 w [.blk g1 [.int .i64 t.vars, .int .i64 t.den, vB, vF, vC], .blk g2 [.int .i64 0, .int .i64 0, .slice none 0 0, .slice none 0 0, .slice none 0 0], .own v2 1 3 t.nb (ints (cat 0 (fun _ => 0) t.B)), .own v4 1 3 t.nf (ints (cat 0 (fun _ => 0) t.F)), .blk g3 [.int .i64 t.vars, .int .i64 ((t.C (row + 1)) (col + 1)), v2, v4, .slice none 0 0]]) ?_ ?_
  ·
   refine zdst [0, 1] [0, 1] 22 mx_ hS ?_; clear hS; intro w hS
   refine zdv 0 (fun _ => (xfb 0 fd_25_0)) ?_
   refine zdla 1 (fun w hS => (xlb 0 pl_3 hS)) ?_
   refine zdv 2 (fun _ => xmv) ?_
   refine zdv 3 (fun _ => (xfb 4 fd_25_4)) ?_
   refine zdla 4 (fun w hS => (xlb 0 pl_23 hS)) ?_
   refine zdv 5 (fun _ => xmv) ?_
   refine zdv 6 (fun _ => (xix (kk := row + 1) sl_23 hT.C.row.slh)) ?_
   refine zdla 7 (fun w hS => (xlr (u := (vv (row + 1))) pl_22 (hT.C.row.below hS.below))) ?_
   refine zdv 8 (fun _ => xmv) ?_
   refine zdv 9 (fun _ => (xix (kk := col + 1) sl_22 (hT.C.p (row + 1) (by omega) (by omega)).slh)) ?_
   refine zdla 10 (fun w hS => (xlr (u := .int .i64 ((t.C (row + 1)) (col + 1))) pl_3 ((hT.C.p (row + 1) (by omega) (by omega)).below hS.below))) ?_
   refine zdv 11 (fun _ => (xmul (r := ((t.C (row + 1)) (col + 1))))) ?_
   refine zdv 13 (fun _ => (xfb 2 fd_25_2)) ?_
   refine zdla 14 (fun w hS => (xlb 0 pl_22 hS)) ?_
   refine zdv 17 (fun _ => (xfb 3 fd_25_3)) ?_
   refine zdla 18 (fun w hS => (xlb 0 pl_22 hS)) ?_
   refine zdfk (r := [12, 16, 21]) ((zdn1 ?_ (zdn1 ?_ (zdn1 ?_ zdn0))))
   ·
    refine zka (xl0 (c := ints (fun _ => 0)) sl_22 hS) ?_; rintro v1 w ⟨hS, hv1⟩
    replace hS := hS.n3
    refine ⟨⟨fun _ => hS.pk [0, 1], hS.pk [0, 1]⟩, ?_⟩
    refine zdfk (r := [15, 16, 21]) ((zdn1 ?_ (zdn1 ?_ (zdn1 ?_ zdn0))))
    ·
     refine zka (xap 2 (r := t.nb) (f := ints (cat 0 (fun _ => 0) t.B)) sl_22 el_3 hS (hT.B.below hS.below) (by exact cat_ints1 _ _ _)) ?_; rintro v2 w ⟨hS, hv2⟩
     replace hS := hS.n3
     refine ⟨⟨fun _ => hS.pk [0, 1], hS.pk [0, 1]⟩, ?_⟩
     refine zdfk (r := [16, 21]) ((zdn1 ?_ (zdn1 ?_ zdn0)))
     ·
      refine zka (xl0 (c := ints (fun _ => 0)) sl_22 hS) ?_; rintro v3 w ⟨hS, hv3⟩
      replace hS := hS.n4
      refine ⟨⟨fun _ => hS.pk [0, 1], hS.pk [0, 1]⟩, ?_⟩
      refine zdfk (r := [19, 21]) ((zdn1 ?_ (zdn1 ?_ zdn0)))
      ·
       refine zka (xap 3 (r := t.nf) (f := ints (cat 0 (fun _ => 0) t.F)) sl_22 el_3 hS (hT.F.below hS.below) (by exact cat_ints1 _ _ _)) ?_; rintro v4 w ⟨hS, hv4⟩
       replace hS := hS.n4
       refine ⟨⟨fun _ => hS.pk [0, 1], hS.pk [0, 1]⟩, ?_⟩
       refine zdv 20 (fun _ => (xany (v := .agg #[.int .i64 t.vars, .int .i64 ((t.C (row + 1)) (col + 1)), v2, v4, .slice none 0 0]) (hr := by obtain ⟨_, _, _, _, rfl, _⟩ := hv2; obtain ⟨_, _, _, _, rfl, _⟩ := hv4; kernel_rfl))) ?_
       refine zda 21 (xal (cs := [_, _, _, _, _]) el_25 hS) ?_; rintro _ w ⟨g3, rfl, hS⟩
       replace hS := hS.n5
       refine ⟨⟨fun _ => hS.pk [0, 1], hS.pk [0, 1]⟩, ?_⟩
       refine zde 22 (xsw 4 st_25 hS (hd := (ones_cons rfl (ones_cons rfl (ones_cons hv2.one (ones_cons hv4.one (ones_cons rfl ones_nil))))))) ?_; clear hS; rintro w hS
       replace hS := hS.n5
       refine ⟨⟨fun h => absurd h (by decide), hS.pk [0, 1]⟩, ?_⟩
       refine zdd <| zgj ⟨g3, v1, v2, v3, v4, hv2, hv4, rfl, hS⟩
      refine zka (xal (cs := [_, _, _, _, _]) el_25 hS) ?_; rintro _ w ⟨g3, rfl, hS⟩
      replace hS := hS.n5
      refine ⟨⟨fun _ => hS.pk [0, 1], hS.pk [0, 1]⟩, ?_⟩
      refine zda 19 (xap 3 (r := t.nf) (f := ints (cat 0 (fun _ => 0) t.F)) sl_22 el_3 hS (hT.F.below hS.below) (by exact cat_ints1 _ _ _)) ?_; rintro v4 w ⟨hS, hv4⟩
      replace hS := hS.n5
      refine ⟨⟨fun _ => hS.pk [0, 1], hS.pk [0, 1]⟩, ?_⟩
      refine zdv 20 (fun _ => (xany (v := .agg #[.int .i64 t.vars, .int .i64 ((t.C (row + 1)) (col + 1)), v2, v4, .slice none 0 0]) (hr := by obtain ⟨_, _, _, _, rfl, _⟩ := hv2; obtain ⟨_, _, _, _, rfl, _⟩ := hv4; kernel_rfl))) ?_
      refine zde 22 (xsw 4 st_25 hS (hd := (ones_cons rfl (ones_cons rfl (ones_cons hv2.one (ones_cons hv4.one (ones_cons rfl ones_nil))))))) ?_; clear hS; rintro w hS
      replace hS := hS.n5
      refine ⟨⟨fun h => absurd h (by decide), hS.pk [0, 1]⟩, ?_⟩
      refine zdd <| zgj ⟨g3, v1, v2, v3, v4, hv2, hv4, rfl, hS⟩
     refine zka (xal (cs := [_, _, _, _, _]) el_25 hS) ?_; rintro _ w ⟨g3, rfl, hS⟩
     replace hS := hS.n4
     refine ⟨⟨fun _ => hS.pk [0, 1], hS.pk [0, 1]⟩, ?_⟩
     refine zda 16 (xl0 (c := ints (fun _ => 0)) sl_22 hS) ?_; rintro v3 w ⟨hS, hv3⟩
     replace hS := hS.n5
     refine ⟨⟨fun _ => hS.pk [0, 1], hS.pk [0, 1]⟩, ?_⟩
     refine zda 19 (xap 4 (r := t.nf) (f := ints (cat 0 (fun _ => 0) t.F)) sl_22 el_3 hS (hT.F.below hS.below) (by exact cat_ints1 _ _ _)) ?_; rintro v4 w ⟨hS, hv4⟩
     replace hS := hS.n5
     refine ⟨⟨fun _ => hS.pk [0, 1], hS.pk [0, 1]⟩, ?_⟩
     refine zdv 20 (fun _ => (xany (v := .agg #[.int .i64 t.vars, .int .i64 ((t.C (row + 1)) (col + 1)), v2, v4, .slice none 0 0]) (hr := by obtain ⟨_, _, _, _, rfl, _⟩ := hv2; obtain ⟨_, _, _, _, rfl, _⟩ := hv4; kernel_rfl))) ?_
     refine zde 22 (xsw 3 st_25 hS (hd := (ones_cons rfl (ones_cons rfl (ones_cons hv2.one (ones_cons hv4.one (ones_cons rfl ones_nil))))))) ?_; clear hS; rintro w hS
     replace hS := hS.n5
     refine ⟨⟨fun h => absurd h (by decide), hS.pk [0, 1]⟩, ?_⟩
     refine zdd <| zgj ⟨g3, v1, v2, v3, v4, hv2, hv4, rfl, hS.pk [0, 1, 2, 4, 3]⟩
    ·
     refine zka (xl0 (c := ints (fun _ => 0)) sl_22 hS) ?_; rintro v2 w ⟨hS, hv2⟩
     replace hS := hS.n4
     refine ⟨⟨fun _ => hS.pk [0, 1], hS.pk [0, 1]⟩, ?_⟩
     refine zdfk (r := [15, 21]) ((zdn1 ?_ (zdn1 ?_ zdn0)))
     ·
      refine zka (xap 2 (r := t.nb) (f := ints (cat 0 (fun _ => 0) t.B)) sl_22 el_3 hS (hT.B.below hS.below) (by exact cat_ints1 _ _ _)) ?_; rintro v3 w ⟨hS, hv3⟩
      replace hS := hS.n4
      refine ⟨⟨fun _ => hS.pk [0, 1], hS.pk [0, 1]⟩, ?_⟩
      refine zdfk (r := [19, 21]) ((zdn1 ?_ (zdn1 ?_ zdn0)))
      ·
       refine zka (xap 3 (r := t.nf) (f := ints (cat 0 (fun _ => 0) t.F)) sl_22 el_3 hS (hT.F.below hS.below) (by exact cat_ints1 _ _ _)) ?_; rintro v4 w ⟨hS, hv4⟩
       replace hS := hS.n4
       refine ⟨⟨fun _ => hS.pk [0, 1], hS.pk [0, 1]⟩, ?_⟩
       refine zdv 20 (fun _ => (xany (v := .agg #[.int .i64 t.vars, .int .i64 ((t.C (row + 1)) (col + 1)), v3, v4, .slice none 0 0]) (hr := by obtain ⟨_, _, _, _, rfl, _⟩ := hv3; obtain ⟨_, _, _, _, rfl, _⟩ := hv4; kernel_rfl))) ?_
       refine zda 21 (xal (cs := [_, _, _, _, _]) el_25 hS) ?_; rintro _ w ⟨g3, rfl, hS⟩
       replace hS := hS.n5
       refine ⟨⟨fun _ => hS.pk [0, 1], hS.pk [0, 1]⟩, ?_⟩
       refine zde 22 (xsw 4 st_25 hS (hd := (ones_cons rfl (ones_cons rfl (ones_cons hv3.one (ones_cons hv4.one (ones_cons rfl ones_nil))))))) ?_; clear hS; rintro w hS
       replace hS := hS.n5
       refine ⟨⟨fun h => absurd h (by decide), hS.pk [0, 1]⟩, ?_⟩
       refine zdd <| zgj ⟨g3, v1, v3, v2, v4, hv3, hv4, rfl, hS⟩
      refine zka (xal (cs := [_, _, _, _, _]) el_25 hS) ?_; rintro _ w ⟨g3, rfl, hS⟩
      replace hS := hS.n5
      refine ⟨⟨fun _ => hS.pk [0, 1], hS.pk [0, 1]⟩, ?_⟩
      refine zda 19 (xap 3 (r := t.nf) (f := ints (cat 0 (fun _ => 0) t.F)) sl_22 el_3 hS (hT.F.below hS.below) (by exact cat_ints1 _ _ _)) ?_; rintro v4 w ⟨hS, hv4⟩
      replace hS := hS.n5
      refine ⟨⟨fun _ => hS.pk [0, 1], hS.pk [0, 1]⟩, ?_⟩
      refine zdv 20 (fun _ => (xany (v := .agg #[.int .i64 t.vars, .int .i64 ((t.C (row + 1)) (col + 1)), v3, v4, .slice none 0 0]) (hr := by obtain ⟨_, _, _, _, rfl, _⟩ := hv3; obtain ⟨_, _, _, _, rfl, _⟩ := hv4; kernel_rfl))) ?_
      refine zde 22 (xsw 4 st_25 hS (hd := (ones_cons rfl (ones_cons rfl (ones_cons hv3.one (ones_cons hv4.one (ones_cons rfl ones_nil))))))) ?_; clear hS; rintro w hS
      replace hS := hS.n5
      refine ⟨⟨fun h => absurd h (by decide), hS.pk [0, 1]⟩, ?_⟩
      refine zdd <| zgj ⟨g3, v1, v3, v2, v4, hv3, hv4, rfl, hS⟩
     refine zka (xal (cs := [_, _, _, _, _]) el_25 hS) ?_; rintro _ w ⟨g3, rfl, hS⟩
     replace hS := hS.n5
     refine ⟨⟨fun _ => hS.pk [0, 1], hS.pk [0, 1]⟩, ?_⟩
     refine zda 15 (xap 2 (r := t.nb) (f := ints (cat 0 (fun _ => 0) t.B)) sl_22 el_3 hS (hT.B.below hS.below) (by exact cat_ints1 _ _ _)) ?_; rintro v3 w ⟨hS, hv3⟩
     replace hS := hS.n5
     refine ⟨⟨fun _ => hS.pk [0, 1], hS.pk [0, 1]⟩, ?_⟩
     refine zda 19 (xap 3 (r := t.nf) (f := ints (cat 0 (fun _ => 0) t.F)) sl_22 el_3 hS (hT.F.below hS.below) (by exact cat_ints1 _ _ _)) ?_; rintro v4 w ⟨hS, hv4⟩
     replace hS := hS.n5
     refine ⟨⟨fun _ => hS.pk [0, 1], hS.pk [0, 1]⟩, ?_⟩
     refine zdv 20 (fun _ => (xany (v := .agg #[.int .i64 t.vars, .int .i64 ((t.C (row + 1)) (col + 1)), v3, v4, .slice none 0 0]) (hr := by obtain ⟨_, _, _, _, rfl, _⟩ := hv3; obtain ⟨_, _, _, _, rfl, _⟩ := hv4; kernel_rfl))) ?_
     refine zde 22 (xsw 4 st_25 hS (hd := (ones_cons rfl (ones_cons rfl (ones_cons hv3.one (ones_cons hv4.one (ones_cons rfl ones_nil))))))) ?_; clear hS; rintro w hS
     replace hS := hS.n5
     refine ⟨⟨fun h => absurd h (by decide), hS.pk [0, 1]⟩, ?_⟩
     refine zdd <| zgj ⟨g3, v1, v3, v2, v4, hv3, hv4, rfl, hS⟩
    refine zka (xal (cs := [_, _, _, _, _]) el_25 hS) ?_; rintro _ w ⟨g3, rfl, hS⟩
    replace hS := hS.n4
    refine ⟨⟨fun _ => hS.pk [0, 1], hS.pk [0, 1]⟩, ?_⟩
    refine zdfk (r := [15, 16]) ((zdn1 ?_ (zdn1 ?_ zdn0)))
    ·
     refine zka (xap 2 (r := t.nb) (f := ints (cat 0 (fun _ => 0) t.B)) sl_22 el_3 hS (hT.B.below hS.below) (by exact cat_ints1 _ _ _)) ?_; rintro v2 w ⟨hS, hv2⟩
     replace hS := hS.n4
     refine ⟨⟨fun _ => hS.pk [0, 1], hS.pk [0, 1]⟩, ?_⟩
     refine zda 16 (xl0 (c := ints (fun _ => 0)) sl_22 hS) ?_; rintro v3 w ⟨hS, hv3⟩
     replace hS := hS.n5
     refine ⟨⟨fun _ => hS.pk [0, 1], hS.pk [0, 1]⟩, ?_⟩
     refine zda 19 (xap 4 (r := t.nf) (f := ints (cat 0 (fun _ => 0) t.F)) sl_22 el_3 hS (hT.F.below hS.below) (by exact cat_ints1 _ _ _)) ?_; rintro v4 w ⟨hS, hv4⟩
     replace hS := hS.n5
     refine ⟨⟨fun _ => hS.pk [0, 1], hS.pk [0, 1]⟩, ?_⟩
     refine zdv 20 (fun _ => (xany (v := .agg #[.int .i64 t.vars, .int .i64 ((t.C (row + 1)) (col + 1)), v2, v4, .slice none 0 0]) (hr := by obtain ⟨_, _, _, _, rfl, _⟩ := hv2; obtain ⟨_, _, _, _, rfl, _⟩ := hv4; kernel_rfl))) ?_
     refine zde 22 (xsw 3 st_25 hS (hd := (ones_cons rfl (ones_cons rfl (ones_cons hv2.one (ones_cons hv4.one (ones_cons rfl ones_nil))))))) ?_; clear hS; rintro w hS
     replace hS := hS.n5
     refine ⟨⟨fun h => absurd h (by decide), hS.pk [0, 1]⟩, ?_⟩
     refine zdd <| zgj ⟨g3, v1, v2, v3, v4, hv2, hv4, rfl, hS.pk [0, 1, 2, 4, 3]⟩
    refine zka (xl0 (c := ints (fun _ => 0)) sl_22 hS) ?_; rintro v2 w ⟨hS, hv2⟩
    replace hS := hS.n5
    refine ⟨⟨fun _ => hS.pk [0, 1], hS.pk [0, 1]⟩, ?_⟩
    refine zda 15 (xap 2 (r := t.nb) (f := ints (cat 0 (fun _ => 0) t.B)) sl_22 el_3 hS (hT.B.below hS.below) (by exact cat_ints1 _ _ _)) ?_; rintro v3 w ⟨hS, hv3⟩
    replace hS := hS.n5
    refine ⟨⟨fun _ => hS.pk [0, 1], hS.pk [0, 1]⟩, ?_⟩
    refine zda 19 (xap 4 (r := t.nf) (f := ints (cat 0 (fun _ => 0) t.F)) sl_22 el_3 hS (hT.F.below hS.below) (by exact cat_ints1 _ _ _)) ?_; rintro v4 w ⟨hS, hv4⟩
    replace hS := hS.n5
    refine ⟨⟨fun _ => hS.pk [0, 1], hS.pk [0, 1]⟩, ?_⟩
    refine zdv 20 (fun _ => (xany (v := .agg #[.int .i64 t.vars, .int .i64 ((t.C (row + 1)) (col + 1)), v3, v4, .slice none 0 0]) (hr := by obtain ⟨_, _, _, _, rfl, _⟩ := hv3; obtain ⟨_, _, _, _, rfl, _⟩ := hv4; kernel_rfl))) ?_
    refine zde 22 (xsw 3 st_25 hS (hd := (ones_cons rfl (ones_cons rfl (ones_cons hv3.one (ones_cons hv4.one (ones_cons rfl ones_nil))))))) ?_; clear hS; rintro w hS
    replace hS := hS.n5
    refine ⟨⟨fun h => absurd h (by decide), hS.pk [0, 1]⟩, ?_⟩
    refine zdd <| zgj ⟨g3, v1, v3, v2, v4, hv3, hv4, rfl, hS.pk [0, 1, 2, 4, 3]⟩
   ·
    refine zka (xl0 (c := ints (fun _ => 0)) sl_22 hS) ?_; rintro v1 w ⟨hS, hv1⟩
    replace hS := hS.n3
    refine ⟨⟨fun _ => hS.pk [0, 1], hS.pk [0, 1]⟩, ?_⟩
    refine zdfk (r := [12, 21]) ((zdn1 ?_ (zdn1 ?_ zdn0)))
    ·
     refine zka (xl0 (c := ints (fun _ => 0)) sl_22 hS) ?_; rintro v2 w ⟨hS, hv2⟩
     replace hS := hS.n4
     refine ⟨⟨fun _ => hS.pk [0, 1], hS.pk [0, 1]⟩, ?_⟩
     refine zdfk (r := [15, 21]) ((zdn1 ?_ (zdn1 ?_ zdn0)))
     ·
      refine zka (xap 3 (r := t.nb) (f := ints (cat 0 (fun _ => 0) t.B)) sl_22 el_3 hS (hT.B.below hS.below) (by exact cat_ints1 _ _ _)) ?_; rintro v3 w ⟨hS, hv3⟩
      replace hS := hS.n4
      refine ⟨⟨fun _ => hS.pk [0, 1], hS.pk [0, 1]⟩, ?_⟩
      refine zdfk (r := [19, 21]) ((zdn1 ?_ (zdn1 ?_ zdn0)))
      ·
       refine zka (xap 2 (r := t.nf) (f := ints (cat 0 (fun _ => 0) t.F)) sl_22 el_3 hS (hT.F.below hS.below) (by exact cat_ints1 _ _ _)) ?_; rintro v4 w ⟨hS, hv4⟩
       replace hS := hS.n4
       refine ⟨⟨fun _ => hS.pk [0, 1], hS.pk [0, 1]⟩, ?_⟩
       refine zdv 20 (fun _ => (xany (v := .agg #[.int .i64 t.vars, .int .i64 ((t.C (row + 1)) (col + 1)), v3, v4, .slice none 0 0]) (hr := by obtain ⟨_, _, _, _, rfl, _⟩ := hv3; obtain ⟨_, _, _, _, rfl, _⟩ := hv4; kernel_rfl))) ?_
       refine zda 21 (xal (cs := [_, _, _, _, _]) el_25 hS) ?_; rintro _ w ⟨g3, rfl, hS⟩
       replace hS := hS.n5
       refine ⟨⟨fun _ => hS.pk [0, 1], hS.pk [0, 1]⟩, ?_⟩
       refine zde 22 (xsw 4 st_25 hS (hd := (ones_cons rfl (ones_cons rfl (ones_cons hv3.one (ones_cons hv4.one (ones_cons rfl ones_nil))))))) ?_; clear hS; rintro w hS
       replace hS := hS.n5
       refine ⟨⟨fun h => absurd h (by decide), hS.pk [0, 1]⟩, ?_⟩
       refine zdd <| zgj ⟨g3, v2, v3, v1, v4, hv3, hv4, rfl, hS.pk [0, 1, 3, 2, 4]⟩
      refine zka (xal (cs := [_, _, _, _, _]) el_25 hS) ?_; rintro _ w ⟨g3, rfl, hS⟩
      replace hS := hS.n5
      refine ⟨⟨fun _ => hS.pk [0, 1], hS.pk [0, 1]⟩, ?_⟩
      refine zda 19 (xap 2 (r := t.nf) (f := ints (cat 0 (fun _ => 0) t.F)) sl_22 el_3 hS (hT.F.below hS.below) (by exact cat_ints1 _ _ _)) ?_; rintro v4 w ⟨hS, hv4⟩
      replace hS := hS.n5
      refine ⟨⟨fun _ => hS.pk [0, 1], hS.pk [0, 1]⟩, ?_⟩
      refine zdv 20 (fun _ => (xany (v := .agg #[.int .i64 t.vars, .int .i64 ((t.C (row + 1)) (col + 1)), v3, v4, .slice none 0 0]) (hr := by obtain ⟨_, _, _, _, rfl, _⟩ := hv3; obtain ⟨_, _, _, _, rfl, _⟩ := hv4; kernel_rfl))) ?_
      refine zde 22 (xsw 4 st_25 hS (hd := (ones_cons rfl (ones_cons rfl (ones_cons hv3.one (ones_cons hv4.one (ones_cons rfl ones_nil))))))) ?_; clear hS; rintro w hS
      replace hS := hS.n5
      refine ⟨⟨fun h => absurd h (by decide), hS.pk [0, 1]⟩, ?_⟩
      refine zdd <| zgj ⟨g3, v2, v3, v1, v4, hv3, hv4, rfl, hS.pk [0, 1, 3, 2, 4]⟩
     refine zka (xal (cs := [_, _, _, _, _]) el_25 hS) ?_; rintro _ w ⟨g3, rfl, hS⟩
     replace hS := hS.n5
     refine ⟨⟨fun _ => hS.pk [0, 1], hS.pk [0, 1]⟩, ?_⟩
     refine zda 15 (xap 3 (r := t.nb) (f := ints (cat 0 (fun _ => 0) t.B)) sl_22 el_3 hS (hT.B.below hS.below) (by exact cat_ints1 _ _ _)) ?_; rintro v3 w ⟨hS, hv3⟩
     replace hS := hS.n5
     refine ⟨⟨fun _ => hS.pk [0, 1], hS.pk [0, 1]⟩, ?_⟩
     refine zda 19 (xap 2 (r := t.nf) (f := ints (cat 0 (fun _ => 0) t.F)) sl_22 el_3 hS (hT.F.below hS.below) (by exact cat_ints1 _ _ _)) ?_; rintro v4 w ⟨hS, hv4⟩
     replace hS := hS.n5
     refine ⟨⟨fun _ => hS.pk [0, 1], hS.pk [0, 1]⟩, ?_⟩
     refine zdv 20 (fun _ => (xany (v := .agg #[.int .i64 t.vars, .int .i64 ((t.C (row + 1)) (col + 1)), v3, v4, .slice none 0 0]) (hr := by obtain ⟨_, _, _, _, rfl, _⟩ := hv3; obtain ⟨_, _, _, _, rfl, _⟩ := hv4; kernel_rfl))) ?_
     refine zde 22 (xsw 4 st_25 hS (hd := (ones_cons rfl (ones_cons rfl (ones_cons hv3.one (ones_cons hv4.one (ones_cons rfl ones_nil))))))) ?_; clear hS; rintro w hS
     replace hS := hS.n5
     refine ⟨⟨fun h => absurd h (by decide), hS.pk [0, 1]⟩, ?_⟩
     refine zdd <| zgj ⟨g3, v2, v3, v1, v4, hv3, hv4, rfl, hS.pk [0, 1, 3, 2, 4]⟩
    refine zka (xal (cs := [_, _, _, _, _]) el_25 hS) ?_; rintro _ w ⟨g3, rfl, hS⟩
    replace hS := hS.n4
    refine ⟨⟨fun _ => hS.pk [0, 1], hS.pk [0, 1]⟩, ?_⟩
    refine zda 12 (xl0 (c := ints (fun _ => 0)) sl_22 hS) ?_; rintro v2 w ⟨hS, hv2⟩
    replace hS := hS.n5
    refine ⟨⟨fun _ => hS.pk [0, 1], hS.pk [0, 1]⟩, ?_⟩
    refine zda 15 (xap 4 (r := t.nb) (f := ints (cat 0 (fun _ => 0) t.B)) sl_22 el_3 hS (hT.B.below hS.below) (by exact cat_ints1 _ _ _)) ?_; rintro v3 w ⟨hS, hv3⟩
    replace hS := hS.n5
    refine ⟨⟨fun _ => hS.pk [0, 1], hS.pk [0, 1]⟩, ?_⟩
    refine zda 19 (xap 2 (r := t.nf) (f := ints (cat 0 (fun _ => 0) t.F)) sl_22 el_3 hS (hT.F.below hS.below) (by exact cat_ints1 _ _ _)) ?_; rintro v4 w ⟨hS, hv4⟩
    replace hS := hS.n5
    refine ⟨⟨fun _ => hS.pk [0, 1], hS.pk [0, 1]⟩, ?_⟩
    refine zdv 20 (fun _ => (xany (v := .agg #[.int .i64 t.vars, .int .i64 ((t.C (row + 1)) (col + 1)), v3, v4, .slice none 0 0]) (hr := by obtain ⟨_, _, _, _, rfl, _⟩ := hv3; obtain ⟨_, _, _, _, rfl, _⟩ := hv4; kernel_rfl))) ?_
    refine zde 22 (xsw 3 st_25 hS (hd := (ones_cons rfl (ones_cons rfl (ones_cons hv3.one (ones_cons hv4.one (ones_cons rfl ones_nil))))))) ?_; clear hS; rintro w hS
    replace hS := hS.n5
    refine ⟨⟨fun h => absurd h (by decide), hS.pk [0, 1]⟩, ?_⟩
    refine zdd <| zgj ⟨g3, v2, v3, v1, v4, hv3, hv4, rfl, hS.pk [0, 1, 4, 2, 3]⟩
   refine zka (xal (cs := [_, _, _, _, _]) el_25 hS) ?_; rintro _ w ⟨g3, rfl, hS⟩
   replace hS := hS.n3
   refine ⟨⟨fun _ => hS.pk [0, 1], hS.pk [0, 1]⟩, ?_⟩
   refine zdfk (r := [12, 16]) ((zdn1 ?_ (zdn1 ?_ zdn0)))
   ·
    refine zka (xl0 (c := ints (fun _ => 0)) sl_22 hS) ?_; rintro v1 w ⟨hS, hv1⟩
    replace hS := hS.n4
    refine ⟨⟨fun _ => hS.pk [0, 1], hS.pk [0, 1]⟩, ?_⟩
    refine zdfk (r := [15, 16]) ((zdn1 ?_ (zdn1 ?_ zdn0)))
    ·
     refine zka (xap 3 (r := t.nb) (f := ints (cat 0 (fun _ => 0) t.B)) sl_22 el_3 hS (hT.B.below hS.below) (by exact cat_ints1 _ _ _)) ?_; rintro v2 w ⟨hS, hv2⟩
     replace hS := hS.n4
     refine ⟨⟨fun _ => hS.pk [0, 1], hS.pk [0, 1]⟩, ?_⟩
     refine zda 16 (xl0 (c := ints (fun _ => 0)) sl_22 hS) ?_; rintro v3 w ⟨hS, hv3⟩
     replace hS := hS.n5
     refine ⟨⟨fun _ => hS.pk [0, 1], hS.pk [0, 1]⟩, ?_⟩
     refine zda 19 (xap 4 (r := t.nf) (f := ints (cat 0 (fun _ => 0) t.F)) sl_22 el_3 hS (hT.F.below hS.below) (by exact cat_ints1 _ _ _)) ?_; rintro v4 w ⟨hS, hv4⟩
     replace hS := hS.n5
     refine ⟨⟨fun _ => hS.pk [0, 1], hS.pk [0, 1]⟩, ?_⟩
     refine zdv 20 (fun _ => (xany (v := .agg #[.int .i64 t.vars, .int .i64 ((t.C (row + 1)) (col + 1)), v2, v4, .slice none 0 0]) (hr := by obtain ⟨_, _, _, _, rfl, _⟩ := hv2; obtain ⟨_, _, _, _, rfl, _⟩ := hv4; kernel_rfl))) ?_
     refine zde 22 (xsw 2 st_25 hS (hd := (ones_cons rfl (ones_cons rfl (ones_cons hv2.one (ones_cons hv4.one (ones_cons rfl ones_nil))))))) ?_; clear hS; rintro w hS
     replace hS := hS.n5
     refine ⟨⟨fun h => absurd h (by decide), hS.pk [0, 1]⟩, ?_⟩
     refine zdd <| zgj ⟨g3, v1, v2, v3, v4, hv2, hv4, rfl, hS.pk [0, 1, 3, 4, 2]⟩
    refine zka (xl0 (c := ints (fun _ => 0)) sl_22 hS) ?_; rintro v2 w ⟨hS, hv2⟩
    replace hS := hS.n5
    refine ⟨⟨fun _ => hS.pk [0, 1], hS.pk [0, 1]⟩, ?_⟩
    refine zda 15 (xap 3 (r := t.nb) (f := ints (cat 0 (fun _ => 0) t.B)) sl_22 el_3 hS (hT.B.below hS.below) (by exact cat_ints1 _ _ _)) ?_; rintro v3 w ⟨hS, hv3⟩
    replace hS := hS.n5
    refine ⟨⟨fun _ => hS.pk [0, 1], hS.pk [0, 1]⟩, ?_⟩
    refine zda 19 (xap 4 (r := t.nf) (f := ints (cat 0 (fun _ => 0) t.F)) sl_22 el_3 hS (hT.F.below hS.below) (by exact cat_ints1 _ _ _)) ?_; rintro v4 w ⟨hS, hv4⟩
    replace hS := hS.n5
    refine ⟨⟨fun _ => hS.pk [0, 1], hS.pk [0, 1]⟩, ?_⟩
    refine zdv 20 (fun _ => (xany (v := .agg #[.int .i64 t.vars, .int .i64 ((t.C (row + 1)) (col + 1)), v3, v4, .slice none 0 0]) (hr := by obtain ⟨_, _, _, _, rfl, _⟩ := hv3; obtain ⟨_, _, _, _, rfl, _⟩ := hv4; kernel_rfl))) ?_
    refine zde 22 (xsw 2 st_25 hS (hd := (ones_cons rfl (ones_cons rfl (ones_cons hv3.one (ones_cons hv4.one (ones_cons rfl ones_nil))))))) ?_; clear hS; rintro w hS
    replace hS := hS.n5
    refine ⟨⟨fun h => absurd h (by decide), hS.pk [0, 1]⟩, ?_⟩
    refine zdd <| zgj ⟨g3, v1, v3, v2, v4, hv3, hv4, rfl, hS.pk [0, 1, 3, 4, 2]⟩
   refine zka (xl0 (c := ints (fun _ => 0)) sl_22 hS) ?_; rintro v1 w ⟨hS, hv1⟩
   replace hS := hS.n4
   refine ⟨⟨fun _ => hS.pk [0, 1], hS.pk [0, 1]⟩, ?_⟩
   refine zda 12 (xl0 (c := ints (fun _ => 0)) sl_22 hS) ?_; rintro v2 w ⟨hS, hv2⟩
   replace hS := hS.n5
   refine ⟨⟨fun _ => hS.pk [0, 1], hS.pk [0, 1]⟩, ?_⟩
   refine zda 15 (xap 4 (r := t.nb) (f := ints (cat 0 (fun _ => 0) t.B)) sl_22 el_3 hS (hT.B.below hS.below) (by exact cat_ints1 _ _ _)) ?_; rintro v3 w ⟨hS, hv3⟩
   replace hS := hS.n5
   refine ⟨⟨fun _ => hS.pk [0, 1], hS.pk [0, 1]⟩, ?_⟩
   refine zda 19 (xap 3 (r := t.nf) (f := ints (cat 0 (fun _ => 0) t.F)) sl_22 el_3 hS (hT.F.below hS.below) (by exact cat_ints1 _ _ _)) ?_; rintro v4 w ⟨hS, hv4⟩
   replace hS := hS.n5
   refine ⟨⟨fun _ => hS.pk [0, 1], hS.pk [0, 1]⟩, ?_⟩
   refine zdv 20 (fun _ => (xany (v := .agg #[.int .i64 t.vars, .int .i64 ((t.C (row + 1)) (col + 1)), v3, v4, .slice none 0 0]) (hr := by obtain ⟨_, _, _, _, rfl, _⟩ := hv3; obtain ⟨_, _, _, _, rfl, _⟩ := hv4; kernel_rfl))) ?_
   refine zde 22 (xsw 2 st_25 hS (hd := (ones_cons rfl (ones_cons rfl (ones_cons hv3.one (ones_cons hv4.one (ones_cons rfl ones_nil))))))) ?_; clear hS; rintro w hS
   replace hS := hS.n5
   refine ⟨⟨fun h => absurd h (by decide), hS.pk [0, 1]⟩, ?_⟩
   refine zdd <| zgj ⟨g3, v2, v3, v1, v4, hv3, hv4, rfl, hS.pk [0, 1, 4, 3, 2]⟩
  clear hS w; rintro M w ⟨g3, v1, v2, v3, v4, hv2, hv4, rfl, hS⟩
  refine ztn <| zsq ?_
  refine zdst [0, 1, 2, 3, 4] [0, 1, 4] 17 mx_ hS ?_; clear hS; intro w hS
  refine zdv 0 (fun _ => (xfb 2 fd_25_2)) ?_
  have hsg : sg (t.C (row + 1) (col + 1)) = 1 := by unfold sg; rw [if_neg (by omega)]
  refine zdla 1 (fun w hS => (xlb 2 pl_22 hS)) ?_
  refine zdv 2 (fun _ => xmv) ?_
  refine zdv 3 (fun _ => (xfb 3 fd_25_3)) ?_
  refine zdla 4 (fun w hS => (xlb 2 pl_22 hS)) ?_
  refine zdv 5 (fun _ => xmv) ?_
  refine zdv 6 (fun _ => (xfb 3 fd_25_3)) ?_
  refine zdla 7 (fun w hS => (xlb 0 pl_22 hS)) ?_
  refine zdv 8 (fun _ => xmv) ?_
  refine zdv 9 (fun _ => (xix (kk := col) sl_22 hT.F.slh)) ?_
  refine zdla 10 (fun w hS => (xlr (u := .int .i64 (t.F col)) pl_3 (hT.F.below hS.below))) ?_
  refine zdv 11 (fun _ => (xfb 2 fd_25_2)) ?_
  refine zdla 12 (fun w hS => (xlb 0 pl_22 hS)) ?_
  refine zdv 13 (fun _ => xmv) ?_
  refine zdv 14 (fun _ => (xix (kk := row) sl_22 hT.B.slh)) ?_
  refine zdla 15 (fun w hS => (xlr (u := .int .i64 (t.B row)) pl_3 (hT.B.below hS.below))) ?_
  refine zdv 16 (fun _ => (xix (kk := row) sl_22 hv2)) ?_
  refine zde 17 (xso 2 pl_3 hS (upd_ints _ _ _)) ?_; clear hS; rintro w hS
  replace hS := hS.n5
  refine ⟨⟨fun h => absurd h (by decide), hS.pk [0, 1, 4]⟩, ?_⟩
  refine zdv 18 (fun _ => (xix (kk := col) sl_22 hv4)) ?_
  refine zde 19 (xso 3 pl_3 hS (upd_ints _ _ _)) ?_; clear hS; rintro w hS
  replace hS := hS.n5
  refine ⟨⟨fun h => absurd h (by decide), hS.pk [0, 1, 4]⟩, ?_⟩
  refine zdd <| ztn <| zsr ?_
  refine zlv xas ?_
  refine zlas 12 (u := B (True)) (B_true trivial).symm ?_
  refine zlt <| zsq <| zsr ?_
  refine zlv xas ?_
  refine zlt <| zbk ?_
  replace hS := hS.addnil 1 22 (fun _ => Value.slice none 0 0)
  replace hS := hS.n6
  replace hS := hS.addrows 3 (fun _ => Value.slice none 0 0) t.ln ((piv t row col).C)
  replace hS := hS.n7
  replace hS := hS.n7
  have hrs0 := fun k (k0 : 0 ≤ k) (k1 : k < 0) => hS.slhIn 6 rfl k0 k1
  refine zlp (fun mm M w => ∃ (sm : Prop) (nC : Int) (wv : Int → Value) (i : Int) (wC : Value), mm = ((t.nc - i).toNat) ∧ (0 ≤ i) ∧ (i ≤ t.nc) ∧ (nC = i) ∧ (sm ↔ (∀ a b, 0 ≤ a → a < i → 0 ≤ b → b ≤ t.nf → -1073741824 ≤ pcell t (row + 1) (col + 1) a b ∧ pcell t (row + 1) (col + 1) a b ≤ 1073741824)) ∧ (∀ a b, 0 ≤ a → a < i → 0 ≤ b → b ≤ t.nf → divs t (row + 1) (col + 1) a b) ∧ (Slh wC nC) ∧ M = [(3, .pointer (some ⟨g1, 0, none⟩)), (6, .pointer (some ⟨g2, 0, none⟩)), (8, .int .i64 (row + 1)), (9, .int .i64 (col + 1)), (10, .int .i64 1), (11, .pointer (some ⟨g3, 0, none⟩)), (12, B (sm)), (13, .int .i64 i)] ∧ Sat w0 w [.blk g1 [.int .i64 t.vars, .int .i64 t.den, vB, vF, vC], .blk g2 [.int .i64 0, .int .i64 0, .slice none 0 0, .slice none 0 0, .slice none 0 0], .own v2 1 3 t.nb (ints (upd (cat 0 (fun _ => 0) t.B) row (t.F col))), .own v4 1 3 t.nf (ints (upd (cat 0 (fun _ => 0) t.F) col (t.B row))), .blk g3 [.int .i64 t.vars, .int .i64 ((t.C (row + 1)) (col + 1)), v2, v4, wC], .own wC 1 22 nC wv, .sem (Frame.rows 3 nC wv t.ln ((piv t row col).C))]) ⟨True, 0, (fun _ => Value.slice none 0 0), 0, (.slice none 0 0), rfl, (by omega), (by omega), (by omega), ?_, ?_, ?_, rfl, hS⟩ ?_
  ·
   exact ⟨fun _ a b a0 a1 => by omega, fun _ => trivial⟩
  ·
   intro a b a0 a1; omega
  ·
   exact slh_nil
  clear hS w
  rintro mm M w ⟨sm, nC, wv, i, wC, rfl, h0, h1, hnC, hsm, hdv, hwC, rfl, hS⟩
  have hrs3 := fun k (k0 : 0 ≤ k) (k1 : k < nC) => hS.slhIn 6 rfl k0 k1
  refine zsq <| zsr ?_
  refine zlv xmv ?_
  refine zlv (xfb 4 fd_25_4) ?_
  refine zlv (xlb 0 pl_23 hS) ?_
  refine zlv (xln sl_23 hT.C.row.slh) ?_
  refine zlv xlss ?_
  refine zlt ?_
  refine zcif ?_ ?_ <;> intro hc
  ·
   refine zsk <| ztn <| zsq <| zbk <| zsr ?_
   refine zlv xas ?_
   refine zlt <| zsq <| zsr ?_
   refine zlv xas ?_
   refine zlt <| zbk ?_
   replace hS := hS.addnil 1 3 (ints (fun _ => 0))
   replace hS := hS.n8
   refine zlp (fun mm M w => ∃ (sn : Prop) (nl : Int) (j : Int) (wl : Value) (fl : Int → Int), mm = ((t.nf + 1 - j).toNat) ∧ (0 ≤ j) ∧ (j ≤ t.nf + 1) ∧ (nl = j) ∧ (sn ↔ ((∀ a b, 0 ≤ a → a < i → 0 ≤ b → b ≤ t.nf → -1073741824 ≤ pcell t (row + 1) (col + 1) a b ∧ pcell t (row + 1) (col + 1) a b ≤ 1073741824) ∧ ∀ b, 0 ≤ b → b < j → -1073741824 ≤ pcell t (row + 1) (col + 1) i b ∧ pcell t (row + 1) (col + 1) i b ≤ 1073741824)) ∧ (∀ b, 0 ≤ b → b < j → divs t (row + 1) (col + 1) i b) ∧ (∀ b, 0 ≤ b → b < j → fl b = (piv t row col).C i b) ∧ (Slh wl nl) ∧ M = [(3, .pointer (some ⟨g1, 0, none⟩)), (6, .pointer (some ⟨g2, 0, none⟩)), (8, .int .i64 (row + 1)), (9, .int .i64 (col + 1)), (10, .int .i64 1), (11, .pointer (some ⟨g3, 0, none⟩)), (12, B (sn)), (13, .int .i64 i), (14, wl), (15, .int .i64 j)] ∧ Sat w0 w [.blk g1 [.int .i64 t.vars, .int .i64 t.den, vB, vF, vC], .blk g2 [.int .i64 0, .int .i64 0, .slice none 0 0, .slice none 0 0, .slice none 0 0], .own v2 1 3 t.nb (ints (upd (cat 0 (fun _ => 0) t.B) row (t.F col))), .own v4 1 3 t.nf (ints (upd (cat 0 (fun _ => 0) t.F) col (t.B row))), .blk g3 [.int .i64 t.vars, .int .i64 ((t.C (row + 1)) (col + 1)), v2, v4, wC], .own wC 1 22 nC wv, .sem (Frame.rows 3 nC wv t.ln ((piv t row col).C)), .own wl 1 3 nl (ints fl)]) ⟨sm, 0, 0, (.slice none 0 0), (fun _ => 0), rfl, (by omega), (by omega), (by omega), ?_, ?_, ?_, ?_, rfl, hS⟩ ?_
   ·
    exact ⟨fun h => ⟨hsm.1 h, fun b b0 b1 => by omega⟩, fun h => hsm.2 h.1⟩
   ·
    intro b b0 b1; omega
   ·
    intro b b0 b1; omega
   ·
    exact slh_nil
   clear hS w
   rintro mm M w ⟨sn, nl, j, wl, fl, rfl, j0, j1, hnl, hsn, hdr, hfl, hwl, rfl, hS⟩
   refine zsq <| zsr ?_
   refine zlv xmv ?_
   refine zlv (xfb 4 fd_25_4) ?_
   refine zlv (xlb 0 pl_23 hS) ?_
   have hli := hp.len (i := i) (by omega) (by omega)
   refine zlv xmv ?_
   refine zlv (xix (kk := i) sl_23 hT.C.row.slh) ?_
   refine zlv (xlr (u := (vv i)) pl_22 (hT.C.row.below hS.below)) ?_
   refine zlv (xln sl_22 (hT.C.p i (by omega) (by omega)).slh) ?_
   refine zlv xlss ?_
   refine zlt ?_
   refine zcif ?_ ?_ <;> intro hc
   ·
    refine zsk <| ztn <| zsq <| zbk <| zsr ?_
    refine zlv (xls 0 st_25 hS) ?_
    refine zs4 ?_
    refine zlc (xc0 cl_134) (c_cell (t := t) (i := i) (j := j) (r := (row + 1)) (s := (col + 1)) w (hT.below hS.below) hp (by omega) (by omega) (by omega) (by omega) (by omega) (by omega) (by omega) (by omega)) ?_; rintro _ w ⟨nn1, _, rfl, hnn1, rfl, hS'⟩
    replace hS := hS.cmp hS'; clear hS'
    refine zs2 ?_
    have hpcb := pcell_bd hp (r := row + 1) (s := col + 1) (i := i) (j := j) (by omega) (by omega) (by omega) (by omega) (by omega) (by omega) (by omega) (by omega); rw [← hnn1] at hpcb
    refine zs3 ?_
    refine zlt <| zsq <| zsr ?_
    refine zs2 ?_
    refine zlt ?_
    refine zcif ?_ ?_ <;> intro hc
    ·
     refine zsr ?_
     refine zlv (xany (v := .agg #[.int .i64 0, .int .i64 0, .slice none 0 0, .slice none 0 0, .slice none 0 0])) ?_
     refine zle (xsw 1 st_25 hS) ?_; clear hS; rintro w hS
     replace hS := hS.n8
     refine zlv xas ?_
     refine zlt <| zrt <| ztr <| zbr <| ztr <| ztr <| zbr <| ztr <| zbr <| ztr <| ztr <| zbr <| ztr <| zfct 1 st_25 hS ⟨_, rfl, ?_⟩
     exact ⟨_, _, _, fun _ => undef, Tb.zero, 4, rfl, .inr (.inl ⟨⟨hp, by omega, by omega, by omega, by omega, hnz⟩, fun hd => absurd (hd i j (by omega) (by omega) (by omega) (by omega)) ‹_›, rfl, rfl⟩), slh_nil, slh_nil, slh_nil, ((((hS.sub (.cons _ (.cons _ (.cons _ (.cons _ (.cons _ (.cons _ (.cons _ (.cons _ .slnil))))))))).addnil 1 3 (ints Tb.zero.B)).addnil 1 3 (ints Tb.zero.F)).addnil 1 22 (fun _ => undef)).addrows 3 (fun _ => undef) Tb.zero.ln Tb.zero.C⟩
    refine zsk <| ztn <| zsr ?_
    refine zs2 ?_
    refine zlb 139 ?_ ?_ <;> intro hc
    ·
     refine zs4 ?_
     refine zlb 143 ?_ ?_ <;> intro hc
     ·
      refine zs4 ?_
      refine zlt <| zrg ?_
      refine zs3 ?_
      refine zlv (xmul (r := nn1)) ?_
      refine zla (xli (n := 1) (len := 1) (pv := [(0, .int .i64 nn1)]) (cs := [.int .i64 nn1]) (c := ints (fun _ => nn1)) sl_22 el_3 hS) ?_; rintro v5 w ⟨hS, hv5⟩
      replace hS := hS.n9
      refine zla (xap 7 (r := nl + 1) sl_22 el_3 hS (hS.rowN 8 rfl) (cat_snoc _ _ _)) ?_; rintro v6 w ⟨hS, hv6⟩
      replace hS := hS.n9
      refine zlv xas ?_
      refine zln <| zbn <| ztn <| zrg ?_
      refine zlv xmv ?_
      refine zlv (xadd (r := j + 1)) ?_
      refine zlv xas ?_
      refine zln <| zlq ⟨nn1 ≤ 1073741824, nl + 1, j + 1, v6, (snoc fl nl nn1), rfl, (by omega), (by omega), (by omega), ?_, ?_, ?_, ?_, rfl, hS.pk [0, 1, 2, 3, 4, 5, 6, 7]⟩
      ·
       constructor
       · intro hx
         first
         | exact hx.elim
         | exact ⟨(hsn.1 (by assumption)).1, fun b b0 b1 => by
           by_cases e : b = j
           · rw [e]; omega
           · exact (hsn.1 (by assumption)).2 b b0 (by omega)⟩
       · rintro ⟨h1, h2⟩
         have h3 := h2 j j0 (by omega)
         first
         | omega
         | exact absurd (hsn.2 ⟨h1, fun b b0 b1 => h2 b b0 (by omega)⟩) (by assumption)
      ·
       have hdq : divs t (row + 1) (col + 1) i j := by first | assumption | exact Classical.not_not.1 ‹_›
       intro b b0 b1
       by_cases e : b = j
       · rw [e]; exact hdq
       · exact hdr b b0 (by omega)
      ·
       intro b b0 b1; by_cases e : b < nl
       · rw [snoc_lt e]; exact hfl b b0 (by omega)
       · obtain rfl : b = j := by omega
         rw [snoc_at e, piv_C, hsg, ← hnn1]; omega
      ·
       exact hv6
     iterate 2 refine zlo ?_
     refine zs2 ?_
     refine zlas 12 (u := B (False)) (B_false not_false).symm ?_
     refine zlt <| zrg ?_
     refine zs3 ?_
     refine zlv (xmul (r := nn1)) ?_
     refine zla (xli (n := 1) (len := 1) (pv := [(0, .int .i64 nn1)]) (cs := [.int .i64 nn1]) (c := ints (fun _ => nn1)) sl_22 el_3 hS) ?_; rintro v7 w ⟨hS, hv7⟩
     replace hS := hS.n9
     refine zla (xap 7 (r := nl + 1) sl_22 el_3 hS (hS.rowN 8 rfl) (cat_snoc _ _ _)) ?_; rintro v8 w ⟨hS, hv8⟩
     replace hS := hS.n9
     refine zlv xas ?_
     refine zln <| zbn <| ztn <| zrg ?_
     refine zlv xmv ?_
     refine zlv (xadd (r := j + 1)) ?_
     refine zlv xas ?_
     refine zln <| zlq ⟨False, nl + 1, j + 1, v8, (snoc fl nl nn1), rfl, (by omega), (by omega), (by omega), ?_, ?_, ?_, ?_, rfl, hS.pk [0, 1, 2, 3, 4, 5, 6, 7]⟩
     ·
      constructor
      · intro hx
        first
        | exact hx.elim
        | exact ⟨(hsn.1 (by assumption)).1, fun b b0 b1 => by
          by_cases e : b = j
          · rw [e]; omega
          · exact (hsn.1 (by assumption)).2 b b0 (by omega)⟩
      · rintro ⟨h1, h2⟩
        have h3 := h2 j j0 (by omega)
        first
        | omega
        | exact absurd (hsn.2 ⟨h1, fun b b0 b1 => h2 b b0 (by omega)⟩) (by assumption)
     ·
      have hdq : divs t (row + 1) (col + 1) i j := by first | assumption | exact Classical.not_not.1 ‹_›
      intro b b0 b1
      by_cases e : b = j
      · rw [e]; exact hdq
      · exact hdr b b0 (by omega)
     ·
      intro b b0 b1; by_cases e : b < nl
      · rw [snoc_lt e]; exact hfl b b0 (by omega)
      · obtain rfl : b = j := by omega
        rw [snoc_at e, piv_C, hsg, ← hnn1]; omega
     ·
      exact hv8
    iterate 2 refine zlo ?_
    refine zs2 ?_
    iterate 2 refine zlo ?_
    refine zs2 ?_
    refine zlas 12 (u := B (False)) (B_false not_false).symm ?_
    refine zlt <| zrg ?_
    refine zs3 ?_
    refine zlv (xmul (r := nn1)) ?_
    refine zla (xli (n := 1) (len := 1) (pv := [(0, .int .i64 nn1)]) (cs := [.int .i64 nn1]) (c := ints (fun _ => nn1)) sl_22 el_3 hS) ?_; rintro v9 w ⟨hS, hv9⟩
    replace hS := hS.n9
    refine zla (xap 7 (r := nl + 1) sl_22 el_3 hS (hS.rowN 8 rfl) (cat_snoc _ _ _)) ?_; rintro v10 w ⟨hS, hv10⟩
    replace hS := hS.n9
    refine zlv xas ?_
    refine zln <| zbn <| ztn <| zrg ?_
    refine zlv xmv ?_
    refine zlv (xadd (r := j + 1)) ?_
    refine zlv xas ?_
    refine zln <| zlq ⟨False, nl + 1, j + 1, v10, (snoc fl nl nn1), rfl, (by omega), (by omega), (by omega), ?_, ?_, ?_, ?_, rfl, hS.pk [0, 1, 2, 3, 4, 5, 6, 7]⟩
    ·
     constructor
     · intro hx
       first
       | exact hx.elim
       | exact ⟨(hsn.1 (by assumption)).1, fun b b0 b1 => by
         by_cases e : b = j
         · rw [e]; omega
         · exact (hsn.1 (by assumption)).2 b b0 (by omega)⟩
     · rintro ⟨h1, h2⟩
       have h3 := h2 j j0 (by omega)
       first
       | omega
       | exact absurd (hsn.2 ⟨h1, fun b b0 b1 => h2 b b0 (by omega)⟩) (by assumption)
    ·
     have hdq : divs t (row + 1) (col + 1) i j := by first | assumption | exact Classical.not_not.1 ‹_›
     intro b b0 b1
     by_cases e : b = j
     · rw [e]; exact hdq
     · exact hdr b b0 (by omega)
    ·
     intro b b0 b1; by_cases e : b < nl
     · rw [snoc_lt e]; exact hfl b b0 (by omega)
     · obtain rfl : b = j := by omega
       rw [snoc_at e, piv_C, hsg, ← hnn1]; omega
    ·
     exact hv10
   refine zxt <| ztx <| ztx <| zbh <| ztn <| zrg ?_
   refine zlv (xfb 4 fd_25_4) ?_
   refine zlv (xlb 4 pl_23 hS) ?_
   refine zlv xmv ?_
   refine zla (xli (n := 1) (len := 1) (pv := [(0, wl)]) (cs := [wl]) (c := (fun _ => wl)) sl_23 el_22 hS (hf := by obtain ⟨_, _, _, _, rfl, _⟩ := hwl; kernel_rfl)) ?_; rintro v11 w ⟨hS, hv11⟩
   replace hS := hS.n9
   refine zla (xap 5 (r := nC + 1) sl_23 el_22 hS (hS.rowN 8 rfl) (cat_gsn _ _ _) (h1 := fun _ _ _ => hwl.one)) ?_; rintro v12 w ⟨hS, hv12⟩
   replace hS := hS.n9
   replace hS := Sat.merge (l1 := [_, _, _, _, _, _]) (l2 := []) (l3 := [_]) hS (by omega)
   have hrs4 := fun k (k0 : 0 ≤ k) (k1 : k < nC + 1) => hS.slhIn 6 rfl k0 k1
   replace hS := hS.n8
   replace hS := hS.rerows (vv' := gsn wv nC wl) (ln' := t.ln) (f' := (piv t row col).C) 6 rfl (fun k k0 k1 => by
     by_cases e : k < i
     · exact ⟨rfl, gsn_lt (by omega), fun j _ _ => by rw [gsn_lt (by omega)]⟩
     · have hki : k = i := by omega
       refine ⟨rfl, ?_, fun b b0 b1 => ?_⟩
       · rw [gsn_at (by omega), hki]; omega
       · rw [gsn_at (by omega), hki]; exact hfl b b0 (by rw [gsn_at (by omega)] at b1; omega))
   replace hS := hS.n8
   have hrs4x := fun k (k0 : 0 ≤ k) (k1 : k < nC + 1) => hS.slhIn 6 rfl k0 k1
   refine zlv (xfb 4 fd_25_4) ?_
   refine zle (xsb 4 pl_23 hS (hv := hv12.one)) ?_; clear hS; rintro w hS
   replace hS := hS.n8
   refine zln <| zbn <| ztn <| zrg ?_
   refine zlv xmv ?_
   refine zlv (xadd (r := i + 1)) ?_
   refine zlv xas ?_
   refine zln <| zlq ⟨sn, nC + 1, gsn wv nC wl, i + 1, v12, rfl, (by omega), (by omega), (by omega), ?_, ?_, ?_, rfl, hS.pk [0, 1, 2, 3, 4, 5, 6]⟩
   ·
    exact hsn.trans ⟨fun ⟨h1, h2⟩ a b a0 a1 b0 b1 => by
     by_cases e : a = i
     · rw [e]; exact h2 b b0 (by omega)
     · exact h1 a b a0 (by omega) b0 b1, fun h => ⟨fun a b a0 a1 b0 b1 => h a b a0 (by omega) b0 b1, fun b b0 b1 => h i b h0 (by omega) b0 (by omega)⟩⟩
   ·
    intro a b a0 a1 b0 b1
    by_cases e : a = i
    · subst e; exact hdr b b0 (by omega)
    · exact hdv a b a0 (by omega) b0 b1
   ·
    exact hv12
  refine zxt <| ztx <| ztx <| zbh <| ztn <| zsq <| zsr ?_
  refine zs2 ?_
  refine zlt ?_
  refine zcif ?_ ?_ <;> intro hc
  ·
   refine zsr ?_
   refine zlv (xany (v := .agg #[.int .i64 0, .int .i64 0, .slice none 0 0, .slice none 0 0, .slice none 0 0])) ?_
   refine zle (xsw 1 st_25 hS) ?_; clear hS; rintro w hS
   replace hS := hS.n7
   refine zlv xas ?_
   refine zlt <| zrt <| ztr <| zfct 1 st_25 hS ⟨_, rfl, ?_⟩
   exact ⟨_, _, _, fun _ => undef, Tb.zero, 2, rfl, .inr (.inr (.inl ⟨⟨hp, by omega, by omega, by omega, by omega, hnz⟩, fun a b a0 a1 b0 b1 => hdv a b a0 (by omega) b0 b1, fun hq => absurd (hsm.2 fun a b a0 a1 b0 b1 => by have hq1 := hq.cell (i := a) (j := b) a0 (by show a ≤ t.nb; omega) b0 b1; rw [piv_C, hsg] at hq1; omega) ‹_›, rfl, rfl⟩)), slh_nil, slh_nil, slh_nil, ((((hS.sub (.cons _ (.cons _ (.cons _ (.cons _ (.cons _ (.cons _ (.cons _ .slnil)))))))).addnil 1 3 (ints Tb.zero.B)).addnil 1 3 (ints Tb.zero.F)).addnil 1 22 (fun _ => undef)).addrows 3 (fun _ => undef) Tb.zero.ln Tb.zero.C⟩
  refine zsk <| ztn <| zsr ?_
  refine zlv (xls 4 st_25 hS) ?_
  refine zle (xsw 1 st_25 hS (hd := (ones_cons rfl (ones_cons rfl (ones_cons hv2.one (ones_cons hv4.one (ones_cons hwC.one ones_nil))))))) ?_; clear hS; rintro w hS
  replace hS := hS.n7
  refine zlv xas ?_
  refine zlt <| zrt <| zfct 1 st_25 hS ⟨_, rfl, ?_⟩
  obtain rfl : i = t.nc := by omega
  have hden : ((t.C (row + 1)) (col + 1)) = (piv t row col).den := by rw [piv_den, hsg]; omega
  replace hS := hS.recont 2 rfl (d := ints (piv t row col).B) (fun k k0 k1 => by unfold ints; show Value.int .i64 (upd (cat 0 (fun _ => 0) t.B) row (t.F col) k) = Value.int .i64 (upd t.B row (t.F col) k); congr 1; by_cases e : k = row; rw [e, upd_self, upd_self]; rw [upd_ne _ _ e, upd_ne _ _ e]; unfold cat; rw [if_neg (by omega), Int.sub_zero])
  replace hS := hS.recont 3 rfl (d := ints (piv t row col).F) (fun k k0 k1 => by unfold ints; show Value.int .i64 (upd (cat 0 (fun _ => 0) t.F) col (t.B row) k) = Value.int .i64 (upd t.F col (t.B row) k); congr 1; by_cases e : k = col; rw [e, upd_self, upd_self]; rw [upd_ne _ _ e, upd_ne _ _ e]; unfold cat; rw [if_neg (by omega), Int.sub_zero])
  have hsm1 := hsm.1 (by first | assumption | exact Classical.not_not.1 ‹_›)
  subst hnC
  exact ⟨_, _, _, _, piv t row col, 0, by rw [← hden]; rfl, .inr (.inr (.inr ⟨⟨hp, by omega, by omega, by omega, by omega, hnz⟩, fun a b a0 a1 b0 b1 => hdv a b a0 (by omega) b0 b1, piv_prp ⟨hp, by omega, by omega, by omega, by omega, hnz⟩ (fun a b a0 a1 b0 b1 => hsm1 a b a0 (by omega) b0 b1), rfl, rfl⟩)), hv2, hv4, hwC, hS.pk [2, 3, 5, 6]⟩

end Go.Proofs.Ytelfplepnodbgaa
