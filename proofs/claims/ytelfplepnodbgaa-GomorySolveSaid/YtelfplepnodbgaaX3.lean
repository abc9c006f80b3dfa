/- The walks of Add, of gomory and of the reference. -/
import Derived.Test.YtelfplepnodbgaaGc
import Derived.Test.YtelfplepnodbgaaX2
namespace Go.Proofs.Ytelfplepnodbgaa
open Go Go.RowKit Go.Proofs.Gw
set_option linter.unusedVariables false

theorem cl_18 : calledT Try.prog 18 = true := by kernel_rfl
theorem cl_19 : calledT Try.prog 19 = true := by kernel_rfl
set_option maxRecDepth 20000 in
theorem c_add {vB vF vC : Value} {vv : Int → Value} {t : Tb} {row : Int} (w0 : World) (hT : TAt w0 vB vF vC vv t) (hrow0 : -9223372036854775808 ≤ row ∧ row ≤ 9223372036854775807) :
    Calls Try.prog 20 [.agg #[.int .i64 t.vars, .int .i64 t.den, vB, vF, vC], .int .i64 row].toArray w0 fun e w => ∃ v, e = .returned v ∧ ∃ vB vF vC vv t' e, v = .tuple #[.agg #[.int .i64 t'.vars, .int .i64 t'.den, vB, vF, vC], .int .i64 e] ∧ AddR t row t' e ∧ Slh vB t'.nb ∧ Slh vF t'.nf ∧ Slh vC t'.nc ∧ Sat w0 w [.own vB 1 3 t'.nb (ints t'.B), .own vF 1 3 t'.nf (ints t'.F), .own vC 1 22 t'.nc vv, .sem (Frame.rows 3 t'.nc vv t'.ln t'.C)] := by
  have hn := hT.F.slh.n0; have hn1 := hT.F.slh.n1; have hb := hT.B.slh.n0; have hb1 := hT.B.slh.n1; have hc0 := hT.C.row.slh.n0; have hc1 := hT.C.row.slh.n1
  refine zenG Try.func20 Try.ntmps20 fun w hS => ?_
  refine zsq <| zrg ?_
  refine zla (xbx (cs := [_, _, _, _, _]) hS) ?_; rintro _ w ⟨g1, rfl, hS⟩
  replace hS : Sat w0 w [.blk _ [_, _, _, _, _]] := hS
  refine zla (xal (cs := [_, _, _, _, _]) el_28 hS) ?_; rintro _ w ⟨g2, rfl, hS⟩
  replace hS : Sat w0 w [.blk _ [_, _, _, _, _], .blk _ [_, _, _, _, _]] := hS
  refine zlv xas ?_
  refine zln <| ztn <| zsq <| zrg ?_
  refine zlv (xls 0 st_28 hS) ?_
  refine zlv xmv ?_
  refine zlc (xc0 cl_18) (c_cut (t := t) (row := row) w (hT.below hS.below) (by omega)) ?_; rintro _ w ⟨vc1, nc1, fc1, ec1, rfl, hcuc1, hslc1, hS'⟩
  replace hS : Sat w0 w [.blk g1 [.int .i64 t.vars, .int .i64 t.den, vB, vF, vC], .blk g2 [.int .i64 0, .int .i64 0, .slice none 0 0, .slice none 0 0, .slice none 0 0], .own vc1 1 3 nc1 (ints fc1)] := hS.comp hS'; clear hS'
  refine zlv xmv ?_
  iterate 2 refine zlv xex ?_
  iterate 2 refine zlv xas ?_
  refine zln <| ztn <| zsq <| zbk <| zsq <| zrg ?_
  refine zlv xmv ?_
  refine zlv xneq ?_
  refine zlv xas ?_
  refine zln <| ztn ?_
  refine zcif ?_ ?_ <;> intro hc
  ·
   refine zsq <| zrg ?_
   refine zlv (xany (v := .agg #[.int .i64 0, .int .i64 0, .slice none 0 0, .slice none 0 0, .slice none 0 0])) ?_
   refine zlv xmv ?_
   refine zle (xsw 1 st_28 hS) ?_; clear hS; rintro w hS
   replace hS : Sat w0 w [.blk _ [_, _, _, _, _], .blk _ [_, _, _, _, _], _] := hS
   refine zlv xas ?_
   refine zln <| ztn <| zrt <| zbr <| ztr <| zfct 1 st_28 hS ⟨_, rfl, ?_⟩
   exact ⟨_, _, _, fun _ => undef, Tb.zero, _, rfl, hcuc1.bad (by omega), slh_nil, slh_nil, slh_nil, ((((hS.sub (.cons _ (.cons _ (.cons _ .slnil)))).addnil 1 3 (ints Tb.zero.B)).addnil 1 3 (ints Tb.zero.F)).addnil 1 22 (fun _ => undef)).addrows 3 (fun _ => undef) Tb.zero.ln Tb.zero.C⟩
  ·
   refine zsq <| zrg ?_
   refine zlv (xfb 2 fd_28_2) ?_
   obtain ⟨hp, hr0, hr1, hmd, hcn, hcf⟩ := hcuc1.full (by omega)
   have b1 := hp.n1
   have b2 := hp.n2
   have b3 := hp.m2
   have b4 := hp.v
   have b5 := hp.d1
   have b6 := hp.d2
   have b7 := hp.c
   refine zlv (xlb 0 pl_22 hS) ?_
   refine zlv (xln sl_22 hT.B.slh) ?_
   refine zlv xeql ?_
   refine zlv xas ?_
   refine zln <| ztn ?_
   refine zcif ?_ ?_ <;> intro hc
   ·
    refine zsq <| zrg ?_
    refine zlv (xany (v := .agg #[.int .i64 0, .int .i64 0, .slice none 0 0, .slice none 0 0, .slice none 0 0])) ?_
    refine zle (xsw 1 st_28 hS) ?_; clear hS; rintro w hS
    replace hS : Sat w0 w [.blk _ [_, _, _, _, _], .blk _ [_, _, _, _, _], _] := hS
    refine zlv xas ?_
    refine zln <| ztn <| zrt <| zbr <| ztr <| zfct 1 st_28 hS ⟨_, rfl, ?_⟩
    exact ⟨_, _, _, fun _ => undef, Tb.zero, 9, rfl, .inr (.inr (.inr (.inl ⟨hp, hr0, hr1, hmd, by omega, rfl, rfl⟩))), slh_nil, slh_nil, slh_nil, ((((hS.sub (.cons _ (.cons _ (.cons _ .slnil)))).addnil 1 3 (ints Tb.zero.B)).addnil 1 3 (ints Tb.zero.F)).addnil 1 22 (fun _ => undef)).addrows 3 (fun _ => undef) Tb.zero.ln Tb.zero.C⟩
   ·
    refine zsk <| zbn <| ztn <| zsq <| ?_
    refine zgcut (fun M w => ∃ (g3 : Nat) (vq1 : Value), (Slh vq1 t.nf) ∧ M = [(0, .agg #[.int .i64 t.vars, .int .i64 t.den, vB, vF, vC]), (1, .int .i64 row), (2, .pointer (some ⟨g1, 0, none⟩)), (4, .pointer (some ⟨g2, 0, none⟩)), (5, .int .i64 0), (12, .agg #[.int .i64 t.vars, .int .i64 t.den, vB, vF, vC]), (13, .int .i64 row), (14, .tuple #[vc1, .int .i64 ec1]), (11, .tuple #[vc1, .int .i64 ec1]), (15, vc1), (16, .int .i64 ec1), (6, vc1), (7, .int .i64 ec1), (18, .int .i64 ec1), (19, B (ec1 ≠ 0)), (17, B (ec1 ≠ 0)), (23, .pointer (some ⟨g1, 2, none⟩)), (24, vB), (25, .int .i64 t.nb), (26, B (t.nb = 16)), (22, B (t.nb = 16)), (28, .pointer (some ⟨g1, 0, none⟩)), (29, .int .i64 t.vars), (30, .pointer (some ⟨g1, 1, none⟩)), (31, .int .i64 t.den), (32, .pointer (some ⟨g1, 3, none⟩)), (33, vF), (34, vq1), (35, .agg #[.int .i64 t.vars, .int .i64 t.den, .slice none 0 0, vq1, .slice none 0 0]), (8, .pointer (some ⟨g3, 0, none⟩))] ∧ Sat w0 w [.blk g1 [.int .i64 t.vars, .int .i64 t.den, vB, vF, vC], .blk g2 [.int .i64 0, .int .i64 0, .slice none 0 0, .slice none 0 0, .slice none 0 0], .own vc1 1 3 nc1 (ints fc1), .own vq1 1 3 t.nf (ints t.F), .blk g3 [.int .i64 t.vars, .int .i64 t.den, .slice none 0 0, vq1, .slice none 0 0]]) ?_ ?_
    ·
     refine zdst [0, 1, 2] [0, 1, 2] 9 mx_ hS ?_; clear hS; intro w hS
     refine zdv 0 (fun _ => (xfb 0 fd_28_0)) ?_
     refine zdla 1 (fun w hS => (xlb 0 pl_3 hS)) ?_
     refine zdv 2 (fun _ => (xfb 1 fd_28_1)) ?_
     refine zdla 3 (fun w hS => (xlb 0 pl_3 hS)) ?_
     refine zdv 4 (fun _ => (xfb 3 fd_28_3)) ?_
     refine zdla 5 (fun w hS => (xlb 0 pl_22 hS)) ?_
     refine zdfk (r := [6, 8]) ((zdn1 ?_ (zdn1 ?_ zdn0)))
     ·
      refine zkc (xc0 cl_65) (c_clone (n := t.nf) (f := t.F) w (hT.F.below hS.below) (by omega)) ?_; rintro vq1 w ⟨_, rfl, hslq1, hS'⟩
      replace hS : Sat w0 w [.blk g1 [.int .i64 t.vars, .int .i64 t.den, vB, vF, vC], .blk g2 [.int .i64 0, .int .i64 0, .slice none 0 0, .slice none 0 0, .slice none 0 0], .own vc1 1 3 nc1 (ints fc1), .own vq1 1 3 t.nf (ints t.F)] := hS.comp hS'; clear hS'
      refine ⟨⟨fun _ => hS.pk [0, 1, 2], hS.pk [0, 1, 2]⟩, ?_⟩
      refine zdv 7 (fun _ => (xany (v := .agg #[.int .i64 t.vars, .int .i64 t.den, .slice none 0 0, vq1, .slice none 0 0]) (hr := by obtain ⟨_, _, _, _, rfl, _⟩ := hslq1; kernel_rfl))) ?_
      refine zda 8 (xal (cs := [_, _, _, _, _]) el_28 hS) ?_; rintro _ w ⟨g3, rfl, hS⟩
      replace hS : Sat w0 w [.blk _ [_, _, _, _, _], .blk _ [_, _, _, _, _], _, _, .blk _ [_, _, _, _, _]] := hS
      refine ⟨⟨fun _ => hS.pk [0, 1, 2], hS.pk [0, 1, 2]⟩, ?_⟩
      refine zde 9 (xsw 4 st_28 hS (hd := (ones_cons rfl (ones_cons rfl (ones_cons rfl (ones_cons hslq1.one (ones_cons rfl ones_nil))))))) ?_; clear hS; rintro w hS
      replace hS : Sat w0 w [.blk _ [_, _, _, _, _], .blk _ [_, _, _, _, _], _, _, .blk _ [_, _, _, _, _]] := hS
      refine ⟨⟨fun h => absurd h (by decide), hS.pk [0, 1, 2]⟩, ?_⟩
      refine zdd <| zgj ⟨g3, vq1, hslq1, rfl, hS⟩
     ·
      refine zka (xal (cs := [_, _, _, _, _]) el_28 hS) ?_; rintro _ w ⟨g3, rfl, hS⟩
      replace hS : Sat w0 w [.blk _ [_, _, _, _, _], .blk _ [_, _, _, _, _], _, .blk _ [_, _, _, _, _]] := hS
      refine ⟨⟨fun _ => hS.pk [0, 1, 2], hS.pk [0, 1, 2]⟩, ?_⟩
      refine zdc 6 (xc0 cl_65) (c_clone (n := t.nf) (f := t.F) w (hT.F.below hS.below) (by omega)) ?_; rintro vq1 w ⟨_, rfl, hslq1, hS'⟩
      replace hS : Sat w0 w [.blk g1 [.int .i64 t.vars, .int .i64 t.den, vB, vF, vC], .blk g2 [.int .i64 0, .int .i64 0, .slice none 0 0, .slice none 0 0, .slice none 0 0], .own vc1 1 3 nc1 (ints fc1), .blk g3 [.int .i64 0, .int .i64 0, .slice none 0 0, .slice none 0 0, .slice none 0 0], .own vq1 1 3 t.nf (ints t.F)] := hS.comp hS'; clear hS'
      refine ⟨⟨fun _ => hS.pk [0, 1, 2], hS.pk [0, 1, 2]⟩, ?_⟩
      refine zdv 7 (fun _ => (xany (v := .agg #[.int .i64 t.vars, .int .i64 t.den, .slice none 0 0, vq1, .slice none 0 0]) (hr := by obtain ⟨_, _, _, _, rfl, _⟩ := hslq1; kernel_rfl))) ?_
      refine zde 9 (xsw 3 st_28 hS (hd := (ones_cons rfl (ones_cons rfl (ones_cons rfl (ones_cons hslq1.one (ones_cons rfl ones_nil))))))) ?_; clear hS; rintro w hS
      replace hS : Sat w0 w [.blk _ [_, _, _, _, _], .blk _ [_, _, _, _, _], _, .blk _ [_, _, _, _, _], _] := hS
      refine ⟨⟨fun h => absurd h (by decide), hS.pk [0, 1, 2]⟩, ?_⟩
      refine zdd <| zgj ⟨g3, vq1, hslq1, rfl, hS.pk [0, 1, 2, 4, 3]⟩
    ·
     clear hS w; rintro M w ⟨g3, vq1, hslq1, rfl, hS⟩
     refine ztn <| zsq <| ?_
     refine zgcut (fun M w => ∃ (vq2 : Value) (v1 : Value) (v2 : Value), (Slh vq2 t.nb) ∧ (Slh v1 1) ∧ (Slh v2 (t.nb + 1)) ∧ M = [(0, .agg #[.int .i64 t.vars, .int .i64 t.den, vB, vF, vC]), (1, .int .i64 row), (2, .pointer (some ⟨g1, 0, none⟩)), (4, .pointer (some ⟨g2, 0, none⟩)), (5, .int .i64 0), (12, .agg #[.int .i64 t.vars, .int .i64 t.den, vB, vF, vC]), (13, .int .i64 row), (14, .tuple #[vc1, .int .i64 ec1]), (11, .tuple #[vc1, .int .i64 ec1]), (15, vc1), (16, .int .i64 ec1), (6, vc1), (7, .int .i64 ec1), (18, .int .i64 ec1), (19, B (ec1 ≠ 0)), (17, B (ec1 ≠ 0)), (23, .pointer (some ⟨g1, 2, none⟩)), (24, vB), (25, .int .i64 t.nb), (26, B (t.nb = 16)), (22, B (t.nb = 16)), (28, .pointer (some ⟨g1, 0, none⟩)), (29, .int .i64 t.vars), (30, .pointer (some ⟨g1, 1, none⟩)), (31, .int .i64 t.den), (32, .pointer (some ⟨g1, 3, none⟩)), (33, vF), (34, vq1), (35, .agg #[.int .i64 t.vars, .int .i64 t.den, .slice none 0 0, vq1, .slice none 0 0]), (8, .pointer (some ⟨g3, 0, none⟩)), (36, .pointer (some ⟨g1, 2, none⟩)), (37, vB), (39, .pointer (some ⟨g1, 2, none⟩)), (40, vB), (41, .int .i64 t.nb), (42, .pointer (some ⟨g1, 3, none⟩)), (43, vF), (44, .int .i64 t.nf), (45, .int .i64 (t.nb + t.nf)), (38, vq2), (46, v1), (47, v2), (48, .pointer (some ⟨g3, 2, none⟩))] ∧ Sat w0 w [.blk g1 [.int .i64 t.vars, .int .i64 t.den, vB, vF, vC], .blk g2 [.int .i64 0, .int .i64 0, .slice none 0 0, .slice none 0 0, .slice none 0 0], .own vc1 1 3 nc1 (ints fc1), .own vq1 1 3 t.nf (ints t.F), .blk g3 [.int .i64 t.vars, .int .i64 t.den, v2, vq1, .slice none 0 0], .own v2 1 3 (t.nb + 1) (ints (snoc t.B t.nb (t.nb + t.nf))), .own v1 1 3 1 (ints (fun _ => t.nb + t.nf))]) ?_ ?_
     ·
      refine zdst [0, 1, 4] [0, 1] 13 mx_ hS ?_; clear hS; intro w hS
      refine zdv 0 (fun _ => (xfb 2 fd_28_2)) ?_
      refine zdla 1 (fun w hS => (xlb 0 pl_22 hS)) ?_
      refine zdv 3 (fun _ => (xfb 2 fd_28_2)) ?_
      refine zdla 4 (fun w hS => (xlb 0 pl_22 hS)) ?_
      refine zdv 5 (fun _ => (xln sl_22 hT.B.slh)) ?_
      refine zdv 6 (fun _ => (xfb 3 fd_28_3)) ?_
      refine zdla 7 (fun w hS => (xlb 0 pl_22 hS)) ?_
      refine zdv 8 (fun _ => (xln sl_22 hT.F.slh)) ?_
      refine zdv 9 (fun _ => (xadd (r := t.nb + t.nf))) ?_
      refine zdfk (r := [2, 10]) ((zdn1 ?_ (zdn1 ?_ zdn0)))
      ·
       refine zkc (xc0 cl_65) (c_clone (n := t.nb) (f := t.B) w (hT.B.below hS.below) (by omega)) ?_; rintro vq2 w ⟨_, rfl, hslq2, hS'⟩
       replace hS : Sat w0 w [.blk g1 [.int .i64 t.vars, .int .i64 t.den, vB, vF, vC], .blk g2 [.int .i64 0, .int .i64 0, .slice none 0 0, .slice none 0 0, .slice none 0 0], .own vc1 1 3 nc1 (ints fc1), .own vq1 1 3 t.nf (ints t.F), .blk g3 [.int .i64 t.vars, .int .i64 t.den, .slice none 0 0, vq1, .slice none 0 0], .own vq2 1 3 t.nb (ints t.B)] := hS.comp hS'; clear hS'
       refine ⟨⟨fun _ => hS.pk [0, 1, 4], hS.pk [0, 1]⟩, ?_⟩
       refine zda 10 (xli (n := 1) (len := 1) (pv := [(0, .int .i64 (t.nb + t.nf))]) (cs := [.int .i64 (t.nb + t.nf)]) (c := ints (fun _ => t.nb + t.nf)) sl_22 el_3 hS) ?_; rintro v1 w ⟨hS, hv1⟩
       replace hS : Sat w0 w [.blk _ [_, _, _, _, _], .blk _ [_, _, _, _, _], _, _, .blk _ [_, _, _, _, _], _, _] := hS
       refine ⟨⟨fun _ => hS.pk [0, 1, 4], hS.pk [0, 1]⟩, ?_⟩
       refine zda 11 (xap 5 (r := t.nb + 1) sl_22 el_3 hS (hS.rowN 6 rfl) (cat_snoc _ _ _)) ?_; rintro v2 w ⟨hS, hv2⟩
       replace hS : Sat w0 w [.blk _ [_, _, _, _, _], .blk _ [_, _, _, _, _], _, _, .blk _ [_, _, _, _, _], _, _] := hS
       refine ⟨⟨fun _ => hS.pk [0, 1, 4], hS.pk [0, 1]⟩, ?_⟩
       refine zdv 12 (fun _ => (xfb 2 fd_28_2)) ?_
       refine zde 13 (xsb 4 pl_22 hS (hv := hv2.one)) ?_; clear hS; rintro w hS
       replace hS : Sat w0 w [.blk _ [_, _, _, _, _], .blk _ [_, _, _, _, _], _, _, .blk _ [_, _, _, _, _], _, _] := hS
       refine ⟨⟨fun h => absurd h (by decide), hS.pk [0, 1]⟩, ?_⟩
       refine zdd <| zgj ⟨vq2, v1, v2, hslq2, hv1, hv2, rfl, hS⟩
      ·
       refine zka (xli (n := 1) (len := 1) (pv := [(0, .int .i64 (t.nb + t.nf))]) (cs := [.int .i64 (t.nb + t.nf)]) (c := ints (fun _ => t.nb + t.nf)) sl_22 el_3 hS) ?_; rintro v1 w ⟨hS, hv1⟩
       replace hS : Sat w0 w [.blk _ [_, _, _, _, _], .blk _ [_, _, _, _, _], _, _, .blk _ [_, _, _, _, _], _] := hS
       refine ⟨⟨fun _ => hS.pk [0, 1, 4], hS.pk [0, 1]⟩, ?_⟩
       refine zdc 2 (xc0 cl_65) (c_clone (n := t.nb) (f := t.B) w (hT.B.below hS.below) (by omega)) ?_; rintro vq2 w ⟨_, rfl, hslq2, hS'⟩
       replace hS : Sat w0 w [.blk g1 [.int .i64 t.vars, .int .i64 t.den, vB, vF, vC], .blk g2 [.int .i64 0, .int .i64 0, .slice none 0 0, .slice none 0 0, .slice none 0 0], .own vc1 1 3 nc1 (ints fc1), .own vq1 1 3 t.nf (ints t.F), .blk g3 [.int .i64 t.vars, .int .i64 t.den, .slice none 0 0, vq1, .slice none 0 0], .own v1 1 3 1 (ints (fun _ => t.nb + t.nf)), .own vq2 1 3 t.nb (ints t.B)] := hS.comp hS'; clear hS'
       refine ⟨⟨fun _ => hS.pk [0, 1, 4], hS.pk [0, 1]⟩, ?_⟩
       refine zda 11 (xap 6 (r := t.nb + 1) sl_22 el_3 hS (hS.rowN 5 rfl) (cat_snoc _ _ _)) ?_; rintro v2 w ⟨hS, hv2⟩
       replace hS : Sat w0 w [.blk _ [_, _, _, _, _], .blk _ [_, _, _, _, _], _, _, .blk _ [_, _, _, _, _], _, _] := hS
       refine ⟨⟨fun _ => hS.pk [0, 1, 4], hS.pk [0, 1]⟩, ?_⟩
       refine zdv 12 (fun _ => (xfb 2 fd_28_2)) ?_
       refine zde 13 (xsb 4 pl_22 hS (hv := hv2.one)) ?_; clear hS; rintro w hS
       replace hS : Sat w0 w [.blk _ [_, _, _, _, _], .blk _ [_, _, _, _, _], _, _, .blk _ [_, _, _, _, _], _, _] := hS
       refine ⟨⟨fun h => absurd h (by decide), hS.pk [0, 1]⟩, ?_⟩
       refine zdd <| zgj ⟨vq2, v1, v2, hslq2, hv1, hv2, rfl, hS.pk [0, 1, 2, 3, 4, 6, 5]⟩
     ·
      clear hS w; rintro M w ⟨vq2, v1, v2, hslq2, hv1, hv2, rfl, hS⟩
      refine ztn <| zsq <| zsq <| zrg ?_
      refine zlv (xfb 4 fd_28_4) ?_
      refine zlv (xlb 0 pl_23 hS) ?_
      refine zlv (xln sl_23 hT.C.row.slh) ?_
      refine zlv xmv ?_
      refine zln <| ztn <| zbk ?_
      replace hS := hS.addnil 1 22 (fun _ => Value.slice none 0 0)
      replace hS : Sat w0 w [.blk _ [_, _, _, _, _], .blk _ [_, _, _, _, _], _, _, .blk _ [_, _, _, _, _], _, _, _] := hS
      replace hS := hS.addrows 3 (fun _ => Value.slice none 0 0) t.ln t.C
      replace hS : Sat w0 w [.blk _ [_, _, _, _, _], .blk _ [_, _, _, _, _], _, _, .blk _ [_, _, _, _, _], _, _, _, _] := hS
      replace hS : Sat w0 w [.blk _ [_, _, _, _, _], .blk _ [_, _, _, _, _], _, _, .blk _ [_, _, _, _, _], _, _, _, _] := hS
      have hrs0 := fun k (k0 : 0 ≤ k) (k1 : k < 0) => hS.slhIn 8 rfl k0 k1
      refine zlp (fun mm M w => ∃ (nC : Int) (wv : Int → Value) (i : Int) (wC : Value), mm = ((t.nc - i).toNat) ∧ (0 ≤ i) ∧ (i ≤ t.nc) ∧ (nC = i) ∧ (Slh wC nC) ∧ M = [(4, .pointer (some ⟨g2, 0, none⟩)), (5, .int .i64 0), (6, vc1), (8, .pointer (some ⟨g3, 0, none⟩)), (50, vC), (51, .int .i64 t.nc), (52, .int .i64 i)] ∧ Sat w0 w [.blk g1 [.int .i64 t.vars, .int .i64 t.den, vB, vF, vC], .blk g2 [.int .i64 0, .int .i64 0, .slice none 0 0, .slice none 0 0, .slice none 0 0], .own vc1 1 3 nc1 (ints fc1), .own vq1 1 3 t.nf (ints t.F), .blk g3 [.int .i64 t.vars, .int .i64 t.den, v2, vq1, wC], .own v2 1 3 (t.nb + 1) (ints (snoc t.B t.nb (t.nb + t.nf))), .own v1 1 3 1 (ints (fun _ => t.nb + t.nf)), .own wC 1 22 nC wv, .sem (Frame.rows 3 nC wv t.ln t.C)]) ⟨0, (fun _ => Value.slice none 0 0), 0, (.slice none 0 0), rfl, (by omega), (by omega), (by omega), ?_, rfl, hS⟩ ?_
      ·
       exact slh_nil
      ·
       clear hS w
       rintro mm M w ⟨nC, wv, i, wC, rfl, h0, h1, hnC, hwC, rfl, hS⟩
       have hrs1 := fun k (k0 : 0 ≤ k) (k1 : k < nC) => hS.slhIn 8 rfl k0 k1
       refine zsq <| zrg ?_
       refine zlv xlss ?_
       refine zln <| ztn <| zsq ?_
       refine zcif ?_ ?_ <;> intro hc
       ·
        refine zsk <| ztn <| zsq <| zbk <| zsq <| zrg ?_
        refine zlv (xix (kk := i) sl_23 hT.C.row.slh) ?_
        refine zlv (xlr (u := (vv i)) pl_22 (hT.C.row.below hS.below)) ?_
        have hli := hp.len (i := i) (by omega) (by omega)
        refine zlv xas ?_
        refine zln <| ztn ?_
        refine zdst [0, 1, 4] [0, 1] 7 mx_ hS ?_; clear hS; intro w hS
        refine zdv 0 (fun _ => (xfb 4 fd_28_4)) ?_
        refine zdl 1 (fun w hS => (xlb 2 pl_23 hS)) ?_
        refine zdv 2 (fun _ => xmv) ?_
        refine zdc 3 (xc0 cl_65) (c_clone (n := (t.ln i)) (f := (t.C i)) w ((hT.C.p i (by omega) (by omega)).below hS.below) (by omega)) ?_; rintro vq3 w ⟨_, rfl, hslq3, hS'⟩
        replace hS : Sat w0 w [.blk g1 [.int .i64 t.vars, .int .i64 t.den, vB, vF, vC], .blk g2 [.int .i64 0, .int .i64 0, .slice none 0 0, .slice none 0 0, .slice none 0 0], .own vc1 1 3 nc1 (ints fc1), .own vq1 1 3 t.nf (ints t.F), .blk g3 [.int .i64 t.vars, .int .i64 t.den, v2, vq1, wC], .own v2 1 3 (t.nb + 1) (ints (snoc t.B t.nb (t.nb + t.nf))), .own v1 1 3 1 (ints (fun _ => t.nb + t.nf)), .own wC 1 22 nC wv, .sem (Frame.rows 3 nC wv t.ln t.C), .own vq3 1 3 (t.ln i) (ints (t.C i))] := hS.comp hS'; clear hS'
        refine ⟨⟨fun _ => hS.pk [0, 1, 4], hS.pk [0, 1]⟩, ?_⟩
        refine zda 4 (xli (n := 1) (len := 1) (pv := [(0, vq3)]) (cs := [vq3]) (c := (fun _ => vq3)) sl_23 el_22 hS (hf := by obtain ⟨_, _, _, _, rfl, _⟩ := hslq3; kernel_rfl)) ?_; rintro v3 w ⟨hS, hv3⟩
        replace hS : Sat w0 w [.blk _ [_, _, _, _, _], .blk _ [_, _, _, _, _], _, _, .blk _ [_, _, _, _, _], _, _, _, _, _, _] := hS
        refine ⟨⟨fun _ => hS.pk [0, 1, 4], hS.pk [0, 1]⟩, ?_⟩
        refine zda 5 (xap 7 (r := nC + 1) sl_23 el_22 hS (hS.rowN 10 rfl) (cat_gsn _ _ _) (h1 := fun _ _ _ => hslq3.one)) ?_; rintro v4 w ⟨hS, hv4⟩
        replace hS : Sat w0 w [.blk _ [_, _, _, _, _], .blk _ [_, _, _, _, _], _, _, .blk _ [_, _, _, _, _], _, _, _, _, _, _] := hS
        replace hS := Sat.merge (l1 := [_, _, _, _, _, _, _, _]) (l2 := []) (l3 := [_]) hS (by omega)
        have hrs2 := fun k (k0 : 0 ≤ k) (k1 : k < nC + 1) => hS.slhIn 8 rfl k0 k1
        replace hS : Sat w0 w [.blk _ [_, _, _, _, _], .blk _ [_, _, _, _, _], _, _, .blk _ [_, _, _, _, _], _, _, _, _, _] := hS
        refine ⟨⟨fun _ => hS.pk [0, 1, 4], hS.pk [0, 1]⟩, ?_⟩
        refine zdv 6 (fun _ => (xfb 4 fd_28_4)) ?_
        refine zde 7 (xsb 4 pl_23 hS (hv := hv4.one)) ?_; clear hS; rintro w hS
        replace hS : Sat w0 w [.blk _ [_, _, _, _, _], .blk _ [_, _, _, _, _], _, _, .blk _ [_, _, _, _, _], _, _, _, _, _] := hS
        refine ⟨⟨fun h => absurd h (by decide), hS.pk [0, 1]⟩, ?_⟩
        refine zdd <| zbn <| ztn <| zrg ?_
        refine zlv (xadd (r := i + 1)) ?_
        replace hS := hS.rerows (vv' := gsn wv nC vq3) (ln' := t.ln) (f' := t.C) 8 rfl (fun k k0 k1 => by
          by_cases e : k < i
          · exact ⟨rfl, gsn_lt (by omega), fun j _ _ => by rw [gsn_lt (by omega)]⟩
          · have hki : k = i := by omega
            refine ⟨rfl, ?_, fun b b0 b1 => ?_⟩
            · rw [gsn_at (by omega), hki]
            · rw [gsn_at (by omega), hki]
          )
        replace hS : Sat w0 w [.blk _ [_, _, _, _, _], .blk _ [_, _, _, _, _], _, _, .blk _ [_, _, _, _, _], _, _, _, _, _] := hS
        have hrr1 := fun k (k0 : 0 ≤ k) (k1 : k < nC + 1) => hS.slhIn 8 rfl k0 k1
        refine zlv xmv ?_
        refine zln <| zlq ⟨nC + 1, gsn wv nC vq3, i + 1, v4, rfl, (by omega), (by omega), (by omega), ?_, rfl, hS.pk [0, 1, 2, 3, 4, 5, 6, 7, 8]⟩
        ·
         exact hv4
       ·
        refine zxt <| ztx <| ztx <| zbh <| ztn <| zsq <| zrg ?_
        refine zlv (xfb 4 fd_28_4) ?_
        have hnn : nC = t.nc := by omega
        refine zlv (xlb 4 pl_23 hS) ?_
        refine zlv xmv ?_
        refine zla (xli (n := 1) (len := 1) (pv := [(0, vc1)]) (cs := [vc1]) (c := (fun _ => vc1)) sl_23 el_22 hS (hf := by obtain ⟨_, _, _, _, rfl, _⟩ := hslc1; kernel_rfl)) ?_; rintro v5 w ⟨hS, hv5⟩
        replace hS : Sat w0 w [.blk _ [_, _, _, _, _], .blk _ [_, _, _, _, _], _, _, .blk _ [_, _, _, _, _], _, _, _, _, _] := hS
        refine zla (xap 7 (r := nC + 1) sl_23 el_22 hS (hS.rowN 9 rfl) (cat_gsn _ _ _) (h1 := fun _ _ _ => hslc1.one)) ?_; rintro v6 w ⟨hS, hv6⟩
        replace hS : Sat w0 w [.blk _ [_, _, _, _, _], .blk _ [_, _, _, _, _], _, _, .blk _ [_, _, _, _, _], _, _, _, _, _] := hS
        replace hS := Sat.merge2 (l1 := [_, _]) (l2 := [_, _, _, _, _]) (l3 := [_]) hS (by omega)
        have hrs3 := fun k (k0 : 0 ≤ k) (k1 : k < nC + 1) => hS.slhIn 7 rfl k0 k1
        replace hS : Sat w0 w [.blk _ [_, _, _, _, _], .blk _ [_, _, _, _, _], _, .blk _ [_, _, _, _, _], _, _, _, _, _] := hS
        refine zlv (xfb 4 fd_28_4) ?_
        refine zle (xsb 3 pl_23 hS (hv := hv6.one)) ?_; clear hS; rintro w hS
        replace hS : Sat w0 w [.blk _ [_, _, _, _, _], .blk _ [_, _, _, _, _], _, .blk _ [_, _, _, _, _], _, _, _, _, _] := hS
        refine zln <| ztn <| zsq <| zrg ?_
        refine zlv (xls 3 st_28 hS) ?_
        replace hS := hS.rerows (vv' := gsn wv nC vc1) (ln' := (addT t row).ln) (f' := (addT t row).C) 7 rfl (fun k k0 k1 => by
          dsimp only [addT]
          by_cases e : k < t.nc
          · refine ⟨rfl, ?_, fun j _ _ => ?_⟩
            · rw [gsn_lt (by omega), gsn_lt e]
            · rw [gsn_lt (by omega), gsn_lt e]
          · refine ⟨rfl, ?_, fun b b0 b1 => ?_⟩
            · rw [gsn_at (by omega), gsn_at e]; exact hcn
            · rw [gsn_at (by omega), gsn_at e]; exact hcf b b0 (by rw [gsn_at (by omega)] at b1; exact b1)
          )
        replace hS : Sat w0 w [.blk _ [_, _, _, _, _], .blk _ [_, _, _, _, _], _, .blk _ [_, _, _, _, _], _, _, _, _, _] := hS
        have hrr2 := fun k (k0 : 0 ≤ k) (k1 : k < nC + 1) => hS.slhIn 7 rfl k0 k1
        refine zle (xsw 1 st_28 hS (hd := (ones_cons rfl (ones_cons rfl (ones_cons hv2.one (ones_cons hslq1.one (ones_cons hv6.one ones_nil))))))) ?_; clear hS; rintro w hS
        replace hS : Sat w0 w [.blk _ [_, _, _, _, _], .blk _ [_, _, _, _, _], _, .blk _ [_, _, _, _, _], _, _, _, _, _] := hS
        refine zlv xas ?_
        refine zln <| ztn <| zrt <| zfct 1 st_28 hS ⟨_, rfl, ?_⟩
        rw [hnn] at hS hv6
        exact ⟨_, _, _, _, addT t row, 0, rfl, .inr (.inr (.inr (.inr ⟨hp, hr0, hr1, hmd, by omega, rfl, rfl⟩))), hv2, hslq1, hv6, hS.pk [4, 2, 6, 7]⟩

set_option maxRecDepth 20000 in
theorem c_radd {vB vF vC : Value} {vv : Int → Value} {t : Tb} {row : Int} (w0 : World) (hT : TAt w0 vB vF vC vv t) (hrow0 : -9223372036854775808 ≤ row ∧ row ≤ 9223372036854775807) :
    Calls Try.prog 21 [.agg #[.int .i64 t.vars, .int .i64 t.den, vB, vF, vC], .int .i64 row].toArray w0 fun e w => ∃ v, e = .returned v ∧ ∃ vB vF vC vv t' e, v = .tuple #[.agg #[.int .i64 t'.vars, .int .i64 t'.den, vB, vF, vC], .int .i64 e] ∧ AddR t row t' e ∧ Slh vB t'.nb ∧ Slh vF t'.nf ∧ Slh vC t'.nc ∧ Sat w0 w [.own vB 1 3 t'.nb (ints t'.B), .own vF 1 3 t'.nf (ints t'.F), .own vC 1 22 t'.nc vv, .sem (Frame.rows 3 t'.nc vv t'.ln t'.C)] := by
  have hn := hT.F.slh.n0; have hn1 := hT.F.slh.n1; have hb := hT.B.slh.n0; have hb1 := hT.B.slh.n1; have hc0 := hT.C.row.slh.n0; have hc1 := hT.C.row.slh.n1
  refine zenG Try.func21 Try.ntmps21 fun w hS => ?_
  refine zsq <| zrg ?_
  refine zla (xbx (cs := [_, _, _, _, _]) hS) ?_; rintro _ w ⟨g1, rfl, hS⟩
  replace hS : Sat w0 w [.blk _ [_, _, _, _, _]] := hS
  refine zla (xal (cs := [_, _, _, _, _]) el_25 hS) ?_; rintro _ w ⟨g2, rfl, hS⟩
  replace hS : Sat w0 w [.blk _ [_, _, _, _, _], .blk _ [_, _, _, _, _]] := hS
  refine zlv xas ?_
  refine zln <| ztn <| zsq <| zrg ?_
  refine zlv (xls 0 st_25 hS) ?_
  refine zlv xmv ?_
  refine zlc (xc0 cl_19) (c_rcut (t := t) (row := row) w (hT.below hS.below) (by omega)) ?_; rintro _ w ⟨vc1, nc1, fc1, ec1, rfl, hcuc1, hslc1, hS'⟩
  replace hS : Sat w0 w [.blk g1 [.int .i64 t.vars, .int .i64 t.den, vB, vF, vC], .blk g2 [.int .i64 0, .int .i64 0, .slice none 0 0, .slice none 0 0, .slice none 0 0], .own vc1 1 3 nc1 (ints fc1)] := hS.comp hS'; clear hS'
  refine zlv xmv ?_
  iterate 2 refine zlv xex ?_
  iterate 2 refine zlv xas ?_
  refine zln <| ztn <| zsq <| zbk <| zsq <| zrg ?_
  refine zlv xmv ?_
  refine zlv xneq ?_
  refine zlv xas ?_
  refine zln <| ztn ?_
  refine zcif ?_ ?_ <;> intro hc
  ·
   refine zsq <| zrg ?_
   refine zlv (xany (v := .agg #[.int .i64 0, .int .i64 0, .slice none 0 0, .slice none 0 0, .slice none 0 0])) ?_
   refine zlv xmv ?_
   refine zle (xsw 1 st_25 hS) ?_; clear hS; rintro w hS
   replace hS : Sat w0 w [.blk _ [_, _, _, _, _], .blk _ [_, _, _, _, _], _] := hS
   refine zlv xas ?_
   refine zln <| ztn <| zrt <| zbr <| ztr <| zfct 1 st_25 hS ⟨_, rfl, ?_⟩
   exact ⟨_, _, _, fun _ => undef, Tb.zero, _, rfl, hcuc1.bad (by omega), slh_nil, slh_nil, slh_nil, ((((hS.sub (.cons _ (.cons _ (.cons _ .slnil)))).addnil 1 3 (ints Tb.zero.B)).addnil 1 3 (ints Tb.zero.F)).addnil 1 22 (fun _ => undef)).addrows 3 (fun _ => undef) Tb.zero.ln Tb.zero.C⟩
  ·
   refine zsq <| zrg ?_
   refine zlv (xfb 2 fd_25_2) ?_
   obtain ⟨hp, hr0, hr1, hmd, hcn, hcf⟩ := hcuc1.full (by omega)
   have b1 := hp.n1
   have b2 := hp.n2
   have b3 := hp.m2
   have b4 := hp.v
   have b5 := hp.d1
   have b6 := hp.d2
   have b7 := hp.c
   refine zlv (xlb 0 pl_22 hS) ?_
   refine zlv (xln sl_22 hT.B.slh) ?_
   refine zlv xgeq ?_
   refine zlv xas ?_
   refine zln <| ztn ?_
   refine zcif ?_ ?_ <;> intro hc
   ·
    refine zsq <| zrg ?_
    refine zlv (xany (v := .agg #[.int .i64 0, .int .i64 0, .slice none 0 0, .slice none 0 0, .slice none 0 0])) ?_
    refine zle (xsw 1 st_25 hS) ?_; clear hS; rintro w hS
    replace hS : Sat w0 w [.blk _ [_, _, _, _, _], .blk _ [_, _, _, _, _], _] := hS
    refine zlv xas ?_
    refine zln <| ztn <| zrt <| zbr <| ztr <| zfct 1 st_25 hS ⟨_, rfl, ?_⟩
    exact ⟨_, _, _, fun _ => undef, Tb.zero, 9, rfl, .inr (.inr (.inr (.inl ⟨hp, hr0, hr1, hmd, by omega, rfl, rfl⟩))), slh_nil, slh_nil, slh_nil, ((((hS.sub (.cons _ (.cons _ (.cons _ .slnil)))).addnil 1 3 (ints Tb.zero.B)).addnil 1 3 (ints Tb.zero.F)).addnil 1 22 (fun _ => undef)).addrows 3 (fun _ => undef) Tb.zero.ln Tb.zero.C⟩
   ·
    refine zsk <| zbn <| ztn <| zsq <| zrg ?_
    refine zlv (xls 0 st_25 hS) ?_
    refine zlc (xc0 cl_66) (c_copy (t := t) w (hT.below hS.below) hp) ?_; rintro _ w ⟨yBc2, yFc2, yCc2, yvc2, rfl, hyBc2, hyFc2, hyCc2, hS'⟩
    replace hS : Sat w0 w [.blk g1 [.int .i64 t.vars, .int .i64 t.den, vB, vF, vC], .blk g2 [.int .i64 0, .int .i64 0, .slice none 0 0, .slice none 0 0, .slice none 0 0], .own vc1 1 3 nc1 (ints fc1), .own yBc2 1 3 t.nb (ints t.B), .own yFc2 1 3 t.nf (ints t.F), .own yCc2 1 22 t.nc yvc2, .sem (Frame.rows 3 t.nc yvc2 t.ln t.C)] := hS.comp hS'; clear hS'
    have hyrc2 := fun k (k0 : 0 ≤ k) (k1 : k < t.nc) => hS.slhIn 6 rfl k0 k1
    refine zla (xal (cs := [_, _, _, _, _]) el_25 hS) ?_; rintro _ w ⟨g3, rfl, hS⟩
    replace hS : Sat w0 w [.blk _ [_, _, _, _, _], .blk _ [_, _, _, _, _], _, _, _, _, _, .blk _ [_, _, _, _, _]] := hS
    refine zle (xsw 7 st_25 hS (hd := (ones_cons rfl (ones_cons rfl (ones_cons hyBc2.one (ones_cons hyFc2.one (ones_cons hyCc2.one ones_nil))))))) ?_; clear hS; rintro w hS
    replace hS : Sat w0 w [.blk _ [_, _, _, _, _], .blk _ [_, _, _, _, _], _, _, _, _, _, .blk _ [_, _, _, _, _]] := hS
    refine zln <| ztn <| zsq <| zrg ?_
    refine zlv (xfb 2 fd_25_2) ?_
    refine zlv (xlb 7 pl_22 hS) ?_
    refine zlv (xfb 2 fd_25_2) ?_
    refine zlv (xlb 0 pl_22 hS) ?_
    refine zlv (xln sl_22 hT.B.slh) ?_
    refine zlv (xfb 3 fd_25_3) ?_
    refine zlv (xlb 0 pl_22 hS) ?_
    refine zlv (xln sl_22 hT.F.slh) ?_
    refine zlv (xadd (r := t.nb + t.nf)) ?_
    refine zla (xli (n := 1) (len := 1) (pv := [(0, .int .i64 (t.nb + t.nf))]) (cs := [.int .i64 (t.nb + t.nf)]) (c := ints (fun _ => t.nb + t.nf)) sl_22 el_3 hS) ?_; rintro v1 w ⟨hS, hv1⟩
    replace hS : Sat w0 w [.blk _ [_, _, _, _, _], .blk _ [_, _, _, _, _], _, _, _, _, _, .blk _ [_, _, _, _, _], _] := hS
    refine zla (xap 3 (r := t.nb + 1) sl_22 el_3 hS (hS.rowN 8 rfl) (cat_snoc _ _ _)) ?_; rintro v2 w ⟨hS, hv2⟩
    replace hS : Sat w0 w [.blk _ [_, _, _, _, _], .blk _ [_, _, _, _, _], _, _, _, _, _, .blk _ [_, _, _, _, _], _] := hS
    refine zlv (xfb 2 fd_25_2) ?_
    refine zle (xsb 7 pl_22 hS (hv := hv2.one)) ?_; clear hS; rintro w hS
    replace hS : Sat w0 w [.blk _ [_, _, _, _, _], .blk _ [_, _, _, _, _], _, _, _, _, _, .blk _ [_, _, _, _, _], _] := hS
    refine zln <| ztn <| zsq <| zrg ?_
    refine zlv (xfb 4 fd_25_4) ?_
    refine zlv (xlb 7 pl_23 hS) ?_
    refine zlv xmv ?_
    refine zla (xli (n := 1) (len := 1) (pv := [(0, vc1)]) (cs := [vc1]) (c := (fun _ => vc1)) sl_23 el_22 hS (hf := by obtain ⟨_, _, _, _, rfl, _⟩ := hslc1; kernel_rfl)) ?_; rintro v3 w ⟨hS, hv3⟩
    replace hS : Sat w0 w [.blk _ [_, _, _, _, _], .blk _ [_, _, _, _, _], _, _, _, _, _, .blk _ [_, _, _, _, _], _, _] := hS
    refine zla (xap 5 (r := t.nc + 1) sl_23 el_22 hS (hS.rowN 9 rfl) (cat_gsn _ _ _) (h1 := fun _ _ _ => hslc1.one)) ?_; rintro v4 w ⟨hS, hv4⟩
    replace hS : Sat w0 w [.blk _ [_, _, _, _, _], .blk _ [_, _, _, _, _], _, _, _, _, _, .blk _ [_, _, _, _, _], _, _] := hS
    replace hS := Sat.merge2 (l1 := [_, _]) (l2 := [_, _, _]) (l3 := [_, _, _]) hS (by omega)
    have hrs1 := fun k (k0 : 0 ≤ k) (k1 : k < t.nc + 1) => hS.slhIn 5 rfl k0 k1
    replace hS : Sat w0 w [.blk _ [_, _, _, _, _], .blk _ [_, _, _, _, _], _, _, _, _, .blk _ [_, _, _, _, _], _, _] := hS
    refine zlv (xfb 4 fd_25_4) ?_
    refine zle (xsb 6 pl_23 hS (hv := hv4.one)) ?_; clear hS; rintro w hS
    replace hS : Sat w0 w [.blk _ [_, _, _, _, _], .blk _ [_, _, _, _, _], _, _, _, _, .blk _ [_, _, _, _, _], _, _] := hS
    refine zln <| ztn <| zsq <| zrg ?_
    refine zlv (xls 6 st_25 hS) ?_
    replace hS := hS.rerows (vv' := gsn yvc2 t.nc vc1) (ln' := (addT t row).ln) (f' := (addT t row).C) 5 rfl (fun k k0 k1 => by
      dsimp only [addT]
      by_cases e : k < t.nc
      · refine ⟨rfl, ?_, fun j _ _ => ?_⟩
        · rw [gsn_lt (by omega), gsn_lt e]
        · rw [gsn_lt (by omega), gsn_lt e]
      · refine ⟨rfl, ?_, fun b b0 b1 => ?_⟩
        · rw [gsn_at (by omega), gsn_at e]; exact hcn
        · rw [gsn_at (by omega), gsn_at e]; exact hcf b b0 (by rw [gsn_at (by omega)] at b1; exact b1)
      )
    replace hS : Sat w0 w [.blk _ [_, _, _, _, _], .blk _ [_, _, _, _, _], _, _, _, _, .blk _ [_, _, _, _, _], _, _] := hS
    have hrr1 := fun k (k0 : 0 ≤ k) (k1 : k < t.nc + 1) => hS.slhIn 5 rfl k0 k1
    refine zle (xsw 1 st_25 hS (hd := (ones_cons rfl (ones_cons rfl (ones_cons hv2.one (ones_cons hyFc2.one (ones_cons hv4.one ones_nil))))))) ?_; clear hS; rintro w hS
    replace hS : Sat w0 w [.blk _ [_, _, _, _, _], .blk _ [_, _, _, _, _], _, _, _, _, .blk _ [_, _, _, _, _], _, _] := hS
    refine zlv xas ?_
    refine zln <| ztn <| zrt <| zfct 1 st_25 hS ⟨_, rfl, ?_⟩
    exact ⟨_, _, _, _, addT t row, 0, rfl, .inr (.inr (.inr (.inr ⟨hp, hr0, hr1, hmd, by omega, rfl, rfl⟩))), hv2, hyFc2, hv4, hS.pk [2, 3, 4, 5]⟩

end Go.Proofs.Ytelfplepnodbgaa
