/- The walks of SameSolution and TableauSolve. -/
import Derived.Test.YtelfplepnodbgaaGv
import Derived.Test.YtelfplepnodbgaaW32
namespace Go.Proofs.Ytelfplepnodbgaa
open Go Go.RowKit Go.Proofs.Gw
set_option linter.unusedVariables false

theorem cl_73 : calledT Try.prog 73 = true := by kernel_rfl
theorem cl_75 : calledT Try.prog 75 = true := by kernel_rfl
theorem el_72 : elemT Try.prog 72 = some (.agg #[.slice none 0 0, .slice none 0 0, .int .i64 0, .int .i64 0], 4, 64) := by kernel_rfl
theorem fd_72_0 : fieldT Try.prog 72 0 = some 0 := by kernel_rfl
theorem fd_72_1 : fieldT Try.prog 72 1 = some 1 := by kernel_rfl
theorem fd_72_2 : fieldT Try.prog 72 2 = some 2 := by kernel_rfl
theorem fd_72_3 : fieldT Try.prog 72 3 = some 3 := by kernel_rfl
theorem st_72 : structT Try.prog 72 = some 4 := by kernel_rfl
set_option maxRecDepth 20000 in
theorem c_read {vB vF vC : Value} {vv : Int → Value} {t : Tb} (w0 : World) (hT : TAt w0 vB vF vC vv t) (hp : TPrp t) :
    Calls Try.prog 75 [.agg #[.int .i64 t.vars, .int .i64 t.den, vB, vF, vC]].toArray w0 fun e w => ∃ v, e = .returned v ∧ ∃ vX vY, v = .agg #[vX, vY, .int .i64 (t.C 0 0), .int .i64 t.den] ∧ Slh vX t.nf ∧ Slh vY t.nb ∧ Sat w0 w [.own vX 1 3 t.nf (ints (rdX t t.nb.toNat)), .own vY 1 3 t.nb (ints (rdY t t.nf.toNat))] := by
  have hn := hT.F.slh.n0; have hn1 := hT.F.slh.n1; have hb := hT.B.slh.n0; have hb1 := hT.B.slh.n1; have hc0 := hT.C.row.slh.n0; have hc1 := hT.C.row.slh.n1
  have b1 := hp.n1; have b2 := hp.n2; have b3 := hp.m2; have b4 := hp.v; have b5 := hp.d1; have b6 := hp.d2; have b7 := hp.c
  have hl0 := hp.len (i := 0) (by omega) (by omega)
  refine zenG Try.func75 Try.ntmps75 fun w hS => ?_
  refine zsr ?_
  refine zla (xbx (cs := [_, _, _, _, _]) hS) ?_; rintro _ w ⟨g1, rfl, hS⟩
  replace hS := hS.n1
  refine zla (xal (cs := [_, _, _, _]) el_72 hS) ?_; rintro _ w ⟨g2, rfl, hS⟩
  replace hS := hS.n2
  refine zlt <| zsq <| ?_
  refine zgcut (fun M w => ∃ (v1 : Value) (v2 : Value) (g3 : Nat), (Slh v1 t.vars) ∧ (Slh v2 t.nb) ∧ M = [(0, .agg #[.int .i64 t.vars, .int .i64 t.den, vB, vF, vC]), (1, .pointer (some ⟨g1, 0, none⟩)), (2, .pointer (some ⟨g2, 0, none⟩)), (6, .pointer (some ⟨g1, 0, none⟩)), (7, .int .i64 t.vars), (9, .pointer (some ⟨g1, 2, none⟩)), (10, vB), (11, .int .i64 t.nb), (13, .pointer (some ⟨g1, 4, none⟩)), (14, vC), (15, .pointer (some (cad vC 0))), (16, (vv 0)), (17, .pointer (some (cad (vv 0) 0))), (18, .int .i64 ((t.C 0) 0)), (19, .pointer (some ⟨g1, 1, none⟩)), (20, .int .i64 t.den), (8, v1), (12, v2), (21, .agg #[v1, v2, .int .i64 ((t.C 0) 0), .int .i64 t.den]), (3, .pointer (some ⟨g3, 0, none⟩))] ∧ Sat w0 w [.blk g1 [.int .i64 t.vars, .int .i64 t.den, vB, vF, vC], .blk g2 [.slice none 0 0, .slice none 0 0, .int .i64 0, .int .i64 0], .own v1 1 3 t.vars (ints (fun _ => 0)), .own v2 1 3 t.nb (ints (fun _ => 0)), .blk g3 [v1, v2, .int .i64 ((t.C 0) 0), .int .i64 t.den]]) ?_ ?_
  ·
   refine zdst [0, 1] [0, 1] 17 mx_ hS ?_; clear hS; intro w hS
   refine zdv 0 (fun _ => (xfb 0 fd_25_0)) ?_
   refine zdla 1 (fun w hS => (xlb 0 pl_3 hS)) ?_
   refine zdv 3 (fun _ => (xfb 2 fd_25_2)) ?_
   refine zdla 4 (fun w hS => (xlb 0 pl_22 hS)) ?_
   refine zdv 5 (fun _ => (xln sl_22 hT.B.slh)) ?_
   refine zdv 7 (fun _ => (xfb 4 fd_25_4)) ?_
   refine zdla 8 (fun w hS => (xlb 0 pl_23 hS)) ?_
   refine zdv 9 (fun _ => (xix (kk := 0) sl_23 hT.C.row.slh)) ?_
   refine zdla 10 (fun w hS => (xlr (u := (vv 0)) pl_22 (hT.C.row.below hS.below))) ?_
   refine zdv 11 (fun _ => (xix (kk := 0) sl_22 (hT.C.p 0 (by omega) (by omega)).slh)) ?_
   refine zdla 12 (fun w hS => (xlr (u := .int .i64 ((t.C 0) 0)) pl_3 ((hT.C.p 0 (by omega) (by omega)).below hS.below))) ?_
   refine zdv 13 (fun _ => (xfb 1 fd_25_1)) ?_
   refine zdla 14 (fun w hS => (xlb 0 pl_3 hS)) ?_
   refine zdfk (r := [2, 6, 16]) ((zdn1 ?_ (zdn1 ?_ (zdn1 ?_ zdn0))))
   ·
    refine zka (xmk sl_22 el_3 hS) ?_; rintro v1 w ⟨hS, hv1⟩
    replace hS := hS.n3
    refine ⟨⟨fun _ => hS.pk [0, 1], hS.pk [0, 1]⟩, ?_⟩
    refine zdfk (r := [6, 16]) ((zdn1 ?_ (zdn1 ?_ zdn0)))
    ·
     refine zka (xmk sl_22 el_3 hS) ?_; rintro v2 w ⟨hS, hv2⟩
     replace hS := hS.n4
     refine ⟨⟨fun _ => hS.pk [0, 1], hS.pk [0, 1]⟩, ?_⟩
     refine zdv 15 (fun _ => (xany (v := .agg #[v1, v2, .int .i64 ((t.C 0) 0), .int .i64 t.den]) (hr := by obtain ⟨_, _, _, _, rfl, _⟩ := hv1; obtain ⟨_, _, _, _, rfl, _⟩ := hv2; kernel_rfl))) ?_
     refine zda 16 (xal (cs := [_, _, _, _]) el_72 hS) ?_; rintro _ w ⟨g3, rfl, hS⟩
     replace hS := hS.n5
     refine ⟨⟨fun _ => hS.pk [0, 1], hS.pk [0, 1]⟩, ?_⟩
     refine zde 17 (xsw 4 st_72 hS (hd := (ones_cons hv1.one (ones_cons hv2.one (ones_cons rfl (ones_cons rfl ones_nil)))))) ?_; clear hS; rintro w hS
     replace hS := hS.n5
     refine ⟨⟨fun h => absurd h (by decide), hS.pk [0, 1]⟩, ?_⟩
     refine zdd <| zgj ⟨v1, v2, g3, hv1, hv2, rfl, hS⟩
    refine zka (xal (cs := [_, _, _, _]) el_72 hS) ?_; rintro _ w ⟨g3, rfl, hS⟩
    replace hS := hS.n4
    refine ⟨⟨fun _ => hS.pk [0, 1], hS.pk [0, 1]⟩, ?_⟩
    refine zda 6 (xmk sl_22 el_3 hS) ?_; rintro v2 w ⟨hS, hv2⟩
    replace hS := hS.n5
    refine ⟨⟨fun _ => hS.pk [0, 1], hS.pk [0, 1]⟩, ?_⟩
    refine zdv 15 (fun _ => (xany (v := .agg #[v1, v2, .int .i64 ((t.C 0) 0), .int .i64 t.den]) (hr := by obtain ⟨_, _, _, _, rfl, _⟩ := hv1; obtain ⟨_, _, _, _, rfl, _⟩ := hv2; kernel_rfl))) ?_
    refine zde 17 (xsw 3 st_72 hS (hd := (ones_cons hv1.one (ones_cons hv2.one (ones_cons rfl (ones_cons rfl ones_nil)))))) ?_; clear hS; rintro w hS
    replace hS := hS.n5
    refine ⟨⟨fun h => absurd h (by decide), hS.pk [0, 1]⟩, ?_⟩
    refine zdd <| zgj ⟨v1, v2, g3, hv1, hv2, rfl, hS.pk [0, 1, 2, 4, 3]⟩
   ·
    refine zka (xmk sl_22 el_3 hS) ?_; rintro v1 w ⟨hS, hv1⟩
    replace hS := hS.n3
    refine ⟨⟨fun _ => hS.pk [0, 1], hS.pk [0, 1]⟩, ?_⟩
    refine zdfk (r := [2, 16]) ((zdn1 ?_ (zdn1 ?_ zdn0)))
    ·
     refine zka (xmk sl_22 el_3 hS) ?_; rintro v2 w ⟨hS, hv2⟩
     replace hS := hS.n4
     refine ⟨⟨fun _ => hS.pk [0, 1], hS.pk [0, 1]⟩, ?_⟩
     refine zdv 15 (fun _ => (xany (v := .agg #[v2, v1, .int .i64 ((t.C 0) 0), .int .i64 t.den]) (hr := by obtain ⟨_, _, _, _, rfl, _⟩ := hv2; obtain ⟨_, _, _, _, rfl, _⟩ := hv1; kernel_rfl))) ?_
     refine zda 16 (xal (cs := [_, _, _, _]) el_72 hS) ?_; rintro _ w ⟨g3, rfl, hS⟩
     replace hS := hS.n5
     refine ⟨⟨fun _ => hS.pk [0, 1], hS.pk [0, 1]⟩, ?_⟩
     refine zde 17 (xsw 4 st_72 hS (hd := (ones_cons hv2.one (ones_cons hv1.one (ones_cons rfl (ones_cons rfl ones_nil)))))) ?_; clear hS; rintro w hS
     replace hS := hS.n5
     refine ⟨⟨fun h => absurd h (by decide), hS.pk [0, 1]⟩, ?_⟩
     refine zdd <| zgj ⟨v2, v1, g3, hv2, hv1, rfl, hS.pk [0, 1, 3, 2, 4]⟩
    refine zka (xal (cs := [_, _, _, _]) el_72 hS) ?_; rintro _ w ⟨g3, rfl, hS⟩
    replace hS := hS.n4
    refine ⟨⟨fun _ => hS.pk [0, 1], hS.pk [0, 1]⟩, ?_⟩
    refine zda 2 (xmk sl_22 el_3 hS) ?_; rintro v2 w ⟨hS, hv2⟩
    replace hS := hS.n5
    refine ⟨⟨fun _ => hS.pk [0, 1], hS.pk [0, 1]⟩, ?_⟩
    refine zdv 15 (fun _ => (xany (v := .agg #[v2, v1, .int .i64 ((t.C 0) 0), .int .i64 t.den]) (hr := by obtain ⟨_, _, _, _, rfl, _⟩ := hv2; obtain ⟨_, _, _, _, rfl, _⟩ := hv1; kernel_rfl))) ?_
    refine zde 17 (xsw 3 st_72 hS (hd := (ones_cons hv2.one (ones_cons hv1.one (ones_cons rfl (ones_cons rfl ones_nil)))))) ?_; clear hS; rintro w hS
    replace hS := hS.n5
    refine ⟨⟨fun h => absurd h (by decide), hS.pk [0, 1]⟩, ?_⟩
    refine zdd <| zgj ⟨v2, v1, g3, hv2, hv1, rfl, hS.pk [0, 1, 4, 2, 3]⟩
   refine zka (xal (cs := [_, _, _, _]) el_72 hS) ?_; rintro _ w ⟨g3, rfl, hS⟩
   replace hS := hS.n3
   refine ⟨⟨fun _ => hS.pk [0, 1], hS.pk [0, 1]⟩, ?_⟩
   refine zdfk (r := [2, 6]) ((zdn1 ?_ (zdn1 ?_ zdn0)))
   ·
    refine zka (xmk sl_22 el_3 hS) ?_; rintro v1 w ⟨hS, hv1⟩
    replace hS := hS.n4
    refine ⟨⟨fun _ => hS.pk [0, 1], hS.pk [0, 1]⟩, ?_⟩
    refine zda 6 (xmk sl_22 el_3 hS) ?_; rintro v2 w ⟨hS, hv2⟩
    replace hS := hS.n5
    refine ⟨⟨fun _ => hS.pk [0, 1], hS.pk [0, 1]⟩, ?_⟩
    refine zdv 15 (fun _ => (xany (v := .agg #[v1, v2, .int .i64 ((t.C 0) 0), .int .i64 t.den]) (hr := by obtain ⟨_, _, _, _, rfl, _⟩ := hv1; obtain ⟨_, _, _, _, rfl, _⟩ := hv2; kernel_rfl))) ?_
    refine zde 17 (xsw 2 st_72 hS (hd := (ones_cons hv1.one (ones_cons hv2.one (ones_cons rfl (ones_cons rfl ones_nil)))))) ?_; clear hS; rintro w hS
    replace hS := hS.n5
    refine ⟨⟨fun h => absurd h (by decide), hS.pk [0, 1]⟩, ?_⟩
    refine zdd <| zgj ⟨v1, v2, g3, hv1, hv2, rfl, hS.pk [0, 1, 3, 4, 2]⟩
   refine zka (xmk sl_22 el_3 hS) ?_; rintro v1 w ⟨hS, hv1⟩
   replace hS := hS.n4
   refine ⟨⟨fun _ => hS.pk [0, 1], hS.pk [0, 1]⟩, ?_⟩
   refine zda 2 (xmk sl_22 el_3 hS) ?_; rintro v2 w ⟨hS, hv2⟩
   replace hS := hS.n5
   refine ⟨⟨fun _ => hS.pk [0, 1], hS.pk [0, 1]⟩, ?_⟩
   refine zdv 15 (fun _ => (xany (v := .agg #[v2, v1, .int .i64 ((t.C 0) 0), .int .i64 t.den]) (hr := by obtain ⟨_, _, _, _, rfl, _⟩ := hv2; obtain ⟨_, _, _, _, rfl, _⟩ := hv1; kernel_rfl))) ?_
   refine zde 17 (xsw 2 st_72 hS (hd := (ones_cons hv2.one (ones_cons hv1.one (ones_cons rfl (ones_cons rfl ones_nil)))))) ?_; clear hS; rintro w hS
   replace hS := hS.n5
   refine ⟨⟨fun h => absurd h (by decide), hS.pk [0, 1]⟩, ?_⟩
   refine zdd <| zgj ⟨v2, v1, g3, hv2, hv1, rfl, hS.pk [0, 1, 4, 3, 2]⟩
  clear hS w; rintro M w ⟨v1, v2, g3, hv1, hv2, rfl, hS⟩
  refine ztn <| zsq <| zsr ?_
  refine zlv xas ?_
  refine zlt <| zbk <| zlp (fun mm M w => ∃ (i : Int) (fX : Int → Int), mm = ((t.nb - i).toNat) ∧ (0 ≤ i) ∧ (i ≤ t.nb) ∧ (fX = rdX t i.toNat) ∧ M = [(1, .pointer (some ⟨g1, 0, none⟩)), (2, .pointer (some ⟨g2, 0, none⟩)), (3, .pointer (some ⟨g3, 0, none⟩)), (4, .int .i64 i)] ∧ Sat w0 w [.blk g1 [.int .i64 t.vars, .int .i64 t.den, vB, vF, vC], .blk g2 [.slice none 0 0, .slice none 0 0, .int .i64 0, .int .i64 0], .own v1 1 3 t.vars (ints fX), .own v2 1 3 t.nb (ints (fun _ => 0)), .blk g3 [v1, v2, .int .i64 ((t.C 0) 0), .int .i64 t.den]]) ⟨0, (fun _ => 0), rfl, (by omega), (by omega), ?_, rfl, hS⟩ ?_
  ·
   rfl
  clear hS w
  rintro mm M w ⟨i, fX, rfl, h0, h1, hfX, rfl, hS⟩
  refine zsq <| zsr ?_
  refine zlv xmv ?_
  refine zlv (xfb 2 fd_25_2) ?_
  refine zlv (xlb 0 pl_22 hS) ?_
  refine zlv (xln sl_22 hT.B.slh) ?_
  refine zlv xlss ?_
  refine zlt ?_
  refine zcif ?_ ?_ <;> intro hc
  ·
   refine zsk <| ztn <| zsq <| zbk <| zsq ?_
   refine zdst [0, 1, 2, 3, 4] [0, 1, 2, 3, 4] 1000 mx_ hS ?_; clear hS; intro w hS
   refine zdv 0 (fun _ => (xfb 2 fd_25_2)) ?_
   refine zdla 1 (fun w hS => (xlb 0 pl_22 hS)) ?_
   have hrg := hp.rngB (i := i) h0 (by omega); have hli := hp.len (i := i + 1) (by omega) (by omega)
   refine zdv 2 (fun _ => xmv) ?_
   refine zdv 3 (fun _ => (xix (kk := i) sl_22 hT.B.slh)) ?_
   refine zdla 4 (fun w hS => (xlr (u := .int .i64 (t.B i)) pl_3 (hT.B.below hS.below))) ?_
   refine zdv 5 (fun _ => (xfb 0 fd_25_0)) ?_
   refine zdla 6 (fun w hS => (xlb 0 pl_3 hS)) ?_
   refine zdv 7 (fun _ => xlss) ?_
   refine zdd <| ztn ?_
   refine zcif ?_ ?_ <;> intro hc
   ·
    refine zdst [0, 1, 2, 3, 4] [0, 1, 3, 4] 16 mx_ hS ?_; clear hS; intro w hS
    refine zdv 0 (fun _ => (xfb 0 fd_72_0)) ?_
    refine zdla 1 (fun w hS => (xlb 3 pl_22 hS)) ?_
    refine zdv 2 (fun _ => (xfb 2 fd_25_2)) ?_
    refine zdla 3 (fun w hS => (xlb 0 pl_22 hS)) ?_
    refine zdv 4 (fun _ => xmv) ?_
    refine zdv 5 (fun _ => (xix (kk := i) sl_22 hT.B.slh)) ?_
    refine zdla 6 (fun w hS => (xlr (u := .int .i64 (t.B i)) pl_3 (hT.B.below hS.below))) ?_
    refine zdv 7 (fun _ => (xfb 4 fd_25_4)) ?_
    refine zdla 8 (fun w hS => (xlb 0 pl_23 hS)) ?_
    refine zdv 9 (fun _ => xmv) ?_
    refine zdv 10 (fun _ => (xadd (r := i + 1))) ?_
    refine zdv 11 (fun _ => (xix (kk := i + 1) sl_23 hT.C.row.slh)) ?_
    refine zdla 12 (fun w hS => (xlr (u := (vv (i + 1))) pl_22 (hT.C.row.below hS.below))) ?_
    refine zdv 13 (fun _ => (xix (kk := 0) sl_22 (hT.C.p (i + 1) (by omega) (by omega)).slh)) ?_
    refine zdla 14 (fun w hS => (xlr (u := .int .i64 ((t.C (i + 1)) 0)) pl_3 ((hT.C.p (i + 1) (by omega) (by omega)).below hS.below))) ?_
    refine zdv 15 (fun _ => (xix (kk := (t.B i)) sl_22 hv1)) ?_
    refine zde 16 (xso 2 pl_3 hS (upd_ints _ _ _)) ?_; clear hS; rintro w hS
    replace hS := hS.n5
    refine ⟨⟨fun h => absurd h (by decide), hS.pk [0, 1, 3, 4]⟩, ?_⟩
    refine zdd <| zbn <| ztn <| zrg ?_
    refine zlv xmv ?_
    refine zlv (xadd (r := i + 1)) ?_
    refine zlv xas ?_
    refine zln <| zlq ⟨i + 1, (upd fX (t.B i) ((t.C (i + 1)) 0)), rfl, (by omega), (by omega), ?_, rfl, hS⟩
    ·
     rw [rdX_next t h0, ← hfX]; first | rw [if_pos (by omega)] | rw [if_neg (by omega)]
   refine zsk <| zbn <| ztn <| zrg ?_
   refine zlv xmv ?_
   refine zlv (xadd (r := i + 1)) ?_
   refine zlv xas ?_
   refine zln <| zlq ⟨i + 1, fX, rfl, (by omega), (by omega), ?_, rfl, hS⟩
   ·
    rw [rdX_next t h0, ← hfX]; first | rw [if_pos (by omega)] | rw [if_neg (by omega)]
  refine zxt <| ztx <| ztx <| zbh <| ztn <| zsq <| zsr ?_
  refine zlv xas ?_
  refine zlt <| zbk <| zlp (fun mm M w => ∃ (j : Int) (fY : Int → Int), mm = ((t.nf - j).toNat) ∧ (0 ≤ j) ∧ (j ≤ t.nf) ∧ (fY = rdY t j.toNat) ∧ M = [(1, .pointer (some ⟨g1, 0, none⟩)), (2, .pointer (some ⟨g2, 0, none⟩)), (3, .pointer (some ⟨g3, 0, none⟩)), (5, .int .i64 j)] ∧ Sat w0 w [.blk g1 [.int .i64 t.vars, .int .i64 t.den, vB, vF, vC], .blk g2 [.slice none 0 0, .slice none 0 0, .int .i64 0, .int .i64 0], .own v1 1 3 t.vars (ints fX), .own v2 1 3 t.nb (ints fY), .blk g3 [v1, v2, .int .i64 ((t.C 0) 0), .int .i64 t.den]]) ⟨0, (fun _ => 0), rfl, (by omega), (by omega), ?_, rfl, hS⟩ ?_
  ·
   rfl
  clear hS w
  rintro mm M w ⟨j, fY, rfl, j0, j1, hfY, rfl, hS⟩
  refine zsq <| zsr ?_
  refine zlv xmv ?_
  refine zlv (xfb 3 fd_25_3) ?_
  refine zlv (xlb 0 pl_22 hS) ?_
  refine zlv (xln sl_22 hT.F.slh) ?_
  refine zlv xlss ?_
  refine zlt ?_
  refine zcif ?_ ?_ <;> intro hc
  ·
   refine zsk <| ztn <| zsq <| zbk <| zsq ?_
   refine zdst [0, 1, 2, 3, 4] [0, 1, 2, 3, 4] 1000 mx_ hS ?_; clear hS; intro w hS
   refine zdv 0 (fun _ => (xfb 3 fd_25_3)) ?_
   have hrg := hp.rngF (i := j) j0 (by omega) (by omega)
   refine zdla 1 (fun w hS => (xlb 0 pl_22 hS)) ?_
   refine zdv 2 (fun _ => xmv) ?_
   refine zdv 3 (fun _ => (xix (kk := j) sl_22 hT.F.slh)) ?_
   refine zdla 4 (fun w hS => (xlr (u := .int .i64 (t.F j)) pl_3 (hT.F.below hS.below))) ?_
   refine zdv 5 (fun _ => (xfb 0 fd_25_0)) ?_
   refine zdla 6 (fun w hS => (xlb 0 pl_3 hS)) ?_
   refine zdv 7 (fun _ => xgeq) ?_
   refine zdd <| ztn ?_
   refine zcif ?_ ?_ <;> intro hc
   ·
    refine zdst [0, 1, 2, 3, 4] [0, 1, 2, 4] 19 mx_ hS ?_; clear hS; intro w hS
    refine zdv 0 (fun _ => (xfb 1 fd_72_1)) ?_
    refine zdla 1 (fun w hS => (xlb 3 pl_22 hS)) ?_
    refine zdv 2 (fun _ => (xfb 3 fd_25_3)) ?_
    refine zdla 3 (fun w hS => (xlb 0 pl_22 hS)) ?_
    refine zdv 4 (fun _ => xmv) ?_
    refine zdv 5 (fun _ => (xix (kk := j) sl_22 hT.F.slh)) ?_
    refine zdla 6 (fun w hS => (xlr (u := .int .i64 (t.F j)) pl_3 (hT.F.below hS.below))) ?_
    refine zdv 7 (fun _ => (xfb 0 fd_25_0)) ?_
    refine zdla 8 (fun w hS => (xlb 0 pl_3 hS)) ?_
    refine zdv 9 (fun _ => (xsub (r := (t.F j) - t.vars))) ?_
    refine zdv 10 (fun _ => (xfb 4 fd_25_4)) ?_
    refine zdla 11 (fun w hS => (xlb 0 pl_23 hS)) ?_
    refine zdv 12 (fun _ => (xix (kk := 0) sl_23 hT.C.row.slh)) ?_
    refine zdla 13 (fun w hS => (xlr (u := (vv 0)) pl_22 (hT.C.row.below hS.below))) ?_
    refine zdv 14 (fun _ => xmv) ?_
    refine zdv 15 (fun _ => (xadd (r := j + 1))) ?_
    refine zdv 16 (fun _ => (xix (kk := j + 1) sl_22 (hT.C.p 0 (by omega) (by omega)).slh)) ?_
    refine zdla 17 (fun w hS => (xlr (u := .int .i64 ((t.C 0) (j + 1))) pl_3 ((hT.C.p 0 (by omega) (by omega)).below hS.below))) ?_
    refine zdv 18 (fun _ => (xix (kk := (t.F j) - t.vars) sl_22 hv2)) ?_
    refine zde 19 (xso 3 pl_3 hS (upd_ints _ _ _)) ?_; clear hS; rintro w hS
    replace hS := hS.n5
    refine ⟨⟨fun h => absurd h (by decide), hS.pk [0, 1, 2, 4]⟩, ?_⟩
    refine zdd <| zbn <| ztn <| zrg ?_
    refine zlv xmv ?_
    refine zlv (xadd (r := j + 1)) ?_
    refine zlv xas ?_
    refine zln <| zlq ⟨j + 1, (upd fY ((t.F j) - t.vars) ((t.C 0) (j + 1))), rfl, (by omega), (by omega), ?_, rfl, hS⟩
    ·
     rw [rdY_next t j0, ← hfY]; first | rw [if_pos (by omega)] | rw [if_neg (by omega)]
   refine zsk <| zbn <| ztn <| zrg ?_
   refine zlv xmv ?_
   refine zlv (xadd (r := j + 1)) ?_
   refine zlv xas ?_
   refine zln <| zlq ⟨j + 1, fY, rfl, (by omega), (by omega), ?_, rfl, hS⟩
   ·
    rw [rdY_next t j0, ← hfY]; first | rw [if_pos (by omega)] | rw [if_neg (by omega)]
  refine zxt <| ztx <| ztx <| zbh <| ztn <| zsr ?_
  refine zlv (xls 4 st_72 hS) ?_
  refine zle (xsw 1 st_72 hS (hd := (ones_cons hv1.one (ones_cons hv2.one (ones_cons rfl (ones_cons rfl ones_nil)))))) ?_; clear hS; rintro w hS
  replace hS := hS.n5
  refine zlt <| zrt <| zfc 1 st_72 hS ⟨_, rfl, ?_⟩
  obtain rfl : i = t.nb := by omega
  obtain rfl : j = t.nf := by omega
  have hv9 := hp.v
  rw [hv9] at hv1
  replace hS := hS.pk [2, 3]; rw [hv9] at hS; subst hfX; subst hfY
  exact ⟨_, _, rfl, hv1, hv2, hS⟩

set_option maxRecDepth 20000 in
theorem c_rsolve {vc vA vb : Value} {vq : Int → Value} {p : Lp} (w0 : World) (hL : LAt w0 vc vA vb vq p) :
    Calls Try.prog 84 [.agg #[vc, vA, vb]].toArray w0 fun e w => ∃ v, e = .returned v ∧ ∃ vX vY s e, v = .tuple #[.agg #[vX, vY, .int .i64 s.val, .int .i64 s.den], .int .i64 e] ∧ SolveR p s e ∧ Slh vX s.n ∧ Slh vY s.m ∧ Sat w0 w [.own vX 1 3 s.n (ints s.X), .own vY 1 3 s.m (ints s.Y)] := by
  have hn := hL.c.slh.n0; have hn1 := hL.c.slh.n1; have hm := hL.A.row.slh.n0; have hm1 := hL.A.row.slh.n1; have hk := hL.b.slh.n0; have hk1 := hL.b.slh.n1
  refine zenG Try.func84 Try.ntmps84 fun w hS => ?_
  refine zsr ?_
  refine zla (xbx (cs := [_, _, _]) hS) ?_; rintro _ w ⟨g1, rfl, hS⟩
  replace hS := hS.n1
  refine zla (xal (cs := [_, _, _, _]) el_72 hS) ?_; rintro _ w ⟨g2, rfl, hS⟩
  replace hS := hS.n2
  refine zlv xas ?_
  refine zlz ?_
  refine zlv (xls 0 st_44 hS) ?_
  refine zlc (xc0 cl_73) (c_rstart (p := p) w (hL.below hS.below)) ?_; rintro _ w ⟨vBk1, vFk1, vCk1, vvk1, tk1, ek1, rfl, hstk1, hsBk1, hsFk1, hsCk1, hS'⟩
  replace hS : Sat w0 w [.blk g1 [vc, vA, vb], .blk g2 [.slice none 0 0, .slice none 0 0, .int .i64 0, .int .i64 0], .own vBk1 1 3 tk1.nb (ints tk1.B), .own vFk1 1 3 tk1.nf (ints tk1.F), .own vCk1 1 22 tk1.nc vvk1, .sem (Frame.rows 3 tk1.nc vvk1 tk1.ln tk1.C)] := hS.comp hS'; clear hS'
  have hrsk1 := fun k (k0 : 0 ≤ k) (k1 : k < tk1.nc) => hS.slhIn 5 rfl k0 k1
  refine zs3 ?_
  refine zla (xal (cs := [_, _, _, _, _]) el_25 hS) ?_; rintro _ w ⟨g3, rfl, hS⟩
  replace hS := hS.n7
  refine zle (xsw 6 st_25 hS (hd := (ones_cons rfl (ones_cons rfl (ones_cons hsBk1.one (ones_cons hsFk1.one (ones_cons hsCk1.one ones_nil))))))) ?_; clear hS; rintro w hS
  replace hS := hS.n7
  refine zlv xas ?_
  refine zlt <| zsq <| zsr ?_
  refine zs2 ?_
  refine zlt ?_
  refine zcif ?_ ?_ <;> intro hc
  ·
   refine zsr ?_
   refine zlv (xany (v := .agg #[.slice none 0 0, .slice none 0 0, .int .i64 0, .int .i64 0])) ?_
   refine zlv xmv ?_
   refine zle (xsw 1 st_72 hS) ?_; clear hS; rintro w hS
   replace hS := hS.n7
   refine zlv xas ?_
   refine zlt <| zrt <| ztr <| zfct 1 st_72 hS ⟨_, rfl, ?_⟩
   obtain ⟨hl0, hl1⟩ := hstk1.err (by omega)
   exact ⟨_, _, So.zero, _, rfl, .inl ⟨hl0, rfl, hl1⟩, slh_nil, slh_nil, ((hS.sub (.cons _ (.cons _ (.cons _ (.cons _ (.cons _ (.cons _ (.cons _ .slnil)))))))).addnil 1 3 (ints So.zero.X)).addnil 1 3 (ints So.zero.Y)⟩
  refine zsk <| ztn <| zsr ?_
  refine zlv (xls 6 st_25 hS) ?_
  refine zlc (xc0 cl_110) (c_rrun (t := tk1) w (⟨(hS.rowN 2 rfl), (hS.rowN 3 rfl), (⟨(hS.rowN 4 rfl), fun k k0 k1 => hS.rowIn 5 rfl k0 k1, fun k k0 k1 => hS.roomIn 5 rfl k0 k1⟩ : MAt _ vCk1 tk1.nc vvk1 tk1.ln tk1.C)⟩ : TAt _ vBk1 vFk1 vCk1 vvk1 tk1)) ?_; rintro _ w ⟨xBu1, xFu1, xCu1, xvu1, uu1, zuu1, euu1, rfl, hrunu1, hzzu1, hxBu1, hxFu1, hxCu1, hS'⟩
  replace hS : Sat w0 w [.blk g1 [vc, vA, vb], .blk g2 [.slice none 0 0, .slice none 0 0, .int .i64 0, .int .i64 0], .own vBk1 1 3 tk1.nb (ints tk1.B), .own vFk1 1 3 tk1.nf (ints tk1.F), .own vCk1 1 22 tk1.nc vvk1, .sem (Frame.rows 3 tk1.nc vvk1 tk1.ln tk1.C), .blk g3 [.int .i64 tk1.vars, .int .i64 tk1.den, vBk1, vFk1, vCk1], .sem (Frame.alt (uu1 = tk1 ∧ xBu1 = vBk1 ∧ xFu1 = vFk1 ∧ xCu1 = vCk1 ∧ xvu1 = vvk1) (Frame.bun [.own xBu1 1 3 uu1.nb (ints uu1.B), .own xFu1 1 3 uu1.nf (ints uu1.F), .own xCu1 1 22 uu1.nc xvu1, .sem (Frame.rows 3 uu1.nc xvu1 uu1.ln uu1.C)]))] := hS.comp hS'; clear hS'
  have hxru1 := fun k (k0 : 0 ≤ k) (k1 : k < uu1.nc) => ((tat_alt (⟨(hS.rowN 2 rfl), (hS.rowN 3 rfl), (⟨(hS.rowN 4 rfl), fun k k0 k1 => hS.rowIn 5 rfl k0 k1, fun k k0 k1 => hS.roomIn 5 rfl k0 k1⟩ : MAt _ vCk1 tk1.nc vvk1 tk1.ln tk1.C)⟩ : TAt _ vBk1 vFk1 vCk1 vvk1 tk1) hS 7 rfl).C.p k k0 k1).slh
  refine zs3 ?_
  refine zle (xsw 6 st_25 hS (hd := (ones_cons rfl (ones_cons rfl (ones_cons hxBu1.one (ones_cons hxFu1.one (ones_cons hxCu1.one ones_nil))))))) ?_; clear hS; rintro w hS
  replace hS := hS.n8
  refine zlv xas ?_
  refine zlt <| zsq <| zsr ?_
  refine zs2 ?_
  refine zlt ?_
  refine zcif ?_ ?_ <;> intro hc
  ·
   refine zsr ?_
   refine zlv (xany (v := .agg #[.slice none 0 0, .slice none 0 0, .int .i64 0, .int .i64 0])) ?_
   refine zlv xmv ?_
   refine zle (xsw 1 st_72 hS) ?_; clear hS; rintro w hS
   replace hS := hS.n8
   refine zlv xas ?_
   refine zlt <| zrt <| ztr <| zfct 1 st_72 hS ⟨_, rfl, ?_⟩
   obtain ⟨hl, hts⟩ := hstk1.ok (by omega); rw [hts] at hrunu1
   exact ⟨_, _, So.zero, _, rfl, .inr ⟨hl, _, hrunu1, .inl ⟨by omega, rfl⟩⟩, slh_nil, slh_nil, ((hS.sub (.cons _ (.cons _ (.cons _ (.cons _ (.cons _ (.cons _ (.cons _ (.cons _ .slnil))))))))).addnil 1 3 (ints So.zero.X)).addnil 1 3 (ints So.zero.Y)⟩
  refine zsk <| ztn <| zsr ?_
  refine zlv (xls 6 st_25 hS) ?_
  have hzq := hzzu1 (.inl (by omega)); rw [hzq] at hrunu1
  obtain ⟨hp, _, _, _⟩ := hrunu1.fin (.inl (by omega))
  have b1 := hp.n1
  have b2 := hp.n2
  have b3 := hp.m2
  have b4 := hp.v
  have b5 := hp.d1
  have b6 := hp.d2
  have b7 := hp.c
  refine zlc (xc0 cl_75) (c_read (t := uu1) w (tat_alt (⟨(hS.rowN 2 rfl), (hS.rowN 3 rfl), (⟨(hS.rowN 4 rfl), fun k k0 k1 => hS.rowIn 5 rfl k0 k1, fun k k0 k1 => hS.roomIn 5 rfl k0 k1⟩ : MAt _ vCk1 tk1.nc vvk1 tk1.ln tk1.C)⟩ : TAt _ vBk1 vFk1 vCk1 vvk1 tk1) hS 7 rfl) hp) ?_; rintro _ w ⟨rXr1, rYr1, rfl, hrXr1, hrYr1, hS'⟩
  replace hS : Sat w0 w [.blk g1 [vc, vA, vb], .blk g2 [.slice none 0 0, .slice none 0 0, .int .i64 0, .int .i64 0], .own vBk1 1 3 tk1.nb (ints tk1.B), .own vFk1 1 3 tk1.nf (ints tk1.F), .own vCk1 1 22 tk1.nc vvk1, .sem (Frame.rows 3 tk1.nc vvk1 tk1.ln tk1.C), .blk g3 [.int .i64 uu1.vars, .int .i64 uu1.den, xBu1, xFu1, xCu1], .sem (Frame.alt (uu1 = tk1 ∧ xBu1 = vBk1 ∧ xFu1 = vFk1 ∧ xCu1 = vCk1 ∧ xvu1 = vvk1) (Frame.bun [.own xBu1 1 3 uu1.nb (ints uu1.B), .own xFu1 1 3 uu1.nf (ints uu1.F), .own xCu1 1 22 uu1.nc xvu1, .sem (Frame.rows 3 uu1.nc xvu1 uu1.ln uu1.C)])), .own rXr1 1 3 uu1.nf (ints (rdX uu1 uu1.nb.toNat)), .own rYr1 1 3 uu1.nb (ints (rdY uu1 uu1.nf.toNat))] := hS.comp hS'; clear hS'
  refine zle (xsw 1 st_72 hS (hd := (ones_cons hrXr1.one (ones_cons hrYr1.one (ones_cons rfl (ones_cons rfl ones_nil)))))) ?_; clear hS; rintro w hS
  replace hS := hS.n10
  refine zlv xas ?_
  refine zlt <| zrt <| zfct 1 st_72 hS ⟨_, rfl, ?_⟩
  have he0 : euu1 = 0 := by omega
  obtain ⟨hl, hts⟩ := hstk1.ok (by omega); rw [hts, he0] at hrunu1
  exact ⟨_, _, readS uu1, 0, rfl, .inr ⟨hl, uu1, hrunu1, .inr ⟨rfl, rfl⟩⟩, hrXr1, hrYr1, hS.pk [8, 9]⟩

def SameS (s u : So) : Prop := (s.n = u.n ∧ ∀ k, 0 ≤ k → k < s.n → s.X k = u.X k) ∧ (s.m = u.m ∧ ∀ k, 0 ≤ k → k < s.m → s.Y k = u.Y k) ∧ s.val = u.val ∧ s.den = u.den
theorem SameS.refl (s : So) : SameS s s := ⟨⟨rfl, fun _ _ _ => rfl⟩, ⟨rfl, fun _ _ _ => rfl⟩, rfl, rfl⟩

set_option maxRecDepth 20000 in
theorem c_samesol {vX vY : Value} {s : So} {xX xY : Value} {u : So} (w0 : World) (hX : Row w0 vX 1 s.n (ints s.X)) (hY : Row w0 vY 1 s.m (ints s.Y)) (hX2 : Row w0 xX 1 u.n (ints u.X)) (hY2 : Row w0 xY 1 u.m (ints u.Y)) :
    Calls Try.prog 87 [.agg #[vX, vY, .int .i64 s.val, .int .i64 s.den], .agg #[xX, xY, .int .i64 u.val, .int .i64 u.den]].toArray w0 fun e w => ∃ v, e = .returned v ∧ v = B (SameS s u) ∧ Sat w0 w [] := by
  refine zenG Try.func87 Try.ntmps87 fun w hS => ?_
  refine zsr ?_
  refine zla (xbx (cs := [_, _, _, _]) hS) ?_; rintro _ w ⟨g1, rfl, hS⟩
  replace hS := hS.n1
  refine zla (xbx (cs := [_, _, _, _]) hS) ?_; rintro _ w ⟨g2, rfl, hS⟩
  replace hS := hS.n2
  refine zlv xas ?_
  refine zlz ?_
  refine zlv (xfb 0 fd_72_0) ?_
  refine zlv (xlb 0 pl_22 hS) ?_
  refine zlv (xfb 0 fd_72_0) ?_
  refine zlv (xlb 1 pl_22 hS) ?_
  refine zlc (xc0 cl_22) (c_same0 (n := s.n) (m := u.n) (f := s.X) (g := u.X) w (hX.below hS.below) (hX2.below hS.below)) ?_; rintro _ w ⟨rfl, hS'⟩
  replace hS := hS.cmp hS'; clear hS'
  refine zlv xmv ?_
  refine zlb 10 ?_ ?_ <;> intro hc
  ·
   refine zlv (xfb 1 fd_72_1) ?_
   refine zlv (xlb 0 pl_22 hS) ?_
   refine zlv (xfb 1 fd_72_1) ?_
   refine zlv (xlb 1 pl_22 hS) ?_
   refine zlc (xc0 cl_22) (c_same0 (n := s.m) (m := u.m) (f := s.Y) (g := u.Y) w (hY.below hS.below) (hY2.below hS.below)) ?_; rintro _ w ⟨rfl, hS'⟩
   replace hS := hS.cmp hS'; clear hS'
   refine zs2 ?_
   refine zlb 17 ?_ ?_ <;> intro hc
   ·
    refine zlv (xfb 2 fd_72_2) ?_
    refine zlv (xlb 0 pl_3 hS) ?_
    refine zlv (xfb 2 fd_72_2) ?_
    refine zlv (xlb 1 pl_3 hS) ?_
    refine zs3 ?_
    refine zlb 24 ?_ ?_ <;> intro hc
    ·
     refine zlv (xfb 3 fd_72_3) ?_
     refine zlv (xlb 0 pl_3 hS) ?_
     refine zlv (xfb 3 fd_72_3) ?_
     refine zlv (xlb 1 pl_3 hS) ?_
     refine zs3 ?_
     refine zlt <| zrt <| zf1 ⟨_, rfl, ?_⟩
     exact ⟨B_congr ⟨fun hx => ⟨by first | assumption | exact Classical.not_not.1 ‹¬ ¬ (s.n = u.n ∧ ∀ k, 0 ≤ k → k < s.n → s.X k = u.X k)›, by first | assumption | exact Classical.not_not.1 ‹¬ ¬ (s.m = u.m ∧ ∀ k, 0 ≤ k → k < s.m → s.Y k = u.Y k)›, by omega, by omega⟩, fun h => by have h1 := h.2.2.1; have h2 := h.2.2.2; omega⟩, hS.nl⟩
    iterate 5 refine zlo ?_
    refine zs2 ?_
    refine zlt <| zrt <| zf1 ⟨_, rfl, ?_⟩
    exact ⟨false_B (by rintro ⟨h1, h2, h3, h4⟩; first | omega | exact absurd h1 ‹¬ (s.n = u.n ∧ ∀ k, 0 ≤ k → k < s.n → s.X k = u.X k)› | exact absurd h2 ‹¬ (s.m = u.m ∧ ∀ k, 0 ≤ k → k < s.m → s.Y k = u.Y k)›), hS.nl⟩
   iterate 5 refine zlo ?_
   refine zs2 ?_
   iterate 5 refine zlo ?_
   refine zs2 ?_
   refine zlt <| zrt <| zf1 ⟨_, rfl, ?_⟩
   exact ⟨false_B (by rintro ⟨h1, h2, h3, h4⟩; first | omega | exact absurd h1 ‹¬ (s.n = u.n ∧ ∀ k, 0 ≤ k → k < s.n → s.X k = u.X k)› | exact absurd h2 ‹¬ (s.m = u.m ∧ ∀ k, 0 ≤ k → k < s.m → s.Y k = u.Y k)›), hS.nl⟩
  iterate 5 refine zlo ?_
  refine zs2 ?_
  iterate 5 refine zlo ?_
  refine zs2 ?_
  iterate 5 refine zlo ?_
  refine zs2 ?_
  refine zlt <| zrt <| zf1 ⟨_, rfl, ?_⟩
  exact ⟨false_B (by rintro ⟨h1, h2, h3, h4⟩; first | omega | exact absurd h1 ‹¬ (s.n = u.n ∧ ∀ k, 0 ≤ k → k < s.n → s.X k = u.X k)› | exact absurd h2 ‹¬ (s.m = u.m ∧ ∀ k, 0 ≤ k → k < s.m → s.Y k = u.Y k)›), hS.nl⟩

end Go.Proofs.Ytelfplepnodbgaa
