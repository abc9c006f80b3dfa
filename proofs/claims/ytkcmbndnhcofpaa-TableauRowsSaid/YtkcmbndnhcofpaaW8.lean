/- The walk of Solve, of tableau. -/
import Derived.Test.YtkcmbndnhcofpaaGv
import Derived.Test.YtkcmbndnhcofpaaW7
import Derived.Test.YtkcmbndnhcofpaaFu
namespace Go.Proofs.Ytkcmbndnhcofpaa
open Go Go.RowKit Go.Proofs.Gw
set_option linter.unusedVariables false

theorem cl_18 : calledT Try.prog 18 = true := by kernel_rfl
theorem cl_8 : calledT Try.prog 8 = true := by kernel_rfl
theorem el_40 : elemT Try.prog 40 = some (.agg #[.slice none 0 0, .slice none 0 0, .int .i64 0, .int .i64 0], 4, 64) := by kernel_rfl
theorem fd_40_0 : fieldT Try.prog 40 0 = some 0 := by kernel_rfl
theorem fd_40_1 : fieldT Try.prog 40 1 = some 1 := by kernel_rfl
theorem st_40 : structT Try.prog 40 = some 4 := by kernel_rfl
set_option maxRecDepth 20000 in
theorem c_solve {vc vA vb : Value} {vq : Int → Value} {p : Lp} (w0 : World) (hL : LAt w0 vc vA vb vq p) :
    Calls Try.prog 11 [.agg #[vc, vA, vb]].toArray w0 fun e w => ∃ v, e = .returned v ∧ ∃ vX vY s e, v = .tuple #[.agg #[vX, vY, .int .i64 s.val, .int .i64 s.den], .int .i64 e] ∧ SolveR p s e ∧ Slh vX s.n ∧ Slh vY s.m ∧ Sat w0 w [.own vX 1 3 s.n (ints s.X), .own vY 1 3 s.m (ints s.Y)] := by
  have hn := hL.c.slh.n0; have hn1 := hL.c.slh.n1; have hm := hL.A.row.slh.n0; have hm1 := hL.A.row.slh.n1; have hk := hL.b.slh.n0; have hk1 := hL.b.slh.n1
  refine zenG Try.func11 Try.ntmps11 fun w hS => ?_
  refine zsr ?_
  refine zla (xbx (cs := [_, _, _]) hS) ?_; rintro _ w ⟨g1, rfl, hS⟩
  replace hS := hS.n1
  refine zla (xal (cs := [_, _, _, _]) el_40 hS) ?_; rintro _ w ⟨g2, rfl, hS⟩
  replace hS := hS.n2
  refine zlv xas ?_
  refine zlz ?_
  refine zlv (xls 0 st_34 hS) ?_
  refine zlc (xc0 cl_8) (c_start (p := p) w (hL.below hS.below)) ?_; rintro _ w ⟨vBk1, vFk1, vCk1, vvk1, tk1, ek1, rfl, hstk1, hsBk1, hsFk1, hsCk1, hS'⟩
  replace hS : Sat w0 w [.blk g1 [vc, vA, vb], .blk g2 [.slice none 0 0, .slice none 0 0, .int .i64 0, .int .i64 0], .own vBk1 1 3 tk1.nb (ints tk1.B), .own vFk1 1 3 tk1.nf (ints tk1.F), .own vCk1 1 22 tk1.nc vvk1, .sem (Frame.rows 3 tk1.nc vvk1 tk1.ln tk1.C)] := hS.comp hS'; clear hS'
  have hrsk1 := fun k (k0 : 0 ≤ k) (k1 : k < tk1.nc) => hS.slhIn 5 rfl k0 k1
  refine zs3 ?_
  refine zla (xal (cs := [_, _, _, _, _]) el_30 hS) ?_; rintro _ w ⟨g3, rfl, hS⟩
  replace hS := hS.n7
  refine zle (xsw 6 st_30 hS (hd := (ones_cons rfl (ones_cons rfl (ones_cons hsBk1.one (ones_cons hsFk1.one (ones_cons hsCk1.one ones_nil))))))) ?_; clear hS; rintro w hS
  replace hS := hS.n7
  refine zlv xas ?_
  refine zlt <| zsq <| zsr ?_
  refine zs2 ?_
  refine zlt ?_
  refine zcif ?_ ?_ <;> intro hc
  ·
   refine zsr ?_
   refine zlv (xany (v := .agg #[.slice none 0 0, .slice none 0 0, .int .i64 0, .int .i64 0])) ?_
   refine zlv xmv ?_
   refine zle (xsw 1 st_40 hS) ?_; clear hS; rintro w hS
   replace hS := hS.n7
   refine zlv xas ?_
   refine zlt <| zrt <| ztr <| zfct 1 st_40 hS ⟨_, rfl, ?_⟩
   obtain ⟨hl0, hl1⟩ := hstk1.err (by omega)
   exact ⟨_, _, So.zero, _, rfl, .inl ⟨hl0, rfl, hl1⟩, slh_nil, slh_nil, ((hS.sub (.cons _ (.cons _ (.cons _ (.cons _ (.cons _ (.cons _ (.cons _ .slnil)))))))).addnil 1 3 (ints So.zero.X)).addnil 1 3 (ints So.zero.Y)⟩
  refine zsk <| ztn <| zsq <| zsr ?_
  refine zlv (xls 6 st_30 hS) ?_
  refine zlc (xc0 cl_18) (c_optimize (t := tk1) w (⟨(hS.rowN 2 rfl), (hS.rowN 3 rfl), (⟨(hS.rowN 4 rfl), fun k k0 k1 => hS.rowIn 5 rfl k0 k1, fun k k0 k1 => hS.roomIn 5 rfl k0 k1⟩ : MAt _ vCk1 tk1.nc vvk1 tk1.ln tk1.C)⟩ : TAt _ vBk1 vFk1 vCk1 vvk1 tk1)) ?_; rintro _ w ⟨xBu1, xFu1, xCu1, xvu1, uu1, euu1, rfl, hrunu1, hxBu1, hxFu1, hxCu1, hS'⟩
  replace hS : Sat w0 w [.blk g1 [vc, vA, vb], .blk g2 [.slice none 0 0, .slice none 0 0, .int .i64 0, .int .i64 0], .own vBk1 1 3 tk1.nb (ints tk1.B), .own vFk1 1 3 tk1.nf (ints tk1.F), .own vCk1 1 22 tk1.nc vvk1, .sem (Frame.rows 3 tk1.nc vvk1 tk1.ln tk1.C), .blk g3 [.int .i64 tk1.vars, .int .i64 tk1.den, vBk1, vFk1, vCk1], .sem (Frame.alt (uu1 = tk1 ∧ xBu1 = vBk1 ∧ xFu1 = vFk1 ∧ xCu1 = vCk1 ∧ xvu1 = vvk1) (Frame.bun [.own xBu1 1 3 uu1.nb (ints uu1.B), .own xFu1 1 3 uu1.nf (ints uu1.F), .own xCu1 1 22 uu1.nc xvu1, .sem (Frame.rows 3 uu1.nc xvu1 uu1.ln uu1.C)]))] := hS.comp hS'; clear hS'
  have hxru1 := fun k (k0 : 0 ≤ k) (k1 : k < uu1.nc) => ((tat_alt (⟨(hS.rowN 2 rfl), (hS.rowN 3 rfl), (⟨(hS.rowN 4 rfl), fun k k0 k1 => hS.rowIn 5 rfl k0 k1, fun k k0 k1 => hS.roomIn 5 rfl k0 k1⟩ : MAt _ vCk1 tk1.nc vvk1 tk1.ln tk1.C)⟩ : TAt _ vBk1 vFk1 vCk1 vvk1 tk1) hS 7 rfl).C.p k k0 k1).slh
  refine zs3 ?_
  refine zle (xsw 6 st_30 hS (hd := (ones_cons rfl (ones_cons rfl (ones_cons hxBu1.one (ones_cons hxFu1.one (ones_cons hxCu1.one ones_nil))))))) ?_; clear hS; rintro w hS
  replace hS := hS.n8
  refine zlv xas ?_
  refine zlz ?_
  refine zs2 ?_
  refine zlt ?_
  refine zcif ?_ ?_ <;> intro hc
  ·
   refine zsr ?_
   refine zlv (xany (v := .agg #[.slice none 0 0, .slice none 0 0, .int .i64 0, .int .i64 0])) ?_
   refine zlv xmv ?_
   refine zle (xsw 1 st_40 hS) ?_; clear hS; rintro w hS
   replace hS := hS.n8
   refine zlv xas ?_
   refine zlt <| zrt <| ztr <| zfct 1 st_40 hS ⟨_, rfl, ?_⟩
   obtain ⟨hl, hts⟩ := hstk1.ok (by omega); rw [hts] at hrunu1
   exact ⟨_, _, So.zero, _, rfl, .inr ⟨hl, _, hrunu1, .inl ⟨by omega, rfl⟩⟩, slh_nil, slh_nil, ((hS.sub (.cons _ (.cons _ (.cons _ (.cons _ (.cons _ (.cons _ (.cons _ (.cons _ .slnil))))))))).addnil 1 3 (ints So.zero.X)).addnil 1 3 (ints So.zero.Y)⟩
  refine zsk <| ztn <| zsq <| ?_
  refine zgcut (fun M w => ∃ (v1 : Value) (v2 : Value) (g4 : Nat), (Slh v1 p.n) ∧ (Slh v2 p.m) ∧ M = [(0, .agg #[vc, vA, vb]), (1, .pointer (some ⟨g1, 0, none⟩)), (2, .pointer (some ⟨g2, 0, none⟩)), (3, .int .i64 0), (12, .agg #[vc, vA, vb]), (13, .tuple #[.agg #[.int .i64 tk1.vars, .int .i64 tk1.den, vBk1, vFk1, vCk1], .int .i64 ek1]), (11, .tuple #[.agg #[.int .i64 tk1.vars, .int .i64 tk1.den, vBk1, vFk1, vCk1], .int .i64 ek1]), (14, .agg #[.int .i64 tk1.vars, .int .i64 tk1.den, vBk1, vFk1, vCk1]), (15, .int .i64 ek1), (4, .pointer (some ⟨g3, 0, none⟩)), (5, .int .i64 euu1), (16, .int .i64 ek1), (17, B (ek1 ≠ 0)), (21, .agg #[.int .i64 tk1.vars, .int .i64 tk1.den, vBk1, vFk1, vCk1]), (22, .tuple #[.agg #[.int .i64 uu1.vars, .int .i64 uu1.den, xBu1, xFu1, xCu1], .int .i64 euu1]), (20, .tuple #[.agg #[.int .i64 uu1.vars, .int .i64 uu1.den, xBu1, xFu1, xCu1], .int .i64 euu1]), (23, .agg #[.int .i64 uu1.vars, .int .i64 uu1.den, xBu1, xFu1, xCu1]), (24, .int .i64 euu1), (25, .int .i64 euu1), (26, B (euu1 ≠ 0)), (29, .pointer (some ⟨g1, 0, none⟩)), (30, vc), (31, .int .i64 p.n), (33, .pointer (some ⟨g1, 1, none⟩)), (34, vA), (35, .int .i64 p.m), (37, .pointer (some ⟨g3, 4, none⟩)), (38, xCu1), (39, .pointer (some (cad xCu1 0))), (40, (xvu1 0)), (41, .pointer (some (cad (xvu1 0) 0))), (42, .int .i64 (uu1.C 0 0)), (43, .pointer (some ⟨g3, 1, none⟩)), (44, .int .i64 uu1.den), (32, v1), (36, v2), (45, .agg #[v1, v2, .int .i64 (uu1.C 0 0), .int .i64 uu1.den]), (6, .pointer (some ⟨g4, 0, none⟩))] ∧ Sat w0 w [.blk g1 [vc, vA, vb], .blk g2 [.slice none 0 0, .slice none 0 0, .int .i64 0, .int .i64 0], .own vBk1 1 3 tk1.nb (ints tk1.B), .own vFk1 1 3 tk1.nf (ints tk1.F), .own vCk1 1 22 tk1.nc vvk1, .sem (Frame.rows 3 tk1.nc vvk1 tk1.ln tk1.C), .blk g3 [.int .i64 uu1.vars, .int .i64 uu1.den, xBu1, xFu1, xCu1], .sem (Frame.alt (uu1 = tk1 ∧ xBu1 = vBk1 ∧ xFu1 = vFk1 ∧ xCu1 = vCk1 ∧ xvu1 = vvk1) (Frame.bun [.own xBu1 1 3 uu1.nb (ints uu1.B), .own xFu1 1 3 uu1.nf (ints uu1.F), .own xCu1 1 22 uu1.nc xvu1, .sem (Frame.rows 3 uu1.nc xvu1 uu1.ln uu1.C)])), .own v1 1 3 p.n (ints (fun _ => 0)), .own v2 1 3 p.m (ints (fun _ => 0)), .blk g4 [v1, v2, .int .i64 (uu1.C 0 0), .int .i64 uu1.den]]) ?_ ?_
  ·
   refine zdst [0, 1, 2, 3, 4, 5, 6, 7] [0, 1, 2, 3, 4, 5, 6, 7] 18 mx_ hS ?_; clear hS; intro w hS
   refine zdv 0 (fun _ => (xfb 0 fd_34_0)) ?_
   obtain ⟨hl, hts⟩ := hstk1.ok (by omega)
   have b1 := hl.n1
   have b2 := hl.n2
   have b3 := hl.m2
   have b4 := hl.k
   have hdm := hrunu1.dims
   obtain ⟨hp, hco, hlv, _⟩ := hrunu1.fin (.inl (by omega))
   have hd1 : uu1.nb = p.m := by rw [hdm.1, hts]; rfl
   have hd2 : uu1.nf = p.n := by rw [hdm.2.1, hts]; rfl
   have hd3 : uu1.vars = p.n := by rw [hdm.2.2.2, hts]; rfl
   have hd4 := hp.c; have hl0 := hp.len (i := 0) (by omega) (by omega)
   refine zdla 1 (fun w hS => (xlb 0 pl_22 hS)) ?_
   refine zdv 2 (fun _ => (xln sl_22 hL.c.slh)) ?_
   refine zdv 4 (fun _ => (xfb 1 fd_34_1)) ?_
   refine zdla 5 (fun w hS => (xlb 0 pl_23 hS)) ?_
   refine zdv 6 (fun _ => (xln sl_23 hL.A.row.slh)) ?_
   refine zdv 8 (fun _ => (xfb 4 fd_30_4)) ?_
   refine zdla 9 (fun w hS => (xlb 6 pl_23 hS)) ?_
   refine zdv 10 (fun _ => (xix (kk := 0) sl_23 hxCu1)) ?_
   refine zdla 11 (fun w hS => (xlr (u := (xvu1 0)) pl_22 (tat_alt (⟨(hS.rowN 2 rfl), (hS.rowN 3 rfl), (⟨(hS.rowN 4 rfl), fun k k0 k1 => hS.rowIn 5 rfl k0 k1, fun k k0 k1 => hS.roomIn 5 rfl k0 k1⟩ : MAt _ vCk1 tk1.nc vvk1 tk1.ln tk1.C)⟩ : TAt _ vBk1 vFk1 vCk1 vvk1 tk1) hS 7 rfl).C.row)) ?_
   refine zdv 12 (fun _ => (xix (kk := 0) sl_22 (hxru1 0 (by omega) (by omega)))) ?_
   refine zdla 13 (fun w hS => (xlr (u := .int .i64 (uu1.C 0 0)) pl_3 ((tat_alt (⟨(hS.rowN 2 rfl), (hS.rowN 3 rfl), (⟨(hS.rowN 4 rfl), fun k k0 k1 => hS.rowIn 5 rfl k0 k1, fun k k0 k1 => hS.roomIn 5 rfl k0 k1⟩ : MAt _ vCk1 tk1.nc vvk1 tk1.ln tk1.C)⟩ : TAt _ vBk1 vFk1 vCk1 vvk1 tk1) hS 7 rfl).C.p 0 (by omega) (by omega)))) ?_
   refine zdv 14 (fun _ => (xfb 1 fd_30_1)) ?_
   refine zdla 15 (fun w hS => (xlb 6 pl_3 hS)) ?_
   refine zdfk (r := [3, 7, 17]) ((zdn1 ?_ (zdn1 ?_ (zdn1 ?_ zdn0))))
   ·
    refine zka (xmk sl_22 el_3 hS) ?_; rintro v1 w ⟨hS, hv1⟩
    replace hS := hS.n9
    refine ⟨⟨fun _ => hS.pk [0, 1, 2, 3, 4, 5, 6, 7], hS.pk [0, 1, 2, 3, 4, 5, 6, 7]⟩, ?_⟩
    refine zdfk (r := [7, 17]) ((zdn1 ?_ (zdn1 ?_ zdn0)))
    ·
     refine zka (xmk sl_22 el_3 hS) ?_; rintro v2 w ⟨hS, hv2⟩
     replace hS := hS.n10
     refine ⟨⟨fun _ => hS.pk [0, 1, 2, 3, 4, 5, 6, 7], hS.pk [0, 1, 2, 3, 4, 5, 6, 7]⟩, ?_⟩
     refine zdv 16 (fun _ => (xany (v := .agg #[v1, v2, .int .i64 (uu1.C 0 0), .int .i64 uu1.den]) (hr := by obtain ⟨_, _, _, _, rfl, _⟩ := hv1; obtain ⟨_, _, _, _, rfl, _⟩ := hv2; kernel_rfl))) ?_
     refine zda 17 (xal (cs := [_, _, _, _]) el_40 hS) ?_; rintro _ w ⟨g4, rfl, hS⟩
     replace hS := hS.n11
     refine ⟨⟨fun _ => hS.pk [0, 1, 2, 3, 4, 5, 6, 7], hS.pk [0, 1, 2, 3, 4, 5, 6, 7]⟩, ?_⟩
     refine zde 18 (xsw 10 st_40 hS (hd := (ones_cons hv1.one (ones_cons hv2.one (ones_cons rfl (ones_cons rfl ones_nil)))))) ?_; clear hS; rintro w hS
     replace hS := hS.n11
     refine ⟨⟨fun h => absurd h (by decide), hS.pk [0, 1, 2, 3, 4, 5, 6, 7]⟩, ?_⟩
     refine zdd <| zgj ⟨v1, v2, g4, hv1, hv2, rfl, hS⟩
    refine zka (xal (cs := [_, _, _, _]) el_40 hS) ?_; rintro _ w ⟨g4, rfl, hS⟩
    replace hS := hS.n10
    refine ⟨⟨fun _ => hS.pk [0, 1, 2, 3, 4, 5, 6, 7], hS.pk [0, 1, 2, 3, 4, 5, 6, 7]⟩, ?_⟩
    refine zda 7 (xmk sl_22 el_3 hS) ?_; rintro v2 w ⟨hS, hv2⟩
    replace hS := hS.n11
    refine ⟨⟨fun _ => hS.pk [0, 1, 2, 3, 4, 5, 6, 7], hS.pk [0, 1, 2, 3, 4, 5, 6, 7]⟩, ?_⟩
    refine zdv 16 (fun _ => (xany (v := .agg #[v1, v2, .int .i64 (uu1.C 0 0), .int .i64 uu1.den]) (hr := by obtain ⟨_, _, _, _, rfl, _⟩ := hv1; obtain ⟨_, _, _, _, rfl, _⟩ := hv2; kernel_rfl))) ?_
    refine zde 18 (xsw 9 st_40 hS (hd := (ones_cons hv1.one (ones_cons hv2.one (ones_cons rfl (ones_cons rfl ones_nil)))))) ?_; clear hS; rintro w hS
    replace hS := hS.n11
    refine ⟨⟨fun h => absurd h (by decide), hS.pk [0, 1, 2, 3, 4, 5, 6, 7]⟩, ?_⟩
    refine zdd <| zgj ⟨v1, v2, g4, hv1, hv2, rfl, hS.pk [0, 1, 2, 3, 4, 5, 6, 7, 8, 10, 9]⟩
   ·
    refine zka (xmk sl_22 el_3 hS) ?_; rintro v1 w ⟨hS, hv1⟩
    replace hS := hS.n9
    refine ⟨⟨fun _ => hS.pk [0, 1, 2, 3, 4, 5, 6, 7], hS.pk [0, 1, 2, 3, 4, 5, 6, 7]⟩, ?_⟩
    refine zdfk (r := [3, 17]) ((zdn1 ?_ (zdn1 ?_ zdn0)))
    ·
     refine zka (xmk sl_22 el_3 hS) ?_; rintro v2 w ⟨hS, hv2⟩
     replace hS := hS.n10
     refine ⟨⟨fun _ => hS.pk [0, 1, 2, 3, 4, 5, 6, 7], hS.pk [0, 1, 2, 3, 4, 5, 6, 7]⟩, ?_⟩
     refine zdv 16 (fun _ => (xany (v := .agg #[v2, v1, .int .i64 (uu1.C 0 0), .int .i64 uu1.den]) (hr := by obtain ⟨_, _, _, _, rfl, _⟩ := hv2; obtain ⟨_, _, _, _, rfl, _⟩ := hv1; kernel_rfl))) ?_
     refine zda 17 (xal (cs := [_, _, _, _]) el_40 hS) ?_; rintro _ w ⟨g4, rfl, hS⟩
     replace hS := hS.n11
     refine ⟨⟨fun _ => hS.pk [0, 1, 2, 3, 4, 5, 6, 7], hS.pk [0, 1, 2, 3, 4, 5, 6, 7]⟩, ?_⟩
     refine zde 18 (xsw 10 st_40 hS (hd := (ones_cons hv2.one (ones_cons hv1.one (ones_cons rfl (ones_cons rfl ones_nil)))))) ?_; clear hS; rintro w hS
     replace hS := hS.n11
     refine ⟨⟨fun h => absurd h (by decide), hS.pk [0, 1, 2, 3, 4, 5, 6, 7]⟩, ?_⟩
     refine zdd <| zgj ⟨v2, v1, g4, hv2, hv1, rfl, hS.pk [0, 1, 2, 3, 4, 5, 6, 7, 9, 8, 10]⟩
    refine zka (xal (cs := [_, _, _, _]) el_40 hS) ?_; rintro _ w ⟨g4, rfl, hS⟩
    replace hS := hS.n10
    refine ⟨⟨fun _ => hS.pk [0, 1, 2, 3, 4, 5, 6, 7], hS.pk [0, 1, 2, 3, 4, 5, 6, 7]⟩, ?_⟩
    refine zda 3 (xmk sl_22 el_3 hS) ?_; rintro v2 w ⟨hS, hv2⟩
    replace hS := hS.n11
    refine ⟨⟨fun _ => hS.pk [0, 1, 2, 3, 4, 5, 6, 7], hS.pk [0, 1, 2, 3, 4, 5, 6, 7]⟩, ?_⟩
    refine zdv 16 (fun _ => (xany (v := .agg #[v2, v1, .int .i64 (uu1.C 0 0), .int .i64 uu1.den]) (hr := by obtain ⟨_, _, _, _, rfl, _⟩ := hv2; obtain ⟨_, _, _, _, rfl, _⟩ := hv1; kernel_rfl))) ?_
    refine zde 18 (xsw 9 st_40 hS (hd := (ones_cons hv2.one (ones_cons hv1.one (ones_cons rfl (ones_cons rfl ones_nil)))))) ?_; clear hS; rintro w hS
    replace hS := hS.n11
    refine ⟨⟨fun h => absurd h (by decide), hS.pk [0, 1, 2, 3, 4, 5, 6, 7]⟩, ?_⟩
    refine zdd <| zgj ⟨v2, v1, g4, hv2, hv1, rfl, hS.pk [0, 1, 2, 3, 4, 5, 6, 7, 10, 8, 9]⟩
   refine zka (xal (cs := [_, _, _, _]) el_40 hS) ?_; rintro _ w ⟨g4, rfl, hS⟩
   replace hS := hS.n9
   refine ⟨⟨fun _ => hS.pk [0, 1, 2, 3, 4, 5, 6, 7], hS.pk [0, 1, 2, 3, 4, 5, 6, 7]⟩, ?_⟩
   refine zdfk (r := [3, 7]) ((zdn1 ?_ (zdn1 ?_ zdn0)))
   ·
    refine zka (xmk sl_22 el_3 hS) ?_; rintro v1 w ⟨hS, hv1⟩
    replace hS := hS.n10
    refine ⟨⟨fun _ => hS.pk [0, 1, 2, 3, 4, 5, 6, 7], hS.pk [0, 1, 2, 3, 4, 5, 6, 7]⟩, ?_⟩
    refine zda 7 (xmk sl_22 el_3 hS) ?_; rintro v2 w ⟨hS, hv2⟩
    replace hS := hS.n11
    refine ⟨⟨fun _ => hS.pk [0, 1, 2, 3, 4, 5, 6, 7], hS.pk [0, 1, 2, 3, 4, 5, 6, 7]⟩, ?_⟩
    refine zdv 16 (fun _ => (xany (v := .agg #[v1, v2, .int .i64 (uu1.C 0 0), .int .i64 uu1.den]) (hr := by obtain ⟨_, _, _, _, rfl, _⟩ := hv1; obtain ⟨_, _, _, _, rfl, _⟩ := hv2; kernel_rfl))) ?_
    refine zde 18 (xsw 8 st_40 hS (hd := (ones_cons hv1.one (ones_cons hv2.one (ones_cons rfl (ones_cons rfl ones_nil)))))) ?_; clear hS; rintro w hS
    replace hS := hS.n11
    refine ⟨⟨fun h => absurd h (by decide), hS.pk [0, 1, 2, 3, 4, 5, 6, 7]⟩, ?_⟩
    refine zdd <| zgj ⟨v1, v2, g4, hv1, hv2, rfl, hS.pk [0, 1, 2, 3, 4, 5, 6, 7, 9, 10, 8]⟩
   refine zka (xmk sl_22 el_3 hS) ?_; rintro v1 w ⟨hS, hv1⟩
   replace hS := hS.n10
   refine ⟨⟨fun _ => hS.pk [0, 1, 2, 3, 4, 5, 6, 7], hS.pk [0, 1, 2, 3, 4, 5, 6, 7]⟩, ?_⟩
   refine zda 3 (xmk sl_22 el_3 hS) ?_; rintro v2 w ⟨hS, hv2⟩
   replace hS := hS.n11
   refine ⟨⟨fun _ => hS.pk [0, 1, 2, 3, 4, 5, 6, 7], hS.pk [0, 1, 2, 3, 4, 5, 6, 7]⟩, ?_⟩
   refine zdv 16 (fun _ => (xany (v := .agg #[v2, v1, .int .i64 (uu1.C 0 0), .int .i64 uu1.den]) (hr := by obtain ⟨_, _, _, _, rfl, _⟩ := hv2; obtain ⟨_, _, _, _, rfl, _⟩ := hv1; kernel_rfl))) ?_
   refine zde 18 (xsw 8 st_40 hS (hd := (ones_cons hv2.one (ones_cons hv1.one (ones_cons rfl (ones_cons rfl ones_nil)))))) ?_; clear hS; rintro w hS
   replace hS := hS.n11
   refine ⟨⟨fun h => absurd h (by decide), hS.pk [0, 1, 2, 3, 4, 5, 6, 7]⟩, ?_⟩
   refine zdd <| zgj ⟨v2, v1, g4, hv2, hv1, rfl, hS.pk [0, 1, 2, 3, 4, 5, 6, 7, 10, 9, 8]⟩
  clear hS w; rintro M w ⟨v1, v2, g4, hv1, hv2, rfl, hS⟩
  refine ztn <| zsq <| zsr ?_
  refine zlv (xfb 2 fd_30_2) ?_
  obtain ⟨hl, hts⟩ := hstk1.ok (by omega)
  have b1 := hl.n1
  have b2 := hl.n2
  have b3 := hl.m2
  have b4 := hl.k
  have hdm := hrunu1.dims
  obtain ⟨hp, hco, hlv, _⟩ := hrunu1.fin (.inl (by omega))
  have hd1 : uu1.nb = p.m := by rw [hdm.1, hts]; rfl
  have hd2 : uu1.nf = p.n := by rw [hdm.2.1, hts]; rfl
  have hd3 : uu1.vars = p.n := by rw [hdm.2.2.2, hts]; rfl
  have hd4 := hp.c; have hl0 := hp.len (i := 0) (by omega) (by omega)
  refine zlv (xlb 6 pl_22 hS) ?_
  refine zlv (xln sl_22 hxBu1) ?_
  refine zlv xmv ?_
  refine zlt <| zbk <| zlp (fun mm M w => ∃ (i : Int) (fX : Int → Int), mm = ((uu1.nb - i).toNat) ∧ (0 ≤ i) ∧ (i ≤ uu1.nb) ∧ (fX = rdX uu1 i.toNat) ∧ M = [(2, .pointer (some ⟨g2, 0, none⟩)), (3, .int .i64 0), (4, .pointer (some ⟨g3, 0, none⟩)), (6, .pointer (some ⟨g4, 0, none⟩)), (47, xBu1), (48, .int .i64 uu1.nb), (49, .int .i64 i)] ∧ Sat w0 w [.blk g1 [vc, vA, vb], .blk g2 [.slice none 0 0, .slice none 0 0, .int .i64 0, .int .i64 0], .own vBk1 1 3 tk1.nb (ints tk1.B), .own vFk1 1 3 tk1.nf (ints tk1.F), .own vCk1 1 22 tk1.nc vvk1, .sem (Frame.rows 3 tk1.nc vvk1 tk1.ln tk1.C), .blk g3 [.int .i64 uu1.vars, .int .i64 uu1.den, xBu1, xFu1, xCu1], .sem (Frame.alt (uu1 = tk1 ∧ xBu1 = vBk1 ∧ xFu1 = vFk1 ∧ xCu1 = vCk1 ∧ xvu1 = vvk1) (Frame.bun [.own xBu1 1 3 uu1.nb (ints uu1.B), .own xFu1 1 3 uu1.nf (ints uu1.F), .own xCu1 1 22 uu1.nc xvu1, .sem (Frame.rows 3 uu1.nc xvu1 uu1.ln uu1.C)])), .own v1 1 3 p.n (ints fX), .own v2 1 3 p.m (ints (fun _ => 0)), .blk g4 [v1, v2, .int .i64 (uu1.C 0 0), .int .i64 uu1.den]]) ⟨0, (fun _ => 0), rfl, (by omega), (by omega), ?_, rfl, hS⟩ ?_
  ·
   rfl
  clear hS w
  rintro mm M w ⟨i, fX, rfl, h0, h1, hfX, rfl, hS⟩
  refine zsr ?_
  refine zlv xlss ?_
  refine zlt <| zsq ?_
  refine zcif ?_ ?_ <;> intro hc
  ·
   refine zsk <| ztn <| zsq <| zbk <| zsr ?_
   refine zlv xmv ?_
   refine zlv (xix (kk := i) sl_22 hxBu1) ?_
   refine zlv (xlr (u := .int .i64 (uu1.B i)) pl_3 (tat_alt (⟨(hS.rowN 2 rfl), (hS.rowN 3 rfl), (⟨(hS.rowN 4 rfl), fun k k0 k1 => hS.rowIn 5 rfl k0 k1, fun k k0 k1 => hS.roomIn 5 rfl k0 k1⟩ : MAt _ vCk1 tk1.nc vvk1 tk1.ln tk1.C)⟩ : TAt _ vBk1 vFk1 vCk1 vvk1 tk1) hS 7 rfl).B) ?_
   have hrg := hp.rngB (i := i) h0 (by omega)
   refine zs2 ?_
   refine zlz ?_
   refine zlv xmv ?_
   refine zlv (xfb 0 fd_30_0) ?_
   refine zlv (xlb 6 pl_3 hS) ?_
   refine zlv xlss ?_
   refine zlt ?_
   refine zcif ?_ ?_ <;> intro hc
   ·
    refine zdst [0, 1, 2, 3, 4, 5, 6, 7, 8, 9, 10] [0, 1, 2, 3, 4, 5, 6, 7, 9, 10] 12 mx_ hS ?_; clear hS; intro w hS
    refine zdv 0 (fun _ => (xfb 0 fd_40_0)) ?_
    have hli := hp.len (i := i + 1) (by omega) (by omega)
    refine zdla 1 (fun w hS => (xlb 9 pl_22 hS)) ?_
    refine zdv 2 (fun _ => xmv) ?_
    refine zdv 3 (fun _ => (xfb 4 fd_30_4)) ?_
    refine zdla 4 (fun w hS => (xlb 6 pl_23 hS)) ?_
    refine zdv 5 (fun _ => xmv) ?_
    refine zdv 6 (fun _ => (xadd (r := i + 1))) ?_
    refine zdv 7 (fun _ => (xix (kk := i + 1) sl_23 hxCu1)) ?_
    refine zdla 8 (fun w hS => (xlr (u := (xvu1 (i + 1))) pl_22 (tat_alt (⟨(hS.rowN 2 rfl), (hS.rowN 3 rfl), (⟨(hS.rowN 4 rfl), fun k k0 k1 => hS.rowIn 5 rfl k0 k1, fun k k0 k1 => hS.roomIn 5 rfl k0 k1⟩ : MAt _ vCk1 tk1.nc vvk1 tk1.ln tk1.C)⟩ : TAt _ vBk1 vFk1 vCk1 vvk1 tk1) hS 7 rfl).C.row)) ?_
    refine zdv 9 (fun _ => (xix (kk := 0) sl_22 (hxru1 (i + 1) (by omega) (by omega)))) ?_
    refine zdla 10 (fun w hS => (xlr (u := .int .i64 (uu1.C (i + 1) 0)) pl_3 ((tat_alt (⟨(hS.rowN 2 rfl), (hS.rowN 3 rfl), (⟨(hS.rowN 4 rfl), fun k k0 k1 => hS.rowIn 5 rfl k0 k1, fun k k0 k1 => hS.roomIn 5 rfl k0 k1⟩ : MAt _ vCk1 tk1.nc vvk1 tk1.ln tk1.C)⟩ : TAt _ vBk1 vFk1 vCk1 vvk1 tk1) hS 7 rfl).C.p (i + 1) (by omega) (by omega)))) ?_
    refine zdv 11 (fun _ => (xix (kk := (uu1.B i)) sl_22 hv1)) ?_
    refine zde 12 (xso 8 pl_3 hS (upd_ints _ _ _)) ?_; clear hS; rintro w hS
    replace hS := hS.n11
    refine ⟨⟨fun h => absurd h (by decide), hS.pk [0, 1, 2, 3, 4, 5, 6, 7, 9, 10]⟩, ?_⟩
    refine zdd <| zbn <| ztn <| zrg ?_
    refine zlv (xadd (r := i + 1)) ?_
    refine zlv xmv ?_
    refine zln <| zlq ⟨i + 1, (upd fX (uu1.B i) (uu1.C (i + 1) 0)), rfl, (by omega), (by omega), ?_, rfl, hS⟩
    ·
     rw [rdX_next uu1 h0, ← hfX]; first | rw [if_pos (by omega)] | rw [if_neg (by omega)]
   refine zsk <| zbn <| ztn <| zrg ?_
   refine zlv (xadd (r := i + 1)) ?_
   refine zlv xmv ?_
   refine zln <| zlq ⟨i + 1, fX, rfl, (by omega), (by omega), ?_, rfl, hS⟩
   ·
    rw [rdX_next uu1 h0, ← hfX]; first | rw [if_pos (by omega)] | rw [if_neg (by omega)]
  refine zxt <| ztx <| ztx <| zbh <| ztn <| zsq <| zsr ?_
  refine zlv (xfb 3 fd_30_3) ?_
  refine zlv (xlb 6 pl_22 hS) ?_
  refine zlv (xln sl_22 hxFu1) ?_
  refine zlv xmv ?_
  refine zlt <| zbk <| zlp (fun mm M w => ∃ (j : Int) (fY : Int → Int), mm = ((uu1.nf - j).toNat) ∧ (0 ≤ j) ∧ (j ≤ uu1.nf) ∧ (fY = rdY uu1 j.toNat) ∧ M = [(2, .pointer (some ⟨g2, 0, none⟩)), (3, .int .i64 0), (4, .pointer (some ⟨g3, 0, none⟩)), (6, .pointer (some ⟨g4, 0, none⟩)), (72, xFu1), (73, .int .i64 uu1.nf), (74, .int .i64 j)] ∧ Sat w0 w [.blk g1 [vc, vA, vb], .blk g2 [.slice none 0 0, .slice none 0 0, .int .i64 0, .int .i64 0], .own vBk1 1 3 tk1.nb (ints tk1.B), .own vFk1 1 3 tk1.nf (ints tk1.F), .own vCk1 1 22 tk1.nc vvk1, .sem (Frame.rows 3 tk1.nc vvk1 tk1.ln tk1.C), .blk g3 [.int .i64 uu1.vars, .int .i64 uu1.den, xBu1, xFu1, xCu1], .sem (Frame.alt (uu1 = tk1 ∧ xBu1 = vBk1 ∧ xFu1 = vFk1 ∧ xCu1 = vCk1 ∧ xvu1 = vvk1) (Frame.bun [.own xBu1 1 3 uu1.nb (ints uu1.B), .own xFu1 1 3 uu1.nf (ints uu1.F), .own xCu1 1 22 uu1.nc xvu1, .sem (Frame.rows 3 uu1.nc xvu1 uu1.ln uu1.C)])), .own v1 1 3 p.n (ints fX), .own v2 1 3 p.m (ints fY), .blk g4 [v1, v2, .int .i64 (uu1.C 0 0), .int .i64 uu1.den]]) ⟨0, (fun _ => 0), rfl, (by omega), (by omega), ?_, rfl, hS⟩ ?_
  ·
   rfl
  clear hS w
  rintro mm M w ⟨j, fY, rfl, j0, j1, hfY, rfl, hS⟩
  refine zsr ?_
  refine zlv xlss ?_
  refine zlt <| zsq ?_
  refine zcif ?_ ?_ <;> intro hc
  ·
   refine zsk <| ztn <| zsq <| zbk <| zsr ?_
   refine zlv xmv ?_
   refine zlv (xix (kk := j) sl_22 hxFu1) ?_
   refine zlv (xlr (u := .int .i64 (uu1.F j)) pl_3 (tat_alt (⟨(hS.rowN 2 rfl), (hS.rowN 3 rfl), (⟨(hS.rowN 4 rfl), fun k k0 k1 => hS.rowIn 5 rfl k0 k1, fun k k0 k1 => hS.roomIn 5 rfl k0 k1⟩ : MAt _ vCk1 tk1.nc vvk1 tk1.ln tk1.C)⟩ : TAt _ vBk1 vFk1 vCk1 vvk1 tk1) hS 7 rfl).F) ?_
   have hrg := hp.rngF (i := j) j0 (by omega) (by omega)
   refine zs2 ?_
   refine zlz ?_
   refine zlv xmv ?_
   refine zlv (xfb 0 fd_30_0) ?_
   refine zlv (xlb 6 pl_3 hS) ?_
   refine zlv xgeq ?_
   refine zlt ?_
   refine zcif ?_ ?_ <;> intro hc
   ·
    refine zdst [0, 1, 2, 3, 4, 5, 6, 7, 8, 9, 10] [0, 1, 2, 3, 4, 5, 6, 7, 8, 10] 15 mx_ hS ?_; clear hS; intro w hS
    refine zdv 0 (fun _ => (xfb 1 fd_40_1)) ?_
    refine zdla 1 (fun w hS => (xlb 9 pl_22 hS)) ?_
    refine zdv 2 (fun _ => xmv) ?_
    refine zdv 3 (fun _ => (xfb 0 fd_30_0)) ?_
    refine zdla 4 (fun w hS => (xlb 6 pl_3 hS)) ?_
    refine zdv 5 (fun _ => (xsub (r := (uu1.F j) - uu1.vars))) ?_
    refine zdv 6 (fun _ => (xfb 4 fd_30_4)) ?_
    refine zdla 7 (fun w hS => (xlb 6 pl_23 hS)) ?_
    refine zdv 8 (fun _ => (xix (kk := 0) sl_23 hxCu1)) ?_
    refine zdla 9 (fun w hS => (xlr (u := (xvu1 0)) pl_22 (tat_alt (⟨(hS.rowN 2 rfl), (hS.rowN 3 rfl), (⟨(hS.rowN 4 rfl), fun k k0 k1 => hS.rowIn 5 rfl k0 k1, fun k k0 k1 => hS.roomIn 5 rfl k0 k1⟩ : MAt _ vCk1 tk1.nc vvk1 tk1.ln tk1.C)⟩ : TAt _ vBk1 vFk1 vCk1 vvk1 tk1) hS 7 rfl).C.row)) ?_
    refine zdv 10 (fun _ => xmv) ?_
    refine zdv 11 (fun _ => (xadd (r := j + 1))) ?_
    refine zdv 12 (fun _ => (xix (kk := j + 1) sl_22 (hxru1 0 (by omega) (by omega)))) ?_
    refine zdla 13 (fun w hS => (xlr (u := .int .i64 (uu1.C 0 (j + 1))) pl_3 ((tat_alt (⟨(hS.rowN 2 rfl), (hS.rowN 3 rfl), (⟨(hS.rowN 4 rfl), fun k k0 k1 => hS.rowIn 5 rfl k0 k1, fun k k0 k1 => hS.roomIn 5 rfl k0 k1⟩ : MAt _ vCk1 tk1.nc vvk1 tk1.ln tk1.C)⟩ : TAt _ vBk1 vFk1 vCk1 vvk1 tk1) hS 7 rfl).C.p 0 (by omega) (by omega)))) ?_
    refine zdv 14 (fun _ => (xix (kk := (uu1.F j) - uu1.vars) sl_22 hv2)) ?_
    refine zde 15 (xso 9 pl_3 hS (upd_ints _ _ _)) ?_; clear hS; rintro w hS
    replace hS := hS.n11
    refine ⟨⟨fun h => absurd h (by decide), hS.pk [0, 1, 2, 3, 4, 5, 6, 7, 8, 10]⟩, ?_⟩
    refine zdd <| zbn <| ztn <| zrg ?_
    refine zlv (xadd (r := j + 1)) ?_
    refine zlv xmv ?_
    refine zln <| zlq ⟨j + 1, (upd fY ((uu1.F j) - uu1.vars) (uu1.C 0 (j + 1))), rfl, (by omega), (by omega), ?_, rfl, hS⟩
    ·
     rw [rdY_next uu1 j0, ← hfY]; first | rw [if_pos (by omega)] | rw [if_neg (by omega)]
   refine zsk <| zbn <| ztn <| zrg ?_
   refine zlv (xadd (r := j + 1)) ?_
   refine zlv xmv ?_
   refine zln <| zlq ⟨j + 1, fY, rfl, (by omega), (by omega), ?_, rfl, hS⟩
   ·
    rw [rdY_next uu1 j0, ← hfY]; first | rw [if_pos (by omega)] | rw [if_neg (by omega)]
  refine zxt <| ztx <| ztx <| zbh <| ztn <| zsr ?_
  refine zlv (xls 10 st_40 hS) ?_
  refine zle (xsw 1 st_40 hS (hd := (ones_cons hv1.one (ones_cons hv2.one (ones_cons rfl (ones_cons rfl ones_nil)))))) ?_; clear hS; rintro w hS
  replace hS := hS.n11
  refine zlv xas ?_
  refine zlt <| zrt <| zfct 1 st_40 hS ⟨_, rfl, ?_⟩
  obtain rfl : i = uu1.nb := by omega
  obtain rfl : j = uu1.nf := by omega
  have he0 : euu1 = 0 := by omega
  rw [hts, he0] at hrunu1
  rw [← hd2] at hv1; rw [← hd1] at hv2; replace hS := hS.pk [8, 9]; rw [← hd2, ← hd1] at hS; subst hfX; subst hfY
  exact ⟨_, _, readS uu1, 0, rfl, .inr ⟨hl, uu1, hrunu1, .inr ⟨rfl, rfl⟩⟩, hv1, hv2, hS⟩

end Go.Proofs.Ytkcmbndnhcofpaa
