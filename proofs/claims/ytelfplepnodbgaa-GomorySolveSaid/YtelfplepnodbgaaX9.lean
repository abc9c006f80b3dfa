/- The walk of Bounds, of gomory. -/
import Derived.Test.YtelfplepnodbgaaGc
import Derived.Test.YtelfplepnodbgaaX8
namespace Go.Proofs.Ytelfplepnodbgaa
open Go Go.RowKit Go.Proofs.Gw
set_option linter.unusedVariables false

structure GBT where
  brk : Bool
  r : Value
  v : Value
  n : Int
  f : Int → Int
  e : Int
def jcB (t : GBT) : Code := if t.brk = true then .exit 0 else .ret
theorem jcB_or (t : GBT) : jcB t = .ret ∨ ∃ id, jcB t = .exit id := by unfold jcB; split; exact .inr ⟨0, rfl⟩; exact .inl rfl
theorem jcB_f {t : GBT} (h : t.brk = false) : jcB t = .ret := by unfold jcB; rw [h]; rfl
theorem jcB_t {t : GBT} (h : t.brk = true) : jcB t = .exit 0 := by unfold jcB; rw [h]; rfl
/-- How a round of Bounds may break off. -/
def BSx (p : Lp) (most : Int) (s : List GX × Value) (x : GX) (t : GBT) : Prop := Slh t.v t.n ∧
  ((t.brk = false ∧ t.r = t.v ∧ t.e = 0 ∧ t.n = s.1.length ∧ t.f = bdF cvP (s.1.map GX.t) ∧ x.e = 9 ∧ 0 < (s.1.length : Int) ∧ 16 < p.m + s.1.length ∧ (s.1.length : Int) ≤ most) ∨
   (t.brk = false ∧ t.r = .slice none 0 0 ∧ t.e = x.e ∧ x.e ≠ 0 ∧ ¬ (x.e = 9 ∧ 0 < (s.1.length : Int) ∧ 16 < p.m + s.1.length) ∧ (s.1.length : Int) ≤ most) ∨
   (t.brk = true ∧ t.r = .slice none 0 0 ∧ t.e = 0 ∧ x.e = 0 ∧ t.n = s.1.length + 1 ∧ (∀ k, 0 ≤ k → k < t.n → t.f k = bdF cvP ((s.1 ++ [x]).map GX.t) k) ∧ most < s.1.length + 1 ∧ (s.1.length : Int) ≤ most))

set_option maxRecDepth 20000 in
theorem c_bounds {vc vA vb : Value} {vq : Int → Value} {p : Lp} {most : Int} (w0 : World) (hL : LAt w0 vc vA vb vq p) (hmost0 : -9223372036854775808 ≤ most ∧ most ≤ 9223372036854775807) :
    Calls Try.prog 31 [.agg #[vc, vA, vb], .int .i64 most].toArray w0 fun e w => ∃ v, e = .returned v ∧ ∃ r n f e, v = .tuple #[r, .int .i64 e] ∧ BoundsR cvP p most n f e ∧ Slh r n ∧ Sat w0 w [.own r 1 3 n (ints f)] := by
  have hn := hL.c.slh.n0; have hn1 := hL.c.slh.n1; have hm := hL.A.row.slh.n0; have hm1 := hL.A.row.slh.n1; have hk := hL.b.slh.n0; have hk1 := hL.b.slh.n1
  refine henM Try.func31 Try.ntmps31 fun w hS => ?_
  refine hsq <| hrz ?_
  refine zla (xbx (cs := [_, _, _]) hS) ?_; rintro _ w ⟨g1, rfl, hS⟩
  replace hS : Sat w0 w [.blk _ [_, _, _]] := hS
  refine zla (xbx (cs := [_]) hS) ?_; rintro _ w ⟨g2, rfl, hS⟩
  replace hS : Sat w0 w [.blk _ [_, _, _], .blk _ [_]] := hS
  refine zla (xal (cs := [_]) el_22 hS) ?_; rintro _ w ⟨g3, rfl, hS⟩
  replace hS : Sat w0 w [.blk _ [_, _, _], .blk _ [_], .blk _ [_]] := hS
  refine zla (xal (cs := [_]) el_29 hS) ?_; rintro _ w ⟨g4, rfl, hS⟩
  replace hS : Sat w0 w [.blk _ [_, _, _], .blk _ [_], .blk _ [_], .blk _ [_]] := hS
  refine zln <| zh <| htn <| hsq <| hsq <| hrz ?_
  refine zlv (xlb 1 pl_3 hS) ?_
  refine zlv xlss ?_
  refine zlv xmv ?_
  refine zlb 11 ?_ ?_ <;> intro hc
  ·
   iterate 2 refine zlo ?_
   refine zlv xpt ?_
   refine zln <| zh <| htn <| hct <| hsq <| hrz ?_
   refine zle (xsb 2 pl_22 hS) ?_; clear hS; rintro w hS
   replace hS : Sat w0 w [.blk _ [_, _, _], .blk _ [_], .blk _ [_], .blk _ [_]] := hS
   refine zle (xsb 3 pl_29 hS) ?_; clear hS; rintro w hS
   replace hS : Sat w0 w [.blk _ [_, _, _], .blk _ [_], .blk _ [_], .blk _ [_]] := hS
   refine zln <| zh <| htn <| hrt <| ztr <| hmk0 <| zfc2 pl_22 pl_29 (hS.cellN 2 rfl rfl) (hS.cellN 3 rfl rfl) ⟨_, rfl, ?_⟩
   exact ⟨_, 0, fun _ => 0, 2, rfl, .inl ⟨by omega, rfl, rfl⟩, slh_nil, (hS.addnil 1 3 (ints fun _ => 0)).sub (.cons _ (.cons _ (.cons _ (.cons _ (.cons_cons _ .slnil)))))⟩
  ·
   refine zlv (xlb 1 pl_3 hS) ?_
   refine zlv xgtr ?_
   refine zlv xpf ?_
   refine zln <| zh <| htn ?_
   refine hcif ?_ ?_ <;> intro hc
   ·
    refine hsq <| hrz ?_
    refine zle (xsb 2 pl_22 hS) ?_; clear hS; rintro w hS
    replace hS : Sat w0 w [.blk _ [_, _, _], .blk _ [_], .blk _ [_], .blk _ [_]] := hS
    refine zle (xsb 3 pl_29 hS) ?_; clear hS; rintro w hS
    replace hS : Sat w0 w [.blk _ [_, _, _], .blk _ [_], .blk _ [_], .blk _ [_]] := hS
    refine zln <| zh <| htn <| hrt <| ztr <| hmk0 <| zfc2 pl_22 pl_29 (hS.cellN 2 rfl rfl) (hS.cellN 3 rfl rfl) ⟨_, rfl, ?_⟩
    exact ⟨_, 0, fun _ => 0, 2, rfl, .inl ⟨by omega, rfl, rfl⟩, slh_nil, (hS.addnil 1 3 (ints fun _ => 0)).sub (.cons _ (.cons _ (.cons _ (.cons _ (.cons_cons _ .slnil)))))⟩
   ·
    refine hsk <| htn <| hsq <| hrz ?_
    refine zla (xal (cs := [_]) el_22 hS) ?_; rintro _ w ⟨g5, rfl, hS⟩
    replace hS : Sat w0 w [.blk _ [_, _, _], .blk _ [_], .blk _ [_], .blk _ [_], .blk _ [_]] := hS
    refine zln <| zh <| htn <| hsq <| hsq <| hrz ?_
    refine zlv (xls 0 st_48 hS) ?_
    refine zlc (xc0 cl_72) (c_rounds (p := p) w (hL.below hS.below)) ?_; rintro _ w ⟨g6, rfl, hS'⟩
    replace hS : Sat w0 w [.blk g1 [vc, vA, vb], .blk g2 [.int .i64 most], .blk g3 [.slice none 0 0], .blk g4 [.int .i64 0], .blk g5 [.slice none 0 0], .blk g6 [vc, vA, vb]] := hS.comp hS'; clear hS'
    refine zln <| zh <| htn <| hbk ?_
    replace hS := hS.addnil 1 3 (ints (bdF cvP []))
    replace hS : Sat w0 w [.blk _ [_, _, _], .blk _ [_], .blk _ [_], .blk _ [_], .blk _ [_], .blk _ [_, _, _], _] := hS
    replace hS := hS.addfact (p := ((([], Value.slice none 0 0) : List GX × Value).1.length : Int) ≤ most) (by simp; omega)
    replace hS : Sat w0 w [.blk _ [_, _, _], .blk _ [_], .blk _ [_], .blk _ [_], .blk _ [_], .blk _ [_, _, _], _, _] := hS
    refine hrf (St := List GX × Value) (X := GX) (Tt := GBT) (fun s => [.blk g1 [vc, vA, vb], .blk g2 [.int .i64 most], .blk g3 [.slice none 0 0], .blk g4 [.int .i64 0], .blk g5 [s.2], .own s.2 1 3 (s.1.length : Int) (ints (bdF cvP (s.1.map GX.t))), .sem (Frame.fact ((s.1.length : Int) ≤ most))]) (fun t => [.blk g3 [t.r], .blk g4 [.int .i64 t.e], .blk g5 [t.v], .own t.v 1 3 t.n (ints t.f)]) (jcB) ([], .slice none 0 0) (fun x M es => ∃ (g7 : Nat), M = [(0, .agg #[vc, vA, vb]), (1, .int .i64 most), (2, .pointer (some ⟨g1, 0, none⟩)), (3, .pointer (some ⟨g2, 0, none⟩)), (4, .pointer (some ⟨g3, 0, none⟩)), (5, .pointer (some ⟨g4, 0, none⟩)), (9, .int .i64 most), (10, B (most < 0)), (11, .bool false), (12, .int .i64 most), (13, B (16 < most)), (14, B (16 < most)), (6, .pointer (some ⟨g5, 0, none⟩)), (15, .agg #[vc, vA, vb]), (16, .func (.func 109) #[] #[.pointer (some ⟨g6, 0, none⟩)]), (17, .agg #[.int .i64 x.t.vars, .int .i64 x.t.den, x.vB, x.vF, x.vC, B (x.fr), .int .i64 x.e]), (7, .pointer (some ⟨g7, 0, none⟩))] ∧ es = [.blk g7 [.int .i64 x.t.vars, .int .i64 x.t.den, x.vB, x.vF, x.vC, B (x.fr), .int .i64 x.e]]) (c_rounds1 (gp := g6) (fun s : List GX × Value => s.1) ([], .slice none 0 0) rfl (fun x => x.e = 0) (BSx p most) w0 hL) (hS.pk [0, 1, 2, 3, 4, 6, 7, 5]) cl_109 (fun _ => rfl) (jcB_or) ?_ ?_ ?_ ?_
    ·
     intro l s x rest w hpre rest1 hrr hS
     have hxB := hpre.sB; have hxF := hpre.sF; have hxC := hpre.sC; have hsl := hpre.len hm
     replace hS : Sat w0 w [.blk _ [_, _, _], .blk _ [_], .blk _ [_], .blk _ [_], .blk _ [_], _, _, .blk _ [_, _, _], _] := hS
     refine hrz ?_
     refine zla (xal (cs := [_, _, _, _, _, _, _]) el_119 hS) ?_; rintro _ w ⟨g7, rfl, hS⟩
     replace hS : Sat w0 w [.blk _ [_, _, _], .blk _ [_], .blk _ [_], .blk _ [_], .blk _ [_], _, _, .blk _ [_, _, _], _, .blk _ [_, _, _, _, _, _, _]] := hS
     refine zle (xsw 9 st_119 hS (hd := (ones_cons rfl (ones_cons rfl (ones_cons hxB.one (ones_cons hxF.one (ones_cons hxC.one (ones_cons (B_one _) (ones_cons rfl ones_nil))))))))) ?_; clear hS; rintro w hS
     replace hS : Sat w0 w [.blk _ [_, _, _], .blk _ [_], .blk _ [_], .blk _ [_], .blk _ [_], _, _, .blk _ [_, _, _], _, .blk _ [_, _, _, _, _, _, _]] := hS
     refine zln <| zh <| hasg ⟨g7, rfl, rfl⟩ hS
    ·
     rintro l s x _ _ rest w hpre ⟨g7, rfl, rfl⟩ rest1 hrr hS
     have hxB := hpre.sB; have hxF := hpre.sF; have hxC := hpre.sC; have hsl := hpre.len hm
     replace hS : Sat w0 w [.blk _ [_, _, _], .blk _ [_], .blk _ [_], .blk _ [_], .blk _ [_], _, _, .blk _ [_, _, _], _, .blk _ [_, _, _, _, _, _, _]] := hS
     have hs2 := (hS.rowN 5 rfl).slh; have hfl := hS.factN 6 rfl
     refine hbk <| hsq <| hsq <| hrz ?_
     refine zlv (xfb 6 fd_119_2) ?_
     refine zlv (xlb 9 pl_29 hS) ?_
     refine zlv xeql ?_
     refine zlv xmv ?_
     refine zlb 21 ?_ ?_ <;> intro hc
     ·
      refine zlv (xlb 4 pl_22 hS) ?_
      refine zlv (xln sl_22 hs2) ?_
      refine zlv xgtr ?_
      refine zlv xpt ?_
      refine zlv xmv ?_
      refine zlb 26 ?_ ?_ <;> intro hc
      ·
       refine zlv (xfb 1 fd_48_1) ?_
       refine zlv (xlb 0 pl_23 hS) ?_
       refine zlv (xln sl_23 hL.A.row.slh) ?_
       refine zlv (xlb 4 pl_22 hS) ?_
       refine zlv (xln sl_22 hs2) ?_
       refine zlv (xadd (r := p.m + (s.1.length : Int))) ?_
       refine zlv xgtr ?_
       refine zlv xpt ?_
       refine zln <| zh <| htn ?_
       refine hcif ?_ ?_ <;> intro hc
       ·
        refine hsq <| hrz ?_
        refine zlv (xlb 4 pl_22 hS) ?_
        refine zle (xsb 2 pl_22 hS (hv := hs2.one)) ?_; clear hS; rintro w hS
        replace hS : Sat w0 w [.blk _ [_, _, _], .blk _ [_], .blk _ [_], .blk _ [_], .blk _ [_], _, _, .blk _ [_, _, _], _, .blk _ [_, _, _, _, _, _, _]] := hS
        refine zle (xsb 3 pl_29 hS) ?_; clear hS; rintro w hS
        replace hS : Sat w0 w [.blk _ [_, _, _], .blk _ [_], .blk _ [_], .blk _ [_], .blk _ [_], _, _, .blk _ [_, _, _], _, .blk _ [_, _, _, _, _, _, _]] := hS
        refine zln <| zh <| htn <| hrt <| ztr <| zbr <| hrdR ⟨false, s.2, s.2, (s.1.length : Int), bdF cvP (s.1.map GX.t), 0⟩ ⟨hs2, .inl ⟨rfl, rfl, rfl, rfl, rfl, by omega, by omega, by omega, by omega⟩⟩ rfl (hS.pk [2, 3, 4, 5, 7, 8])
       ·
        refine hsk <| htn <| hsq <| hsq <| hrz ?_
        refine zlv (xfb 6 fd_119_2) ?_
        refine zlv (xlb 9 pl_29 hS) ?_
        refine zlv (xkt xneq) ?_
        refine zln <| zh <| htn <| hct <| hsq ?_
        refine hdst [0, 1, 2, 3, 4, 5, 6, 7, 8, 9] [0, 1, 4, 5, 6, 7, 8, 9] 2 mx_ hS ?_; clear hS; intro w hS
        refine zdv 0 (fun _ => (xfb 6 fd_119_2)) ?_
        refine zdla 1 (fun w hS => (xlb 7 pl_29 hS)) ?_
        refine zde 2 (xsb 2 pl_22 hS) ?_; clear hS; rintro w hS
        replace hS : Sat w0 w [.blk _ [_, _, _], .blk _ [_], .blk _ [_], .blk _ [_], .blk _ [_], _, _, .blk _ [_, _, _], _, .blk _ [_, _, _, _, _, _, _]] := hS
        refine ⟨⟨fun h => absurd h (by decide), hS.pk [0, 1, 4, 5, 6, 7, 8, 9]⟩, ?_⟩
        refine zde 3 (xsb 3 pl_29 hS) ?_; clear hS; rintro w hS
        replace hS : Sat w0 w [.blk _ [_, _, _], .blk _ [_], .blk _ [_], .blk _ [_], .blk _ [_], _, _, .blk _ [_, _, _], _, .blk _ [_, _, _, _, _, _, _]] := hS
        refine ⟨⟨fun h => absurd h (by decide), hS.pk [0, 1, 4, 5, 6, 7, 8, 9]⟩, ?_⟩
        refine zdd <| zh <| htn <| hrt <| ztr <| zbr <| hrdR ⟨false, .slice none 0 0, s.2, (s.1.length : Int), bdF cvP (s.1.map GX.t), x.e⟩ ⟨hs2, .inr (.inl ⟨rfl, rfl, rfl, by omega, by omega, by omega⟩)⟩ rfl (hS.pk [2, 3, 4, 5, 7, 8])
      ·
       iterate 7 refine zlo ?_
       refine zlv xpf ?_
       refine zln <| zh <| htn <| hcf <| hsk <| htn <| hsq <| hsq <| hrz ?_
       refine zlv (xfb 6 fd_119_2) ?_
       refine zlv (xlb 9 pl_29 hS) ?_
       refine zlv (xkt xneq) ?_
       refine zln <| zh <| htn <| hct <| hsq ?_
       refine hdst [0, 1, 2, 3, 4, 5, 6, 7, 8, 9] [0, 1, 4, 5, 6, 7, 8, 9] 2 mx_ hS ?_; clear hS; intro w hS
       refine zdv 0 (fun _ => (xfb 6 fd_119_2)) ?_
       refine zdla 1 (fun w hS => (xlb 7 pl_29 hS)) ?_
       refine zde 2 (xsb 2 pl_22 hS) ?_; clear hS; rintro w hS
       replace hS : Sat w0 w [.blk _ [_, _, _], .blk _ [_], .blk _ [_], .blk _ [_], .blk _ [_], _, _, .blk _ [_, _, _], _, .blk _ [_, _, _, _, _, _, _]] := hS
       refine ⟨⟨fun h => absurd h (by decide), hS.pk [0, 1, 4, 5, 6, 7, 8, 9]⟩, ?_⟩
       refine zde 3 (xsb 3 pl_29 hS) ?_; clear hS; rintro w hS
       replace hS : Sat w0 w [.blk _ [_, _, _], .blk _ [_], .blk _ [_], .blk _ [_], .blk _ [_], _, _, .blk _ [_, _, _], _, .blk _ [_, _, _, _, _, _, _]] := hS
       refine ⟨⟨fun h => absurd h (by decide), hS.pk [0, 1, 4, 5, 6, 7, 8, 9]⟩, ?_⟩
       refine zdd <| zh <| htn <| hrt <| ztr <| zbr <| hrdR ⟨false, .slice none 0 0, s.2, (s.1.length : Int), bdF cvP (s.1.map GX.t), x.e⟩ ⟨hs2, .inr (.inl ⟨rfl, rfl, rfl, by omega, by omega, by omega⟩)⟩ rfl (hS.pk [2, 3, 4, 5, 7, 8])
     ·
      iterate 3 refine zlo ?_
      refine zlv xpf ?_
      refine zlv xmv ?_
      iterate 7 refine zlo ?_
      refine zlv xpf ?_
      refine zln <| zh <| htn <| hcf <| hsk <| htn <| hsq <| hsq <| hrz ?_
      refine zlv (xfb 6 fd_119_2) ?_
      refine zlv (xlb 9 pl_29 hS) ?_
      refine zlv xneq ?_
      refine zln <| zh <| htn ?_
      refine hcif ?_ ?_ <;> intro hc
      ·
       refine hsq ?_
       refine hdst [0, 1, 2, 3, 4, 5, 6, 7, 8, 9] [0, 1, 4, 5, 6, 7, 8, 9] 2 mx_ hS ?_; clear hS; intro w hS
       refine zdv 0 (fun _ => (xfb 6 fd_119_2)) ?_
       refine zdla 1 (fun w hS => (xlb 7 pl_29 hS)) ?_
       refine zde 2 (xsb 2 pl_22 hS) ?_; clear hS; rintro w hS
       replace hS : Sat w0 w [.blk _ [_, _, _], .blk _ [_], .blk _ [_], .blk _ [_], .blk _ [_], _, _, .blk _ [_, _, _], _, .blk _ [_, _, _, _, _, _, _]] := hS
       refine ⟨⟨fun h => absurd h (by decide), hS.pk [0, 1, 4, 5, 6, 7, 8, 9]⟩, ?_⟩
       refine zde 3 (xsb 3 pl_29 hS) ?_; clear hS; rintro w hS
       replace hS : Sat w0 w [.blk _ [_, _, _], .blk _ [_], .blk _ [_], .blk _ [_], .blk _ [_], _, _, .blk _ [_, _, _], _, .blk _ [_, _, _, _, _, _, _]] := hS
       refine ⟨⟨fun h => absurd h (by decide), hS.pk [0, 1, 4, 5, 6, 7, 8, 9]⟩, ?_⟩
       refine zdd <| zh <| htn <| hrt <| ztr <| zbr <| hrdR ⟨false, .slice none 0 0, s.2, (s.1.length : Int), bdF cvP (s.1.map GX.t), x.e⟩ ⟨hs2, .inr (.inl ⟨rfl, rfl, rfl, by omega, by omega, by omega⟩)⟩ rfl (hS.pk [2, 3, 4, 5, 7, 8])
      ·
       refine hsk <| htn <| hsq <| hrz ?_
       refine zlv (xfb 0 fd_119_0) ?_
       obtain ⟨tt, e9, hRn, hok, _, _, _, ⟨h1, _⟩ | ⟨_, rfl, hop, hprp, hfq, htat⟩⟩ := hpre
       · exact absurd h1 ‹_›
       have hxn := hxB.n0; have hxn2 := hxF.n0
       have b1 := hprp.n1
       have b2 := hprp.n2
       have b3 := hprp.m2
       have b4 := hprp.v
       have b5 := hprp.d1
       have b6 := hprp.d2
       have b7 := hprp.c
       have hxr := fun k (k0 : 0 ≤ k) (k1 : k < x.t.nc) => ((htat _ (hrr _ (hS.holds (.sem rest1) (List.mem_of_getElem? (i := 8) rfl)))).C.p k k0 k1).slh
       have hxl0 := hprp.len (i := 0) (by omega) (by omega)
       have hcx := hprp.cell (i := 0) (j := 0) (by omega) (by omega) (by omega) (by omega)
       have hrm := rmd_rng (a := -(x.t.C 0 0)) (d := x.t.den) (by omega)
       have hqd := tdiv_abs (a := x.t.C 0 0 + rmd (-(x.t.C 0 0)) x.t.den) (d := x.t.den) (A := 2147483648) (by omega) (by omega)
       refine zlv (xfb 4 fd_28_4) ?_
       refine zlv (xlb 9 pl_23 hS) ?_
       refine zlv (xix (kk := 0) sl_23 hxC) ?_
       refine zlv (xlr (u := (x.vv 0)) pl_22 (htat _ (hrr _ (hS.holds (.sem rest1) (List.mem_of_getElem? (i := 8) rfl)))).C.row) ?_
       refine zlv (xix (kk := 0) sl_22 (hxr 0 (by omega) (by omega))) ?_
       refine zlv (xlr (u := .int .i64 (x.t.C 0 0)) pl_3 ((htat _ (hrr _ (hS.holds (.sem rest1) (List.mem_of_getElem? (i := 8) rfl)))).C.p 0 (by omega) (by omega))) ?_
       refine zlv xas ?_
       refine zln <| zh <| htn <| hsq ?_
       refine hdst [0, 1, 2, 3, 4, 6, 7, 8, 9] [0, 1, 2, 3, 6, 7, 8, 9] 15 mx_ hS ?_; clear hS; intro w hS
       refine zdl 0 (fun w hS => (xlb 4 pl_22 hS)) ?_
       refine zdv 1 (fun _ => xmv) ?_
       refine zdv 2 (fun _ => xmv) ?_
       refine zdv 3 (fun _ => (xneg (r := -((x.t.C 0 0))))) ?_
       refine zdv 4 (fun _ => (xfb 0 fd_119_0)) ?_
       refine zdv 5 (fun _ => (xfb 1 fd_28_1)) ?_
       refine zdla 6 (fun w hS => (xlb 7 pl_3 hS)) ?_
       refine zdv 9 (fun _ => (xfb 0 fd_119_0)) ?_
       refine zdv 10 (fun _ => (xfb 1 fd_28_1)) ?_
       refine zdla 11 (fun w hS => (xlb 7 pl_3 hS)) ?_
       refine zdc 7 (xc0 cl_63) (c_rem (a := (-((x.t.C 0 0)))) (d := x.t.den) w (by omega) (by omega)) ?_; rintro _ w ⟨rfl, hS'⟩
       replace hS := hS.cmp hS'; clear hS'
       refine ⟨⟨fun _ => hS.pk [0, 1, 2, 3, 4, 6, 7, 8, 9], hS.pk [0, 1, 2, 3, 6, 7, 8, 9]⟩, ?_⟩
       refine zdv 8 (fun _ => (xadd (r := (x.t.C 0 0) + (rmd (-((x.t.C 0 0))) x.t.den)))) ?_
       refine zdv 12 (fun _ => (xquo (r := (Int.tdiv ((x.t.C 0 0) + (rmd (-((x.t.C 0 0))) x.t.den)) x.t.den)))) ?_
       refine zda 13 (xli (n := 1) (len := 1) (pv := [(0, .int .i64 (Int.tdiv ((x.t.C 0 0) + (rmd (-((x.t.C 0 0))) x.t.den)) x.t.den))]) (cs := [.int .i64 (Int.tdiv ((x.t.C 0 0) + (rmd (-((x.t.C 0 0))) x.t.den)) x.t.den)]) (c := ints (fun _ => (Int.tdiv ((x.t.C 0 0) + (rmd (-((x.t.C 0 0))) x.t.den)) x.t.den))) sl_22 el_3 hS) ?_; rintro v1 w ⟨hS, hv1⟩
       replace hS : Sat w0 w [.blk _ [_, _, _], .blk _ [_], .blk _ [_], .blk _ [_], .blk _ [_], _, _, .blk _ [_, _, _], _, .blk _ [_, _, _, _, _, _, _], _] := hS
       refine ⟨⟨fun _ => hS.pk [0, 1, 2, 3, 4, 6, 7, 8, 9], hS.pk [0, 1, 2, 3, 6, 7, 8, 9]⟩, ?_⟩
       refine zda 14 (xap 5 (r := (s.1.length : Int) + 1) sl_22 el_3 hS (hS.rowN 10 rfl) (cat_snoc _ _ _)) ?_; rintro v2 w ⟨hS, hv2⟩
       replace hS : Sat w0 w [.blk _ [_, _, _], .blk _ [_], .blk _ [_], .blk _ [_], .blk _ [_], _, _, .blk _ [_, _, _], _, .blk _ [_, _, _, _, _, _, _], _] := hS
       refine ⟨⟨fun _ => hS.pk [0, 1, 2, 3, 4, 6, 7, 8, 9], hS.pk [0, 1, 2, 3, 6, 7, 8, 9]⟩, ?_⟩
       refine zde 15 (xsb 4 pl_22 hS (hv := hv2.one)) ?_; clear hS; rintro w hS
       replace hS : Sat w0 w [.blk _ [_, _, _], .blk _ [_], .blk _ [_], .blk _ [_], .blk _ [_], _, _, .blk _ [_, _, _], _, .blk _ [_, _, _, _, _, _, _], _] := hS
       refine ⟨⟨fun h => absurd h (by decide), hS.pk [0, 1, 2, 3, 6, 7, 8, 9]⟩, ?_⟩
       refine zdd <| zh <| htn <| hsq <| hrz ?_
       refine zlv (xlb 4 pl_22 hS) ?_
       refine zlv (xln sl_22 hv2) ?_
       refine zlv (xlb 1 pl_3 hS) ?_
       refine zlv xgtr ?_
       refine zln <| zh <| htn ?_
       refine hcif ?_ ?_ <;> intro hc
       ·
        refine hxt <| zbm ?_
        replace hS := hS.recont 5 rfl (d := ints (bdF cvP ((s.1 ++ [x]).map GX.t))) (fun k k0 k1 => by unfold ints; congr 1; have hq9 := bdF_snoc cvP (s.1.map GX.t) x.t (k := k) k0 (by rw [List.length_map]; omega); rw [List.length_map] at hq9; rw [List.map_append]; exact hq9)
        refine hrdX ⟨true, .slice none 0 0, v2, (s.1.length : Int) + 1, bdF cvP ((s.1 ++ [x]).map GX.t), 0⟩ ⟨hv2, .inr (.inr ⟨rfl, rfl, rfl, by omega, rfl, fun _ _ _ => rfl, by omega, by omega⟩)⟩ rfl (hS.pk [2, 3, 4, 5, 7, 8])
       ·
        refine hsk <| zbn ?_
        replace hS := hS.recont 5 rfl (d := ints (bdF cvP ((s.1 ++ [x]).map GX.t))) (fun k k0 k1 => by unfold ints; congr 1; have hq9 := bdF_snoc cvP (s.1.map GX.t) x.t (k := k) k0 (by rw [List.length_map]; omega); rw [List.length_map] at hq9; rw [List.map_append]; exact hq9)
        obtain ⟨s1, hs1⟩ : ∃ s1 : List GX × Value, s1 = (s.1 ++ [x], v2) := ⟨_, rfl⟩
        have e1 : s1.2 = v2 := by rw [hs1]
        have e2 : (s1.1.length : Int) = (s.1.length : Int) + 1 := by rw [hs1]; simp
        have e3 : s1.1 = s.1 ++ [x] := by rw [hs1]
        rw [← e3, ← e1, ← e2] at hS
        replace hS := hS.addfact (p := (s1.1.length : Int) ≤ most) (by omega)
        replace hS : Sat w0 w [.blk _ [_, _, _], .blk _ [_], .blk _ [_], .blk _ [_], .blk _ [_], _, _, .blk _ [_, _, _], _, .blk _ [_, _, _, _, _, _, _], _, _] := hS
        refine hrdN s1 ⟨e3, by omega⟩ (hS.pk [0, 1, 2, 3, 4, 5, 11, 7, 8])
    ·
     intro Dk s rest w hfin hS
     replace hS : Sat w0 w [.blk _ [_, _, _], .blk _ [_], .blk _ [_], .blk _ [_], .blk _ [_], _, _, .blk _ [_, _, _], _, _] := hS
     obtain ⟨s9, x, hs9, hk0, hpre, hfr⟩ := hfin
     obtain ⟨tt, e9, hRn, hok, _, _, _, ⟨h1, _⟩ | ⟨_, rfl, hop, hprp, hfq, htat⟩⟩ := hpre
     · exact absurd hk0 h1
     have hs2 := (hS.rowN 5 rfl).slh; have hfl := hS.factN 6 rfl
     have hnf : gfr x.t x.t.nb.toNat < 0 := by have := gfr_rng x.t x.t.nb.toNat; by_cases hz9 : 0 ≤ gfr x.t x.t.nb.toNat; exact absurd (hfq.2 hz9) hfr; omega
     have hl9 : (s.1.length : Int) = s9.length + 1 := by rw [hs9]; simp
     refine zbn <| htn <| hsq <| hrz ?_
     refine zlv (xlb 4 pl_22 hS) ?_
     refine zle (xsb 2 pl_22 hS (hv := hs2.one)) ?_; clear hS; rintro w hS
     replace hS : Sat w0 w [.blk _ [_, _, _], .blk _ [_], .blk _ [_], .blk _ [_], .blk _ [_], _, _, .blk _ [_, _, _], _, _] := hS
     refine zle (xsb 3 pl_29 hS) ?_; clear hS; rintro w hS
     replace hS : Sat w0 w [.blk _ [_, _, _], .blk _ [_], .blk _ [_], .blk _ [_], .blk _ [_], _, _, .blk _ [_, _, _], _, _] := hS
     refine zln <| zh <| htn <| hrt <| hmk1 9 hS fun w hS => zfc2 pl_22 pl_29 (hS.cellN 2 rfl rfl) (hS.cellN 3 rfl rfl) ⟨_, rfl, ?_⟩
     exact ⟨_, _, _, 0, rfl, .inr (.inr ⟨by omega, by omega, rfl, _, _, _, hRn, hop, by rw [List.length_map]; omega, .inl hnf, by rw [List.length_map]; omega, fun k k0 k1 => by rw [hs9, List.map_append]; rfl⟩), hs2, hS.pk [5]⟩
    ·
     intro Dk t rest w hfin hS
     replace hS : Sat w0 w [.blk _ [_], .blk _ [_], .blk _ [_], _, .blk _ [_, _, _], _, _] := hS
     obtain ⟨s, x, ⟨hsv, hsx⟩, hpre⟩ := hfin
     obtain ⟨tt, e9, hRn, hok, _, _, _, hxe⟩ := hpre
     rcases hsx with ⟨ht1, ht2, ht3, hn4, ht4, hx1, hx2, hx3, hx4⟩ | ⟨ht1, ht2, ht3, hx1, hx2, hx3⟩ | ⟨ht1, ht2, ht3, hx1, hn4, ht5, hx3, hx4⟩
     ·
      rw [jcB_f ht1]
      rw [ht2, ht3] at hS
      have hRn9 : e9 ≠ 0 ∨ True := .inr trivial
      show Ge _ _ _ .ret _ _
      refine zbr <| ztr <| hmk1 6 hS fun w hS => zfc2 pl_22 pl_29 (hS.cellN 0 rfl rfl) (hS.cellN 1 rfl rfl) ⟨_, rfl, ?_⟩
      obtain ⟨us, t2, u, hu1, hu2, hu3, hu4, hu5⟩ := rn_limit hm hRn (by rw [List.length_map]; omega) (by rw [List.length_map]; omega)
      have hul : ((s.1.map GX.t).length : Int) = us.length + 1 := by rw [hu1]; simp
      rw [List.length_map] at hul
      exact ⟨_, _, _, 0, rfl, .inr (.inr ⟨by omega, by omega, rfl, us, t2, u, hu2, hu3, by omega, .inr (.inr hu4), by omega, fun k k0 k1 => by rw [ht4, hu1]⟩), hsv, hS.pk [3]⟩
     ·
      rw [jcB_f ht1]
      rw [ht2, ht3] at hS
      obtain ⟨_, _, hcs⟩ | ⟨h1, _⟩ := hxe
      rotate_left
      · exact absurd h1 hx1
      replace hcs : (e9 = x.e ∧ e9 ≠ 0) ∨ (e9 = 0 ∧ ∃ u, OptR tt u x.e) := hcs
      show Ge _ _ _ .ret _ _
      refine zbr <| ztr <| hmk1 6 hS fun w hS => zfc2 pl_22 pl_29 (hS.cellN 0 rfl rfl) (hS.cellN 1 rfl rfl) ⟨_, rfl, ?_⟩
      exact ⟨_, 0, fun _ => 0, _, rfl, .inr (.inl ⟨by omega, by omega, by omega, rfl, _, _, _, hRn, by rw [List.length_map]; omega, hcs, by rw [List.length_map]; intro hh; rcases hcs with ⟨a, b⟩ | ⟨a, u9, b⟩ <;> omega⟩), slh_nil, (hS.addnil 1 3 (ints fun _ => 0)).sub (.cons _ (.cons _ (.cons _ (.cons _ (.cons _ (.cons _ (.cons _ (.cons_cons _ .slnil))))))))⟩
     ·
      have htv := hsv
      rw [jcB_t ht1]
      rw [ht2, ht3] at hS
      obtain ⟨h1, _⟩ | ⟨_, rfl, hop, hprp, hfq, htat⟩ := hxe
      · exact absurd hx1 h1
      show Ge _ _ _ (.exit 0) _ _
      refine zbh <| htn <| hsq <| hrz ?_
      refine zlv (xlb 2 pl_22 hS) ?_
      refine zle (xsb 0 pl_22 hS (hv := htv.one)) ?_; clear hS; rintro w hS
      replace hS : Sat w0 w [.blk _ [_], .blk _ [_], .blk _ [_], _, .blk _ [_, _, _], _, _] := hS
      refine zle (xsb 1 pl_29 hS) ?_; clear hS; rintro w hS
      replace hS : Sat w0 w [.blk _ [_], .blk _ [_], .blk _ [_], _, .blk _ [_, _, _], _, _] := hS
      refine zln <| zh <| htn <| hrt <| hmk1 6 hS fun w hS => zfc2 pl_22 pl_29 (hS.cellN 0 rfl rfl) (hS.cellN 1 rfl rfl) ⟨_, rfl, ?_⟩
      exact ⟨_, _, _, 0, rfl, .inr (.inr ⟨by omega, by omega, rfl, _, _, _, hRn, hop, by rw [List.length_map]; omega, .inr (.inl (by rw [List.length_map]; omega)), by rw [List.length_map]; omega, fun k k0 k1 => by rw [ht5 k k0 (by omega), List.map_append]; rfl⟩), hsv, hS.pk [3]⟩

end Go.Proofs.Ytelfplepnodbgaa
