/- The walks of awake and same, of the statements of layer 33. -/
import Derived.Test.YtelfplepnodbgaaGc
import Derived.Test.YtelfplepnodbgaaX8
import Derived.Test.YtelfplepnodbgaaFw
namespace Go.Proofs.Ytelfplepnodbgaa
open Go Go.RowKit Go.Proofs.Gw
set_option linter.unusedVariables false

theorem cl_29 : calledT Try.prog 29 = true := by kernel_rfl
theorem cl_67 : calledT Try.prog 67 = true := by kernel_rfl
structure GBT where
  brk : Bool
  r : Value
  v : Value
  n : Int
  f : Int → Int
  e : Int
def jcB (t : GBT) : Code := if t.brk = true then .exit 0 else .ret
theorem jcB_or (t : GBT) : jcB t = .ret ∨ ∃ id, jcB t = .exit id := by unfold jcB; split; exact .inr ⟨0, rfl⟩; exact .inl rfl
theorem jcB_f {t : GBT} (h : t.brk = false) : jcB t = .ret := by unfold jcB; rw [h]; rfl
theorem jcB_t {t : GBT} (h : t.brk = true) : jcB t = .exit 0 := by unfold jcB; rw [h]; rfl
/-- How a round of Bounds may break off. -/
def BSx (p : Lp) (most : Int) (s : List GX × Value) (x : GX) (t : GBT) : Prop := Slh t.v t.n ∧
  ((t.brk = false ∧ t.r = t.v ∧ t.e = 0 ∧ t.n = s.1.length ∧ t.f = bdF cvP (s.1.map GX.t) ∧ x.e = 9 ∧ 0 < (s.1.length : Int) ∧ 16 < p.m + s.1.length ∧ (s.1.length : Int) ≤ most) ∨
   (t.brk = false ∧ t.r = .slice none 0 0 ∧ t.e = x.e ∧ x.e ≠ 0 ∧ ¬ (x.e = 9 ∧ 0 < (s.1.length : Int) ∧ 16 < p.m + s.1.length) ∧ (s.1.length : Int) ≤ most) ∨
   (t.brk = true ∧ t.r = .slice none 0 0 ∧ t.e = 0 ∧ x.e = 0 ∧ t.n = s.1.length + 1 ∧ (∀ k, 0 ≤ k → k < t.n → t.f k = bdF cvP ((s.1 ++ [x]).map GX.t) k) ∧ most < s.1.length + 1 ∧ (s.1.length : Int) ≤ most))

set_option maxRecDepth 20000 in
theorem c_bounds {vc vA vb : Value} {vq : Int → Value} {p : Lp} {most : Int} (w0 : World) (hL : LAt w0 vc vA vb vq p) (hmost0 : -9223372036854775808 ≤ most ∧ most ≤ 9223372036854775807) :
    Calls Try.prog 31 [.agg #[vc, vA, vb], .int .i64 most].toArray w0 fun e w => ∃ v, e = .returned v ∧ ∃ r n f e, v = .tuple #[r, .int .i64 e] ∧ BoundsR cvP p most n f e ∧ Slh r n ∧ Sat w0 w [.own r 1 3 n (ints f)] := by
  have hn := hL.c.slh.n0; have hn1 := hL.c.slh.n1; have hm := hL.A.row.slh.n0; have hm1 := hL.A.row.slh.n1; have hk := hL.b.slh.n0; have hk1 := hL.b.slh.n1
  refine henM Try.func31 Try.ntmps31 fun w hS => ?_
  refine hsq <| hrz ?_
  refine zla (xbx (cs := [_, _, _]) hS) ?_; rintro _ w ⟨g1, rfl, hS⟩
  replace hS : Sat w0 w [.blk _ [_, _, _]] := hS
  refine zla (xbx (cs := [_]) hS) ?_; rintro _ w ⟨g2, rfl, hS⟩
  replace hS : Sat w0 w [.blk _ [_, _, _], .blk _ [_]] := hS
  refine zla (xal (cs := [_]) el_22 hS) ?_; rintro _ w ⟨g3, rfl, hS⟩
  replace hS : Sat w0 w [.blk _ [_, _, _], .blk _ [_], .blk _ [_]] := hS
  refine zla (xal (cs := [_]) el_29 hS) ?_; rintro _ w ⟨g4, rfl, hS⟩
  replace hS : Sat w0 w [.blk _ [_, _, _], .blk _ [_], .blk _ [_], .blk _ [_]] := hS
  refine zln <| zh <| htn <| hsq <| hsq <| hrz ?_
  refine zlv (xlb 1 pl_3 hS) ?_
  refine zlv xlss ?_
  refine zlv xmv ?_
  refine zlb 11 ?_ ?_ <;> intro hc
  ·
   iterate 2 refine zlo ?_
   refine zlv xpt ?_
   refine zln <| zh <| htn <| hct <| hsq <| hrz ?_
   refine zle (xsb 2 pl_22 hS) ?_; clear hS; rintro w hS
   replace hS : Sat w0 w [.blk _ [_, _, _], .blk _ [_], .blk _ [_], .blk _ [_]] := hS
   refine zle (xsb 3 pl_29 hS) ?_; clear hS; rintro w hS
   replace hS : Sat w0 w [.blk _ [_, _, _], .blk _ [_], .blk _ [_], .blk _ [_]] := hS
   refine zln <| zh <| htn <| hrt <| ztr <| hmk0 <| zfc2 pl_22 pl_29 (hS.cellN 2 rfl rfl) (hS.cellN 3 rfl rfl) ⟨_, rfl, ?_⟩
   exact ⟨_, 0, fun _ => 0, 2, rfl, .inl ⟨by omega, rfl, rfl⟩, slh_nil, (hS.addnil 1 3 (ints fun _ => 0)).sub (.cons _ (.cons _ (.cons _ (.cons _ (.cons_cons _ .slnil)))))⟩
  ·
   refine zlv (xlb 1 pl_3 hS) ?_
   refine zlv xgtr ?_
   refine zlv xpf ?_
   refine zln <| zh <| htn ?_
   refine hcif ?_ ?_ <;> intro hc
   ·
    refine hsq <| hrz ?_
    refine zle (xsb 2 pl_22 hS) ?_; clear hS; rintro w hS
    replace hS : Sat w0 w [.blk _ [_, _, _], .blk _ [_], .blk _ [_], .blk _ [_]] := hS
    refine zle (xsb 3 pl_29 hS) ?_; clear hS; rintro w hS
    replace hS : Sat w0 w [.blk _ [_, _, _], .blk _ [_], .blk _ [_], .blk _ [_]] := hS
    refine zln <| zh <| htn <| hrt <| ztr <| hmk0 <| zfc2 pl_22 pl_29 (hS.cellN 2 rfl rfl) (hS.cellN 3 rfl rfl) ⟨_, rfl, ?_⟩
    exact ⟨_, 0, fun _ => 0, 2, rfl, .inl ⟨by omega, rfl, rfl⟩, slh_nil, (hS.addnil 1 3 (ints fun _ => 0)).sub (.cons _ (.cons _ (.cons _ (.cons _ (.cons_cons _ .slnil)))))⟩
   ·
    refine hsk <| htn <| hsq <| hrz ?_
    refine zla (xal (cs := [_]) el_22 hS) ?_; rintro _ w ⟨g5, rfl, hS⟩
    replace hS : Sat w0 w [.blk _ [_, _, _], .blk _ [_], .blk _ [_], .blk _ [_], .blk _ [_]] := hS
    refine zln <| zh <| htn <| hsq <| hsq <| hrz ?_
    refine zlv (xls 0 st_48 hS) ?_
    refine zlc (xc0 cl_72) (c_rounds (p := p) w (hL.below hS.below)) ?_; rintro _ w ⟨g6, rfl, hS'⟩
    replace hS : Sat w0 w [.blk g1 [vc, vA, vb], .blk g2 [.int .i64 most], .blk g3 [.slice none 0 0], .blk g4 [.int .i64 0], .blk g5 [.slice none 0 0], .blk g6 [vc, vA, vb]] := hS.comp hS'; clear hS'
    refine zln <| zh <| htn <| hbk ?_
    replace hS := hS.addnil 1 3 (ints (bdF cvP []))
    replace hS : Sat w0 w [.blk _ [_, _, _], .blk _ [_], .blk _ [_], .blk _ [_], .blk _ [_], .blk _ [_, _, _], _] := hS
    replace hS := hS.addfact (p := ((([], Value.slice none 0 0) : List GX × Value).1.length : Int) ≤ most) (by simp; omega)
    replace hS : Sat w0 w [.blk _ [_, _, _], .blk _ [_], .blk _ [_], .blk _ [_], .blk _ [_], .blk _ [_, _, _], _, _] := hS
    refine hrf (St := List GX × Value) (X := GX) (Tt := GBT) (fun s => [.blk g1 [vc, vA, vb], .blk g2 [.int .i64 most], .blk g3 [.slice none 0 0], .blk g4 [.int .i64 0], .blk g5 [s.2], .own s.2 1 3 (s.1.length : Int) (ints (bdF cvP (s.1.map GX.t))), .sem (Frame.fact ((s.1.length : Int) ≤ most))]) (fun t => [.blk g3 [t.r], .blk g4 [.int .i64 t.e], .blk g5 [t.v], .own t.v 1 3 t.n (ints t.f)]) (jcB) ([], .slice none 0 0) (fun x M es => ∃ (g7 : Nat), M = [(0, .agg #[vc, vA, vb]), (1, .int .i64 most), (2, .pointer (some ⟨g1, 0, none⟩)), (3, .pointer (some ⟨g2, 0, none⟩)), (4, .pointer (some ⟨g3, 0, none⟩)), (5, .pointer (some ⟨g4, 0, none⟩)), (9, .int .i64 most), (10, B (most < 0)), (11, .bool false), (12, .int .i64 most), (13, B (16 < most)), (14, B (16 < most)), (6, .pointer (some ⟨g5, 0, none⟩)), (15, .agg #[vc, vA, vb]), (16, .func (.func 109) #[] #[.pointer (some ⟨g6, 0, none⟩)]), (17, .agg #[.int .i64 x.t.vars, .int .i64 x.t.den, x.vB, x.vF, x.vC, B (x.fr), .int .i64 x.e]), (7, .pointer (some ⟨g7, 0, none⟩))] ∧ es = [.blk g7 [.int .i64 x.t.vars, .int .i64 x.t.den, x.vB, x.vF, x.vC, B (x.fr), .int .i64 x.e]]) (c_rounds1 (gp := g6) (fun s : List GX × Value => s.1) ([], .slice none 0 0) rfl (fun x => x.e = 0) (BSx p most) w0 hL) (hS.pk [0, 1, 2, 3, 4, 6, 7, 5]) cl_109 (fun _ => rfl) (jcB_or) ?_ ?_ ?_ ?_
    ·
     intro l s x rest w hpre rest1 hrr hS
     have hxB := hpre.sB; have hxF := hpre.sF; have hxC := hpre.sC; have hsl := hpre.len hm
     replace hS : Sat w0 w [.blk _ [_, _, _], .blk _ [_], .blk _ [_], .blk _ [_], .blk _ [_], _, _, .blk _ [_, _, _], _] := hS
     refine hrz ?_
     refine zla (xal (cs := [_, _, _, _, _, _, _]) el_119 hS) ?_; rintro _ w ⟨g7, rfl, hS⟩
     replace hS : Sat w0 w [.blk _ [_, _, _], .blk _ [_], .blk _ [_], .blk _ [_], .blk _ [_], _, _, .blk _ [_, _, _], _, .blk _ [_, _, _, _, _, _, _]] := hS
     refine zle (xsw 9 st_119 hS (hd := (ones_cons rfl (ones_cons rfl (ones_cons hxB.one (ones_cons hxF.one (ones_cons hxC.one (ones_cons (B_one _) (ones_cons rfl ones_nil))))))))) ?_; clear hS; rintro w hS
     replace hS : Sat w0 w [.blk _ [_, _, _], .blk _ [_], .blk _ [_], .blk _ [_], .blk _ [_], _, _, .blk _ [_, _, _], _, .blk _ [_, _, _, _, _, _, _]] := hS
     refine zln <| zh <| hasg ⟨g7, rfl, rfl⟩ hS
    ·
     rintro l s x _ _ rest w hpre ⟨g7, rfl, rfl⟩ rest1 hrr hS
     have hxB := hpre.sB; have hxF := hpre.sF; have hxC := hpre.sC; have hsl := hpre.len hm
     replace hS : Sat w0 w [.blk _ [_, _, _], .blk _ [_], .blk _ [_], .blk _ [_], .blk _ [_], _, _, .blk _ [_, _, _], _, .blk _ [_, _, _, _, _, _, _]] := hS
     have hs2 := (hS.rowN 5 rfl).slh; have hfl := hS.factN 6 rfl
     refine hbk <| hsq <| hsq <| hrz ?_
     refine zlv (xfb 6 fd_119_2) ?_
     refine zlv (xlb 9 pl_29 hS) ?_
     refine zlv xeql ?_
     refine zlv xmv ?_
     refine zlb 21 ?_ ?_ <;> intro hc
     ·
      refine zlv (xlb 4 pl_22 hS) ?_
      refine zlv (xln sl_22 hs2) ?_
      refine zlv xgtr ?_
      refine zlv xpt ?_
      refine zlv xmv ?_
      refine zlb 26 ?_ ?_ <;> intro hc
      ·
       refine zlv (xfb 1 fd_48_1) ?_
       refine zlv (xlb 0 pl_23 hS) ?_
       refine zlv (xln sl_23 hL.A.row.slh) ?_
       refine zlv (xlb 4 pl_22 hS) ?_
       refine zlv (xln sl_22 hs2) ?_
       refine zlv (xadd (r := p.m + (s.1.length : Int))) ?_
       refine zlv xgtr ?_
       refine zlv xpt ?_
       refine zln <| zh <| htn ?_
       refine hcif ?_ ?_ <;> intro hc
       ·
        refine hsq <| hrz ?_
        refine zlv (xlb 4 pl_22 hS) ?_
        refine zle (xsb 2 pl_22 hS (hv := hs2.one)) ?_; clear hS; rintro w hS
        replace hS : Sat w0 w [.blk _ [_, _, _], .blk _ [_], .blk _ [_], .blk _ [_], .blk _ [_], _, _, .blk _ [_, _, _], _, .blk _ [_, _, _, _, _, _, _]] := hS
        refine zle (xsb 3 pl_29 hS) ?_; clear hS; rintro w hS
        replace hS : Sat w0 w [.blk _ [_, _, _], .blk _ [_], .blk _ [_], .blk _ [_], .blk _ [_], _, _, .blk _ [_, _, _], _, .blk _ [_, _, _, _, _, _, _]] := hS
        refine zln <| zh <| htn <| hrt <| ztr <| zbr <| hrdR ⟨false, s.2, s.2, (s.1.length : Int), bdF cvP (s.1.map GX.t), 0⟩ ⟨hs2, .inl ⟨rfl, rfl, rfl, rfl, rfl, by omega, by omega, by omega, by omega⟩⟩ rfl (hS.pk [2, 3, 4, 5, 7, 8])
       ·
        refine hsk <| htn <| hsq <| hsq <| hrz ?_
        refine zlv (xfb 6 fd_119_2) ?_
        refine zlv (xlb 9 pl_29 hS) ?_
        refine zlv (xkt xneq) ?_
        refine zln <| zh <| htn <| hct <| hsq ?_
        refine hdst [0, 1, 2, 3, 4, 5, 6, 7, 8, 9] [0, 1, 4, 5, 6, 7, 8, 9] 2 mx_ hS ?_; clear hS; intro w hS
        refine zdv 0 (fun _ => (xfb 6 fd_119_2)) ?_
        refine zdla 1 (fun w hS => (xlb 7 pl_29 hS)) ?_
        refine zde 2 (xsb 2 pl_22 hS) ?_; clear hS; rintro w hS
        replace hS : Sat w0 w [.blk _ [_, _, _], .blk _ [_], .blk _ [_], .blk _ [_], .blk _ [_], _, _, .blk _ [_, _, _], _, .blk _ [_, _, _, _, _, _, _]] := hS
        refine ⟨⟨fun h => absurd h (by decide), hS.pk [0, 1, 4, 5, 6, 7, 8, 9]⟩, ?_⟩
        refine zde 3 (xsb 3 pl_29 hS) ?_; clear hS; rintro w hS
        replace hS : Sat w0 w [.blk _ [_, _, _], .blk _ [_], .blk _ [_], .blk _ [_], .blk _ [_], _, _, .blk _ [_, _, _], _, .blk _ [_, _, _, _, _, _, _]] := hS
        refine ⟨⟨fun h => absurd h (by decide), hS.pk [0, 1, 4, 5, 6, 7, 8, 9]⟩, ?_⟩
        refine zdd <| zh <| htn <| hrt <| ztr <| zbr <| hrdR ⟨false, .slice none 0 0, s.2, (s.1.length : Int), bdF cvP (s.1.map GX.t), x.e⟩ ⟨hs2, .inr (.inl ⟨rfl, rfl, rfl, by omega, by omega, by omega⟩)⟩ rfl (hS.pk [2, 3, 4, 5, 7, 8])
      ·
       iterate 7 refine zlo ?_
       refine zlv xpf ?_
       refine zln <| zh <| htn <| hcf <| hsk <| htn <| hsq <| hsq <| hrz ?_
       refine zlv (xfb 6 fd_119_2) ?_
       refine zlv (xlb 9 pl_29 hS) ?_
       refine zlv (xkt xneq) ?_
       refine zln <| zh <| htn <| hct <| hsq ?_
       refine hdst [0, 1, 2, 3, 4, 5, 6, 7, 8, 9] [0, 1, 4, 5, 6, 7, 8, 9] 2 mx_ hS ?_; clear hS; intro w hS
       refine zdv 0 (fun _ => (xfb 6 fd_119_2)) ?_
       refine zdla 1 (fun w hS => (xlb 7 pl_29 hS)) ?_
       refine zde 2 (xsb 2 pl_22 hS) ?_; clear hS; rintro w hS
       replace hS : Sat w0 w [.blk _ [_, _, _], .blk _ [_], .blk _ [_], .blk _ [_], .blk _ [_], _, _, .blk _ [_, _, _], _, .blk _ [_, _, _, _, _, _, _]] := hS
       refine ⟨⟨fun h => absurd h (by decide), hS.pk [0, 1, 4, 5, 6, 7, 8, 9]⟩, ?_⟩
       refine zde 3 (xsb 3 pl_29 hS) ?_; clear hS; rintro w hS
       replace hS : Sat w0 w [.blk _ [_, _, _], .blk _ [_], .blk _ [_], .blk _ [_], .blk _ [_], _, _, .blk _ [_, _, _], _, .blk _ [_, _, _, _, _, _, _]] := hS
       refine ⟨⟨fun h => absurd h (by decide), hS.pk [0, 1, 4, 5, 6, 7, 8, 9]⟩, ?_⟩
       refine zdd <| zh <| htn <| hrt <| ztr <| zbr <| hrdR ⟨false, .slice none 0 0, s.2, (s.1.length : Int), bdF cvP (s.1.map GX.t), x.e⟩ ⟨hs2, .inr (.inl ⟨rfl, rfl, rfl, by omega, by omega, by omega⟩)⟩ rfl (hS.pk [2, 3, 4, 5, 7, 8])
     ·
      iterate 3 refine zlo ?_
      refine zlv xpf ?_
      refine zlv xmv ?_
      iterate 7 refine zlo ?_
      refine zlv xpf ?_
      refine zln <| zh <| htn <| hcf <| hsk <| htn <| hsq <| hsq <| hrz ?_
      refine zlv (xfb 6 fd_119_2) ?_
      refine zlv (xlb 9 pl_29 hS) ?_
      refine zlv xneq ?_
      refine zln <| zh <| htn ?_
      refine hcif ?_ ?_ <;> intro hc
      ·
       refine hsq ?_
       refine hdst [0, 1, 2, 3, 4, 5, 6, 7, 8, 9] [0, 1, 4, 5, 6, 7, 8, 9] 2 mx_ hS ?_; clear hS; intro w hS
       refine zdv 0 (fun _ => (xfb 6 fd_119_2)) ?_
       refine zdla 1 (fun w hS => (xlb 7 pl_29 hS)) ?_
       refine zde 2 (xsb 2 pl_22 hS) ?_; clear hS; rintro w hS
       replace hS : Sat w0 w [.blk _ [_, _, _], .blk _ [_], .blk _ [_], .blk _ [_], .blk _ [_], _, _, .blk _ [_, _, _], _, .blk _ [_, _, _, _, _, _, _]] := hS
       refine ⟨⟨fun h => absurd h (by decide), hS.pk [0, 1, 4, 5, 6, 7, 8, 9]⟩, ?_⟩
       refine zde 3 (xsb 3 pl_29 hS) ?_; clear hS; rintro w hS
       replace hS : Sat w0 w [.blk _ [_, _, _], .blk _ [_], .blk _ [_], .blk _ [_], .blk _ [_], _, _, .blk _ [_, _, _], _, .blk _ [_, _, _, _, _, _, _]] := hS
       refine ⟨⟨fun h => absurd h (by decide), hS.pk [0, 1, 4, 5, 6, 7, 8, 9]⟩, ?_⟩
       refine zdd <| zh <| htn <| hrt <| ztr <| zbr <| hrdR ⟨false, .slice none 0 0, s.2, (s.1.length : Int), bdF cvP (s.1.map GX.t), x.e⟩ ⟨hs2, .inr (.inl ⟨rfl, rfl, rfl, by omega, by omega, by omega⟩)⟩ rfl (hS.pk [2, 3, 4, 5, 7, 8])
      ·
       refine hsk <| htn <| hsq <| hrz ?_
       refine zlv (xfb 0 fd_119_0) ?_
       obtain ⟨tt, e9, hRn, hok, _, _, _, ⟨h1, _⟩ | ⟨_, rfl, hop, hprp, hfq, htat⟩⟩ := hpre
       · exact absurd h1 ‹_›
       have hxn := hxB.n0; have hxn2 := hxF.n0
       have b1 := hprp.n1
       have b2 := hprp.n2
       have b3 := hprp.m2
       have b4 := hprp.v
       have b5 := hprp.d1
       have b6 := hprp.d2
       have b7 := hprp.c
       have hxr := fun k (k0 : 0 ≤ k) (k1 : k < x.t.nc) => ((htat _ (hrr _ (hS.holds (.sem rest1) (List.mem_of_getElem? (i := 8) rfl)))).C.p k k0 k1).slh
       have hxl0 := hprp.len (i := 0) (by omega) (by omega)
       have hcx := hprp.cell (i := 0) (j := 0) (by omega) (by omega) (by omega) (by omega)
       have hrm := rmd_rng (a := -(x.t.C 0 0)) (d := x.t.den) (by omega)
       have hqd := tdiv_abs (a := x.t.C 0 0 + rmd (-(x.t.C 0 0)) x.t.den) (d := x.t.den) (A := 2147483648) (by omega) (by omega)
       refine zlv (xfb 4 fd_28_4) ?_
       refine zlv (xlb 9 pl_23 hS) ?_
       refine zlv (xix (kk := 0) sl_23 hxC) ?_
       refine zlv (xlr (u := (x.vv 0)) pl_22 (htat _ (hrr _ (hS.holds (.sem rest1) (List.mem_of_getElem? (i := 8) rfl)))).C.row) ?_
       refine zlv (xix (kk := 0) sl_22 (hxr 0 (by omega) (by omega))) ?_
       refine zlv (xlr (u := .int .i64 (x.t.C 0 0)) pl_3 ((htat _ (hrr _ (hS.holds (.sem rest1) (List.mem_of_getElem? (i := 8) rfl)))).C.p 0 (by omega) (by omega))) ?_
       refine zlv xas ?_
       refine zln <| zh <| htn <| hsq ?_
       refine hdst [0, 1, 2, 3, 4, 6, 7, 8, 9] [0, 1, 2, 3, 6, 7, 8, 9] 15 mx_ hS ?_; clear hS; intro w hS
       refine zdl 0 (fun w hS => (xlb 4 pl_22 hS)) ?_
       refine zdv 1 (fun _ => xmv) ?_
       refine zdv 2 (fun _ => xmv) ?_
       refine zdv 3 (fun _ => (xneg (r := -((x.t.C 0 0))))) ?_
       refine zdv 4 (fun _ => (xfb 0 fd_119_0)) ?_
       refine zdv 5 (fun _ => (xfb 1 fd_28_1)) ?_
       refine zdla 6 (fun w hS => (xlb 7 pl_3 hS)) ?_
       refine zdv 9 (fun _ => (xfb 0 fd_119_0)) ?_
       refine zdv 10 (fun _ => (xfb 1 fd_28_1)) ?_
       refine zdla 11 (fun w hS => (xlb 7 pl_3 hS)) ?_
       refine zdc 7 (xc0 cl_63) (c_rem (a := (-((x.t.C 0 0)))) (d := x.t.den) w (by omega) (by omega)) ?_; rintro _ w ⟨rfl, hS'⟩
       replace hS := hS.cmp hS'; clear hS'
       refine ⟨⟨fun _ => hS.pk [0, 1, 2, 3, 4, 6, 7, 8, 9], hS.pk [0, 1, 2, 3, 6, 7, 8, 9]⟩, ?_⟩
       refine zdv 8 (fun _ => (xadd (r := (x.t.C 0 0) + (rmd (-((x.t.C 0 0))) x.t.den)))) ?_
       refine zdv 12 (fun _ => (xquo (r := (Int.tdiv ((x.t.C 0 0) + (rmd (-((x.t.C 0 0))) x.t.den)) x.t.den)))) ?_
       refine zda 13 (xli (n := 1) (len := 1) (pv := [(0, .int .i64 (Int.tdiv ((x.t.C 0 0) + (rmd (-((x.t.C 0 0))) x.t.den)) x.t.den))]) (cs := [.int .i64 (Int.tdiv ((x.t.C 0 0) + (rmd (-((x.t.C 0 0))) x.t.den)) x.t.den)]) (c := ints (fun _ => (Int.tdiv ((x.t.C 0 0) + (rmd (-((x.t.C 0 0))) x.t.den)) x.t.den))) sl_22 el_3 hS) ?_; rintro v1 w ⟨hS, hv1⟩
       replace hS : Sat w0 w [.blk _ [_, _, _], .blk _ [_], .blk _ [_], .blk _ [_], .blk _ [_], _, _, .blk _ [_, _, _], _, .blk _ [_, _, _, _, _, _, _], _] := hS
       refine ⟨⟨fun _ => hS.pk [0, 1, 2, 3, 4, 6, 7, 8, 9], hS.pk [0, 1, 2, 3, 6, 7, 8, 9]⟩, ?_⟩
       refine zda 14 (xap 5 (r := (s.1.length : Int) + 1) sl_22 el_3 hS (hS.rowN 10 rfl) (cat_snoc _ _ _)) ?_; rintro v2 w ⟨hS, hv2⟩
       replace hS : Sat w0 w [.blk _ [_, _, _], .blk _ [_], .blk _ [_], .blk _ [_], .blk _ [_], _, _, .blk _ [_, _, _], _, .blk _ [_, _, _, _, _, _, _], _] := hS
       refine ⟨⟨fun _ => hS.pk [0, 1, 2, 3, 4, 6, 7, 8, 9], hS.pk [0, 1, 2, 3, 6, 7, 8, 9]⟩, ?_⟩
       refine zde 15 (xsb 4 pl_22 hS (hv := hv2.one)) ?_; clear hS; rintro w hS
       replace hS : Sat w0 w [.blk _ [_, _, _], .blk _ [_], .blk _ [_], .blk _ [_], .blk _ [_], _, _, .blk _ [_, _, _], _, .blk _ [_, _, _, _, _, _, _], _] := hS
       refine ⟨⟨fun h => absurd h (by decide), hS.pk [0, 1, 2, 3, 6, 7, 8, 9]⟩, ?_⟩
       refine zdd <| zh <| htn <| hsq <| hrz ?_
       refine zlv (xlb 4 pl_22 hS) ?_
       refine zlv (xln sl_22 hv2) ?_
       refine zlv (xlb 1 pl_3 hS) ?_
       refine zlv xgtr ?_
       refine zln <| zh <| htn ?_
       refine hcif ?_ ?_ <;> intro hc
       ·
        refine hxt <| zbm ?_
        replace hS := hS.recont 5 rfl (d := ints (bdF cvP ((s.1 ++ [x]).map GX.t))) (fun k k0 k1 => by unfold ints; congr 1; have hq9 := bdF_snoc cvP (s.1.map GX.t) x.t (k := k) k0 (by rw [List.length_map]; omega); rw [List.length_map] at hq9; rw [List.map_append]; exact hq9)
        refine hrdX ⟨true, .slice none 0 0, v2, (s.1.length : Int) + 1, bdF cvP ((s.1 ++ [x]).map GX.t), 0⟩ ⟨hv2, .inr (.inr ⟨rfl, rfl, rfl, by omega, rfl, fun _ _ _ => rfl, by omega, by omega⟩)⟩ rfl (hS.pk [2, 3, 4, 5, 7, 8])
       ·
        refine hsk <| zbn ?_
        replace hS := hS.recont 5 rfl (d := ints (bdF cvP ((s.1 ++ [x]).map GX.t))) (fun k k0 k1 => by unfold ints; congr 1; have hq9 := bdF_snoc cvP (s.1.map GX.t) x.t (k := k) k0 (by rw [List.length_map]; omega); rw [List.length_map] at hq9; rw [List.map_append]; exact hq9)
        obtain ⟨s1, hs1⟩ : ∃ s1 : List GX × Value, s1 = (s.1 ++ [x], v2) := ⟨_, rfl⟩
        have e1 : s1.2 = v2 := by rw [hs1]
        have e2 : (s1.1.length : Int) = (s.1.length : Int) + 1 := by rw [hs1]; simp
        have e3 : s1.1 = s.1 ++ [x] := by rw [hs1]
        rw [← e3, ← e1, ← e2] at hS
        replace hS := hS.addfact (p := (s1.1.length : Int) ≤ most) (by omega)
        replace hS : Sat w0 w [.blk _ [_, _, _], .blk _ [_], .blk _ [_], .blk _ [_], .blk _ [_], _, _, .blk _ [_, _, _], _, .blk _ [_, _, _, _, _, _, _], _, _] := hS
        refine hrdN s1 ⟨e3, by omega⟩ (hS.pk [0, 1, 2, 3, 4, 5, 11, 7, 8])
    ·
     intro Dk s rest w hfin hS
     replace hS : Sat w0 w [.blk _ [_, _, _], .blk _ [_], .blk _ [_], .blk _ [_], .blk _ [_], _, _, .blk _ [_, _, _], _, _] := hS
     obtain ⟨s9, x, hs9, hk0, hpre, hfr⟩ := hfin
     obtain ⟨tt, e9, hRn, hok, _, _, _, ⟨h1, _⟩ | ⟨_, rfl, hop, hprp, hfq, htat⟩⟩ := hpre
     · exact absurd hk0 h1
     have hs2 := (hS.rowN 5 rfl).slh; have hfl := hS.factN 6 rfl
     have hnf : gfr x.t x.t.nb.toNat < 0 := by have := gfr_rng x.t x.t.nb.toNat; by_cases hz9 : 0 ≤ gfr x.t x.t.nb.toNat; exact absurd (hfq.2 hz9) hfr; omega
     have hl9 : (s.1.length : Int) = s9.length + 1 := by rw [hs9]; simp
     refine zbn <| htn <| hsq <| hrz ?_
     refine zlv (xlb 4 pl_22 hS) ?_
     refine zle (xsb 2 pl_22 hS (hv := hs2.one)) ?_; clear hS; rintro w hS
     replace hS : Sat w0 w [.blk _ [_, _, _], .blk _ [_], .blk _ [_], .blk _ [_], .blk _ [_], _, _, .blk _ [_, _, _], _, _] := hS
     refine zle (xsb 3 pl_29 hS) ?_; clear hS; rintro w hS
     replace hS : Sat w0 w [.blk _ [_, _, _], .blk _ [_], .blk _ [_], .blk _ [_], .blk _ [_], _, _, .blk _ [_, _, _], _, _] := hS
     refine zln <| zh <| htn <| hrt <| hmk1 9 hS fun w hS => zfc2 pl_22 pl_29 (hS.cellN 2 rfl rfl) (hS.cellN 3 rfl rfl) ⟨_, rfl, ?_⟩
     exact ⟨_, _, _, 0, rfl, .inr (.inr ⟨by omega, by omega, rfl, _, _, _, hRn, hop, by rw [List.length_map]; omega, .inl hnf, by rw [List.length_map]; omega, fun k k0 k1 => by rw [hs9, List.map_append]; rfl⟩), hs2, hS.pk [5]⟩
    ·
     intro Dk t rest w hfin hS
     replace hS : Sat w0 w [.blk _ [_], .blk _ [_], .blk _ [_], _, .blk _ [_, _, _], _, _] := hS
     obtain ⟨s, x, ⟨hsv, hsx⟩, hpre⟩ := hfin
     obtain ⟨tt, e9, hRn, hok, _, _, _, hxe⟩ := hpre
     rcases hsx with ⟨ht1, ht2, ht3, hn4, ht4, hx1, hx2, hx3, hx4⟩ | ⟨ht1, ht2, ht3, hx1, hx2, hx3⟩ | ⟨ht1, ht2, ht3, hx1, hn4, ht5, hx3, hx4⟩
     ·
      rw [jcB_f ht1]
      rw [ht2, ht3] at hS
      have hRn9 : e9 ≠ 0 ∨ True := .inr trivial
      show Ge _ _ _ .ret _ _
      refine zbr <| ztr <| hmk1 6 hS fun w hS => zfc2 pl_22 pl_29 (hS.cellN 0 rfl rfl) (hS.cellN 1 rfl rfl) ⟨_, rfl, ?_⟩
      obtain ⟨us, t2, u, hu1, hu2, hu3, hu4, hu5⟩ := rn_limit hm hRn (by rw [List.length_map]; omega) (by rw [List.length_map]; omega)
      have hul : ((s.1.map GX.t).length : Int) = us.length + 1 := by rw [hu1]; simp
      rw [List.length_map] at hul
      exact ⟨_, _, _, 0, rfl, .inr (.inr ⟨by omega, by omega, rfl, us, t2, u, hu2, hu3, by omega, .inr (.inr hu4), by omega, fun k k0 k1 => by rw [ht4, hu1]⟩), hsv, hS.pk [3]⟩
     ·
      rw [jcB_f ht1]
      rw [ht2, ht3] at hS
      obtain ⟨_, _, hcs⟩ | ⟨h1, _⟩ := hxe
      rotate_left
      · exact absurd h1 hx1
      replace hcs : (e9 = x.e ∧ e9 ≠ 0) ∨ (e9 = 0 ∧ ∃ u, OptR tt u x.e) := hcs
      show Ge _ _ _ .ret _ _
      refine zbr <| ztr <| hmk1 6 hS fun w hS => zfc2 pl_22 pl_29 (hS.cellN 0 rfl rfl) (hS.cellN 1 rfl rfl) ⟨_, rfl, ?_⟩
      exact ⟨_, 0, fun _ => 0, _, rfl, .inr (.inl ⟨by omega, by omega, by omega, rfl, _, _, _, hRn, by rw [List.length_map]; omega, hcs, by rw [List.length_map]; intro hh; rcases hcs with ⟨a, b⟩ | ⟨a, u9, b⟩ <;> omega⟩), slh_nil, (hS.addnil 1 3 (ints fun _ => 0)).sub (.cons _ (.cons _ (.cons _ (.cons _ (.cons _ (.cons _ (.cons _ (.cons_cons _ .slnil))))))))⟩
     ·
      have htv := hsv
      rw [jcB_t ht1]
      rw [ht2, ht3] at hS
      obtain ⟨h1, _⟩ | ⟨_, rfl, hop, hprp, hfq, htat⟩ := hxe
      · exact absurd hx1 h1
      show Ge _ _ _ (.exit 0) _ _
      refine zbh <| htn <| hsq <| hrz ?_
      refine zlv (xlb 2 pl_22 hS) ?_
      refine zle (xsb 0 pl_22 hS (hv := htv.one)) ?_; clear hS; rintro w hS
      replace hS : Sat w0 w [.blk _ [_], .blk _ [_], .blk _ [_], _, .blk _ [_, _, _], _, _] := hS
      refine zle (xsb 1 pl_29 hS) ?_; clear hS; rintro w hS
      replace hS : Sat w0 w [.blk _ [_], .blk _ [_], .blk _ [_], _, .blk _ [_, _, _], _, _] := hS
      refine zln <| zh <| htn <| hrt <| hmk1 6 hS fun w hS => zfc2 pl_22 pl_29 (hS.cellN 0 rfl rfl) (hS.cellN 1 rfl rfl) ⟨_, rfl, ?_⟩
      exact ⟨_, _, _, 0, rfl, .inr (.inr ⟨by omega, by omega, rfl, _, _, _, hRn, hop, by rw [List.length_map]; omega, .inr (.inl (by rw [List.length_map]; omega)), by rw [List.length_map]; omega, fun k k0 k1 => by rw [ht5 k k0 (by omega), List.map_append]; rfl⟩), hsv, hS.pk [3]⟩

set_option maxRecDepth 20000 in
theorem c_rbounds {vc vA vb : Value} {vq : Int → Value} {p : Lp} {most : Int} (w0 : World) (hL : LAt w0 vc vA vb vq p) (hmost0 : -9223372036854775808 ≤ most ∧ most ≤ 9223372036854775807) :
    Calls Try.prog 32 [.agg #[vc, vA, vb], .int .i64 most].toArray w0 fun e w => ∃ v, e = .returned v ∧ ∃ r n f e, v = .tuple #[r, .int .i64 e] ∧ BoundsR cvR p most n f e ∧ Slh r n ∧ Sat w0 w [.own r 1 3 n (ints f)] := by
  have hn := hL.c.slh.n0; have hn1 := hL.c.slh.n1; have hm := hL.A.row.slh.n0; have hm1 := hL.A.row.slh.n1; have hk := hL.b.slh.n0; have hk1 := hL.b.slh.n1
  refine zenG Try.func32 Try.ntmps32 fun w hS => ?_
  refine zsq <| zrg ?_
  refine zla (xbx (cs := [_, _, _]) hS) ?_; rintro _ w ⟨g1, rfl, hS⟩
  replace hS : Sat w0 w [.blk _ [_, _, _]] := hS
  iterate 2 refine zlv xas ?_
  refine zln <| ztn <| zsq <| zsq <| zrg ?_
  refine zlv xmv ?_
  refine zlv xlss ?_
  refine zlv xmv ?_
  refine zlb 15 ?_ ?_ <;> intro hc
  ·
   iterate 2 refine zlo ?_
   refine zlv xpt ?_
   refine zln <| ztn <| zct <| zsq <| zrg ?_
   iterate 2 refine zlv xas ?_
   refine zln <| ztn <| zrt <| ztr <| zf2 ⟨_, rfl, ?_⟩
   exact ⟨_, 0, fun _ => 0, 2, rfl, .inl ⟨by omega, rfl, rfl⟩, slh_nil, (hS.addnil 1 3 (ints fun _ => 0)).sub (.cons _ (.cons_cons _ .slnil))⟩
  ·
   refine zlv xmv ?_
   refine zlv xgtr ?_
   refine zlv xpf ?_
   refine zln <| ztn ?_
   refine zcif ?_ ?_ <;> intro hc
   ·
    refine zsq <| zrg ?_
    iterate 2 refine zlv xas ?_
    refine zln <| ztn <| zrt <| ztr <| zf2 ⟨_, rfl, ?_⟩
    exact ⟨_, 0, fun _ => 0, 2, rfl, .inl ⟨by omega, rfl, rfl⟩, slh_nil, (hS.addnil 1 3 (ints fun _ => 0)).sub (.cons _ (.cons_cons _ .slnil))⟩
   ·
    refine zsk <| ztn <| zsq <| zrg ?_
    refine zlv (xls 0 st_44 hS) ?_
    refine zlc (xc0 cl_73) (c_rstart (p := p) w (hL.below hS.below)) ?_; rintro _ w ⟨vBk1, vFk1, vCk1, vvk1, tk1, ek1, rfl, hstk1, hsBk1, hsFk1, hsCk1, hS'⟩
    replace hS : Sat w0 w [.blk g1 [vc, vA, vb], .own vBk1 1 3 tk1.nb (ints tk1.B), .own vFk1 1 3 tk1.nf (ints tk1.F), .own vCk1 1 22 tk1.nc vvk1, .sem (Frame.rows 3 tk1.nc vvk1 tk1.ln tk1.C)] := hS.comp hS'; clear hS'
    have hrsk1 := fun k (k0 : 0 ≤ k) (k1 : k < tk1.nc) => hS.slhIn 4 rfl k0 k1
    refine zlv xmv ?_
    iterate 2 refine zlv xex ?_
    refine zla (xal (cs := [_, _, _, _, _]) el_25 hS) ?_; rintro _ w ⟨g2, rfl, hS⟩
    replace hS : Sat w0 w [.blk _ [_, _, _], _, _, _, _, .blk _ [_, _, _, _, _]] := hS
    refine zle (xsw 5 st_25 hS (hd := (ones_cons rfl (ones_cons rfl (ones_cons hsBk1.one (ones_cons hsFk1.one (ones_cons hsCk1.one ones_nil))))))) ?_; clear hS; rintro w hS
    replace hS : Sat w0 w [.blk _ [_, _, _], _, _, _, _, .blk _ [_, _, _, _, _]] := hS
    refine zlv xas ?_
    refine zln <| ztn <| zsq <| zrg ?_
    refine zlv xas ?_
    refine zln <| ztn <| zsq <| zrg ?_
    refine zlv xas ?_
    refine zln <| ztn <| zbk ?_
    replace hS := hS.addnil 1 3 (ints (fun _ => 0))
    replace hS : Sat w0 w [.blk _ [_, _, _], _, _, _, _, .blk _ [_, _, _, _, _], _] := hS
    refine zlp (fun mm M w => ∃ (us : List Tb) (t : Tb) (vB : Value) (vF : Value) (vC : Value) (vv : Int → Value) (e : Int) (m : Int) (cu : Int) (vx : Value) (g : Int → Int), mm = (if e = 0 then (20 - t.nb).toNat else 0) ∧ (Rn p us t e) ∧ (Slh vB t.nb) ∧ (Slh vF t.nf) ∧ (Slh vC t.nc) ∧ (cu = us.length) ∧ (cu ≤ most) ∧ (m = us.length) ∧ (us.length ≤ 100 ∨ e ≠ 0) ∧ (∀ j, 0 ≤ j → j < m → g j = bdF cvR us j) ∧ (¬ (e = 9 ∧ 0 < us.length ∧ p.m + us.length > 16)) ∧ (Slh vx m) ∧ M = [(1, .int .i64 most), (6, .pointer (some ⟨g2, 0, none⟩)), (7, .int .i64 e), (8, vx), (9, .int .i64 cu)] ∧ Sat w0 w [.blk g1 [vc, vA, vb], .blk g2 [.int .i64 t.vars, .int .i64 t.den, vB, vF, vC], .own vB 1 3 t.nb (ints t.B), .own vF 1 3 t.nf (ints t.F), .own vC 1 22 t.nc vv, .sem (Frame.rows 3 t.nc vv t.ln t.C), .own vx 1 3 m (ints g)]) ⟨[], tk1, vBk1, vFk1, vCk1, vvk1, ek1, 0, 0, (.slice none 0 0), (fun _ => 0), rfl, ?_, ?_, ?_, ?_, ?_, (by omega), ?_, ?_, ?_, ?_, ?_, rfl, hS.pk [0, 5, 1, 2, 3, 4, 6]⟩ ?_
    ·
     exact .start hstk1
    ·
     exact hsBk1
    ·
     exact hsFk1
    ·
     exact hsCk1
    ·
     rfl
    ·
     rfl
    ·
     left; simp
    ·
     intro j j0 j1; omega
    ·
     simp
    ·
     exact slh_nil
    ·
     clear hS w
     rintro mm M w ⟨us, t, vB, vF, vC, vv, e, m, cu, vx, g, rfl, hRn, hsB, hsF, hsC, hnn, hum, hmn, hul, hg, hno, hvx, rfl, hS⟩
     have hrs := fun k (k0 : 0 ≤ k) (k1 : k < t.nc) => hS.slhIn 5 rfl k0 k1
     refine zsq <| zbk <| zsq <| zsq <| zrg ?_
     refine zlv xmv ?_
     refine zlv xeql ?_
     refine zln <| ztn ?_
     refine zcif ?_ ?_ <;> intro hc
     ·
      refine zrg ?_
      refine zlv (xls 1 st_25 hS) ?_
      refine zlc (xc0 cl_74) (c_rOptimize (t := t) w (⟨(hS.rowN 2 rfl), (hS.rowN 3 rfl), (⟨(hS.rowN 4 rfl), fun k k0 k1 => hS.rowIn 5 rfl k0 k1, fun k k0 k1 => hS.roomIn 5 rfl k0 k1⟩ : MAt _ vC t.nc vv t.ln t.C)⟩ : TAt _ vB vF vC vv t)) ?_; rintro _ w ⟨vBk2, vFk2, vCk2, vvk2, tk2, ek2, rfl, hopk2, hsBk2, hsFk2, hsCk2, hS'⟩
      replace hS : Sat w0 w [.blk g1 [vc, vA, vb], .blk g2 [.int .i64 t.vars, .int .i64 t.den, vB, vF, vC], .own vB 1 3 t.nb (ints t.B), .own vF 1 3 t.nf (ints t.F), .own vC 1 22 t.nc vv, .sem (Frame.rows 3 t.nc vv t.ln t.C), .own vx 1 3 m (ints g), .own vBk2 1 3 tk2.nb (ints tk2.B), .own vFk2 1 3 tk2.nf (ints tk2.F), .own vCk2 1 22 tk2.nc vvk2, .sem (Frame.rows 3 tk2.nc vvk2 tk2.ln tk2.C)] := hS.comp hS'; clear hS'
      have hrsk2 := fun k (k0 : 0 ≤ k) (k1 : k < tk2.nc) => hS.slhIn 10 rfl k0 k1
      refine zlv xmv ?_
      iterate 2 refine zlv xex ?_
      refine zle (xsw 1 st_25 hS (hd := (ones_cons rfl (ones_cons rfl (ones_cons hsBk2.one (ones_cons hsFk2.one (ones_cons hsCk2.one ones_nil))))))) ?_; clear hS; rintro w hS
      replace hS : Sat w0 w [.blk _ [_, _, _], .blk _ [_, _, _, _, _], _, _, _, _, _, _, _, _, _] := hS
      refine zlv xas ?_
      refine zln <| ztn <| zsq <| zsq <| zrg ?_
      refine zlv xmv ?_
      refine zlv xneq ?_
      refine zln <| ztn ?_
      refine zcif ?_ ?_ <;> intro hc
      ·
       refine zsq <| zrg ?_
       refine zlv xmv ?_
       iterate 2 refine zlv xas ?_
       refine zln <| ztn <| zrt <| ztr <| zbr <| ztr <| ztr <| zbr <| zf2 ⟨_, rfl, ?_⟩
       obtain rfl : e = 0 := by omega
       exact ⟨_, 0, fun _ => 0, _, rfl, .inr (.inl ⟨by omega, by omega, by omega, rfl, _, _, _, hRn, by omega, .inr ⟨rfl, _, hopk2⟩, by omega⟩), slh_nil, (hS.addnil 1 3 (ints fun _ => 0)).sub (.cons _ (.cons _ (.cons _ (.cons _ (.cons _ (.cons _ (.cons _ (.cons _ (.cons _ (.cons _ (.cons _ (.cons_cons _ .slnil))))))))))))⟩
      ·
       refine zsk <| ztn <| zsq ?_
       refine zdst [0, 1, 2, 3, 4, 5, 7, 8, 9, 10] [0, 1, 2, 3, 4, 5, 7, 8, 9, 10] 1000 mx_ hS ?_; clear hS; intro w hS
       refine zdv 0 (fun _ => xmv) ?_
       refine zdv 1 (fun _ => (xfb 4 fd_25_4)) ?_
       obtain rfl : e = 0 := by omega
       have hop0 : OptR t tk2 0 := by have := hopk2; rwa [show ek2 = 0 by omega] at this
       have hpu := hop0.prp
       have hp := hpu.1
       have b1 := hp.n1
       have b2 := hp.n2
       have b3 := hp.m2
       have b4 := hp.v
       have b5 := hp.d1
       have b6 := hp.d2
       have b7 := hp.c
       have hkn := hsBk2.n0
       have hcx := hp.cell (i := 0) (j := 0) (by omega) (by omega) (by omega) (by omega)
       have hln0 := hp.len (i := 0) (by omega) (by omega)
       have hqd := tdiv_abs (a := tk2.C 0 0 + tk2.den - 1) (d := tk2.den) (A := 2147483648) (by omega) (by omega)
       have hbn := hpu.1.m2
       refine zdla 2 (fun w hS => (xlb 1 pl_23 hS)) ?_
       refine zdv 3 (fun _ => (xix (kk := 0) sl_23 hsCk2)) ?_
       refine zdla 4 (fun w hS => (xlr (u := (vvk2 0)) pl_22 (hS.rowN 8 rfl))) ?_
       refine zdv 5 (fun _ => (xix (kk := 0) sl_22 (hrsk2 0 (by omega) (by omega)))) ?_
       refine zdla 6 (fun w hS => (xlr (u := .int .i64 (tk2.C 0 0)) pl_3 (hS.rowIn (k := 0) 9 rfl (by omega) (by omega)))) ?_
       refine zdv 7 (fun _ => (xfb 1 fd_25_1)) ?_
       refine zdla 8 (fun w hS => (xlb 1 pl_3 hS)) ?_
       refine zdv 9 (fun _ => (xadd (r := (tk2.C 0 0) + tk2.den))) ?_
       refine zdv 10 (fun _ => (xsub (r := (tk2.C 0 0) + tk2.den - 1))) ?_
       refine zdv 11 (fun _ => (xfb 1 fd_25_1)) ?_
       refine zdla 12 (fun w hS => (xlb 1 pl_3 hS)) ?_
       refine zdv 13 (fun _ => (xquo (r := (Int.tdiv ((tk2.C 0 0) + tk2.den - 1) tk2.den)))) ?_
       refine zda 14 (xli (n := 1) (len := 1) (pv := [(0, .int .i64 (Int.tdiv ((tk2.C 0 0) + tk2.den - 1) tk2.den))]) (cs := [.int .i64 (Int.tdiv ((tk2.C 0 0) + tk2.den - 1) tk2.den)]) (c := ints (fun _ => (Int.tdiv ((tk2.C 0 0) + tk2.den - 1) tk2.den))) sl_22 el_3 hS) ?_; rintro v1 w ⟨hS, hv1⟩
       replace hS : Sat w0 w [.blk _ [_, _, _], .blk _ [_, _, _, _, _], _, _, _, _, _, _, _, _, _, _] := hS
       refine ⟨⟨fun _ => hS.pk [0, 1, 2, 3, 4, 5, 7, 8, 9, 10], hS.pk [0, 1, 2, 3, 4, 5, 7, 8, 9, 10]⟩, ?_⟩
       refine zda 15 (xap 6 (r := m + 1) sl_22 el_3 hS (hS.rowN 11 rfl) (cat_snoc _ _ _)) ?_; rintro v2 w ⟨hS, hv2⟩
       replace hS : Sat w0 w [.blk _ [_, _, _], .blk _ [_, _, _, _, _], _, _, _, _, _, _, _, _, _, _] := hS
       refine ⟨⟨fun _ => hS.pk [0, 1, 2, 3, 4, 5, 7, 8, 9, 10], hS.pk [0, 1, 2, 3, 4, 5, 7, 8, 9, 10]⟩, ?_⟩
       refine zdv 16 (fun _ => xas) ?_
       refine zdd <| ztn <| zsq <| zrg ?_
       refine zlv (xls 1 st_25 hS) ?_
       refine zlc (xc0 cl_17) (c_rfrac (t := tk2) w (⟨(hS.rowN 7 rfl), (hS.rowN 8 rfl), (⟨(hS.rowN 9 rfl), fun k k0 k1 => hS.rowIn 10 rfl k0 k1, fun k k0 k1 => hS.roomIn 10 rfl k0 k1⟩ : MAt _ vCk2 tk2.nc vvk2 tk2.ln tk2.C)⟩ : TAt _ vBk2 vFk2 vCk2 vvk2 tk2)) ?_; rintro _ w ⟨rf1, okf1, ef1, rfl, hfrf1, hS'⟩
       replace hS := hS.cmp hS'; clear hS'
       refine zlv xmv ?_
       iterate 3 refine zlv xex ?_
       iterate 3 refine zlv xas ?_
       refine zln <| ztn <| zsq <| zsq <| zrg ?_
       refine zlv xmv ?_
       obtain ⟨_, hfr1, hfr2, hfr3⟩ : TPrp tk2 ∧ rf1 = max (gfr tk2 tk2.nb.toNat) 0 ∧ (okf1 ↔ 0 ≤ gfr tk2 tk2.nb.toNat) ∧ ef1 = 0 := hfrf1.resolve_left (fun h => h.1 hpu.1)
       have hrr := hfrf1.rng
       refine zlv xnot ?_
       refine zlv xmv ?_
       refine zlb 60 ?_ ?_ <;> intro hc
       ·
        iterate 3 refine zlo ?_
        refine zlv xpt ?_
        refine zlv xmv ?_
        iterate 4 refine zlo ?_
        refine zlv xpt ?_
        refine zln <| ztn <| zct <| zsq <| zrg ?_
        refine zlv xmv ?_
        iterate 2 refine zlv xas ?_
        refine zln <| ztn <| zrt <| ztr <| zbr <| ztr <| ztr <| zbr <| zf2 ⟨_, rfl, ?_⟩
        exact ⟨_, _, _, 0, rfl, .inr (.inr ⟨by omega, by omega, rfl, _, _, _, hRn, hop0, by omega, (by
          first
          | exact .inr (.inl (by omega))
          | exact .inr (.inr (by omega))
          | exact .inl (by have := gfr_rng tk2 tk2.nb.toNat; by_cases hz9 : 0 ≤ gfr tk2 tk2.nb.toNat; exact absurd (hfr2.2 hz9) (by assumption); omega)), by omega, fun k k0 k1 => by
            have hq9 := bdF_snoc cvR us tk2 (k := k) k0 (by omega); rw [← hq9, ← hmn]; by_cases e9 : k < m
            · rw [snoc_lt e9, snoc_lt e9]; exact hg k k0 e9
            · rw [snoc_at (by omega), snoc_at (by omega)]; first | rfl | (unfold cvR; congr 1; omega)⟩), hv2, hS.pk [6]⟩
       ·
        iterate 2 refine zlv xmv ?_
        refine zlv xeql ?_
        refine zlv xpf ?_
        refine zlv xmv ?_
        refine zlb 65 ?_ ?_ <;> intro hc
        ·
         iterate 4 refine zlo ?_
         refine zlv xpt ?_
         refine zln <| ztn <| zct <| zsq <| zrg ?_
         refine zlv xmv ?_
         iterate 2 refine zlv xas ?_
         refine zln <| ztn <| zrt <| ztr <| zbr <| ztr <| ztr <| zbr <| zf2 ⟨_, rfl, ?_⟩
         exact ⟨_, _, _, 0, rfl, .inr (.inr ⟨by omega, by omega, rfl, _, _, _, hRn, hop0, by omega, (by
           first
           | exact .inr (.inl (by omega))
           | exact .inr (.inr (by omega))
           | exact .inl (by have := gfr_rng tk2 tk2.nb.toNat; by_cases hz9 : 0 ≤ gfr tk2 tk2.nb.toNat; exact absurd (hfr2.2 hz9) (by assumption); omega)), by omega, fun k k0 k1 => by
             have hq9 := bdF_snoc cvR us tk2 (k := k) k0 (by omega); rw [← hq9, ← hmn]; by_cases e9 : k < m
             · rw [snoc_lt e9, snoc_lt e9]; exact hg k k0 e9
             · rw [snoc_at (by omega), snoc_at (by omega)]; first | rfl | (unfold cvR; congr 1; omega)⟩), hv2, hS.pk [6]⟩
        ·
         refine zlv (xfb 2 fd_25_2) ?_
         refine zlv (xlb 1 pl_22 hS) ?_
         refine zlv (xln sl_22 hsBk2) ?_
         refine zlv xeql ?_
         refine zlv xpf ?_
         refine zln <| ztn ?_
         refine zcif ?_ ?_ <;> intro hc
         ·
          refine zsq <| zrg ?_
          refine zlv xmv ?_
          iterate 2 refine zlv xas ?_
          refine zln <| ztn <| zrt <| ztr <| zbr <| ztr <| ztr <| zbr <| zf2 ⟨_, rfl, ?_⟩
          exact ⟨_, _, _, 0, rfl, .inr (.inr ⟨by omega, by omega, rfl, _, _, _, hRn, hop0, by omega, (by
            first
            | exact .inr (.inl (by omega))
            | exact .inr (.inr (by omega))
            | exact .inl (by have := gfr_rng tk2 tk2.nb.toNat; by_cases hz9 : 0 ≤ gfr tk2 tk2.nb.toNat; exact absurd (hfr2.2 hz9) (by assumption); omega)), by omega, fun k k0 k1 => by
              have hq9 := bdF_snoc cvR us tk2 (k := k) k0 (by omega); rw [← hq9, ← hmn]; by_cases e9 : k < m
              · rw [snoc_lt e9, snoc_lt e9]; exact hg k k0 e9
              · rw [snoc_at (by omega), snoc_at (by omega)]; first | rfl | (unfold cvR; congr 1; omega)⟩), hv2, hS.pk [6]⟩
         ·
          refine zsk <| ztn <| zrg ?_
          refine zlv (xls 1 st_25 hS) ?_
          refine zlv xmv ?_
          refine zlc (xc0 cl_21) (c_radd (t := tk2) (row := rf1) w (⟨(hS.rowN 7 rfl), (hS.rowN 8 rfl), (⟨(hS.rowN 9 rfl), fun k k0 k1 => hS.rowIn 10 rfl k0 k1, fun k k0 k1 => hS.roomIn 10 rfl k0 k1⟩ : MAt _ vCk2 tk2.nc vvk2 tk2.ln tk2.C)⟩ : TAt _ vBk2 vFk2 vCk2 vvk2 tk2) (by omega)) ?_; rintro _ w ⟨vBk3, vFk3, vCk3, vvk3, tk3, ek3, rfl, hadk3, hsBk3, hsFk3, hsCk3, hS'⟩
          replace hS : Sat w0 w [.blk g1 [vc, vA, vb], .blk g2 [.int .i64 tk2.vars, .int .i64 tk2.den, vBk2, vFk2, vCk2], .own vB 1 3 t.nb (ints t.B), .own vF 1 3 t.nf (ints t.F), .own vC 1 22 t.nc vv, .sem (Frame.rows 3 t.nc vv t.ln t.C), .own v2 1 3 (m + 1) (ints (snoc g m (Int.tdiv ((tk2.C 0 0) + tk2.den - 1) tk2.den))), .own vBk2 1 3 tk2.nb (ints tk2.B), .own vFk2 1 3 tk2.nf (ints tk2.F), .own vCk2 1 22 tk2.nc vvk2, .sem (Frame.rows 3 tk2.nc vvk2 tk2.ln tk2.C), .own v1 1 3 1 (ints (fun _ => (Int.tdiv ((tk2.C 0 0) + tk2.den - 1) tk2.den))), .own vBk3 1 3 tk3.nb (ints tk3.B), .own vFk3 1 3 tk3.nf (ints tk3.F), .own vCk3 1 22 tk3.nc vvk3, .sem (Frame.rows 3 tk3.nc vvk3 tk3.ln tk3.C)] := hS.comp hS'; clear hS'
          have hrsk3 := fun k (k0 : 0 ≤ k) (k1 : k < tk3.nc) => hS.slhIn 15 rfl k0 k1
          refine zlv xmv ?_
          iterate 2 refine zlv xex ?_
          refine zle (xsw 1 st_25 hS (hd := (ones_cons rfl (ones_cons rfl (ones_cons hsBk3.one (ones_cons hsFk3.one (ones_cons hsCk3.one ones_nil))))))) ?_; clear hS; rintro w hS
          replace hS : Sat w0 w [.blk _ [_, _, _], .blk _ [_, _, _, _, _], _, _, _, _, _, _, _, _, _, _, _, _, _, _] := hS
          refine zlv xas ?_
          refine zln <| zbn <| ztn <| zrg ?_
          refine zlv xmv ?_
          refine zlv (xadd (r := cu + 1)) ?_
          refine zlv xas ?_
          refine zln <| zlq ⟨us ++ [tk2], tk3, vBk3, vFk3, vCk3, vvk3, ek3, m + 1, cu + 1, v2, (snoc g m (Int.tdiv ((tk2.C 0 0) + tk2.den - 1) tk2.den)), rfl, ?_, ?_, ?_, ?_, ?_, (by omega), ?_, ?_, ?_, ?_, ?_, rfl, hS.pk [0, 1, 12, 13, 14, 15, 6]⟩ (hlt := (by rw [if_pos rfl]; have hd1 := hpu.2; have hd2 := hpu.1.m2; split <;> rename_i hz; (have hq := hadk3.nb hz; omega); omega))
          ·
           exact .cut hRn hop0 hpu.1 (hfr2.1 (by first | assumption | exact Classical.not_not.1 ‹_›)) (by have hq := hadk3; rwa [show rf1 = gfr tk2 tk2.nb.toNat by have := hfr2.1 (by first | assumption | exact Classical.not_not.1 ‹_›); omega] at hq)
          ·
           exact hsBk3
          ·
           exact hsFk3
          ·
           exact hsCk3
          ·
           rw [List.length_append]; simp; omega
          ·
           rw [List.length_append]; simp; omega
          ·
           have hq9 := hRn.len rfl hm; left; rw [List.length_append]; simp; omega
          ·
           intro j j0 j1; have hq9 := bdF_snoc cvR us tk2 (k := j) j0 (by omega); rw [← hq9, ← hmn]; by_cases e9 : j < m
           · rw [snoc_lt e9, snoc_lt e9]; exact hg j j0 e9
           · rw [snoc_at (by omega), snoc_at (by omega)]; first | rfl | (unfold cvR; congr 1; omega)
          ·
           rintro ⟨h9, _⟩; rcases hadk3 with ⟨_, _, h⟩ | ⟨_, _, _, h⟩ | ⟨_, _, _, _, _, h⟩ | ⟨_, _, _, _, _, _, h⟩ | ⟨_, _, _, _, _, _, h⟩ <;> omega
          ·
           exact hv2
     ·
      refine zsk <| ztn <| zsq <| zsq <| zrg ?_
      refine zlv xmv ?_
      refine zlv xneq ?_
      refine zln <| ztn ?_
      refine zcif ?_ ?_ <;> intro hc
      ·
       refine zsq <| zrg ?_
       refine zlv xmv ?_
       iterate 2 refine zlv xas ?_
       refine zln <| ztn <| zrt <| ztr <| zbr <| ztr <| ztr <| zbr <| zf2 ⟨_, rfl, ?_⟩
       exact ⟨_, 0, fun _ => 0, _, rfl, .inr (.inl ⟨by omega, by omega, by omega, rfl, _, _, _, hRn, by omega, .inl ⟨rfl, by omega⟩, hno⟩), slh_nil, (hS.addnil 1 3 (ints fun _ => 0)).sub (.cons _ (.cons _ (.cons _ (.cons _ (.cons _ (.cons _ (.cons _ (.cons_cons _ .slnil))))))))⟩
      ·
       exfalso; omega

def pGo : Lp := ⟨2, 1, 1, fun k => [1, 1].getD k.toNat 0, fun _ => 2, fun _ k => [2, 2].getD k.toNat 0, fun _ => 3⟩
def tGo1 : Tb := piv (startT pGo) 0 0
def tGo2 : Tb := addT tGo1 0
def tGo3 : Tb := piv tGo2 1 0
theorem okGo : LOk pGo := ⟨by decide, by decide, by decide, rfl, bnd (by decide), bnd (by decide), fun i i0 i1 => by
  have : i = 0 := by simp [pGo] at i1; omega
  subst this
  exact ⟨rfl, bnd (by decide)⟩⟩
theorem runGo1 : OptR (startT pGo) tGo1 0 := ⟨_, _, .go (next_of (r := 0) (c := 0) (by decide +kernel) (by decide +kernel) (by decide +kernel) (by decide) (by decide)) (piv_of (by decide +kernel)) (.stop (stop_of (by decide +kernel) (by decide +kernel)) (.inl rfl)), .inl ⟨rfl, rfl, rfl⟩⟩
theorem runGo2 : OptR tGo2 tGo3 0 := ⟨_, _, .go (next_of (r := 1) (c := 0) (by decide +kernel) (by decide +kernel) (by decide +kernel) (by decide) (by decide)) (piv_of (by decide +kernel)) (.stop (stop_of (by decide +kernel) (by decide +kernel)) (.inl rfl)), .inl ⟨rfl, rfl, rfl⟩⟩
theorem frGo : gfr tGo1 tGo1.nb.toNat = 0 := by decide +kernel
theorem rnGo : Rn pGo [tGo1] tGo2 0 := by
  have h := runGo1.prp
  refine .cut (us := []) (.start (.inr ⟨okGo, rfl, rfl⟩)) runGo1 h.1 (by rw [frGo]; omega) ?_
  rw [frGo]
  exact .inr (.inr (.inr (.inr ⟨h.1, by omega, by decide +kernel, by decide +kernel, by decide +kernel, rfl, rfl⟩)))
theorem solGo {n val cuts e : Int} {f : Int → Int} (h : GSolveR pGo n f val cuts e) : e = 0 ∧ val = 2 ∧ cuts = 1 ∧ n = 2 ∧ f 0 = 2 ∧ f 1 = 0 := by
  obtain ⟨h1, h2, h3, h4, h5⟩ := GSolveR.same (by decide) h (.inr ⟨rfl, _, _, _, rnGo, runGo2, by decide +kernel, rfl, rfl, fun _ _ _ => rfl, rfl⟩)
  have n2 : n = 2 := h1
  refine ⟨h5, h3.trans (by decide +kernel), h4, n2, ?_, ?_⟩
  · rw [h2 0 (by omega) (by omega)]; decide +kernel
  · rw [h2 1 (by omega) (by omega)]; decide +kernel
theorem matEx1 {w : World} {v a : Value} {n : Int} {f : Int → Int} (h : Row w v 1 1 (fun _ => a)) (ha : Row w a 1 n (ints f)) (ra : Gw.Roomy a) : MAt w v 1 (fun _ => a) (fun _ => n) (fun _ => f) :=
  ⟨h, fun i i0 i1 => ha, fun i i0 i1 => ra⟩

set_option maxRecDepth 20000 in
theorem c_gawake  (w0 : World) :
    Calls Try.prog 14 [].toArray w0 fun e w => ∃ v, e = .returned v ∧ v = .bool true ∧ Sat w0 w [] := by
  refine zenG Try.func14 Try.ntmps14 fun w hS => ?_
  refine zsq <| zrg ?_
  refine zlv xas ?_
  refine zln <| ztn <| zsq <| zrg ?_
  refine zla (xli (n := 2) (len := 2) (pv := [(0, .int .i64 1), (1, .int .i64 1)]) (cs := [.int .i64 1, .int .i64 1]) (c := ints (fun k => [1, 1].getD k.toNat 0)) sl_22 el_3 hS) ?_; rintro v1 w ⟨hS, hv1⟩
  replace hS : Sat w0 w [_] := hS
  refine zla (xli (n := 2) (len := 2) (pv := [(0, .int .i64 2), (1, .int .i64 2)]) (cs := [.int .i64 2, .int .i64 2]) (c := ints (fun k => [2, 2].getD k.toNat 0)) sl_22 el_3 hS) ?_; rintro v2 w ⟨hS, hv2⟩
  replace hS : Sat w0 w [_, _] := hS
  refine zla (xli (n := 1) (len := 1) (pv := [(0, v2)]) (cs := [v2]) (c := (fun _ => v2)) sl_23 el_22 hS (hf := by obtain ⟨_, _, _, _, rfl, _⟩ := hv2; kernel_rfl)) ?_; rintro v3 w ⟨hS, hv3⟩
  replace hS : Sat w0 w [_, _, _] := hS
  refine zla (xli (n := 1) (len := 1) (pv := [(0, .int .i64 3)]) (cs := [.int .i64 3]) (c := ints (fun _ => 3)) sl_22 el_3 hS) ?_; rintro v4 w ⟨hS, hv4⟩
  replace hS : Sat w0 w [_, _, _, _] := hS
  refine zlv (xany (v := .agg #[v1, v3, v4]) (hr := by obtain ⟨_, _, _, _, rfl, _⟩ := hv1; obtain ⟨_, _, _, _, rfl, _⟩ := hv3; obtain ⟨_, _, _, _, rfl, _⟩ := hv4; kernel_rfl)) ?_
  refine zlc (xc0 cl_29) (c_gsolve (p := pGo) w (⟨(hS.rowN 0 rfl), matEx1 (hS.rowN 2 rfl) (hS.rowN 1 rfl) (Ent.holds.roomy (hS.holds _ (List.mem_of_getElem? (i := 1) rfl))), (hS.rowN 3 rfl)⟩ : LAt _ v1 v3 v4 (fun _ => v2) pGo)) ?_; rintro _ w ⟨xry1, xny1, xfy1, vay1, cuy1, ey1, rfl, hgsy1, hxry1, hS'⟩
  replace hS : Sat w0 w [.own v1 1 3 2 (ints (fun k => [1, 1].getD k.toNat 0)), .own v2 1 3 2 (ints (fun k => [2, 2].getD k.toNat 0)), .own v3 1 22 1 (fun _ => v2), .own v4 1 3 1 (ints (fun _ => 3)), .own xry1 1 3 xny1 (ints xfy1)] := hS.comp hS'; clear hS'
  obtain ⟨e1, e2, e3, e4, e5, e6⟩ := solGo hgsy1
  refine zlv xmv ?_
  iterate 4 refine zlv xex ?_
  iterate 4 refine zlv xas ?_
  refine zln <| ztn <| zsq ?_
  refine zdst [0, 1, 2, 3, 4] [0, 1, 2, 3, 4] 1000 mx_ hS ?_; clear hS; intro w hS
  refine zdv 0 (fun _ => xmv) ?_
  refine zdv 1 (fun _ => xeql) ?_
  refine zdv 2 (fun _ => xmv) ?_
  refine zdb 18 ?_ ?_ <;> intro hc
  ·
   refine zdv 3 (fun _ => xmv) ?_
   refine zdv 4 (fun _ => xeql) ?_
   refine zdv 5 (fun _ => xpt) ?_
   refine zdv 6 (fun _ => xmv) ?_
   refine zdb 22 ?_ ?_ <;> intro hc
   ·
    refine zdv 7 (fun _ => xmv) ?_
    refine zdv 8 (fun _ => xeql) ?_
    refine zdv 9 (fun _ => xpt) ?_
    refine zdv 10 (fun _ => xmv) ?_
    refine zdb 26 ?_ ?_ <;> intro hc
    ·
     refine zdv 11 (fun _ => xmv) ?_
     refine zdv 12 (fun _ => (xln sl_22 hxry1)) ?_
     refine zdv 13 (fun _ => xeql) ?_
     refine zdv 14 (fun _ => xpt) ?_
     refine zdv 15 (fun _ => xmv) ?_
     refine zdb 31 ?_ ?_ <;> intro hc
     ·
      refine zdv 16 (fun _ => xmv) ?_
      refine zdv 17 (fun _ => (xix (kk := 0) sl_22 hxry1)) ?_
      refine zdla 18 (fun w hS => (xlr (u := .int .i64 (xfy1 0)) pl_3 (hS.rowN 4 rfl))) ?_
      refine zdv 19 (fun _ => xmv) ?_
      refine zdv 20 (fun _ => (xix (kk := 1) sl_22 hxry1)) ?_
      refine zdla 21 (fun w hS => (xlr (u := .int .i64 (xfy1 1)) pl_3 (hS.rowN 4 rfl))) ?_
      refine zdv 22 (fun _ => (xadd (r := (xfy1 0) + (xfy1 1)))) ?_
      refine zdv 23 (fun _ => xeql) ?_
      refine zdv 24 (fun _ => xpt) ?_
      refine zdv 25 (fun _ => xas) ?_
      refine zdd <| ztn <| zrt <| zf1 ⟨_, rfl, ?_⟩
      exact ⟨(true_B (by first | omega | (rw [e6, e5]; omega) | exact absurd ‹_› (by omega))).symm, hS.nl⟩
     ·
      refine zdof 16 ?_
      refine zdof 17 ?_
      refine zdof 18 ?_
      refine zdof 19 ?_
      refine zdof 20 ?_
      refine zdof 21 ?_
      refine zdof 22 ?_
      refine zdof 23 ?_
      refine zdv 24 (fun _ => xpf) ?_
      refine zdv 25 (fun _ => xas) ?_
      refine zdd <| ztn <| zrt <| zf1 ⟨_, rfl, ?_⟩
      exfalso; first | omega | exact absurd ‹_› (by omega)
    ·
     refine zdof 11 ?_
     refine zdof 12 ?_
     refine zdof 13 ?_
     refine zdv 14 (fun _ => xpf) ?_
     refine zdv 15 (fun _ => xmv) ?_
     refine zdof 16 ?_
     refine zdof 17 ?_
     refine zdof 18 ?_
     refine zdof 19 ?_
     refine zdof 20 ?_
     refine zdof 21 ?_
     refine zdof 22 ?_
     refine zdof 23 ?_
     refine zdv 24 (fun _ => xpf) ?_
     refine zdv 25 (fun _ => xas) ?_
     refine zdd <| ztn <| zrt <| zf1 ⟨_, rfl, ?_⟩
     exfalso; first | omega | exact absurd ‹_› (by omega)
   ·
    refine zdof 7 ?_
    refine zdof 8 ?_
    refine zdv 9 (fun _ => xpf) ?_
    refine zdv 10 (fun _ => xmv) ?_
    refine zdof 11 ?_
    refine zdof 12 ?_
    refine zdof 13 ?_
    refine zdv 14 (fun _ => xpf) ?_
    refine zdv 15 (fun _ => xmv) ?_
    refine zdof 16 ?_
    refine zdof 17 ?_
    refine zdof 18 ?_
    refine zdof 19 ?_
    refine zdof 20 ?_
    refine zdof 21 ?_
    refine zdof 22 ?_
    refine zdof 23 ?_
    refine zdv 24 (fun _ => xpf) ?_
    refine zdv 25 (fun _ => xas) ?_
    refine zdd <| ztn <| zrt <| zf1 ⟨_, rfl, ?_⟩
    exfalso; first | omega | exact absurd ‹_› (by omega)
  ·
   refine zdof 3 ?_
   refine zdof 4 ?_
   refine zdv 5 (fun _ => xpf) ?_
   refine zdv 6 (fun _ => xmv) ?_
   refine zdof 7 ?_
   refine zdof 8 ?_
   refine zdv 9 (fun _ => xpf) ?_
   refine zdv 10 (fun _ => xmv) ?_
   refine zdof 11 ?_
   refine zdof 12 ?_
   refine zdof 13 ?_
   refine zdv 14 (fun _ => xpf) ?_
   refine zdv 15 (fun _ => xmv) ?_
   refine zdof 16 ?_
   refine zdof 17 ?_
   refine zdof 18 ?_
   refine zdof 19 ?_
   refine zdof 20 ?_
   refine zdof 21 ?_
   refine zdof 22 ?_
   refine zdof 23 ?_
   refine zdv 24 (fun _ => xpf) ?_
   refine zdv 25 (fun _ => xas) ?_
   refine zdd <| ztn <| zrt <| zf1 ⟨_, rfl, ?_⟩
   exfalso; first | omega | exact absurd ‹_› (by omega)

set_option maxRecDepth 20000 in
theorem c_gsame {vB vF vC : Value} {vv : Int → Value} {t : Tb} {xB xF xC : Value} {xv : Int → Value} {u : Tb} (w0 : World) (hT : TAt w0 vB vF vC vv t) (hU : TAt w0 xB xF xC xv u) :
    Calls Try.prog 23 [.agg #[.int .i64 t.vars, .int .i64 t.den, vB, vF, vC], .agg #[.int .i64 u.vars, .int .i64 u.den, xB, xF, xC]].toArray w0 fun e w => ∃ v, e = .returned v ∧ v = B (SameT t u) ∧ Sat w0 w [] := by
  have hn := hT.F.slh.n0; have hn1 := hT.F.slh.n1; have hb := hT.B.slh.n0; have hb1 := hT.B.slh.n1; have hc0 := hT.C.row.slh.n0; have hc1 := hT.C.row.slh.n1; have hcu := hU.C.row.slh.n1
  refine zenG Try.func23 Try.ntmps23 fun w hS => ?_
  refine zsq <| zrg ?_
  refine zla (xbx (cs := [_, _, _, _, _]) hS) ?_; rintro _ w ⟨g1, rfl, hS⟩
  replace hS : Sat w0 w [.blk _ [_, _, _, _, _]] := hS
  refine zla (xbx (cs := [_, _, _, _, _]) hS) ?_; rintro _ w ⟨g2, rfl, hS⟩
  replace hS : Sat w0 w [.blk _ [_, _, _, _, _], .blk _ [_, _, _, _, _]] := hS
  refine zlv xas ?_
  refine zln <| ztn <| zsq <| zrg ?_
  refine zlv (xls 0 st_28 hS) ?_
  refine zlv (xls 1 st_25 hS) ?_
  refine zlc (xc0 cl_67) (c_samet (t := t) (u := u) w (hT.below hS.below) (hU.below hS.below)) ?_; rintro _ w ⟨rfl, hS'⟩
  replace hS := hS.cmp hS'; clear hS'
  refine zlv xas ?_
  refine zln <| ztn <| zrt <| zf1 ⟨_, rfl, ?_⟩
  exact ⟨rfl, hS.nl⟩

end Go.Proofs.Ytelfplepnodbgaa
