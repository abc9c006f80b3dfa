/- The walk of Solve, of gomory. -/
import Derived.Test.YtelfplepnodbgaaGc
import Derived.Test.YtelfplepnodbgaaX5
namespace Go.Proofs.Ytelfplepnodbgaa
open Go Go.RowKit Go.Proofs.Gw
set_option linter.unusedVariables false

theorem cl_109 : calledT Try.prog 109 = true := by kernel_rfl
theorem cl_72 : calledT Try.prog 72 = true := by kernel_rfl
theorem el_119 : elemT Try.prog 119 = some (.agg #[.int .i64 0, .int .i64 0, .slice none 0 0, .slice none 0 0, .slice none 0 0, .bool false, .int .i64 0], 7, 104) := by kernel_rfl
theorem el_29 : elemT Try.prog 29 = some (.int .i64 0, 1, 8) := by kernel_rfl
theorem fd_119_0 : fieldT Try.prog 119 0 = some 0 := by kernel_rfl
theorem fd_119_1 : fieldT Try.prog 119 1 = some 5 := by kernel_rfl
theorem fd_119_2 : fieldT Try.prog 119 2 = some 6 := by kernel_rfl
theorem pl_29 : plainT Try.prog 29 = true := by kernel_rfl
theorem st_119 : structT Try.prog 119 = some 7 := by kernel_rfl
set_option maxRecDepth 20000 in
theorem c_gsolve {vc vA vb : Value} {vq : Int → Value} {p : Lp} (w0 : World) (hL : LAt w0 vc vA vb vq p) :
    Calls Try.prog 29 [.agg #[vc, vA, vb]].toArray w0 fun e w => ∃ v, e = .returned v ∧ ∃ r n f val cuts e, v = .tuple #[r, .int .i64 val, .int .i64 cuts, .int .i64 e] ∧ GSolveR p n f val cuts e ∧ Slh r n ∧ Sat w0 w [.own r 1 3 n (ints f)] := by
  have hn := hL.c.slh.n0; have hn1 := hL.c.slh.n1; have hm := hL.A.row.slh.n0; have hm1 := hL.A.row.slh.n1; have hk := hL.b.slh.n0; have hk1 := hL.b.slh.n1
  refine henM Try.func29 Try.ntmps29 fun w hS => ?_
  refine hsq <| hrz ?_
  refine zla (xbx (cs := [_, _, _]) hS) ?_; rintro _ w ⟨g1, rfl, hS⟩
  replace hS : Sat w0 w [.blk _ [_, _, _]] := hS
  refine zla (xal (cs := [_]) el_22 hS) ?_; rintro _ w ⟨g2, rfl, hS⟩
  replace hS : Sat w0 w [.blk _ [_, _, _], .blk _ [_]] := hS
  refine zla (xal (cs := [_]) el_3 hS) ?_; rintro _ w ⟨g3, rfl, hS⟩
  replace hS : Sat w0 w [.blk _ [_, _, _], .blk _ [_], .blk _ [_]] := hS
  refine zla (xal (cs := [_]) el_3 hS) ?_; rintro _ w ⟨g4, rfl, hS⟩
  replace hS : Sat w0 w [.blk _ [_, _, _], .blk _ [_], .blk _ [_], .blk _ [_]] := hS
  refine zla (xal (cs := [_]) el_29 hS) ?_; rintro _ w ⟨g5, rfl, hS⟩
  replace hS : Sat w0 w [.blk _ [_, _, _], .blk _ [_], .blk _ [_], .blk _ [_], .blk _ [_]] := hS
  refine zln <| zh <| htn <| hsq <| hrz ?_
  refine zla (xal (cs := [_, _, _, _, _, _, _]) el_119 hS) ?_; rintro _ w ⟨g6, rfl, hS⟩
  replace hS : Sat w0 w [.blk _ [_, _, _], .blk _ [_], .blk _ [_], .blk _ [_], .blk _ [_], .blk _ [_, _, _, _, _, _, _]] := hS
  refine zln <| zh <| htn <| hsq <| hsq <| hrz ?_
  refine zlv (xls 0 st_48 hS) ?_
  refine zlc (xc0 cl_72) (c_rounds (p := p) w (hL.below hS.below)) ?_; rintro _ w ⟨g7, rfl, hS'⟩
  replace hS : Sat w0 w [.blk g1 [vc, vA, vb], .blk g2 [.slice none 0 0], .blk g3 [.int .i64 0], .blk g4 [.int .i64 0], .blk g5 [.int .i64 0], .blk g6 [.int .i64 0, .int .i64 0, .slice none 0 0, .slice none 0 0, .slice none 0 0, .bool false, .int .i64 0], .blk g7 [vc, vA, vb]] := hS.comp hS'; clear hS'
  refine zln <| zh <| htn <| hbk ?_
  rw [show Value.bool false = B False from (B_false not_false).symm] at hS
  refine hrf (St := List GX) (X := GX) (Tt := GX) (fun s => [.blk g1 [vc, vA, vb], .blk g2 [.slice none 0 0], .blk g3 [.int .i64 0], .blk g4 [.int .i64 (ctX s)], .blk g5 [.int .i64 0], .blk g6 [.int .i64 ((lastX s).t.vars), .int .i64 ((lastX s).t.den), (lastX s).vB, (lastX s).vF, (lastX s).vC, B ((lastX s).fr), .int .i64 ((lastX s).e)]]) (fun t => [.blk g2 [.slice none 0 0], .blk g3 [.int .i64 0], .blk g4 [.int .i64 0], .blk g5 [.int .i64 t.e]]) (fun _ => .ret) [] (fun x M es => ∃ (g8 : Nat), M = [(0, .agg #[vc, vA, vb]), (1, .pointer (some ⟨g1, 0, none⟩)), (2, .pointer (some ⟨g2, 0, none⟩)), (3, .pointer (some ⟨g3, 0, none⟩)), (4, .pointer (some ⟨g4, 0, none⟩)), (5, .pointer (some ⟨g5, 0, none⟩)), (6, .pointer (some ⟨g6, 0, none⟩)), (12, .agg #[vc, vA, vb]), (13, .func (.func 109) #[] #[.pointer (some ⟨g7, 0, none⟩)]), (14, .agg #[.int .i64 x.t.vars, .int .i64 x.t.den, x.vB, x.vF, x.vC, B (x.fr), .int .i64 x.e]), (7, .pointer (some ⟨g8, 0, none⟩))] ∧ es = [.blk g8 [.int .i64 x.t.vars, .int .i64 x.t.den, x.vB, x.vF, x.vC, B (x.fr), .int .i64 x.e]]) (c_rounds1 (gp := g7) (fun s => s) [] rfl (fun x => x.e = 0) (fun s x t => t = x ∧ x.e ≠ 0) w0 hL) (hS) cl_109 (fun _ => rfl) (fun _ => .inl rfl) ?_ ?_ ?_ ?_
  ·
   intro l s x rest w hpre rest1 hrr hS
   have hxB := hpre.sB; have hxF := hpre.sF; have hxC := hpre.sC; have hsl := hpre.len hm; have hcr := ctX_rng s
   replace hS : Sat w0 w [.blk _ [_, _, _], .blk _ [_], .blk _ [_], .blk _ [_], .blk _ [_], .blk _ [_, _, _, _, _, _, _], .blk _ [_, _, _], _] := hS
   refine hrz ?_
   refine zla (xal (cs := [_, _, _, _, _, _, _]) el_119 hS) ?_; rintro _ w ⟨g8, rfl, hS⟩
   replace hS : Sat w0 w [.blk _ [_, _, _], .blk _ [_], .blk _ [_], .blk _ [_], .blk _ [_], .blk _ [_, _, _, _, _, _, _], .blk _ [_, _, _], _, .blk _ [_, _, _, _, _, _, _]] := hS
   refine zle (xsw 8 st_119 hS (hd := (ones_cons rfl (ones_cons rfl (ones_cons hxB.one (ones_cons hxF.one (ones_cons hxC.one (ones_cons (B_one _) (ones_cons rfl ones_nil))))))))) ?_; clear hS; rintro w hS
   replace hS : Sat w0 w [.blk _ [_, _, _], .blk _ [_], .blk _ [_], .blk _ [_], .blk _ [_], .blk _ [_, _, _, _, _, _, _], .blk _ [_, _, _], _, .blk _ [_, _, _, _, _, _, _]] := hS
   refine zln <| zh <| hasg ⟨g8, rfl, rfl⟩ hS
  ·
   rintro l s x _ _ rest w hpre ⟨g8, rfl, rfl⟩ rest1 hrr hS
   have hxB := hpre.sB; have hxF := hpre.sF; have hxC := hpre.sC; have hsl := hpre.len hm; have hcr := ctX_rng s
   replace hS : Sat w0 w [.blk _ [_, _, _], .blk _ [_], .blk _ [_], .blk _ [_], .blk _ [_], .blk _ [_, _, _, _, _, _, _], .blk _ [_, _, _], _, .blk _ [_, _, _, _, _, _, _]] := hS
   refine hbk <| hsq <| hsq <| hrz ?_
   refine zlv (xfb 6 fd_119_2) ?_
   refine zlv (xlb 8 pl_29 hS) ?_
   refine zlv xneq ?_
   refine zln <| zh <| htn ?_
   refine hcif ?_ ?_ <;> intro hc
   ·
    refine hsq ?_
    refine hdst [0, 1, 2, 3, 4, 5, 6, 7, 8] [0, 5, 6, 7, 8] 2 mx_ hS ?_; clear hS; intro w hS
    refine zdv 0 (fun _ => (xfb 6 fd_119_2)) ?_
    refine zdla 1 (fun w hS => (xlb 4 pl_29 hS)) ?_
    refine zde 2 (xsb 1 pl_22 hS) ?_; clear hS; rintro w hS
    replace hS : Sat w0 w [.blk _ [_, _, _], .blk _ [_], .blk _ [_], .blk _ [_], .blk _ [_], .blk _ [_, _, _, _, _, _, _], .blk _ [_, _, _], _, .blk _ [_, _, _, _, _, _, _]] := hS
    refine ⟨⟨fun h => absurd h (by decide), hS.pk [0, 5, 6, 7, 8]⟩, ?_⟩
    refine zde 3 (xsb 2 pl_3 hS) ?_; clear hS; rintro w hS
    replace hS : Sat w0 w [.blk _ [_, _, _], .blk _ [_], .blk _ [_], .blk _ [_], .blk _ [_], .blk _ [_, _, _, _, _, _, _], .blk _ [_, _, _], _, .blk _ [_, _, _, _, _, _, _]] := hS
    refine ⟨⟨fun h => absurd h (by decide), hS.pk [0, 5, 6, 7, 8]⟩, ?_⟩
    refine zde 4 (xsb 3 pl_3 hS) ?_; clear hS; rintro w hS
    replace hS : Sat w0 w [.blk _ [_, _, _], .blk _ [_], .blk _ [_], .blk _ [_], .blk _ [_], .blk _ [_, _, _, _, _, _, _], .blk _ [_, _, _], _, .blk _ [_, _, _, _, _, _, _]] := hS
    refine ⟨⟨fun h => absurd h (by decide), hS.pk [0, 5, 6, 7, 8]⟩, ?_⟩
    refine zde 5 (xsb 4 pl_29 hS) ?_; clear hS; rintro w hS
    replace hS : Sat w0 w [.blk _ [_, _, _], .blk _ [_], .blk _ [_], .blk _ [_], .blk _ [_], .blk _ [_, _, _, _, _, _, _], .blk _ [_, _, _], _, .blk _ [_, _, _, _, _, _, _]] := hS
    refine ⟨⟨fun h => absurd h (by decide), hS.pk [0, 5, 6, 7, 8]⟩, ?_⟩
    refine zdd <| zh <| htn <| hrt <| ztr <| zbr <| hrdR x ⟨rfl, hc⟩ rfl (hS.pk [1, 2, 3, 4, 6, 7])
   ·
    refine hsk <| htn <| hsq <| hsq <| hrz ?_
    refine zlv (xfb 5 fd_119_1) ?_
    refine zlv (xlb 8 pl_4 hS) ?_
    refine zln <| zh <| htn ?_
    refine hcif ?_ ?_ <;> intro hc
    ·
     refine hrz ?_
     refine zlv (xlb 3 pl_3 hS) ?_
     refine zlv (xadd (r := (ctX s) + 1)) ?_
     refine zle (xsb 3 pl_3 hS) ?_; clear hS; rintro w hS
     replace hS : Sat w0 w [.blk _ [_, _, _], .blk _ [_], .blk _ [_], .blk _ [_], .blk _ [_], .blk _ [_, _, _, _, _, _, _], .blk _ [_, _, _], _, .blk _ [_, _, _, _, _, _, _]] := hS
     refine zln <| zh <| htn <| hrz ?_
     refine zlv (xls 8 st_119 hS) ?_
     refine zle (xsw 5 st_119 hS (hd := (ones_cons rfl (ones_cons rfl (ones_cons hxB.one (ones_cons hxF.one (ones_cons hxC.one (ones_cons (B_one _) (ones_cons rfl ones_nil))))))))) ?_; clear hS; rintro w hS
     replace hS : Sat w0 w [.blk _ [_, _, _], .blk _ [_], .blk _ [_], .blk _ [_], .blk _ [_], .blk _ [_, _, _, _, _, _, _], .blk _ [_, _, _], _, .blk _ [_, _, _, _, _, _, _]] := hS
     refine zln <| zh <| zbn ?_
     obtain ⟨s1, hs1⟩ : ∃ s1, s1 = s ++ [x] := ⟨_, rfl⟩
     have e1 : lastX s1 = x := by rw [hs1, lastX_snoc]
     have e2 : ctX s1 = (ctX s) + 1 := by rw [hs1]; exact (ctX_snoc s x).1 ‹_›
     rw [← e1, ← e2] at hS
     refine hrdN s1 ⟨hs1, by omega⟩ (hS.pk [0, 1, 2, 3, 4, 5, 6, 7])
    ·
     refine hsk <| htn <| hrz ?_
     refine zlv (xls 8 st_119 hS) ?_
     refine zle (xsw 5 st_119 hS (hd := (ones_cons rfl (ones_cons rfl (ones_cons hxB.one (ones_cons hxF.one (ones_cons hxC.one (ones_cons (B_one _) (ones_cons rfl ones_nil))))))))) ?_; clear hS; rintro w hS
     replace hS : Sat w0 w [.blk _ [_, _, _], .blk _ [_], .blk _ [_], .blk _ [_], .blk _ [_], .blk _ [_, _, _, _, _, _, _], .blk _ [_, _, _], _, .blk _ [_, _, _, _, _, _, _]] := hS
     refine zln <| zh <| zbn ?_
     obtain ⟨s1, hs1⟩ : ∃ s1, s1 = s ++ [x] := ⟨_, rfl⟩
     have e1 : lastX s1 = x := by rw [hs1, lastX_snoc]
     have e2 : ctX s1 = (ctX s) := by rw [hs1]; exact (ctX_snoc s x).2 ‹_›
     rw [← e1, ← e2] at hS
     refine hrdN s1 ⟨hs1, by omega⟩ (hS.pk [0, 1, 2, 3, 4, 5, 6, 7])
  ·
   intro Dk s rest w hfin hS
   replace hS : Sat w0 w [.blk _ [_, _, _], .blk _ [_], .blk _ [_], .blk _ [_], .blk _ [_], .blk _ [_, _, _, _, _, _, _], .blk _ [_, _, _], _, _] := hS
   obtain ⟨s9, x, rfl, hk0, hpre, hfr⟩ := hfin
   have hxB := hpre.sB; have hxF := hpre.sF; have hxC := hpre.sC; have hsl := hpre.len hm
   obtain ⟨tt, e9, hRn, hok, _, _, _, ⟨h1, _⟩ | ⟨_, rfl, hop, hprp, hfq, htat⟩⟩ := hpre
   · exact absurd hk0 h1
   have hct : ctX (s9 ++ [x]) = (s9.length : Int) := by rw [(ctX_snoc s9 x).2 hfr]; exact ctX_ok hok
   rw [lastX_snoc, hct] at hS
   have b1 := hprp.n1
   have b2 := hprp.n2
   have b3 := hprp.m2
   have b4 := hprp.v
   have b5 := hprp.d1
   have b6 := hprp.d2
   have b7 := hprp.c
   have hlk := hRn.lok rfl
   have b1 := hlk.n1
   have b2 := hlk.n2
   have b3 := hlk.m2
   have b4 := hlk.k
   have hxn := hxB.n0; have hdm := hRn.dims rfl; have hod := hop.dims
   have hxr := fun k (k0 : 0 ≤ k) (k1 : k < x.t.nc) => ((htat _ (hS.holds (.sem rest) (List.mem_of_getElem? (i := 7) rfl))).C.p k k0 k1).slh
   have hxr0 := fun k => hprp.len (i := k)
   replace hS : Sat w0 w [.blk _ [_, _, _], .blk _ [_], .blk _ [_], .blk _ [_], .blk _ [_], .blk _ [_, _, _, _, _, _, _], .blk _ [_, _, _], _, _] := hS
   refine zbn <| htn <| hsq <| hrz ?_
   refine zlv (xfb 0 fd_119_0) ?_
   refine zlv (xfb 0 fd_28_0) ?_
   refine zlv (xlb 5 pl_3 hS) ?_
   refine zla (xmk sl_22 el_3 hS) ?_; rintro v1 w ⟨hS, hv1⟩
   replace hS : Sat w0 w [.blk _ [_, _, _], .blk _ [_], .blk _ [_], .blk _ [_], .blk _ [_], .blk _ [_, _, _, _, _, _, _], .blk _ [_, _, _], _, _, _] := hS
   refine zle (xsb 1 pl_22 hS (hv := hv1.one)) ?_; clear hS; rintro w hS
   replace hS : Sat w0 w [.blk _ [_, _, _], .blk _ [_], .blk _ [_], .blk _ [_], .blk _ [_], .blk _ [_, _, _, _, _, _, _], .blk _ [_, _, _], _, _, _] := hS
   refine zln <| zh <| htn <| hsq <| hsq <| hrz ?_
   refine zlv (xfb 0 fd_119_0) ?_
   refine zlv (xfb 2 fd_28_2) ?_
   refine zlv (xlb 5 pl_22 hS) ?_
   refine zlv (xln sl_22 hxB) ?_
   refine zlv xmv ?_
   refine zln <| zh <| htn <| hbk <| hlp (fun mm M w => ∃ (i : Int) (fX : Int → Int), mm = ((x.t.nb - i).toNat) ∧ (0 ≤ i) ∧ (i ≤ x.t.nb) ∧ (fX = qX x.t i.toNat) ∧ M = [(1, .pointer (some ⟨g1, 0, none⟩)), (2, .pointer (some ⟨g2, 0, none⟩)), (3, .pointer (some ⟨g3, 0, none⟩)), (4, .pointer (some ⟨g4, 0, none⟩)), (5, .pointer (some ⟨g5, 0, none⟩)), (6, .pointer (some ⟨g6, 0, none⟩)), (31, x.vB), (32, .int .i64 x.t.nb), (33, .int .i64 i)] ∧ Sat w0 w [.blk g1 [vc, vA, vb], .blk g2 [v1], .blk g3 [.int .i64 0], .blk g4 [.int .i64 (s9.length : Int)], .blk g5 [.int .i64 0], .blk g6 [.int .i64 x.t.vars, .int .i64 x.t.den, x.vB, x.vF, x.vC, B (x.fr), .int .i64 x.e], .blk g7 [vc, vA, vb], .sem rest, .sem (Frame.obj Dk (.deferred (some []))), .own v1 1 3 x.t.vars (ints fX)]) ⟨0, (fun _ => 0), rfl, (by omega), (by omega), ?_, rfl, hS⟩ ?_
   ·
    rfl
   ·
    clear hS w
    rintro mm M w ⟨i, fX, rfl, h0, h1, hfX, rfl, hS⟩
    refine hsq <| hrz ?_
    refine zlv xlss ?_
    refine zln <| zh <| htn <| hsq ?_
    refine hcif ?_ ?_ <;> intro hc
    ·
     refine hsk <| htn <| hsq <| hbk <| hsq <| hrz ?_
     refine zlv xmv ?_
     refine zlv (xix (kk := i) sl_22 hxB) ?_
     refine zlv (xlr (u := .int .i64 (x.t.B i)) pl_3 (htat _ (hS.holds (.sem rest) (List.mem_of_getElem? (i := 7) rfl))).B) ?_
     iterate 2 refine zlv xas ?_
     refine zln <| zh <| htn <| hsq <| hrz ?_
     refine zlv xmv ?_
     refine zlv (xfb 0 fd_119_0) ?_
     refine zlv (xfb 0 fd_28_0) ?_
     refine zlv (xlb 5 pl_3 hS) ?_
     refine zlv xlss ?_
     have hlen := hxr0 (i + 1) (by omega) (by omega)
     have hcx := hprp.cell (i := i + 1) (j := 0) (by omega) (by omega) (by omega) (by omega)
     have hbx := hprp.rngB (i := i) h0 (by omega)
     have hqd := tdiv_abs (a := x.t.C (i + 1) 0) (d := x.t.den) (by omega) hcx
     refine zln <| zh <| htn ?_
     refine hcif ?_ ?_ <;> intro hc
     ·
      refine hdst [0, 1, 2, 3, 4, 5, 6, 7, 8, 9] [0, 1, 2, 3, 4, 5, 6, 7, 8] 16 mx_ hS ?_; clear hS; intro w hS
      refine zdla 0 (fun w hS => (xlb 1 pl_22 hS)) ?_
      refine zdv 1 (fun _ => xmv) ?_
      refine zdv 2 (fun _ => (xfb 0 fd_119_0)) ?_
      refine zdv 3 (fun _ => (xfb 4 fd_28_4)) ?_
      refine zdla 4 (fun w hS => (xlb 5 pl_23 hS)) ?_
      refine zdv 5 (fun _ => xmv) ?_
      refine zdv 6 (fun _ => (xadd (r := i + 1))) ?_
      refine zdv 7 (fun _ => (xix (kk := i + 1) sl_23 hxC)) ?_
      refine zdla 8 (fun w hS => (xlr (u := (x.vv (i + 1))) pl_22 (htat _ (hS.holds (.sem rest) (List.mem_of_getElem? (i := 7) rfl))).C.row)) ?_
      refine zdv 9 (fun _ => (xix (kk := 0) sl_22 (hxr (i + 1) (by omega) (by omega)))) ?_
      refine zdla 10 (fun w hS => (xlr (u := .int .i64 (x.t.C (i + 1) 0)) pl_3 ((htat _ (hS.holds (.sem rest) (List.mem_of_getElem? (i := 7) rfl))).C.p (i + 1) (by omega) (by omega)))) ?_
      refine zdv 11 (fun _ => (xfb 0 fd_119_0)) ?_
      refine zdv 12 (fun _ => (xfb 1 fd_28_1)) ?_
      refine zdla 13 (fun w hS => (xlb 5 pl_3 hS)) ?_
      refine zdv 14 (fun _ => (xquo (r := (Int.tdiv (x.t.C (i + 1) 0) x.t.den)))) ?_
      refine zdv 15 (fun _ => (xix (kk := (x.t.B i)) sl_22 hv1)) ?_
      refine zde 16 (xso 9 pl_3 hS (upd_ints _ _ _)) ?_; clear hS; rintro w hS
      replace hS : Sat w0 w [.blk _ [_, _, _], .blk _ [_], .blk _ [_], .blk _ [_], .blk _ [_], .blk _ [_, _, _, _, _, _, _], .blk _ [_, _, _], _, _, _] := hS
      refine ⟨⟨fun h => absurd h (by decide), hS.pk [0, 1, 2, 3, 4, 5, 6, 7, 8]⟩, ?_⟩
      refine zdd <| zh <| zbn <| htn <| hrz ?_
      refine zlv (xadd (r := i + 1)) ?_
      refine zlv xmv ?_
      refine zln <| zh <| hlq ⟨i + 1, (upd fX (x.t.B i) (Int.tdiv (x.t.C (i + 1) 0) x.t.den)), rfl, (by omega), (by omega), ?_, rfl, hS⟩
      ·
       rw [qX_next x.t h0, ← hfX]; first | rw [if_pos (by omega)] | rw [if_neg (by omega)]
     ·
      refine hsk <| zbn <| htn <| hrz ?_
      refine zlv (xadd (r := i + 1)) ?_
      refine zlv xmv ?_
      refine zln <| zh <| hlq ⟨i + 1, fX, rfl, (by omega), (by omega), ?_, rfl, hS⟩
      ·
       rw [qX_next x.t h0, ← hfX]; first | rw [if_pos (by omega)] | rw [if_neg (by omega)]
    ·
     refine hxt <| ztx <| ztx <| zbh <| htn <| hsq <| hsq <| hrz ?_
     refine zlv (xlb 1 pl_22 hS) ?_
     refine zlv (xln sl_22 hv1) ?_
     refine zlv xmv ?_
     refine zln <| zh <| htn <| hbk ?_
     obtain rfl : i = x.t.nb := by omega
     refine hlp (fun mm M w => ∃ (sv : Int) (j : Int), mm = ((x.t.vars - j).toNat) ∧ (0 ≤ j) ∧ (j ≤ x.t.vars) ∧ (sv = dotp fX p.c j.toNat) ∧ (-(1125899906842624 * j) ≤ sv ∧ sv ≤ 1125899906842624 * j) ∧ M = [(1, .pointer (some ⟨g1, 0, none⟩)), (2, .pointer (some ⟨g2, 0, none⟩)), (3, .pointer (some ⟨g3, 0, none⟩)), (4, .pointer (some ⟨g4, 0, none⟩)), (5, .pointer (some ⟨g5, 0, none⟩)), (60, v1), (61, .int .i64 x.t.vars), (62, .int .i64 j)] ∧ Sat w0 w [.blk g1 [vc, vA, vb], .blk g2 [v1], .blk g3 [.int .i64 sv], .blk g4 [.int .i64 (s9.length : Int)], .blk g5 [.int .i64 0], .blk g6 [.int .i64 x.t.vars, .int .i64 x.t.den, x.vB, x.vF, x.vC, B (x.fr), .int .i64 x.e], .blk g7 [vc, vA, vb], .sem rest, .sem (Frame.obj Dk (.deferred (some []))), .own v1 1 3 x.t.vars (ints fX)]) ⟨0, 0, rfl, (by omega), (by omega), ?_, (by omega), rfl, hS⟩ ?_
     ·
      rfl
     ·
      clear hS w
      rintro mm M w ⟨sv, j, rfl, j0, j1, hsv, hsb, rfl, hS⟩
      refine hsq <| hrz ?_
      refine zlv xlss ?_
      refine zln <| zh <| htn <| hsq ?_
      refine hcif ?_ ?_ <;> intro hc
      ·
       refine hsk <| htn <| hsq <| hbk <| hsq <| hrz ?_
       refine zlv xmv ?_
       refine zlv (xix (kk := j) sl_22 hv1) ?_
       refine zlv (xlr (u := .int .i64 (fX j)) pl_3 (hS.rowN 9 rfl)) ?_
       have hqr := qX_rng hprp j x.t.nb.toNat (by omega); rw [← hfX] at hqr
       have hcj := hlk.c j j0 (by omega)
       have hmu := mul_abs (a := fX j) (b := p.c j) (A := 1073741824) (B := 1000000) hqr (by omega)
       iterate 2 refine zlv xas ?_
       refine zln <| zh <| htn ?_
       refine hdst [0, 1, 2, 3, 4, 5, 6, 7, 8, 9] [0, 1, 3, 4, 5, 6, 7, 8, 9] 9 mx_ hS ?_; clear hS; intro w hS
       refine zdl 0 (fun w hS => (xlb 2 pl_3 hS)) ?_
       refine zdv 1 (fun _ => xmv) ?_
       refine zdv 2 (fun _ => (xfb 0 fd_48_0)) ?_
       refine zdla 3 (fun w hS => (xlb 0 pl_22 hS)) ?_
       refine zdv 4 (fun _ => xmv) ?_
       refine zdv 5 (fun _ => (xix (kk := j) sl_22 hL.c.slh)) ?_
       refine zdla 6 (fun w hS => (xlr (u := .int .i64 (p.c j)) pl_3 (hL.c.below hS.below))) ?_
       refine zdv 7 (fun _ => (xmul (r := ((fX j) * (p.c j))) (e := rfl))) ?_
       refine zdv 8 (fun _ => (xadd (r := sv + ((fX j) * (p.c j))))) ?_
       refine zde 9 (xsb 2 pl_3 hS) ?_; clear hS; rintro w hS
       replace hS : Sat w0 w [.blk _ [_, _, _], .blk _ [_], .blk _ [_], .blk _ [_], .blk _ [_], .blk _ [_, _, _, _, _, _, _], .blk _ [_, _, _], _, _, _] := hS
       refine ⟨⟨fun h => absurd h (by decide), hS.pk [0, 1, 3, 4, 5, 6, 7, 8, 9]⟩, ?_⟩
       refine zdd <| zh <| zbn <| htn <| hrz ?_
       refine zlv (xadd (r := j + 1)) ?_
       refine zlv xmv ?_
       refine zln <| zh <| hlq ⟨sv + ((fX j) * (p.c j)), j + 1, rfl, (by omega), (by omega), ?_, (by omega), rfl, hS⟩
       ·
        rw [dotp_next _ _ j0, ← hsv]
      ·
       refine hxt <| ztx <| ztx <| zbh <| htn <| hsq ?_
       refine hdst [0, 1, 2, 3, 4, 5, 6, 7, 8, 9] [0, 5, 6, 7, 8, 9] 3 mx_ hS ?_; clear hS; intro w hS
       refine zdl 0 (fun w hS => (xlb 1 pl_22 hS)) ?_
       refine zdfk (r := [1, 2, 3]) ((zdn1 ?_ (zdn1 ?_ (zdn1 ?_ zdn0))))
       ·
        refine zkv (xlb 2 pl_3 hS) ⟨fun _ => hS, hS.pk [0, 5, 6, 7, 8, 9]⟩ ?_
        refine zdfk (r := [2, 3]) ((zdn1 ?_ (zdn1 ?_ zdn0)))
        ·
         refine zkv (xlb 3 pl_3 hS) ⟨fun _ => hS, hS.pk [0, 5, 6, 7, 8, 9]⟩ ?_
         refine zde 3 (xsb 1 pl_22 hS (hv := hv1.one)) ?_; clear hS; rintro w hS
         replace hS : Sat w0 w [.blk _ [_, _, _], .blk _ [_], .blk _ [_], .blk _ [_], .blk _ [_], .blk _ [_, _, _, _, _, _, _], .blk _ [_, _, _], _, _, _] := hS
         refine ⟨⟨fun h => absurd h (by decide), hS.pk [0, 5, 6, 7, 8, 9]⟩, ?_⟩
         refine zde 4 (xsb 2 pl_3 hS) ?_; clear hS; rintro w hS
         replace hS : Sat w0 w [.blk _ [_, _, _], .blk _ [_], .blk _ [_], .blk _ [_], .blk _ [_], .blk _ [_, _, _, _, _, _, _], .blk _ [_, _, _], _, _, _] := hS
         refine ⟨⟨fun h => absurd h (by decide), hS.pk [0, 5, 6, 7, 8, 9]⟩, ?_⟩
         refine zde 5 (xsb 3 pl_3 hS) ?_; clear hS; rintro w hS
         replace hS : Sat w0 w [.blk _ [_, _, _], .blk _ [_], .blk _ [_], .blk _ [_], .blk _ [_], .blk _ [_, _, _, _, _, _, _], .blk _ [_, _, _], _, _, _] := hS
         refine ⟨⟨fun h => absurd h (by decide), hS.pk [0, 5, 6, 7, 8, 9]⟩, ?_⟩
         refine zde 6 (xsb 4 pl_29 hS) ?_; clear hS; rintro w hS
         replace hS : Sat w0 w [.blk _ [_, _, _], .blk _ [_], .blk _ [_], .blk _ [_], .blk _ [_], .blk _ [_, _, _, _, _, _, _], .blk _ [_, _, _], _, _, _] := hS
         refine ⟨⟨fun h => absurd h (by decide), hS.pk [0, 5, 6, 7, 8, 9]⟩, ?_⟩
         refine zdd <| zh <| htn <| hrt <| hmk1 8 hS fun w hS => zfc4 pl_22 pl_3 pl_3 pl_29 (hS.cellN 1 rfl rfl) (hS.cellN 2 rfl rfl) (hS.cellN 3 rfl rfl) (hS.cellN 4 rfl rfl) ⟨_, rfl, ?_⟩
         obtain rfl : j = x.t.vars := by omega
         have hv9 := hprp.v
         exact ⟨_, x.t.vars, fX, sv, _, 0, rfl, .inr ⟨rfl, _, _, _, hRn, hop, hprp, by have := gfr_rng x.t x.t.nb.toNat; by_cases hz9 : 0 ≤ gfr x.t x.t.nb.toNat; exact absurd (hfq.2 hz9) hfr; omega, by simp, hv9, fun j j0 j1 => by rw [hfX]; exact qX_bas x.t j1 _, hsv⟩, hv1, hS.pk [9]⟩
        ·
         refine zke (xsb 1 pl_22 hS (hv := hv1.one)) ?_; clear hS; rintro w hS
         replace hS : Sat w0 w [.blk _ [_, _, _], .blk _ [_], .blk _ [_], .blk _ [_], .blk _ [_], .blk _ [_, _, _, _, _, _, _], .blk _ [_, _, _], _, _, _] := hS
         refine ⟨⟨fun h => absurd h (by decide), hS.pk [0, 5, 6, 7, 8, 9]⟩, ?_⟩
         refine zdfk (r := [2, 4]) ((zdn1 ?_ (zdn1 ?_ zdn0)))
         ·
          refine zkv (xlb 3 pl_3 hS) ⟨fun h => absurd h (by decide), hS.pk [0, 5, 6, 7, 8, 9]⟩ ?_
          refine zde 4 (xsb 2 pl_3 hS) ?_; clear hS; rintro w hS
          replace hS : Sat w0 w [.blk _ [_, _, _], .blk _ [_], .blk _ [_], .blk _ [_], .blk _ [_], .blk _ [_, _, _, _, _, _, _], .blk _ [_, _, _], _, _, _] := hS
          refine ⟨⟨fun h => absurd h (by decide), hS.pk [0, 5, 6, 7, 8, 9]⟩, ?_⟩
          refine zde 5 (xsb 3 pl_3 hS) ?_; clear hS; rintro w hS
          replace hS : Sat w0 w [.blk _ [_, _, _], .blk _ [_], .blk _ [_], .blk _ [_], .blk _ [_], .blk _ [_, _, _, _, _, _, _], .blk _ [_, _, _], _, _, _] := hS
          refine ⟨⟨fun h => absurd h (by decide), hS.pk [0, 5, 6, 7, 8, 9]⟩, ?_⟩
          refine zde 6 (xsb 4 pl_29 hS) ?_; clear hS; rintro w hS
          replace hS : Sat w0 w [.blk _ [_, _, _], .blk _ [_], .blk _ [_], .blk _ [_], .blk _ [_], .blk _ [_, _, _, _, _, _, _], .blk _ [_, _, _], _, _, _] := hS
          refine ⟨⟨fun h => absurd h (by decide), hS.pk [0, 5, 6, 7, 8, 9]⟩, ?_⟩
          refine zdd <| zh <| htn <| hrt <| hmk1 8 hS fun w hS => zfc4 pl_22 pl_3 pl_3 pl_29 (hS.cellN 1 rfl rfl) (hS.cellN 2 rfl rfl) (hS.cellN 3 rfl rfl) (hS.cellN 4 rfl rfl) ⟨_, rfl, ?_⟩
          obtain rfl : j = x.t.vars := by omega
          have hv9 := hprp.v
          exact ⟨_, x.t.vars, fX, sv, _, 0, rfl, .inr ⟨rfl, _, _, _, hRn, hop, hprp, by have := gfr_rng x.t x.t.nb.toNat; by_cases hz9 : 0 ≤ gfr x.t x.t.nb.toNat; exact absurd (hfq.2 hz9) hfr; omega, by simp, hv9, fun j j0 j1 => by rw [hfX]; exact qX_bas x.t j1 _, hsv⟩, hv1, hS.pk [9]⟩
         ·
          refine zke (xsb 2 pl_3 hS) ?_; clear hS; rintro w hS
          replace hS : Sat w0 w [.blk _ [_, _, _], .blk _ [_], .blk _ [_], .blk _ [_], .blk _ [_], .blk _ [_, _, _, _, _, _, _], .blk _ [_, _, _], _, _, _] := hS
          refine ⟨⟨fun h => absurd h (by decide), hS.pk [0, 5, 6, 7, 8, 9]⟩, ?_⟩
          refine zdw 2 (xlb 3 pl_3 hS) ⟨fun h => absurd h (by decide), hS.pk [0, 5, 6, 7, 8, 9]⟩ ?_
          refine zde 5 (xsb 3 pl_3 hS) ?_; clear hS; rintro w hS
          replace hS : Sat w0 w [.blk _ [_, _, _], .blk _ [_], .blk _ [_], .blk _ [_], .blk _ [_], .blk _ [_, _, _, _, _, _, _], .blk _ [_, _, _], _, _, _] := hS
          refine ⟨⟨fun h => absurd h (by decide), hS.pk [0, 5, 6, 7, 8, 9]⟩, ?_⟩
          refine zde 6 (xsb 4 pl_29 hS) ?_; clear hS; rintro w hS
          replace hS : Sat w0 w [.blk _ [_, _, _], .blk _ [_], .blk _ [_], .blk _ [_], .blk _ [_], .blk _ [_, _, _, _, _, _, _], .blk _ [_, _, _], _, _, _] := hS
          refine ⟨⟨fun h => absurd h (by decide), hS.pk [0, 5, 6, 7, 8, 9]⟩, ?_⟩
          refine zdd <| zh <| htn <| hrt <| hmk1 8 hS fun w hS => zfc4 pl_22 pl_3 pl_3 pl_29 (hS.cellN 1 rfl rfl) (hS.cellN 2 rfl rfl) (hS.cellN 3 rfl rfl) (hS.cellN 4 rfl rfl) ⟨_, rfl, ?_⟩
          obtain rfl : j = x.t.vars := by omega
          have hv9 := hprp.v
          exact ⟨_, x.t.vars, fX, sv, _, 0, rfl, .inr ⟨rfl, _, _, _, hRn, hop, hprp, by have := gfr_rng x.t x.t.nb.toNat; by_cases hz9 : 0 ≤ gfr x.t x.t.nb.toNat; exact absurd (hfq.2 hz9) hfr; omega, by simp, hv9, fun j j0 j1 => by rw [hfX]; exact qX_bas x.t j1 _, hsv⟩, hv1, hS.pk [9]⟩
       ·
        refine zkv (xlb 3 pl_3 hS) ⟨fun _ => hS, hS.pk [0, 5, 6, 7, 8, 9]⟩ ?_
        refine zdfk (r := [1, 3]) ((zdn1 ?_ (zdn1 ?_ zdn0)))
        ·
         refine zkv (xlb 2 pl_3 hS) ⟨fun _ => hS, hS.pk [0, 5, 6, 7, 8, 9]⟩ ?_
         refine zde 3 (xsb 1 pl_22 hS (hv := hv1.one)) ?_; clear hS; rintro w hS
         replace hS : Sat w0 w [.blk _ [_, _, _], .blk _ [_], .blk _ [_], .blk _ [_], .blk _ [_], .blk _ [_, _, _, _, _, _, _], .blk _ [_, _, _], _, _, _] := hS
         refine ⟨⟨fun h => absurd h (by decide), hS.pk [0, 5, 6, 7, 8, 9]⟩, ?_⟩
         refine zde 4 (xsb 2 pl_3 hS) ?_; clear hS; rintro w hS
         replace hS : Sat w0 w [.blk _ [_, _, _], .blk _ [_], .blk _ [_], .blk _ [_], .blk _ [_], .blk _ [_, _, _, _, _, _, _], .blk _ [_, _, _], _, _, _] := hS
         refine ⟨⟨fun h => absurd h (by decide), hS.pk [0, 5, 6, 7, 8, 9]⟩, ?_⟩
         refine zde 5 (xsb 3 pl_3 hS) ?_; clear hS; rintro w hS
         replace hS : Sat w0 w [.blk _ [_, _, _], .blk _ [_], .blk _ [_], .blk _ [_], .blk _ [_], .blk _ [_, _, _, _, _, _, _], .blk _ [_, _, _], _, _, _] := hS
         refine ⟨⟨fun h => absurd h (by decide), hS.pk [0, 5, 6, 7, 8, 9]⟩, ?_⟩
         refine zde 6 (xsb 4 pl_29 hS) ?_; clear hS; rintro w hS
         replace hS : Sat w0 w [.blk _ [_, _, _], .blk _ [_], .blk _ [_], .blk _ [_], .blk _ [_], .blk _ [_, _, _, _, _, _, _], .blk _ [_, _, _], _, _, _] := hS
         refine ⟨⟨fun h => absurd h (by decide), hS.pk [0, 5, 6, 7, 8, 9]⟩, ?_⟩
         refine zdd <| zh <| htn <| hrt <| hmk1 8 hS fun w hS => zfc4 pl_22 pl_3 pl_3 pl_29 (hS.cellN 1 rfl rfl) (hS.cellN 2 rfl rfl) (hS.cellN 3 rfl rfl) (hS.cellN 4 rfl rfl) ⟨_, rfl, ?_⟩
         obtain rfl : j = x.t.vars := by omega
         have hv9 := hprp.v
         exact ⟨_, x.t.vars, fX, sv, _, 0, rfl, .inr ⟨rfl, _, _, _, hRn, hop, hprp, by have := gfr_rng x.t x.t.nb.toNat; by_cases hz9 : 0 ≤ gfr x.t x.t.nb.toNat; exact absurd (hfq.2 hz9) hfr; omega, by simp, hv9, fun j j0 j1 => by rw [hfX]; exact qX_bas x.t j1 _, hsv⟩, hv1, hS.pk [9]⟩
        ·
         refine zke (xsb 1 pl_22 hS (hv := hv1.one)) ?_; clear hS; rintro w hS
         replace hS : Sat w0 w [.blk _ [_, _, _], .blk _ [_], .blk _ [_], .blk _ [_], .blk _ [_], .blk _ [_, _, _, _, _, _, _], .blk _ [_, _, _], _, _, _] := hS
         refine ⟨⟨fun h => absurd h (by decide), hS.pk [0, 5, 6, 7, 8, 9]⟩, ?_⟩
         refine zdw 1 (xlb 2 pl_3 hS) ⟨fun h => absurd h (by decide), hS.pk [0, 5, 6, 7, 8, 9]⟩ ?_
         refine zde 4 (xsb 2 pl_3 hS) ?_; clear hS; rintro w hS
         replace hS : Sat w0 w [.blk _ [_, _, _], .blk _ [_], .blk _ [_], .blk _ [_], .blk _ [_], .blk _ [_, _, _, _, _, _, _], .blk _ [_, _, _], _, _, _] := hS
         refine ⟨⟨fun h => absurd h (by decide), hS.pk [0, 5, 6, 7, 8, 9]⟩, ?_⟩
         refine zde 5 (xsb 3 pl_3 hS) ?_; clear hS; rintro w hS
         replace hS : Sat w0 w [.blk _ [_, _, _], .blk _ [_], .blk _ [_], .blk _ [_], .blk _ [_], .blk _ [_, _, _, _, _, _, _], .blk _ [_, _, _], _, _, _] := hS
         refine ⟨⟨fun h => absurd h (by decide), hS.pk [0, 5, 6, 7, 8, 9]⟩, ?_⟩
         refine zde 6 (xsb 4 pl_29 hS) ?_; clear hS; rintro w hS
         replace hS : Sat w0 w [.blk _ [_, _, _], .blk _ [_], .blk _ [_], .blk _ [_], .blk _ [_], .blk _ [_, _, _, _, _, _, _], .blk _ [_, _, _], _, _, _] := hS
         refine ⟨⟨fun h => absurd h (by decide), hS.pk [0, 5, 6, 7, 8, 9]⟩, ?_⟩
         refine zdd <| zh <| htn <| hrt <| hmk1 8 hS fun w hS => zfc4 pl_22 pl_3 pl_3 pl_29 (hS.cellN 1 rfl rfl) (hS.cellN 2 rfl rfl) (hS.cellN 3 rfl rfl) (hS.cellN 4 rfl rfl) ⟨_, rfl, ?_⟩
         obtain rfl : j = x.t.vars := by omega
         have hv9 := hprp.v
         exact ⟨_, x.t.vars, fX, sv, _, 0, rfl, .inr ⟨rfl, _, _, _, hRn, hop, hprp, by have := gfr_rng x.t x.t.nb.toNat; by_cases hz9 : 0 ≤ gfr x.t x.t.nb.toNat; exact absurd (hfq.2 hz9) hfr; omega, by simp, hv9, fun j j0 j1 => by rw [hfX]; exact qX_bas x.t j1 _, hsv⟩, hv1, hS.pk [9]⟩
       ·
        refine zke (xsb 1 pl_22 hS (hv := hv1.one)) ?_; clear hS; rintro w hS
        replace hS : Sat w0 w [.blk _ [_, _, _], .blk _ [_], .blk _ [_], .blk _ [_], .blk _ [_], .blk _ [_, _, _, _, _, _, _], .blk _ [_, _, _], _, _, _] := hS
        refine ⟨⟨fun h => absurd h (by decide), hS.pk [0, 5, 6, 7, 8, 9]⟩, ?_⟩
        refine zdfk (r := [1, 2]) ((zdn1 ?_ (zdn1 ?_ zdn0)))
        ·
         refine zkv (xlb 2 pl_3 hS) ⟨fun h => absurd h (by decide), hS.pk [0, 5, 6, 7, 8, 9]⟩ ?_
         refine zdfk (r := [2, 4]) ((zdn1 ?_ (zdn1 ?_ zdn0)))
         ·
          refine zkv (xlb 3 pl_3 hS) ⟨fun h => absurd h (by decide), hS.pk [0, 5, 6, 7, 8, 9]⟩ ?_
          refine zde 4 (xsb 2 pl_3 hS) ?_; clear hS; rintro w hS
          replace hS : Sat w0 w [.blk _ [_, _, _], .blk _ [_], .blk _ [_], .blk _ [_], .blk _ [_], .blk _ [_, _, _, _, _, _, _], .blk _ [_, _, _], _, _, _] := hS
          refine ⟨⟨fun h => absurd h (by decide), hS.pk [0, 5, 6, 7, 8, 9]⟩, ?_⟩
          refine zde 5 (xsb 3 pl_3 hS) ?_; clear hS; rintro w hS
          replace hS : Sat w0 w [.blk _ [_, _, _], .blk _ [_], .blk _ [_], .blk _ [_], .blk _ [_], .blk _ [_, _, _, _, _, _, _], .blk _ [_, _, _], _, _, _] := hS
          refine ⟨⟨fun h => absurd h (by decide), hS.pk [0, 5, 6, 7, 8, 9]⟩, ?_⟩
          refine zde 6 (xsb 4 pl_29 hS) ?_; clear hS; rintro w hS
          replace hS : Sat w0 w [.blk _ [_, _, _], .blk _ [_], .blk _ [_], .blk _ [_], .blk _ [_], .blk _ [_, _, _, _, _, _, _], .blk _ [_, _, _], _, _, _] := hS
          refine ⟨⟨fun h => absurd h (by decide), hS.pk [0, 5, 6, 7, 8, 9]⟩, ?_⟩
          refine zdd <| zh <| htn <| hrt <| hmk1 8 hS fun w hS => zfc4 pl_22 pl_3 pl_3 pl_29 (hS.cellN 1 rfl rfl) (hS.cellN 2 rfl rfl) (hS.cellN 3 rfl rfl) (hS.cellN 4 rfl rfl) ⟨_, rfl, ?_⟩
          obtain rfl : j = x.t.vars := by omega
          have hv9 := hprp.v
          exact ⟨_, x.t.vars, fX, sv, _, 0, rfl, .inr ⟨rfl, _, _, _, hRn, hop, hprp, by have := gfr_rng x.t x.t.nb.toNat; by_cases hz9 : 0 ≤ gfr x.t x.t.nb.toNat; exact absurd (hfq.2 hz9) hfr; omega, by simp, hv9, fun j j0 j1 => by rw [hfX]; exact qX_bas x.t j1 _, hsv⟩, hv1, hS.pk [9]⟩
         ·
          refine zke (xsb 2 pl_3 hS) ?_; clear hS; rintro w hS
          replace hS : Sat w0 w [.blk _ [_, _, _], .blk _ [_], .blk _ [_], .blk _ [_], .blk _ [_], .blk _ [_, _, _, _, _, _, _], .blk _ [_, _, _], _, _, _] := hS
          refine ⟨⟨fun h => absurd h (by decide), hS.pk [0, 5, 6, 7, 8, 9]⟩, ?_⟩
          refine zdw 2 (xlb 3 pl_3 hS) ⟨fun h => absurd h (by decide), hS.pk [0, 5, 6, 7, 8, 9]⟩ ?_
          refine zde 5 (xsb 3 pl_3 hS) ?_; clear hS; rintro w hS
          replace hS : Sat w0 w [.blk _ [_, _, _], .blk _ [_], .blk _ [_], .blk _ [_], .blk _ [_], .blk _ [_, _, _, _, _, _, _], .blk _ [_, _, _], _, _, _] := hS
          refine ⟨⟨fun h => absurd h (by decide), hS.pk [0, 5, 6, 7, 8, 9]⟩, ?_⟩
          refine zde 6 (xsb 4 pl_29 hS) ?_; clear hS; rintro w hS
          replace hS : Sat w0 w [.blk _ [_, _, _], .blk _ [_], .blk _ [_], .blk _ [_], .blk _ [_], .blk _ [_, _, _, _, _, _, _], .blk _ [_, _, _], _, _, _] := hS
          refine ⟨⟨fun h => absurd h (by decide), hS.pk [0, 5, 6, 7, 8, 9]⟩, ?_⟩
          refine zdd <| zh <| htn <| hrt <| hmk1 8 hS fun w hS => zfc4 pl_22 pl_3 pl_3 pl_29 (hS.cellN 1 rfl rfl) (hS.cellN 2 rfl rfl) (hS.cellN 3 rfl rfl) (hS.cellN 4 rfl rfl) ⟨_, rfl, ?_⟩
          obtain rfl : j = x.t.vars := by omega
          have hv9 := hprp.v
          exact ⟨_, x.t.vars, fX, sv, _, 0, rfl, .inr ⟨rfl, _, _, _, hRn, hop, hprp, by have := gfr_rng x.t x.t.nb.toNat; by_cases hz9 : 0 ≤ gfr x.t x.t.nb.toNat; exact absurd (hfq.2 hz9) hfr; omega, by simp, hv9, fun j j0 j1 => by rw [hfX]; exact qX_bas x.t j1 _, hsv⟩, hv1, hS.pk [9]⟩
        ·
         refine zkv (xlb 3 pl_3 hS) ⟨fun h => absurd h (by decide), hS.pk [0, 5, 6, 7, 8, 9]⟩ ?_
         refine zdw 1 (xlb 2 pl_3 hS) ⟨fun h => absurd h (by decide), hS.pk [0, 5, 6, 7, 8, 9]⟩ ?_
         refine zde 4 (xsb 2 pl_3 hS) ?_; clear hS; rintro w hS
         replace hS : Sat w0 w [.blk _ [_, _, _], .blk _ [_], .blk _ [_], .blk _ [_], .blk _ [_], .blk _ [_, _, _, _, _, _, _], .blk _ [_, _, _], _, _, _] := hS
         refine ⟨⟨fun h => absurd h (by decide), hS.pk [0, 5, 6, 7, 8, 9]⟩, ?_⟩
         refine zde 5 (xsb 3 pl_3 hS) ?_; clear hS; rintro w hS
         replace hS : Sat w0 w [.blk _ [_, _, _], .blk _ [_], .blk _ [_], .blk _ [_], .blk _ [_], .blk _ [_, _, _, _, _, _, _], .blk _ [_, _, _], _, _, _] := hS
         refine ⟨⟨fun h => absurd h (by decide), hS.pk [0, 5, 6, 7, 8, 9]⟩, ?_⟩
         refine zde 6 (xsb 4 pl_29 hS) ?_; clear hS; rintro w hS
         replace hS : Sat w0 w [.blk _ [_, _, _], .blk _ [_], .blk _ [_], .blk _ [_], .blk _ [_], .blk _ [_, _, _, _, _, _, _], .blk _ [_, _, _], _, _, _] := hS
         refine ⟨⟨fun h => absurd h (by decide), hS.pk [0, 5, 6, 7, 8, 9]⟩, ?_⟩
         refine zdd <| zh <| htn <| hrt <| hmk1 8 hS fun w hS => zfc4 pl_22 pl_3 pl_3 pl_29 (hS.cellN 1 rfl rfl) (hS.cellN 2 rfl rfl) (hS.cellN 3 rfl rfl) (hS.cellN 4 rfl rfl) ⟨_, rfl, ?_⟩
         obtain rfl : j = x.t.vars := by omega
         have hv9 := hprp.v
         exact ⟨_, x.t.vars, fX, sv, _, 0, rfl, .inr ⟨rfl, _, _, _, hRn, hop, hprp, by have := gfr_rng x.t x.t.nb.toNat; by_cases hz9 : 0 ≤ gfr x.t x.t.nb.toNat; exact absurd (hfq.2 hz9) hfr; omega, by simp, hv9, fun j j0 j1 => by rw [hfX]; exact qX_bas x.t j1 _, hsv⟩, hv1, hS.pk [9]⟩
  ·
   intro Dk t rest w hfin hS
   replace hS : Sat w0 w [.blk _ [_], .blk _ [_], .blk _ [_], .blk _ [_], .blk _ [_, _, _], _, _] := hS
   obtain ⟨s, x, ⟨hx, he0⟩, hpre⟩ := hfin
   subst hx
   obtain ⟨tt, e9, hRn, hok, _, _, _, ⟨_, _, hcs⟩ | ⟨h1, _⟩⟩ := hpre
   rotate_left
   · exact absurd h1 he0
   replace hcs : (e9 = t.e ∧ e9 ≠ 0) ∨ (e9 = 0 ∧ ∃ u, OptR tt u t.e) := hcs
   show Ge _ _ _ .ret _ _
   refine zbr <| ztr <| hmk1 6 hS fun w hS => zfc4 pl_22 pl_3 pl_3 pl_29 (hS.cellN 0 rfl rfl) (hS.cellN 1 rfl rfl) (hS.cellN 2 rfl rfl) (hS.cellN 3 rfl rfl) ⟨_, rfl, ?_⟩
   exact ⟨_, 0, fun _ => 0, 0, 0, _, rfl, .inl ⟨he0, rfl, rfl, rfl, _, _, _, hRn, hcs⟩, slh_nil, (hS.addnil 1 3 (ints fun _ => 0)).sub (.cons _ (.cons _ (.cons _ (.cons _ (.cons _ (.cons _ (.cons _ (.cons_cons _ .slnil))))))))⟩

end Go.Proofs.Ytelfplepnodbgaa
