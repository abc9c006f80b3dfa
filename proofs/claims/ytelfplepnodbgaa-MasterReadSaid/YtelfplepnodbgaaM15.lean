/- The walk of MasterSolve. -/
import Derived.Test.YtelfplepnodbgaaGv
import Derived.Test.YtelfplepnodbgaaM13
namespace Go.Proofs.Ytelfplepnodbgaa
open Go Go.RowKit Go.Proofs.Gw
set_option linter.unusedVariables false

theorem cl_34 : calledT Try.prog 34 = true := by kernel_rfl
theorem cl_35 : calledT Try.prog 35 = true := by kernel_rfl
theorem cl_36 : calledT Try.prog 36 = true := by kernel_rfl
theorem cl_38 : calledT Try.prog 38 = true := by kernel_rfl
theorem cl_40 : calledT Try.prog 40 = true := by kernel_rfl
theorem cl_42 : calledT Try.prog 42 = true := by kernel_rfl
theorem MSolveR.same {p : Prob} {u : Int} {ml : Int → Int} {mf : Int → Int → Int} {s s2 : So} {e e2 : Int} (h : MSolveR p u ml mf s e) (h' : MSolveR p u ml mf s2 e2) : s = s2 ∧ e = e2 := by
  rcases h with ⟨h1, h2, h3⟩ | ⟨h1, h2, h3, h4⟩ | ⟨h1, h2, h3, h4, ⟨k, k0, k1, h5⟩, h6, h7⟩ | ⟨h1, h2, h3, h4, h5, h6, h7⟩ | ⟨h1, h2, h3, h4, h5⟩ <;> rcases h' with ⟨g1, g2, g3⟩ | ⟨g1, g2, g3, g4⟩ | ⟨g1, g2, g3, g4, ⟨k', k0', k1', g5⟩, g6, g7⟩ | ⟨g1, g2, g3, g4, g5, g6, g7⟩ | ⟨g1, g2, g3, g4, g5⟩ <;>
    first
    | exact absurd ‹PropL p u ml mf› ‹¬ PropL p u ml mf›
    | (exfalso; omega)
    | exact SolveR.same h5 g5
    | (exfalso; have := g5 k k0 k1; omega)
    | (exfalso; have := h5 k' k0' k1'; omega)
    | (subst_vars; exact ⟨rfl, rfl⟩)
theorem MStartR.same {p : Prob} {n n2 e e2 : Int} {ln ln2 : Int → Int} {g g2 : Int → Int → Int} (h : MStartR p n ln g e) (h' : MStartR p n2 ln2 g2 e2) : SameL n n2 ln ln2 g g2 ∧ e = e2 := by
  rcases h with ⟨h1, h2, h3⟩ | ⟨h1, h2, h3, h4, h5⟩ <;> rcases h' with ⟨g1, g2, g3⟩ | ⟨g1, g2, g3, g4, g5⟩
  · exact ⟨⟨by omega, fun k k0 k1 => by omega⟩, by omega⟩
  · exact absurd g1 h1
  · exact absurd h1 g1
  · subst_vars; exact ⟨⟨rfl, fun _ _ _ => ⟨rfl, fun _ _ _ => rfl⟩⟩, rfl⟩

set_option maxRecDepth 20000 in
theorem law_msolve {vL vD : Value} {p : Prob} {vM : Value} {u : Int} {mv : Int → Value} {ml : Int → Int} {mf : Int → Int → Int} (w0 : World) (h : PAt w0 vL vD p) (hM : MAt w0 vM u mv ml mf) :
    Calls Try.prog 8 [.agg #[vL, vD, .int .i64 p.stock, .int .i64 p.kerf], vM].toArray w0 fun e w => ∃ v, e = .returned v ∧ v = .bool true ∧ Sat w0 w [] := by
  have hm := h.L.slh.n0; have hm1 := h.L.slh.n1; have hd := h.D.slh.n0; have hd1 := h.D.slh.n1; have hs := h.is; have hk := h.ik
  have hu := hM.row.slh.n0; have hu1 := hM.row.slh.n1
  refine zenG Try.func8 Try.ntmps8 fun w hS => ?_
  refine zsr ?_
  refine zla (xbx (cs := [_, _, _, _]) hS) ?_; rintro _ w ⟨g1, rfl, hS⟩
  replace hS := hS.n1
  refine zlv xas ?_
  refine zlt <| zsq <| zsr ?_
  refine zlc (xc0 cl_34) (c_awake30 w) ?_; rintro _ w ⟨rfl, hS'⟩
  replace hS := hS.cmp hS'; clear hS'
  refine zs2 ?_
  refine zlv (xls 0 st_64 hS) ?_
  refine zlc (xc0 cl_35) (c_few28 (p := p) w (h.below hS.below)) ?_; rintro _ w ⟨rfl, hS'⟩
  replace hS := hS.cmp hS'; clear hS'
  refine zs3 ?_
  refine zlb 20 ?_ ?_ <;> intro hc
  ·
   iterate 3 refine zlo ?_
   refine zlv xpt ?_
   refine zlt <| zct <| zsr ?_
   refine zlc (xc0 cl_34) (c_awake30 w) ?_; rintro _ w ⟨rfl, hS'⟩
   replace hS := hS.cmp hS'; clear hS'
   refine zlv xas ?_
   refine zlt <| zrt <| ztr <| zf1 ⟨_, rfl, ?_⟩
   exact ⟨rfl, hS.nl⟩
  refine zlv xmv ?_
  refine zlc (xc0 cl_36) (c_few30 (u := u) (ml := ml) w (hM.below hS.below)) ?_; rintro _ w ⟨rfl, hS'⟩
  replace hS := hS.cmp hS'; clear hS'
  refine zs2 ?_
  refine zlt ?_
  refine zcif ?_ ?_ <;> intro hc
  ·
   refine zsr ?_
   refine zlc (xc0 cl_34) (c_awake30 w) ?_; rintro _ w ⟨rfl, hS'⟩
   replace hS := hS.cmp hS'; clear hS'
   refine zlv xas ?_
   refine zlt <| zrt <| ztr <| zf1 ⟨_, rfl, ?_⟩
   exact ⟨rfl, hS.nl⟩
  refine zsk <| ztn <| zsr ?_
  refine zlv (xls 0 st_64 hS) ?_
  refine zlc (xc0 cl_37) (c_mstart (p := p) w (h.below hS.below)) ?_; rintro _ w ⟨srm91, snm91, svm91, slm91, sgm91, em91, rfl, hmsm91, hsrm91, hS'⟩
  replace hS : Sat w0 w [.blk g1 [vL, vD, .int .i64 p.stock, .int .i64 p.kerf], .own srm91 1 22 snm91 svm91, .sem (Frame.rows 3 snm91 svm91 slm91 sgm91)] := hS.comp hS'; clear hS'
  have hswm91 := fun k (k0 : 0 ≤ k) (k1 : k < snm91) => hS.slhIn 2 rfl k0 k1
  refine zs5 ?_
  refine zlz ?_
  refine zlv (xls 0 st_64 hS) ?_
  refine zlc (xc0 cl_38) (c_rmstart (p := p) w (h.below hS.below)) ?_; rintro _ w ⟨srm92, snm92, svm92, slm92, sgm92, em92, rfl, hmsm92, hsrm92, hS'⟩
  replace hS : Sat w0 w [.blk g1 [vL, vD, .int .i64 p.stock, .int .i64 p.kerf], .own srm91 1 22 snm91 svm91, .sem (Frame.rows 3 snm91 svm91 slm91 sgm91), .own srm92 1 22 snm92 svm92, .sem (Frame.rows 3 snm92 svm92 slm92 sgm92)] := hS.comp hS'; clear hS'
  have hswm92 := fun k (k0 : 0 ≤ k) (k1 : k < snm92) => hS.slhIn 4 rfl k0 k1
  refine zs5 ?_
  refine zlz ?_
  refine zlv (xls 0 st_64 hS) ?_
  refine zlv xmv ?_
  refine zlc (xc0 cl_39) (c_msolve (p := p) (u := u) (ml := ml) (mf := mf) w (h.below hS.below) (hM.below hS.below)) ?_; rintro _ w ⟨vXm81, vYm81, sm81, em81, rfl, hmom81, hvXm81, hvYm81, hS'⟩
  replace hS : Sat w0 w [.blk g1 [vL, vD, .int .i64 p.stock, .int .i64 p.kerf], .own srm91 1 22 snm91 svm91, .sem (Frame.rows 3 snm91 svm91 slm91 sgm91), .own srm92 1 22 snm92 svm92, .sem (Frame.rows 3 snm92 svm92 slm92 sgm92), .own vXm81 1 3 sm81.n (ints sm81.X), .own vYm81 1 3 sm81.m (ints sm81.Y)] := hS.comp hS'; clear hS'
  refine zs3 ?_
  refine zla (xal (cs := [_, _, _, _]) el_60 hS) ?_; rintro _ w ⟨g2, rfl, hS⟩
  replace hS := hS.n8
  refine zle (xsw 7 st_60 hS (hd := (ones_cons hvXm81.one (ones_cons hvYm81.one (ones_cons rfl (ones_cons rfl ones_nil)))))) ?_; clear hS; rintro w hS
  replace hS := hS.n8
  refine zlv xas ?_
  refine zlz ?_
  refine zlv (xls 0 st_64 hS) ?_
  refine zlv xmv ?_
  refine zlc (xc0 cl_40) (c_rmsolve (p := p) (u := u) (ml := ml) (mf := mf) w (h.below hS.below) (hM.below hS.below)) ?_; rintro _ w ⟨vXm82, vYm82, sm82, em82, rfl, hmom82, hvXm82, hvYm82, hS'⟩
  replace hS : Sat w0 w [.blk g1 [vL, vD, .int .i64 p.stock, .int .i64 p.kerf], .own srm91 1 22 snm91 svm91, .sem (Frame.rows 3 snm91 svm91 slm91 sgm91), .own srm92 1 22 snm92 svm92, .sem (Frame.rows 3 snm92 svm92 slm92 sgm92), .own vXm81 1 3 sm81.n (ints sm81.X), .own vYm81 1 3 sm81.m (ints sm81.Y), .blk g2 [vXm81, vYm81, .int .i64 sm81.val, .int .i64 sm81.den], .own vXm82 1 3 sm82.n (ints sm82.X), .own vYm82 1 3 sm82.m (ints sm82.Y)] := hS.comp hS'; clear hS'
  refine zs3 ?_
  refine zla (xal (cs := [_, _, _, _]) el_72 hS) ?_; rintro _ w ⟨g3, rfl, hS⟩
  replace hS := hS.n11
  refine zle (xsw 10 st_72 hS (hd := (ones_cons hvXm82.one (ones_cons hvYm82.one (ones_cons rfl (ones_cons rfl ones_nil)))))) ?_; clear hS; rintro w hS
  replace hS := hS.n11
  refine zlv xas ?_
  refine zlz ?_
  refine zlv xmv ?_
  obtain ⟨q1, q2⟩ := MStartR.same hmsm91 hmsm92
  obtain ⟨q3, q4⟩ := MSolveR.same hmom81 hmom82
  have hs1 : SameS sm81 sm82 := by rw [q3]; exact SameS.refl _
  refine zs3 ?_
  refine zlb 51 ?_ ?_ <;> intro hc
  ·
   refine zs2 ?_
   refine zlc (xc0 cl_41) (c_sall (u := snm91) (u2 := snm92) (ml := slm91) (ml2 := slm92) (mf := sgm91) (mf2 := sgm92) w (⟨(hS.rowN 1 rfl), fun k k0 k1 => hS.rowIn 2 rfl k0 k1, fun k k0 k1 => hS.roomIn 2 rfl k0 k1⟩ : MAt _ srm91 snm91 svm91 slm91 sgm91) (⟨(hS.rowN 3 rfl), fun k k0 k1 => hS.rowIn 4 rfl k0 k1, fun k k0 k1 => hS.roomIn 4 rfl k0 k1⟩ : MAt _ srm92 snm92 svm92 slm92 sgm92)) ?_; rintro _ w ⟨rfl, hS'⟩
   replace hS := hS.cmp hS'; clear hS'
   refine zs2 ?_
   refine zlb 56 ?_ ?_ <;> intro hc
   ·
    refine zs5 ?_
    refine zlb 61 ?_ ?_ <;> intro hc
    ·
     refine zlv (xls 7 st_60 hS) ?_
     refine zlv (xls 10 st_72 hS) ?_
     refine zlc (xc0 cl_42) (c_same30 (s := sm81) (u := sm82) w (hS.rowN 5 rfl) (hS.rowN 6 rfl) (hS.rowN 8 rfl) (hS.rowN 9 rfl)) ?_; rintro _ w ⟨rfl, hS'⟩
     replace hS := hS.cmp hS'; clear hS'
     refine zs2 ?_
     refine zlt <| zrt <| zf1 ⟨_, rfl, ?_⟩
     exact ⟨(true_B (by first | exact hs1 | exact q1 | omega)).symm, hS.nl⟩
    iterate 3 refine zlo ?_
    refine zs2 ?_
    refine zlt <| zrt <| zf1 ⟨_, rfl, ?_⟩
    exfalso
    first | omega | exact absurd hs1 ‹_› | exact absurd q1 ‹_›
   iterate 3 refine zlo ?_
   refine zs2 ?_
   iterate 3 refine zlo ?_
   refine zs2 ?_
   refine zlt <| zrt <| zf1 ⟨_, rfl, ?_⟩
   exfalso
   first | omega | exact absurd hs1 ‹_› | exact absurd q1 ‹_›
  iterate 3 refine zlo ?_
  refine zs2 ?_
  iterate 3 refine zlo ?_
  refine zs2 ?_
  iterate 3 refine zlo ?_
  refine zs2 ?_
  refine zlt <| zrt <| zf1 ⟨_, rfl, ?_⟩
  exfalso
  first | omega | exact absurd hs1 ‹_› | exact absurd q1 ‹_›

end Go.Proofs.Ytelfplepnodbgaa
