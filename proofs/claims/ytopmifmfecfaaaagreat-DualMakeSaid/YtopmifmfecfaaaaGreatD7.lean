/- The walk of DualMake. -/
import Derived.Test.YtopmifmfecfaaaaGreatGv
import Derived.Test.YtopmifmfecfaaaaGreatD5
namespace Go.Proofs.YtopmifmfecfaaaaGreat
open Go Go.RowKit Go.Proofs.Gw
set_option linter.unusedVariables false

theorem cl_15 : calledT Tryz.prog 15 = true := by kernel_rfl
theorem cl_22 : calledT Tryz.prog 22 = true := by kernel_rfl
theorem cl_23 : calledT Tryz.prog 23 = true := by kernel_rfl
theorem cl_24 : calledT Tryz.prog 24 = true := by kernel_rfl
theorem cl_56 : calledT Tryz.prog 56 = true := by kernel_rfl
def MatR (p : Prob) (m e : Int) : Prop := (¬ p.Ok ∧ m = 0 ∧ e = 1) ∨ (p.Ok ∧ m = (Used p p.D p.m.toNat + (p.stock + p.kerf) - 1).tdiv (p.stock + p.kerf) ∧ e = 0)
set_option maxRecDepth 20000 in
theorem c_mat28 {vL vD : Value} {p : Prob} (w0 : World) (h : PAt w0 vL vD p) (hua : p.Ok → ∀ k, 0 ≤ k → k < p.m → 0 ≤ p.D k ∧ p.D k ≤ 2000) :
    Calls Tryz.prog 27 [.agg #[vL, vD, .int .i64 p.stock, .int .i64 p.kerf]].toArray w0 fun e w => ∃ v, e = .returned v ∧ ∃ m e : Int, v = .tuple #[.int .i64 m, .int .i64 e] ∧ MatR p m e ∧ Sat w0 w [] := by
  have hm := h.L.slh.n0; have hm1 := h.L.slh.n1; have hd := h.D.slh.n0; have hd1 := h.D.slh.n1; have hs := h.is; have hk := h.ik
  refine zenG Tryz.func27 Tryz.ntmps27 fun w hS => ?_
  refine zsr ?_
  refine zla (xbx (cs := [_, _, _, _]) hS) ?_; rintro _ w ⟨g1, rfl, hS⟩
  replace hS := hS.n1
  refine zs2 ?_
  refine zlt <| zsq <| zsr ?_
  refine zlv (xls 0 st_24 hS) ?_
  refine zlc (xc0 cl_25) (c_rvalid28 (p := p) w (h.below hS.below)) ?_; rintro _ w ⟨rfl, hS'⟩
  replace hS := hS.cmp hS'; clear hS'
  refine zlv xnot ?_
  refine zlt ?_
  refine zcif ?_ ?_ <;> intro hc
  ·
   refine zsr ?_
   refine zs2 ?_
   refine zlt <| zrt <| ztr <| zf2 ⟨_, rfl, ?_⟩
   exact ⟨0, 1, rfl, .inl ⟨‹¬ p.Ok›, rfl, rfl⟩, hS.nl⟩
  refine zsk <| ztn <| zsr ?_
  refine zlv (xfb 2 fd_24_2) ?_
  refine zlv (xlb 0 pl_3 hS) ?_
  have hp : p.Ok := by first | assumption | exact Classical.not_not.1 ‹_›
  have hpm := hp.m1; have hpm2 := hp.m2; have hpd := hp.d; have hs1 := hp.s1; have hs2 := hp.s2; have hk1 := hp.k1; have hk2 := hp.k2
  refine zlv (xfb 3 fd_24_3) ?_
  refine zlv (xlb 0 pl_3 hS) ?_
  refine zlv (xadd (r := p.stock + p.kerf)) ?_
  refine zlv xas ?_
  refine zlz ?_
  refine zlv (xls 0 st_24 hS) ?_
  refine zlv (xfb 1 fd_24_1) ?_
  refine zlv (xlb 0 pl_22 hS) ?_
  refine zlc (xc0 cl_57) (c_used (p := p) w (h.below hS.below) (Classical.not_not.1 ‹¬ ¬ (p.Ok)›) (h.D.below hS.below) (by omega) (hua hp)) ?_; rintro _ w ⟨rfl, hS'⟩
  replace hS := hS.cmp hS'; clear hS'
  have hub := used_bound hp (hua hp) (n := p.m) (by omega) (by omega)
  have hqd := tdiv_abs (a := Used p p.D p.m.toNat + p.stock + p.kerf - 1) (d := p.stock + p.kerf) (A := 1000000000000) (by omega) (by omega)
  refine zlv xmv ?_
  refine zlv (xadd (r := (Used p p.D p.m.toNat) + p.stock + p.kerf)) ?_
  refine zlv (xsub (r := (Used p p.D p.m.toNat) + p.stock + p.kerf - 1)) ?_
  refine zlv xmv ?_
  refine zlv (xquo (r := (Int.tdiv ((Used p p.D p.m.toNat) + p.stock + p.kerf - 1) (p.stock + p.kerf)))) ?_
  refine zs2 ?_
  refine zlt <| zrt <| zf2 ⟨_, rfl, ?_⟩
  exact ⟨_, 0, rfl, .inr ⟨hp, (by first | rfl | (congr 1; omega)), rfl⟩, hS.nl⟩

theorem c_bound0 {v1 v2 v3 : Value} (w0 : World) (h : PAt w0 v1 v2 p0) (hY : Row w0 v3 1 2 (ints y0)) :
    Calls Tryz.prog 26 [.agg #[v1, v2, .int .i64 10, .int .i64 0], .agg #[v3, .int .i64 1]].toArray w0 fun e w => ∃ v, e = .returned v ∧ v = .tuple #[.int .i64 4, .int .i64 0] ∧ Sat w0 w [] := by
  have := c_bound w0 h hY (q := 1) (by omega)
  rw [chk_p0, bnd_p0] at this
  exact this
theorem c_check1 {v1 v2 v3 : Value} (w0 : World) (h : PAt w0 v1 v2 p0) (hY : Row w0 v3 1 2 (ints y1)) :
    Calls Tryz.prog 53 [.agg #[v1, v2, .int .i64 10, .int .i64 0], .agg #[v3, .int .i64 1]].toArray w0 fun e w => ∃ v, e = .returned v ∧ v = .int .i64 21 ∧ Sat w0 w [] := by
  have := c_check w0 h hY (q := 1) (by omega)
  rw [chk_p1] at this
  exact this

set_option maxRecDepth 20000 in
theorem c_awake32  (w0 : World) :
    Calls Tryz.prog 15 [].toArray w0 fun e w => ∃ v, e = .returned v ∧ v = .bool true ∧ Sat w0 w [] := by
  refine zenG Tryz.func15 Tryz.ntmps15 fun w hS => ?_
  refine zsr ?_
  refine zlv xas ?_
  refine zlz ?_
  refine zla (xli (n := 2) (len := 2) (pv := [(0, .int .i64 6), (1, .int .i64 4)]) (cs := [.int .i64 6, .int .i64 4]) (c := ints (fun k => [6, 4].getD k.toNat 0)) sl_22 el_3 hS) ?_; rintro v1 w ⟨hS, hv1⟩
  replace hS := hS.n1
  refine zla (xli (n := 2) (len := 2) (pv := [(0, .int .i64 4), (1, .int .i64 4)]) (cs := [.int .i64 4, .int .i64 4]) (c := ints (fun k => [4, 4].getD k.toNat 0)) sl_22 el_3 hS) ?_; rintro v2 w ⟨hS, hv2⟩
  replace hS := hS.n2
  refine zlv (xany (v := .agg #[v1, v2, .int .i64 10, .int .i64 0]) (hr := by obtain ⟨_, _, _, _, rfl, _⟩ := hv1; obtain ⟨_, _, _, _, rfl, _⟩ := hv2; kernel_rfl)) ?_
  refine zla (xal (cs := [_, _, _, _]) el_35 hS) ?_; rintro _ w ⟨g1, rfl, hS⟩
  replace hS := hS.n3
  refine zle (xsw 2 st_35 hS (hd := (ones_cons hv1.one (ones_cons hv2.one (ones_cons rfl (ones_cons rfl ones_nil)))))) ?_; clear hS; rintro w hS
  replace hS := hS.n3
  refine zlz ?_
  refine zlv (xls 2 st_35 hS) ?_
  refine zla (xli (n := 2) (len := 2) (pv := [(0, .int .i64 1), (1, .int .i64 0)]) (cs := [.int .i64 1, .int .i64 0]) (c := ints (fun k => [1, 0].getD k.toNat 0)) sl_22 el_3 hS) ?_; rintro v3 w ⟨hS, hv3⟩
  replace hS := hS.n4
  refine zlv (xany (v := .agg #[v3, .int .i64 1]) (hr := by obtain ⟨_, _, _, _, rfl, _⟩ := hv3; kernel_rfl)) ?_
  refine zlc (xc0 cl_26) (c_bound0 w (⟨(hS.rowN 0 rfl), (hS.rowN 1 rfl), (litb _ (by decide)), (litb _ (by decide)), (by (try dsimp only); omega), (by (try dsimp only); omega)⟩ : PAt _ _ _ (⟨2, (fun k => [6, 4].getD k.toNat 0), 2, (fun k => [4, 4].getD k.toNat 0), 10, 0⟩ : Prob)) (hS.rowN 3 rfl)) ?_; rintro _ w ⟨rfl, hS'⟩
  replace hS := hS.cmp hS'; clear hS'
  refine zs5 ?_
  refine zlz ?_
  refine zlv xmv ?_
  refine zlv (xkt xeql) ?_
  refine zs2 ?_
  refine zlv (xkt xeql) ?_
  refine zs2 ?_
  refine zlv (xls 2 st_35 hS) ?_
  refine zla (xli (n := 2) (len := 2) (pv := [(0, .int .i64 1), (1, .int .i64 1)]) (cs := [.int .i64 1, .int .i64 1]) (c := ints (fun k => [1, 1].getD k.toNat 0)) sl_22 el_3 hS) ?_; rintro v4 w ⟨hS, hv4⟩
  replace hS := hS.n5
  refine zlv (xany (v := .agg #[v4, .int .i64 1]) (hr := by obtain ⟨_, _, _, _, rfl, _⟩ := hv4; kernel_rfl)) ?_
  refine zlc (xc0 cl_53) (c_check1 w (⟨(hS.rowN 0 rfl), (hS.rowN 1 rfl), (litb _ (by decide)), (litb _ (by decide)), (by (try dsimp only); omega), (by (try dsimp only); omega)⟩ : PAt _ _ _ (⟨2, (fun k => [6, 4].getD k.toNat 0), 2, (fun k => [4, 4].getD k.toNat 0), 10, 0⟩ : Prob)) (hS.rowN 4 rfl)) ?_; rintro _ w ⟨rfl, hS'⟩
  replace hS := hS.cmp hS'; clear hS'
  refine zlv (xkt xeql) ?_
  refine zs2 ?_
  refine zlt <| zrt <| zf1 ⟨_, rfl, ?_⟩
  exact ⟨rfl, hS.nl⟩

set_option maxRecDepth 20000 in
theorem c_same32 {v1 v2 : Value} {n1 n2 q1 q2 : Int} {f1 f2 : Int → Int} (w0 : World) (x1 : Row w0 v1 1 n1 (ints f1)) (x2 : Row w0 v2 1 n2 (ints f2)) :
    Calls Tryz.prog 56 [.agg #[v1, .int .i64 q1], .agg #[v2, .int .i64 q2]].toArray w0 fun e w => ∃ v, e = .returned v ∧ v = B (q1 = q2 ∧ n1 = n2 ∧ ∀ k, 0 ≤ k → k < n1 → f1 k = f2 k) ∧ Sat w0 w [] := by
  refine zenG Tryz.func56 Tryz.ntmps56 fun w hS => ?_
  refine zsr ?_
  refine zla (xbx (cs := [_, _]) hS) ?_; rintro _ w ⟨g1, rfl, hS⟩
  replace hS := hS.n1
  refine zla (xbx (cs := [_, _]) hS) ?_; rintro _ w ⟨g2, rfl, hS⟩
  replace hS := hS.n2
  refine zlv xas ?_
  refine zlz ?_
  refine zlv (xfb 1 fd_47_1) ?_
  refine zlv (xlb 0 pl_3 hS) ?_
  refine zlv (xfb 1 fd_47_1) ?_
  refine zlv (xlb 1 pl_3 hS) ?_
  refine zs2 ?_
  refine zlb 10 ?_ ?_ <;> intro hc
  ·
   refine zlv (xfb 0 fd_47_0) ?_
   refine zlv (xlb 0 pl_22 hS) ?_
   refine zlv (xfb 0 fd_47_0) ?_
   refine zlv (xlb 1 pl_22 hS) ?_
   refine zlc (xc0 cl_45) (c_same28 (n := n1) (m := n2) (f := f1) (g := f2) w (x1.below hS.below) (x2.below hS.below)) ?_; rintro _ w ⟨rfl, hS'⟩
   replace hS := hS.cmp hS'; clear hS'
   refine zs2 ?_
   refine zlt <| zrt <| zf1 ⟨_, rfl, ?_⟩
   exact ⟨B_congr (by exact ⟨fun hh => ⟨by omega, hh⟩, fun hh => hh.2⟩), hS.nl⟩
  iterate 5 refine zlo ?_
  refine zs2 ?_
  refine zlt <| zrt <| zf1 ⟨_, rfl, ?_⟩
  exact ⟨false_B (by rintro ⟨h1, h2⟩; omega), hS.nl⟩

set_option maxRecDepth 20000 in
theorem c_lsame32 {v1 v2 : Value} {n1 n2 q1 q2 : Int} {f1 f2 : Int → Int} (w0 : World) (x1 : Row w0 v1 1 n1 (ints f1)) (x2 : Row w0 v2 1 n2 (ints f2)) (hs : q1 = q2 ∧ n1 = n2 ∧ ∀ k, 0 ≤ k → k < n1 → f1 k = f2 k) :
    Calls Tryz.prog 24 [.agg #[v1, .int .i64 q1], .agg #[v2, .int .i64 q2]].toArray w0 fun e w => ∃ v, e = .returned v ∧ v = .bool true ∧ Sat w0 w [] := by
  refine zenG Tryz.func24 Tryz.ntmps24 fun w hS => ?_
  refine zsr ?_
  refine zla (xbx (cs := [_, _]) hS) ?_; rintro _ w ⟨g1, rfl, hS⟩
  replace hS := hS.n1
  refine zla (xbx (cs := [_, _]) hS) ?_; rintro _ w ⟨g2, rfl, hS⟩
  replace hS := hS.n2
  refine zlv xas ?_
  refine zlz ?_
  refine zlv (xls 0 st_44 hS) ?_
  refine zlv (xls 1 st_47 hS) ?_
  refine zlc (xc0 cl_56) (c_same32 w (x1.below hS.below) (x2.below hS.below) (q1 := q1) (q2 := q2)) ?_; rintro _ w ⟨rfl, hS'⟩
  replace hS := hS.cmp hS'; clear hS'
  refine zlv xas ?_
  refine zlt <| zrt <| zf1 ⟨_, rfl, ?_⟩
  exact ⟨(true_B hs).symm, hS.nl⟩

set_option maxHeartbeats 4000000 in
set_option maxRecDepth 20000 in
theorem law_dmake {vL vD : Value} {p : Prob} (w0 : World) (h : PAt w0 vL vD p) :
    Calls Tryz.prog 4 [.agg #[vL, vD, .int .i64 p.stock, .int .i64 p.kerf]].toArray w0 fun e w => ∃ v, e = .returned v ∧ v = .bool true ∧ Sat w0 w [] := by
  have hm := h.L.slh.n0; have hm1 := h.L.slh.n1; have hd := h.D.slh.n0; have hd1 := h.D.slh.n1; have hs := h.is; have hk := h.ik
  refine zenG Tryz.func4 Tryz.ntmps4 fun w hS => ?_
  refine zsr ?_
  refine zla (xbx (cs := [_, _, _, _]) hS) ?_; rintro _ w ⟨g1, rfl, hS⟩
  replace hS := hS.n1
  refine zlv xas ?_
  refine zlt <| zsq <| zsr ?_
  refine zlc (xc0 cl_15) (c_awake32 w) ?_; rintro _ w ⟨rfl, hS'⟩
  replace hS := hS.cmp hS'; clear hS'
  refine zs2 ?_
  refine zlv (xls 0 st_24 hS) ?_
  refine zlc (xc0 cl_10) (c_few28 (p := p) w (h.below hS.below)) ?_; rintro _ w ⟨rfl, hS'⟩
  replace hS := hS.cmp hS'; clear hS'
  refine zs2 ?_
  refine zlt ?_
  refine zcif ?_ ?_ <;> intro hc
  ·
   refine zsr ?_
   refine zlc (xc0 cl_15) (c_awake32 w) ?_; rintro _ w ⟨rfl, hS'⟩
   replace hS := hS.cmp hS'; clear hS'
   refine zlv xas ?_
   refine zlt <| zrt <| ztr <| zf1 ⟨_, rfl, ?_⟩
   exact ⟨rfl, hS.nl⟩
  refine zsk <| ztn <| zsr ?_
  refine zlv (xls 0 st_24 hS) ?_
  refine zla (xal (cs := [_, _, _, _]) el_35 hS) ?_; rintro _ w ⟨g2, rfl, hS⟩
  replace hS := hS.n2
  refine zle (xsw 1 st_35 hS (hd := (ones_cons h.L.slh.one (ones_cons h.D.slh.one (ones_cons rfl (ones_cons rfl ones_nil)))))) ?_; clear hS; rintro w hS
  replace hS := hS.n2
  refine zlz ?_
  refine zlv (xls 1 st_35 hS) ?_
  refine zlc (xc0 cl_16) (c_make32 (p := p) w (h.below hS.below)) ?_; rintro _ w ⟨vcct1, cct1, ect1, rfl, hctct1, hvcct1, hS'⟩
  replace hS : Sat w0 w [.blk g1 [vL, vD, .int .i64 p.stock, .int .i64 p.kerf], .blk g2 [vL, vD, .int .i64 p.stock, .int .i64 p.kerf], .own vcct1 1 3 cct1.n (ints cct1.y)] := hS.comp hS'; clear hS'
  refine zs3 ?_
  refine zla (xal (cs := [_, _]) el_44 hS) ?_; rintro _ w ⟨g3, rfl, hS⟩
  replace hS := hS.n4
  refine zle (xsw 3 st_44 hS (hd := (ones_cons hvcct1.one (ones_cons rfl ones_nil)))) ?_; clear hS; rintro w hS
  replace hS := hS.n4
  refine zlv xas ?_
  refine zlz ?_
  refine zlv (xls 0 st_24 hS) ?_
  refine zlc (xc0 cl_17) (c_rmake32 (p := p) w (h.below hS.below)) ?_; rintro _ w ⟨vcct2, cct2, ect2, rfl, hctct2, hvcct2, hS'⟩
  replace hS : Sat w0 w [.blk g1 [vL, vD, .int .i64 p.stock, .int .i64 p.kerf], .blk g2 [vL, vD, .int .i64 p.stock, .int .i64 p.kerf], .own vcct1 1 3 cct1.n (ints cct1.y), .blk g3 [vcct1, .int .i64 cct1.q], .own vcct2 1 3 cct2.n (ints cct2.y)] := hS.comp hS'; clear hS'
  obtain ⟨hsmcct2, heect2⟩ := hctct1.same hctct2
  refine zs3 ?_
  refine zla (xal (cs := [_, _]) el_47 hS) ?_; rintro _ w ⟨g4, rfl, hS⟩
  replace hS := hS.n6
  refine zle (xsw 5 st_47 hS (hd := (ones_cons hvcct2.one (ones_cons rfl ones_nil)))) ?_; clear hS; rintro w hS
  replace hS := hS.n6
  refine zlv xas ?_
  refine zlz ?_
  refine zlv (xls 1 st_35 hS) ?_
  refine zlc (xc0 cl_18) (c_matc32 (p := p) w (h.below hS.below)) ?_; rintro _ w ⟨vcct3, cct3, ect3, rfl, hctct3, hvcct3, hS'⟩
  replace hS : Sat w0 w [.blk g1 [vL, vD, .int .i64 p.stock, .int .i64 p.kerf], .blk g2 [vL, vD, .int .i64 p.stock, .int .i64 p.kerf], .own vcct1 1 3 cct1.n (ints cct1.y), .blk g3 [vcct1, .int .i64 cct1.q], .own vcct2 1 3 cct2.n (ints cct2.y), .blk g4 [vcct2, .int .i64 cct2.q], .own vcct3 1 3 cct3.n (ints cct3.y)] := hS.comp hS'; clear hS'
  refine zs3 ?_
  refine zla (xal (cs := [_, _]) el_44 hS) ?_; rintro _ w ⟨g5, rfl, hS⟩
  replace hS := hS.n8
  refine zle (xsw 7 st_44 hS (hd := (ones_cons hvcct3.one (ones_cons rfl ones_nil)))) ?_; clear hS; rintro w hS
  replace hS := hS.n8
  refine zlv xas ?_
  refine zlz ?_
  refine zlv (xls 0 st_24 hS) ?_
  refine zlc (xc0 cl_19) (c_rmatc32 (p := p) w (h.below hS.below)) ?_; rintro _ w ⟨vcct4, cct4, ect4, rfl, hctct4, hvcct4, hS'⟩
  replace hS : Sat w0 w [.blk g1 [vL, vD, .int .i64 p.stock, .int .i64 p.kerf], .blk g2 [vL, vD, .int .i64 p.stock, .int .i64 p.kerf], .own vcct1 1 3 cct1.n (ints cct1.y), .blk g3 [vcct1, .int .i64 cct1.q], .own vcct2 1 3 cct2.n (ints cct2.y), .blk g4 [vcct2, .int .i64 cct2.q], .own vcct3 1 3 cct3.n (ints cct3.y), .blk g5 [vcct3, .int .i64 cct3.q], .own vcct4 1 3 cct4.n (ints cct4.y)] := hS.comp hS'; clear hS'
  obtain ⟨hsmcct4, heect4⟩ := hctct3.same hctct4
  refine zs3 ?_
  refine zla (xal (cs := [_, _]) el_47 hS) ?_; rintro _ w ⟨g6, rfl, hS⟩
  replace hS := hS.n10
  refine zle (xsw 9 st_47 hS (hd := (ones_cons hvcct4.one (ones_cons rfl ones_nil)))) ?_; clear hS; rintro w hS
  replace hS := hS.n10
  refine zlv xas ?_
  refine zlz ?_
  refine zlv (xls 1 st_35 hS) ?_
  refine zlc (xc0 cl_20) (c_halfc32 (p := p) w (h.below hS.below)) ?_; rintro _ w ⟨vcct5, cct5, ect5, rfl, hctct5, hvcct5, hS'⟩
  replace hS : Sat w0 w [.blk g1 [vL, vD, .int .i64 p.stock, .int .i64 p.kerf], .blk g2 [vL, vD, .int .i64 p.stock, .int .i64 p.kerf], .own vcct1 1 3 cct1.n (ints cct1.y), .blk g3 [vcct1, .int .i64 cct1.q], .own vcct2 1 3 cct2.n (ints cct2.y), .blk g4 [vcct2, .int .i64 cct2.q], .own vcct3 1 3 cct3.n (ints cct3.y), .blk g5 [vcct3, .int .i64 cct3.q], .own vcct4 1 3 cct4.n (ints cct4.y), .blk g6 [vcct4, .int .i64 cct4.q], .own vcct5 1 3 cct5.n (ints cct5.y)] := hS.comp hS'; clear hS'
  refine zs3 ?_
  refine zla (xal (cs := [_, _]) el_44 hS) ?_; rintro _ w ⟨g7, rfl, hS⟩
  replace hS := hS.n12
  refine zle (xsw 11 st_44 hS (hd := (ones_cons hvcct5.one (ones_cons rfl ones_nil)))) ?_; clear hS; rintro w hS
  replace hS := hS.n12
  refine zlv xas ?_
  refine zlz ?_
  refine zlv (xls 0 st_24 hS) ?_
  refine zlc (xc0 cl_21) (c_rhalfc32 (p := p) w (h.below hS.below)) ?_; rintro _ w ⟨vcct6, cct6, ect6, rfl, hctct6, hvcct6, hS'⟩
  replace hS : Sat w0 w [.blk g1 [vL, vD, .int .i64 p.stock, .int .i64 p.kerf], .blk g2 [vL, vD, .int .i64 p.stock, .int .i64 p.kerf], .own vcct1 1 3 cct1.n (ints cct1.y), .blk g3 [vcct1, .int .i64 cct1.q], .own vcct2 1 3 cct2.n (ints cct2.y), .blk g4 [vcct2, .int .i64 cct2.q], .own vcct3 1 3 cct3.n (ints cct3.y), .blk g5 [vcct3, .int .i64 cct3.q], .own vcct4 1 3 cct4.n (ints cct4.y), .blk g6 [vcct4, .int .i64 cct4.q], .own vcct5 1 3 cct5.n (ints cct5.y), .blk g7 [vcct5, .int .i64 cct5.q], .own vcct6 1 3 cct6.n (ints cct6.y)] := hS.comp hS'; clear hS'
  obtain ⟨hsmcct6, heect6⟩ := hctct5.same hctct6
  refine zs3 ?_
  refine zla (xal (cs := [_, _]) el_47 hS) ?_; rintro _ w ⟨g8, rfl, hS⟩
  replace hS := hS.n14
  refine zle (xsw 13 st_47 hS (hd := (ones_cons hvcct6.one (ones_cons rfl ones_nil)))) ?_; clear hS; rintro w hS
  replace hS := hS.n14
  refine zlv xas ?_
  refine zlz ?_
  refine zlv (xls 1 st_35 hS) ?_
  refine zlc (xc0 cl_22) (c_best32 (p := p) w (h.below hS.below)) ?_; rintro _ w ⟨vcbs1, cbs1, mbs1, ebs1, rfl, hbsbs1, hvcbs1, hS'⟩
  replace hS : Sat w0 w [.blk g1 [vL, vD, .int .i64 p.stock, .int .i64 p.kerf], .blk g2 [vL, vD, .int .i64 p.stock, .int .i64 p.kerf], .own vcct1 1 3 cct1.n (ints cct1.y), .blk g3 [vcct1, .int .i64 cct1.q], .own vcct2 1 3 cct2.n (ints cct2.y), .blk g4 [vcct2, .int .i64 cct2.q], .own vcct3 1 3 cct3.n (ints cct3.y), .blk g5 [vcct3, .int .i64 cct3.q], .own vcct4 1 3 cct4.n (ints cct4.y), .blk g6 [vcct4, .int .i64 cct4.q], .own vcct5 1 3 cct5.n (ints cct5.y), .blk g7 [vcct5, .int .i64 cct5.q], .own vcct6 1 3 cct6.n (ints cct6.y), .blk g8 [vcct6, .int .i64 cct6.q], .own vcbs1 1 3 cbs1.n (ints cbs1.y)] := hS.comp hS'; clear hS'
  refine zs4 ?_
  refine zla (xal (cs := [_, _]) el_44 hS) ?_; rintro _ w ⟨g9, rfl, hS⟩
  replace hS := hS.n16
  refine zle (xsw 15 st_44 hS (hd := (ones_cons hvcbs1.one (ones_cons rfl ones_nil)))) ?_; clear hS; rintro w hS
  replace hS := hS.n16
  refine zs2 ?_
  refine zlz ?_
  refine zlv (xls 0 st_24 hS) ?_
  refine zlc (xc0 cl_23) (c_rbest32 (p := p) w (h.below hS.below)) ?_; rintro _ w ⟨vcbs2, cbs2, mbs2, ebs2, rfl, hbsbs2, hvcbs2, hS'⟩
  replace hS : Sat w0 w [.blk g1 [vL, vD, .int .i64 p.stock, .int .i64 p.kerf], .blk g2 [vL, vD, .int .i64 p.stock, .int .i64 p.kerf], .own vcct1 1 3 cct1.n (ints cct1.y), .blk g3 [vcct1, .int .i64 cct1.q], .own vcct2 1 3 cct2.n (ints cct2.y), .blk g4 [vcct2, .int .i64 cct2.q], .own vcct3 1 3 cct3.n (ints cct3.y), .blk g5 [vcct3, .int .i64 cct3.q], .own vcct4 1 3 cct4.n (ints cct4.y), .blk g6 [vcct4, .int .i64 cct4.q], .own vcct5 1 3 cct5.n (ints cct5.y), .blk g7 [vcct5, .int .i64 cct5.q], .own vcct6 1 3 cct6.n (ints cct6.y), .blk g8 [vcct6, .int .i64 cct6.q], .own vcbs1 1 3 cbs1.n (ints cbs1.y), .blk g9 [vcbs1, .int .i64 cbs1.q], .own vcbs2 1 3 cbs2.n (ints cbs2.y)] := hS.comp hS'; clear hS'
  obtain ⟨hsmcbs2, hembs2, heebs2⟩ := hbsbs1.same hbsbs2
  refine zs4 ?_
  refine zla (xal (cs := [_, _]) el_47 hS) ?_; rintro _ w ⟨g10, rfl, hS⟩
  replace hS := hS.n18
  refine zle (xsw 17 st_47 hS (hd := (ones_cons hvcbs2.one (ones_cons rfl ones_nil)))) ?_; clear hS; rintro w hS
  replace hS := hS.n18
  refine zs2 ?_
  refine zlz ?_
  refine zlv (xls 3 st_44 hS) ?_
  refine zlv (xls 5 st_47 hS) ?_
  refine zlc (xc0 cl_24) (c_lsame32 w (hS.rowN 2 rfl) (hS.rowN 4 rfl) (q1 := cct1.q) (q2 := cct2.q) (by rw [show cct1 = cct2 from hsmcct2]; exact ⟨rfl, rfl, fun _ _ _ => rfl⟩)) ?_; rintro _ w ⟨rfl, hS'⟩
  replace hS := hS.cmp hS'; clear hS'
  refine zs3 ?_
  refine zlv (xkt xeql) ?_
  refine zs2 ?_
  refine zlv (xls 7 st_44 hS) ?_
  refine zlv (xls 9 st_47 hS) ?_
  refine zlc (xc0 cl_24) (c_lsame32 w (hS.rowN 6 rfl) (hS.rowN 8 rfl) (q1 := cct3.q) (q2 := cct4.q) (by rw [show cct3 = cct4 from hsmcct4]; exact ⟨rfl, rfl, fun _ _ _ => rfl⟩)) ?_; rintro _ w ⟨rfl, hS'⟩
  replace hS := hS.cmp hS'; clear hS'
  refine zs4 ?_
  refine zlv (xkt xeql) ?_
  refine zs2 ?_
  refine zlv (xls 11 st_44 hS) ?_
  refine zlv (xls 13 st_47 hS) ?_
  refine zlc (xc0 cl_24) (c_lsame32 w (hS.rowN 10 rfl) (hS.rowN 12 rfl) (q1 := cct5.q) (q2 := cct6.q) (by rw [show cct5 = cct6 from hsmcct6]; exact ⟨rfl, rfl, fun _ _ _ => rfl⟩)) ?_; rintro _ w ⟨rfl, hS'⟩
  replace hS := hS.cmp hS'; clear hS'
  refine zs4 ?_
  refine zlv (xkt xeql) ?_
  refine zs2 ?_
  refine zlv (xls 15 st_44 hS) ?_
  refine zlv (xls 17 st_47 hS) ?_
  refine zlc (xc0 cl_24) (c_lsame32 w (hS.rowN 14 rfl) (hS.rowN 16 rfl) (q1 := cbs1.q) (q2 := cbs2.q) (by rw [show cbs1 = cbs2 from hsmcbs2]; exact ⟨rfl, rfl, fun _ _ _ => rfl⟩)) ?_; rintro _ w ⟨rfl, hS'⟩
  replace hS := hS.cmp hS'; clear hS'
  refine zs4 ?_
  refine zlv (xkt xeql) ?_
  refine zs4 ?_
  refine zlv (xkt xeql) ?_
  refine zs2 ?_
  refine zlt <| zrt <| zf1 ⟨_, rfl, ?_⟩
  exact ⟨rfl, hS.nl⟩

end Go.Proofs.YtopmifmfecfaaaaGreat
