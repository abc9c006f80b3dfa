/- The walks of the statements RectValue and RectApply. -/
import Derived.Test.YtmlfpniaknmmfaaGv
import Derived.Test.YtmlfpniaknmmfaaW8
import Derived.Test.YtmlfpniaknmmfaaFe
namespace Go.Proofs.Ytmlfpniaknmmfaa
open Go Go.RowKit Go.Proofs.Gw
set_option linter.unusedVariables false

theorem cl_10 : calledT Try.prog 10 = true := by kernel_rfl
theorem cl_11 : calledT Try.prog 11 = true := by kernel_rfl
theorem cl_12 : calledT Try.prog 12 = true := by kernel_rfl
theorem cl_13 : calledT Try.prog 13 = true := by kernel_rfl
theorem cl_14 : calledT Try.prog 14 = true := by kernel_rfl
theorem cl_16 : calledT Try.prog 16 = true := by kernel_rfl
theorem cl_21 : calledT Try.prog 21 = true := by kernel_rfl
theorem fd_24_0 : fieldT Try.prog 24 0 = some 0 := by kernel_rfl
theorem fd_24_1 : fieldT Try.prog 24 1 = some 1 := by kernel_rfl
theorem fd_24_2 : fieldT Try.prog 24 2 = some 2 := by kernel_rfl
theorem fd_24_3 : fieldT Try.prog 24 3 = some 3 := by kernel_rfl
theorem pl_22 : plainT Try.prog 22 = true := by kernel_rfl
set_option maxRecDepth 20000 in
theorem c_awake  (w0 : World) :
    Calls Try.prog 10 [].toArray w0 fun e w => ∃ v, e = .returned v ∧ v = .bool true ∧ Sat w0 w [] := by
  refine zenG Try.func10 Try.ntmps10 fun w hS => ?_
  refine zsr ?_
  refine zlv xas ?_
  refine zlz ?_
  refine zlv (xany (v := .agg #[.int .i64 6, .int .i64 6, .int .i64 5])) ?_
  refine zla (xli (n := 1) (len := 1) (pv := [(0, .agg #[.int .i64 6, .int .i64 6, .int .i64 5])]) (cs := [.int .i64 6, .int .i64 6, .int .i64 5]) (c := dcells (fun _ => 6) (fun _ => 6) (fun _ => 5)) sl_38 el_60 hS) ?_; rintro v1 w ⟨hS, hv1⟩
  replace hS := hS.n1
  refine zlc (xc0 cl_16) (c_Best (d := ⟨1, (fun _ => 6), (fun _ => 6), (fun _ => 5)⟩) (s := ⟨10, 10, 0⟩) w (⟨(hS.rowN 0 rfl), (fun i => by (try dsimp only); omega), (fun i => by (try dsimp only); omega), (fun i => by (try dsimp only); omega)⟩ : DAt _ _ 1 (fun _ => 6) (fun _ => 6) (fun _ => 5)) (by (try dsimp only); omega)) ?_; rintro _ w ⟨ab1, fab1, fpb1, fbb1, fqb1, eb1, rfl, hrb1, hS'⟩
  replace hS := hS.cmp hS'; clear hS'
  have haw := awake_best hrb1
  have haw1 := haw.1; have haw2 := haw.2
  refine zs4 ?_
  refine zla (xal (cs := [_, _, _, _]) el_36 hS) ?_; rintro _ w ⟨g1, rfl, hS⟩
  replace hS := hS.n2
  refine zlv xas ?_
  refine zle (xsw 1 st_36 hS) ?_; clear hS; rintro w hS
  replace hS := hS.n2
  refine zlv xas ?_
  refine zlz ?_
  iterate 2 refine zlv (xany (v := .agg #[.int .i64 1, .int .i64 2])) ?_
  refine zlv (xany (v := .agg #[.int .i64 1, .int .i64 2, .int .i64 1, .int .i64 2])) ?_
  refine zlv (xany (v := .agg #[.int .i64 4, .int .i64 4, .int .i64 9])) ?_
  refine zla (xli (n := 1) (len := 1) (pv := [(0, .agg #[.int .i64 4, .int .i64 4, .int .i64 9])]) (cs := [.int .i64 4, .int .i64 4, .int .i64 9]) (c := dcells (fun _ => 4) (fun _ => 4) (fun _ => 9)) sl_38 el_60 hS) ?_; rintro v2 w ⟨hS, hv2⟩
  replace hS := hS.n3
  refine zlc (xc0 cl_12) (c_Value (x := ⟨1, 2, 1, 2⟩) (d := ⟨1, (fun _ => 4), (fun _ => 4), (fun _ => 9)⟩) (s := ⟨10, 10, 0⟩) w (⟨(hS.rowN 2 rfl), (fun i => by (try dsimp only); omega), (fun i => by (try dsimp only); omega), (fun i => by (try dsimp only); omega)⟩ : DAt _ _ 1 (fun _ => 4) (fun _ => 4) (fun _ => 9)) (by (try dsimp only); omega) (by (try dsimp only); omega)) ?_; rintro _ w ⟨az1, ez1, rfl, hrz1, hS'⟩
  replace hS := hS.cmp hS'; clear hS'
  have haz := awake_value hrz1
  have haz1 := haz.1; have haz2 := haz.2
  refine zs5 ?_
  refine zlz ?_
  refine zlv xmv ?_
  refine zlv (xkt xeql) ?_
  refine zs2 ?_
  refine zlv (xkt xeql) ?_
  refine zs3 ?_
  refine zlv (xkt xeql) ?_
  refine zs3 ?_
  refine zlv (xkt xeql) ?_
  refine zs2 ?_
  refine zlt <| zrt <| zf1 ⟨_, rfl, ?_⟩
  exact ⟨rfl, hS.nl⟩

set_option maxRecDepth 20000 in
theorem law_value {x : Crt} {vD : Value} {d : Dem} {s : Sht} (w0 : World) (hD : DAt w0 vD d.n d.W d.H d.N) (hs : (-9223372036854775808 ≤ s.w ∧ s.w ≤ 9223372036854775807) ∧ (-9223372036854775808 ≤ s.h ∧ s.h ≤ 9223372036854775807) ∧ (-9223372036854775808 ≤ s.kf ∧ s.kf ≤ 9223372036854775807)) (hx : (-9223372036854775808 ≤ x.a ∧ x.a ≤ 9223372036854775807) ∧ (-9223372036854775808 ≤ x.p ∧ x.p ≤ 9223372036854775807) ∧ (-9223372036854775808 ≤ x.b ∧ x.b ≤ 9223372036854775807) ∧ (-9223372036854775808 ≤ x.q ∧ x.q ≤ 9223372036854775807)) :
    Calls Try.prog 3 [.agg #[vD, .int .i64 s.w, .int .i64 s.h, .int .i64 s.kf], .agg #[.int .i64 x.a, .int .i64 x.p, .int .i64 x.b, .int .i64 x.q]].toArray w0 fun e w => ∃ v, e = .returned v ∧ v = .bool true ∧ Sat w0 w [] := by
  have hn := hD.row.slh.n0
  refine zenG Try.func3 Try.ntmps3 fun w hS => ?_
  refine zsr ?_
  refine zla (xbx (cs := [_, _, _, _]) hS) ?_; rintro _ w ⟨g1, rfl, hS⟩
  replace hS := hS.n1
  refine zla (xbx (cs := [_, _, _, _]) hS) ?_; rintro _ w ⟨g2, rfl, hS⟩
  replace hS := hS.n2
  refine zlv xas ?_
  refine zlt <| zsq <| zsr ?_
  refine zlc (xc0 cl_10) (c_awake w) ?_; rintro _ w ⟨rfl, hS'⟩
  replace hS := hS.cmp hS'; clear hS'
  refine zlv xnt ?_
  refine zlt <| zcf <| zsk <| ztn <| zsq <| zsr ?_
  refine zlv (xfb 0 fd_24_0) ?_
  refine zlv (xlb 0 pl_22 hS) ?_
  refine zlc (xc0 cl_11) (c_few (d := d) w (hD.below hS.below)) ?_; rintro _ w ⟨rfl, hS'⟩
  replace hS := hS.cmp hS'; clear hS'
  refine zlv xnot ?_
  refine zlt ?_
  refine zcif ?_ ?_ <;> intro hc
  ·
   refine zsr ?_
   refine zlv xas ?_
   refine zlt <| zrt <| ztr <| zf1 ⟨_, rfl, ?_⟩
   exact ⟨rfl, hS.nl⟩
  refine zsk <| ztn <| zsq ?_
  refine zdst [0, 1] [0, 1] 1000 mx_ hS ?_; clear hS; intro w hS
  refine zdla 0 (fun w hS => (xls 1 st_28 hS)) ?_
  refine zdv 2 (fun _ => (xfb 0 fd_24_0)) ?_
  refine zdla 3 (fun w hS => (xlb 0 pl_22 hS)) ?_
  refine zdv 5 (fun _ => (xfb 1 fd_24_1)) ?_
  refine zdla 6 (fun w hS => (xlb 0 pl_3 hS)) ?_
  refine zdv 7 (fun _ => (xfb 2 fd_24_2)) ?_
  refine zdla 8 (fun w hS => (xlb 0 pl_3 hS)) ?_
  refine zdv 9 (fun _ => (xfb 3 fd_24_3)) ?_
  refine zdla 10 (fun w hS => (xlb 0 pl_3 hS)) ?_
  refine zdc 1 (xc0 cl_13) (c_cert (x := x) w) ?_; rintro _ w ⟨rfl, hS'⟩
  replace hS := hS.cmp hS'; clear hS'
  refine ⟨⟨fun _ => hS, hS⟩, ?_⟩
  refine zdc 4 (xc0 cl_14) (c_own (d := d) w (hD.below hS.below) (by omega)) ?_; rintro vo1 w ⟨_, rfl, hslo1, hS'⟩
  replace hS : Sat w0 w [.blk g1 [vD, .int .i64 s.w, .int .i64 s.h, .int .i64 s.kf], .blk g2 [.int .i64 x.a, .int .i64 x.p, .int .i64 x.b, .int .i64 x.q], .own vo1 3 60 d.n (dcells d.W d.H d.N)] := hS.comp hS'; clear hS'
  refine ⟨⟨fun _ => hS.pk [0, 1], hS.pk [0, 1]⟩, ?_⟩
  refine zdc 11 (xc0 cl_12) (c_Value (x := x) (d := d) (s := s) w (⟨(hS.rowN 2 rfl), hD.bw, hD.bh, hD.bn⟩ : DAt _ _ d.n d.W d.H d.N) hs hx) ?_; rintro _ w ⟨az1, ez1, rfl, hrz1, hS'⟩
  replace hS := hS.cmp hS'; clear hS'
  refine ⟨⟨fun _ => hS.pk [0, 1], hS.pk [0, 1]⟩, ?_⟩
  refine zdv 12 (fun _ => xmv) ?_
  refine zdv 13 (fun _ => xex) ?_
  refine zdv 14 (fun _ => xex) ?_
  refine zdv 15 (fun _ => xas) ?_
  refine zdv 16 (fun _ => xas) ?_
  refine zdd <| ztn <| zsr ?_
  refine zlv (xls 1 st_28 hS) ?_
  refine zlv (xfb 0 fd_24_0) ?_
  refine zlv (xlb 0 pl_22 hS) ?_
  refine zlv (xfb 1 fd_24_1) ?_
  refine zlv (xlb 0 pl_3 hS) ?_
  refine zlv (xfb 2 fd_24_2) ?_
  refine zlv (xlb 0 pl_3 hS) ?_
  refine zlv (xfb 3 fd_24_3) ?_
  refine zlv (xlb 0 pl_3 hS) ?_
  refine zlc (xc0 cl_15) (c_rValue (x := x) (d := d) (s := s) w (hD.below hS.below) hs hx) ?_; rintro _ w ⟨az2, ez2, rfl, hrz2, hS'⟩
  replace hS := hS.cmp hS'; clear hS'
  have hsm := ValueR.same hrz1 hrz2
  have hsm1 := hsm.1; have hsm2 := hsm.2
  refine zs5 ?_
  refine zlz ?_
  refine zs2 ?_
  refine zlv (xkt xeql) ?_
  refine zs3 ?_
  refine zlv (xkt xeql) ?_
  refine zs2 ?_
  refine zlt <| zrt <| zf1 ⟨_, rfl, ?_⟩
  exact ⟨rfl, hS.nl⟩

set_option maxRecDepth 20000 in
theorem law_apply {kind k x c : Int} (w0 : World) (hx : (-9223372036854775808 ≤ x ∧ x ≤ 9223372036854775807)) (hc : (-9223372036854775808 ≤ c ∧ c ≤ 9223372036854775807)) :
    Calls Try.prog 8 [.agg #[.int .i64 kind, .int .i64 k], .int .i64 x, .int .i64 c].toArray w0 fun e w => ∃ v, e = .returned v ∧ v = .bool true ∧ Sat w0 w [] := by
  refine zenG Try.func8 Try.ntmps8 fun w hS => ?_
  refine zsr ?_
  refine zla (xbx (cs := [_, _]) hS) ?_; rintro _ w ⟨g1, rfl, hS⟩
  replace hS := hS.n1
  refine zlv xas ?_
  refine zlt <| zsq <| zsr ?_
  refine zlc (xc0 cl_10) (c_awake w) ?_; rintro _ w ⟨rfl, hS'⟩
  replace hS := hS.cmp hS'; clear hS'
  refine zlv xnt ?_
  refine zlt <| zcf <| zsk <| ztn <| zsr ?_
  refine zlv (xls 0 st_26 hS) ?_
  refine zs2 ?_
  refine zlc (xc0 cl_21) (c_apply (kind := kind) (k := k) (x := x) (c := c) w (by omega) (by omega)) ?_; rintro _ w ⟨ap1, ep1, rfl, hrp1, hS'⟩
  replace hS := hS.cmp hS'; clear hS'
  refine zs5 ?_
  refine zlz ?_
  refine zlv (xls 0 st_26 hS) ?_
  refine zs2 ?_
  refine zlc (xc0 cl_22) (c_rapply (kind := kind) (k := k) (x := x) (c := c) w (by omega) (by omega)) ?_; rintro _ w ⟨ap2, ep2, rfl, hrp2, hS'⟩
  replace hS := hS.cmp hS'; clear hS'
  have hsm := ApplyR.same hrp1 hrp2
  have hsm1 := hsm.1; have hsm2 := hsm.2
  refine zs5 ?_
  refine zlz ?_
  refine zs2 ?_
  refine zlv (xkt xeql) ?_
  refine zs3 ?_
  refine zlv (xkt xeql) ?_
  refine zs2 ?_
  refine zlt <| zrt <| zf1 ⟨_, rfl, ?_⟩
  exact ⟨rfl, hS.nl⟩

end Go.Proofs.Ytmlfpniaknmmfaa
