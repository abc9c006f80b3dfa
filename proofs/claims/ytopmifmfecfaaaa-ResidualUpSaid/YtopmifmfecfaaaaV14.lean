/- The walk of ResidualUp. -/
import Derived.Test.YtopmifmfecfaaaaGv
import Derived.Test.YtopmifmfecfaaaaV10
namespace Go.Proofs.Ytopmifmfecfaaaa
open Go Go.RowKit Go.Proofs.Gw
set_option linter.unusedVariables false

theorem cl_16 : calledT Try.prog 16 = true := by kernel_rfl
theorem cl_17 : calledT Try.prog 17 = true := by kernel_rfl
theorem cl_18 : calledT Try.prog 18 = true := by kernel_rfl
theorem cl_20 : calledT Try.prog 20 = true := by kernel_rfl
theorem cl_21 : calledT Try.prog 21 = true := by kernel_rfl
theorem cl_22 : calledT Try.prog 22 = true := by kernel_rfl
theorem cl_24 : calledT Try.prog 24 = true := by kernel_rfl
theorem cl_26 : calledT Try.prog 26 = true := by kernel_rfl
theorem cl_27 : calledT Try.prog 27 = true := by kernel_rfl
theorem cl_47 : calledT Try.prog 47 = true := by kernel_rfl
theorem cl_60 : calledT Try.prog 60 = true := by kernel_rfl
theorem cl_61 : calledT Try.prog 61 = true := by kernel_rfl
theorem cl_8 : calledT Try.prog 8 = true := by kernel_rfl
theorem el_58 : elemT Try.prog 58 = some (.agg #[.slice none 0 0, .slice none 0 0, .slice none 0 0, .int .i64 0, .int .i64 0], 5, 88) := by kernel_rfl
theorem fd_52_1 : fieldT Try.prog 52 1 = some 1 := by kernel_rfl
theorem st_54 : structT Try.prog 54 = some 5 := by kernel_rfl
set_option maxRecDepth 20000 in
theorem c_same34 {vV : Value} {n : Int} {pv : Int → Value} {ln : Int → Int} {pt : Int → Int → Int} {cnt : Int → Int} {vV2 : Value} {n2 : Int} {pv2 : Int → Value} {ln2 : Int → Int} {pt2 : Int → Int → Int} {cnt2 : Int → Int} (w0 : World) (hV : VAt w0 vV n pv ln pt cnt) (hV2 : VAt w0 vV2 n2 pv2 ln2 pt2 cnt2) (hnn : n ≤ 100000) :
    Calls Try.prog 26 [vV, vV2].toArray w0 fun e w => ∃ v, e = .returned v ∧ v = B (SameP n n2 ln ln2 pt pt2 cnt cnt2) ∧ Sat w0 w [] := by
  have hn5 := hnn
  refine zenG Try.func26 Try.ntmps26 fun w hS => ?_
  refine zsr ?_
  refine zlv xas ?_
  refine zlz ?_
  refine zlv xmv ?_
  refine zlc (xc0 cl_61) (c_theirs (n := n) (pv := pv) (ln := ln) (pt := pt) (cnt := cnt) w (hV.below hS.below) (by omega)) ?_; rintro vtth1 w ⟨_, rfl, hvtth1, hS'⟩
  replace hS : Sat w0 w [.own vtth1 2 34 n (ucells pv cnt)] := hS.comp hS'; clear hS'
  refine zlv xmv ?_
  refine zlc (xc0 cl_60) (c_splan (n := n) (pv := pv) (ln := ln) (pt := pt) (cnt := cnt) (n2 := n2) (pv2 := pv2) (ln2 := ln2) (pt2 := pt2) (cnt2 := cnt2) w (⟨(hS.rowN 0 rfl), fun k k0 k1 => (hV.p k k0 k1).below hS.below, hV.room⟩ : VAt _ vtth1 n pv ln pt cnt) (hV2.below hS.below)) ?_; rintro _ w ⟨rfl, hS'⟩
  replace hS := hS.cmp hS'; clear hS'
  refine zlv xas ?_
  refine zlt <| zrt <| zf1 ⟨_, rfl, ?_⟩
  exact ⟨rfl, hS.nl⟩

/-- Three uses of one bar each, written out. -/
theorem planEx {w : World} {v a b c : Value} {f g h : Int → Int} (hr : Row w v 2 3 (fun k => ([a, .int .i64 1, b, .int .i64 1, c, .int .i64 1] : List Value).getD k.toNat undef)) (ha : Row w a 1 2 (ints f)) (hb : Row w b 1 2 (ints g)) (hc : Row w c 1 2 (ints h)) (ra : Gw.Roomy a) (rb : Gw.Roomy b) (rc : Gw.Roomy c) :
    VAt w v 3 (fun k => [a, b, c].getD k.toNat undef) (fun _ => 2) (fun k => [f, g, h].getD k.toNat (fun _ => 0)) (fun _ => 1) := by
  have e : ∀ k : Int, 0 ≤ k → k < 3 → k = 0 ∨ k = 1 ∨ k = 2 := fun k k0 k1 => by omega
  refine ⟨⟨hr.1, fun k hk => ?_⟩, fun i i0 i1 => ?_, fun i i0 i1 => ?_⟩
  · have := hr.2 k hk
    rcases k with _ | _ | _ | _ | _ | _ | k
    · exact this
    · exact this
    · exact this
    · exact this
    · exact this
    · exact this
    · simp at hk; omega
  · rcases e i i0 i1 with rfl | rfl | rfl
    · exact ha
    · exact hb
    · exact hc
  · rcases e i i0 i1 with rfl | rfl | rfl
    · exact ra
    · exact rb
    · exact rc

set_option maxRecDepth 20000 in
theorem c_awake34  (w0 : World) :
    Calls Try.prog 17 [].toArray w0 fun e w => ∃ v, e = .returned v ∧ v = .bool true ∧ Sat w0 w [] := by
  refine zenG Try.func17 Try.ntmps17 fun w hS => ?_
  refine zsr ?_
  refine zlv xas ?_
  refine zlz ?_
  refine zla (xli (n := 2) (len := 2) (pv := [(0, .int .i64 5), (1, .int .i64 3)]) (cs := [.int .i64 5, .int .i64 3]) (c := ints (fun k => [5, 3].getD k.toNat 0)) sl_22 el_3 hS) ?_; rintro v1 w ⟨hS, hv1⟩
  replace hS := hS.n1
  refine zla (xli (n := 2) (len := 2) (pv := [(0, .int .i64 3), (1, .int .i64 4)]) (cs := [.int .i64 3, .int .i64 4]) (c := ints (fun k => [3, 4].getD k.toNat 0)) sl_22 el_3 hS) ?_; rintro v2 w ⟨hS, hv2⟩
  replace hS := hS.n2
  refine zlv (xany (v := .agg #[v1, v2, .int .i64 11, .int .i64 1]) (hr := by obtain ⟨_, _, _, _, rfl, _⟩ := hv1; obtain ⟨_, _, _, _, rfl, _⟩ := hv2; kernel_rfl)) ?_
  refine zlc (xc0 cl_18) (c_ffit (p := (⟨2, (fun k => [5, 3].getD k.toNat 0), 2, (fun k => [3, 4].getD k.toNat 0), 11, 1⟩ : Prob)) w (⟨(hS.rowN 0 rfl), (hS.rowN 1 rfl), (litb _ (by decide)), (litb _ (by decide)), (by (try dsimp only); omega), (by (try dsimp only); omega)⟩ : PAt _ _ _ (⟨2, (fun k => [5, 3].getD k.toNat 0), 2, (fun k => [3, 4].getD k.toNat 0), 11, 1⟩ : Prob))) ?_; rintro _ w ⟨vnff1, nnff1, pnff1, lnff1, gnff1, cnff1, enff1, rfl, hffff1, hfcff1, hfnff1, hvnff1, hS'⟩
  replace hS : Sat w0 w [.own v1 1 3 2 (ints (fun k => [5, 3].getD k.toNat 0)), .own v2 1 3 2 (ints (fun k => [3, 4].getD k.toNat 0)), .own vnff1 2 50 nnff1 (ucells pnff1 cnff1), .sem (Frame.rows 3 nnff1 pnff1 lnff1 gnff1)] := hS.comp hS'; clear hS'
  have hrnff1 := fun k (k0 : 0 ≤ k) (k1 : k < nnff1) => hS.slhIn 3 rfl k0 k1
  obtain ⟨he0, hl0⟩ := ffitEx hffff1
  refine zs5 ?_
  refine zlz ?_
  refine zs3 ?_
  refine zlb 12 ?_ ?_ <;> intro hc
  ·
   refine zlv xmv ?_
   refine zla (xli (n := 2) (len := 2) (pv := [(0, .int .i64 2), (1, .int .i64 0)]) (cs := [.int .i64 2, .int .i64 0]) (c := ints (fun k => [2, 0].getD k.toNat 0)) sl_22 el_3 hS) ?_; rintro v3 w ⟨hS, hv3⟩
   replace hS := hS.n5
   refine zlv (xany (v := .agg #[v3, .int .i64 1]) (hr := by obtain ⟨_, _, _, _, rfl, _⟩ := hv3; kernel_rfl)) ?_
   refine zla (xli (n := 2) (len := 2) (pv := [(0, .int .i64 1), (1, .int .i64 1)]) (cs := [.int .i64 1, .int .i64 1]) (c := ints (fun k => [1, 1].getD k.toNat 0)) sl_22 el_3 hS) ?_; rintro v4 w ⟨hS, hv4⟩
   replace hS := hS.n6
   refine zlv (xany (v := .agg #[v4, .int .i64 1]) (hr := by obtain ⟨_, _, _, _, rfl, _⟩ := hv4; kernel_rfl)) ?_
   refine zla (xli (n := 2) (len := 2) (pv := [(0, .int .i64 0), (1, .int .i64 3)]) (cs := [.int .i64 0, .int .i64 3]) (c := ints (fun k => [0, 3].getD k.toNat 0)) sl_22 el_3 hS) ?_; rintro v5 w ⟨hS, hv5⟩
   replace hS := hS.n7
   refine zlv (xany (v := .agg #[v5, .int .i64 1]) (hr := by obtain ⟨_, _, _, _, rfl, _⟩ := hv5; kernel_rfl)) ?_
   refine zla (xli (n := 3) (len := 3) (pv := [(0, .agg #[v3, .int .i64 1]), (1, .agg #[v4, .int .i64 1]), (2, .agg #[v5, .int .i64 1])]) (cs := [v3, .int .i64 1, v4, .int .i64 1, v5, .int .i64 1]) (c := fun k => ([(v3 : Value), (.int .i64 1 : Value), (v4 : Value), (.int .i64 1 : Value), (v5 : Value), (.int .i64 1 : Value)]).getD k.toNat undef) sl_25 el_34 hS (hf := by obtain ⟨_, _, _, _, rfl, _⟩ := hv3; obtain ⟨_, _, _, _, rfl, _⟩ := hv4; obtain ⟨_, _, _, _, rfl, _⟩ := hv5; kernel_rfl)) ?_; rintro v6 w ⟨hS, hv6⟩
   replace hS := hS.n8
   have hsm : SameP nnff1 3 lnff1 (fun _ => 2) gnff1 (fun k => [(fun k => [2, 0].getD k.toNat 0), (fun k => [1, 1].getD k.toNat 0), (fun k => [0, 3].getD k.toNat 0)].getD k.toNat (fun _ => 0)) cnff1 (fun _ => 1) := SameP.of_plL hvnff1.n0 (by omega) (fun k k0 k1 => (hrnff1 k k0 k1).n0) (fun _ _ _ => by omega) (hl0.trans (by decide +kernel))
   refine zlc (xc0 cl_26) (c_same34 (n := nnff1) (pv := pnff1) (ln := lnff1) (pt := gnff1) (cnt := cnff1) (n2 := 3) (ln2 := fun _ => 2) (pt2 := (fun k => [(fun k => [2, 0].getD k.toNat 0), (fun k => [1, 1].getD k.toNat 0), (fun k => [0, 3].getD k.toNat 0)].getD k.toNat (fun _ => 0))) (cnt2 := fun _ => 1) w (⟨(hS.rowN 2 rfl), fun k k0 k1 => hS.rowIn 3 rfl k0 k1, fun k k0 k1 => hS.roomIn 3 rfl k0 k1⟩ : VAt _ vnff1 nnff1 pnff1 lnff1 gnff1 cnff1) (planEx (hS.rowN 7 rfl) (hS.rowN 4 rfl) (hS.rowN 5 rfl) (hS.rowN 6 rfl) (Ent.holds.roomy (hS.holds _ (List.mem_of_getElem? (i := 4) rfl))) (Ent.holds.roomy (hS.holds _ (List.mem_of_getElem? (i := 5) rfl))) (Ent.holds.roomy (hS.holds _ (List.mem_of_getElem? (i := 6) rfl)))) (by omega)) ?_; rintro _ w ⟨rfl, hS'⟩
   replace hS := hS.cmp hS'; clear hS'
   refine zs2 ?_
   refine zlt <| zrt <| zf1 ⟨_, rfl, ?_⟩
   exact ⟨(true_B hsm).symm, hS.nl⟩
  iterate 9 refine zlo ?_
  refine zs2 ?_
  refine zlt <| zrt <| zf1 ⟨_, rfl, ?_⟩
  exfalso
  first | omega | exact absurd hsm ‹_›

set_option maxRecDepth 20000 in
theorem c_few34 {vL vD : Value} {p : Prob} {vM : Value} {u : Int} {mv : Int → Value} {ml : Int → Int} {mf : Int → Int → Int} {vX vY : Value} {s : So} (w0 : World) (h : PAt w0 vL vD p) (hM : MAt w0 vM u mv ml mf) (hX : Row w0 vX 1 s.n (ints s.X)) (hY : Row w0 vY 1 s.m (ints s.Y)) :
    Calls Try.prog 20 [.agg #[vL, vD, .int .i64 p.stock, .int .i64 p.kerf], .agg #[vM, vX, vY, .int .i64 s.val, .int .i64 s.den]].toArray w0 fun e w => ∃ v, e = .returned v ∧ v = B (Few28 p ∧ ((∀ k, 0 ≤ k → k < u → ml k ≤ 25) ∧ u ≤ 30) ∧ s.n ≤ 30 ∧ s.m ≤ 30) ∧ Sat w0 w [] := by
  have hm := h.L.slh.n0; have hm1 := h.L.slh.n1; have hd := h.D.slh.n0; have hd1 := h.D.slh.n1; have hs := h.is; have hk := h.ik
  have hu := hM.row.slh.n0; have hu1 := hM.row.slh.n1; have hn := hX.slh.n0; have hn1 := hX.slh.n1
  refine zenG Try.func20 Try.ntmps20 fun w hS => ?_
  refine zsr ?_
  refine zla (xbx (cs := [_, _, _, _]) hS) ?_; rintro _ w ⟨g1, rfl, hS⟩
  replace hS := hS.n1
  refine zla (xbx (cs := [_, _, _, _, _]) hS) ?_; rintro _ w ⟨g2, rfl, hS⟩
  replace hS := hS.n2
  refine zlv xas ?_
  refine zlz ?_
  refine zlv (xls 0 st_24 hS) ?_
  refine zlc (xc0 cl_8) (c_few28 (p := p) w (h.below hS.below)) ?_; rintro _ w ⟨rfl, hS'⟩
  replace hS := hS.cmp hS'; clear hS'
  refine zlv xmv ?_
  refine zlb 7 ?_ ?_ <;> intro hc
  ·
   refine zlv (xfb 0 fd_54_0) ?_
   refine zlv (xlb 1 pl_32 hS) ?_
   refine zlc (xc0 cl_47) (c_few30 (u := u) (ml := ml) w (hM.below hS.below)) ?_; rintro _ w ⟨rfl, hS'⟩
   replace hS := hS.cmp hS'; clear hS'
   refine zs2 ?_
   refine zlb 12 ?_ ?_ <;> intro hc
   ·
    refine zlv (xfb 1 fd_54_1) ?_
    refine zlv (xfb 1 fd_52_0) ?_
    refine zlv (xlb 1 pl_22 hS) ?_
    refine zlv (xln sl_22 hX.slh) ?_
    refine zs3 ?_
    refine zlb 19 ?_ ?_ <;> intro hc
    ·
     refine zlv (xfb 1 fd_54_1) ?_
     refine zlv (xfb 2 fd_52_1) ?_
     refine zlv (xlb 1 pl_22 hS) ?_
     refine zlv (xln sl_22 hY.slh) ?_
     refine zs3 ?_
     refine zlt <| zrt <| zf1 ⟨_, rfl, ?_⟩
     exact ⟨B_congr (by exact ⟨fun hx => ⟨by first | assumption | exact Classical.not_not.1 ‹_›, by first | assumption | exact Classical.not_not.1 ‹_›, by omega, hx⟩, fun hx => hx.2.2.2⟩), hS.nl⟩
    iterate 5 refine zlo ?_
    refine zs2 ?_
    refine zlt <| zrt <| zf1 ⟨_, rfl, ?_⟩
    exact ⟨false_B (by rintro ⟨q1, q2, q3, q4⟩; first | exact absurd q1 ‹_› | exact absurd q2 ‹_› | omega), hS.nl⟩
   iterate 5 refine zlo ?_
   refine zs2 ?_
   iterate 5 refine zlo ?_
   refine zs2 ?_
   refine zlt <| zrt <| zf1 ⟨_, rfl, ?_⟩
   exact ⟨false_B (by rintro ⟨q1, q2, q3, q4⟩; first | exact absurd q1 ‹_› | exact absurd q2 ‹_› | omega), hS.nl⟩
  iterate 3 refine zlo ?_
  refine zs2 ?_
  iterate 5 refine zlo ?_
  refine zs2 ?_
  iterate 5 refine zlo ?_
  refine zs2 ?_
  refine zlt <| zrt <| zf1 ⟨_, rfl, ?_⟩
  exact ⟨false_B (by rintro ⟨q1, q2, q3, q4⟩; first | exact absurd q1 ‹_› | exact absurd q2 ‹_› | omega), hS.nl⟩

set_option maxRecDepth 20000 in
theorem c_own34  {vM : Value} {u : Int} {mv : Int → Value} {ml : Int → Int} {mf : Int → Int → Int} {vX vY : Value} {s : So} (w0 : World)  (hM : MAt w0 vM u mv ml mf) (hX : Row w0 vX 1 s.n (ints s.X)) (hY : Row w0 vY 1 s.m (ints s.Y)) :
    Calls Try.prog 22 [.agg #[vM, vX, vY, .int .i64 s.val, .int .i64 s.den]].toArray w0 fun e w => ∃ v, e = .returned v ∧ v = .agg #[vM, vX, vY, .int .i64 s.val, .int .i64 s.den] ∧ Sat w0 w [] := by
  refine zenG Try.func22 Try.ntmps22 fun w hS => ?_
  refine zsr ?_
  refine zla (xbx (cs := [_, _, _, _, _]) hS) ?_; rintro _ w ⟨g1, rfl, hS⟩
  replace hS := hS.n1
  refine zla (xal (cs := [_, _, _, _, _]) el_58 hS) ?_; rintro _ w ⟨g2, rfl, hS⟩
  replace hS := hS.n2
  refine zlz ?_
  refine zlv (xfb 0 fd_54_0) ?_
  refine zlv (xlb 0 pl_32 hS) ?_
  refine zlv (xfb 1 fd_54_1) ?_
  refine zlv (xlp 0 (ds := [vX, vY, .int .i64 s.val, .int .i64 s.den]) st_52 hS) ?_
  refine zlv (xany (v := .agg #[vM, vX, vY, .int .i64 s.val, .int .i64 s.den]) (hr := by obtain ⟨_, _, _, _, rfl, _⟩ := hM.row.slh; obtain ⟨_, _, _, _, rfl, _⟩ := hX.slh; obtain ⟨_, _, _, _, rfl, _⟩ := hY.slh; kernel_rfl)) ?_
  refine zle (xsw 1 st_58 hS (hd := (ones_cons hM.row.slh.one (ones_cons hX.slh.one (ones_cons hY.slh.one (ones_cons rfl (ones_cons rfl ones_nil))))))) ?_; clear hS; rintro w hS
  replace hS := hS.n2
  refine zlt <| zrt <| zfc 1 st_58 hS ⟨_, rfl, ?_⟩
  exact ⟨rfl, hS.nl⟩

set_option maxHeartbeats 4000000 in
set_option maxRecDepth 20000 in
theorem law_up {vL vD : Value} {p : Prob} {vM : Value} {u : Int} {mv : Int → Value} {ml : Int → Int} {mf : Int → Int → Int} {vX vY : Value} {s : So} (w0 : World) (h : PAt w0 vL vD p) (hM : MAt w0 vM u mv ml mf) (hX : Row w0 vX 1 s.n (ints s.X)) (hY : Row w0 vY 1 s.m (ints s.Y)) :
    Calls Try.prog 6 [.agg #[vL, vD, .int .i64 p.stock, .int .i64 p.kerf], .agg #[vM, vX, vY, .int .i64 s.val, .int .i64 s.den]].toArray w0 fun e w => ∃ v, e = .returned v ∧ v = .bool true ∧ Sat w0 w [] := by
  have hm := h.L.slh.n0; have hm1 := h.L.slh.n1; have hd := h.D.slh.n0; have hd1 := h.D.slh.n1; have hs := h.is; have hk := h.ik
  have hu := hM.row.slh.n0; have hu1 := hM.row.slh.n1; have hn := hX.slh.n0; have hn1 := hX.slh.n1
  refine zenG Try.func6 Try.ntmps6 fun w hS => ?_
  refine zsr ?_
  refine zla (xbx (cs := [_, _, _, _]) hS) ?_; rintro _ w ⟨g1, rfl, hS⟩
  replace hS := hS.n1
  refine zla (xbx (cs := [_, _, _, _, _]) hS) ?_; rintro _ w ⟨g2, rfl, hS⟩
  replace hS := hS.n2
  refine zlv xas ?_
  refine zlt <| zsq <| zsr ?_
  refine zlc (xc0 cl_17) (c_awake34 w) ?_; rintro _ w ⟨rfl, hS'⟩
  replace hS := hS.cmp hS'; clear hS'
  refine zs2 ?_
  refine zlv (xls 0 st_24 hS) ?_
  refine zlv (xls 1 st_54 hS) ?_
  refine zlc (xc0 cl_20) (c_few34 (p := p) (u := u) (ml := ml) (mf := mf) (s := s) w (h.below hS.below) (hM.below hS.below) (hX.below hS.below) (hY.below hS.below)) ?_; rintro _ w ⟨rfl, hS'⟩
  replace hS := hS.cmp hS'; clear hS'
  refine zs3 ?_
  refine zlb 21 ?_ ?_ <;> intro hc
  ·
   iterate 4 refine zlo ?_
   refine zlv xpt ?_
   refine zlt <| zct <| zsr ?_
   refine zlc (xc0 cl_17) (c_awake34 w) ?_; rintro _ w ⟨rfl, hS'⟩
   replace hS := hS.cmp hS'; clear hS'
   refine zlv xas ?_
   refine zlt <| zrt <| ztr <| zf1 ⟨_, rfl, ?_⟩
   exact ⟨rfl, hS.nl⟩
  refine zlv (xls 0 st_24 hS) ?_
  refine zlv (xls 1 st_54 hS) ?_
  have hn60 : s.n ≤ 1000 := by
    have h9 : Few28 p ∧ ((∀ k, 0 ≤ k → k < u → ml k ≤ 25) ∧ u ≤ 30) ∧ s.n ≤ 30 ∧ s.m ≤ 30 := by first | assumption | exact Classical.not_not.1 ‹_›
    have := h9.2.2.1; omega
  refine zlc (xc0 cl_27) (c_rfit34 (p := p) (u := u) (ml := ml) (mf := mf) (s := s) w (h.below hS.below) (hM.below hS.below) (hX.below hS.below) (hY.below hS.below) hn60) ?_; rintro _ w ⟨rfl, hS'⟩
  replace hS := hS.cmp hS'; clear hS'
  refine zs2 ?_
  refine zlt ?_
  refine zcif ?_ ?_ <;> intro hc
  ·
   refine zsr ?_
   refine zlc (xc0 cl_17) (c_awake34 w) ?_; rintro _ w ⟨rfl, hS'⟩
   replace hS := hS.cmp hS'; clear hS'
   refine zlv xas ?_
   refine zlt <| zrt <| ztr <| zf1 ⟨_, rfl, ?_⟩
   exact ⟨rfl, hS.nl⟩
  refine zsk <| ztn <| zsr ?_
  refine zs2 ?_
  refine zlt <| zsq <| zsr ?_
  refine zlv (xfb 1 fd_54_1) ?_
  refine zlv (xfb 1 fd_52_0) ?_
  refine zlv (xlb 1 pl_22 hS) ?_
  refine zlv (xln sl_22 hX.slh) ?_
  refine zlv xmv ?_
  refine zlt <| zbk ?_
  have hfew : Few28 p ∧ ((∀ k, 0 ≤ k → k < u → ml k ≤ 25) ∧ u ≤ 30) ∧ s.n ≤ 30 ∧ s.m ≤ 30 := by first | assumption | exact Classical.not_not.1 ‹_›
  have hpf : p.Ok ∧ FitR p u ml mf s := by first | assumption | exact Classical.not_not.1 ‹_›
  obtain ⟨hokp, hfitt⟩ := hpf
  obtain ⟨hf28, hf30, hf9, hf8⟩ := hfew
  obtain ⟨⟨d1, d2⟩, ⟨d3, d4⟩, d5⟩ := hfitt.1
  have hun := hfitt.2.1
  refine zlp (fun mm M w => ∃ (wh : Int) (pt : Int) (i : Int), mm = ((s.n - i).toNat) ∧ (0 ≤ i) ∧ (i ≤ s.n) ∧ (wh = psum (fun _ => 1) (fun q => (s.X q).tdiv s.den) i.toNat) ∧ (pt = frN s i.toNat) ∧ (0 ≤ wh ∧ wh ≤ 1000 * i ∧ 0 ≤ pt ∧ pt ≤ i) ∧ M = [(2, .pointer (some ⟨g1, 0, none⟩)), (3, .pointer (some ⟨g2, 0, none⟩)), (4, .bool false), (5, .int .i64 wh), (6, .int .i64 pt), (30, vX), (31, .int .i64 s.n), (32, .int .i64 i)] ∧ Sat w0 w [.blk g1 [vL, vD, .int .i64 p.stock, .int .i64 p.kerf], .blk g2 [vM, vX, vY, .int .i64 s.val, .int .i64 s.den]]) ⟨0, 0, 0, rfl, (by omega), (by omega), ?_, ?_, (by omega), rfl, hS⟩ ?_
  ·
   rfl
  ·
   rfl
  clear hS w
  rintro mm M w ⟨wh, pt, i, rfl, hi0, hi1, hwh, hpt, hrg, rfl, hS⟩
  refine zsr ?_
  refine zlv xlss ?_
  refine zlt <| zsq ?_
  refine zcif ?_ ?_ <;> intro hc
  ·
   refine zsk <| ztn <| zsq <| zbk <| zsr ?_
   refine zlv (xix (kk := i) sl_22 hX.slh) ?_
   refine zlv (xlr (u := .int .i64 (s.X i)) pl_3 (hX.below hS.below)) ?_
   have hXi := d5 i hi0 (by omega)
   have hti := tmod_rng hXi.1 d1
   have hqi := (hfitt.2.2.2.1 i hi0 (by omega)).2
   have hqd := tdiv_abs (a := s.X i) (d := s.den) (A := 1073741824) (by omega) (by omega)
   have hq0 : 0 ≤ (s.X i).tdiv s.den := Int.tdiv_nonneg hXi.1 (by omega)
   refine zlv xas ?_
   refine zlz ?_
   refine zs2 ?_
   refine zlv (xfb 1 fd_54_1) ?_
   refine zlv (xfb 4 fd_52_3) ?_
   refine zlv (xlb 1 pl_3 hS) ?_
   refine zlv (xquo (r := (Int.tdiv (s.X i) s.den))) ?_
   refine zlv (xadd (r := wh + (Int.tdiv (s.X i) s.den))) ?_
   refine zlv xas ?_
   refine zlz ?_
   refine zlv xmv ?_
   refine zlv (xfb 1 fd_54_1) ?_
   refine zlv (xfb 4 fd_52_3) ?_
   refine zlv (xlb 1 pl_3 hS) ?_
   refine zlv (xrem (r := (Int.tmod (s.X i) s.den))) ?_
   refine zlv xneq ?_
   refine zlt ?_
   refine zcif ?_ ?_ <;> intro hc
   ·
    refine zrg ?_
    refine zlv xmv ?_
    refine zlv (xadd (r := pt + 1)) ?_
    refine zlv xas ?_
    refine zln <| zbn <| ztn <| zrg ?_
    refine zlv (xadd (r := i + 1)) ?_
    refine zlv xmv ?_
    refine zln <| zlq ⟨wh + (Int.tdiv (s.X i) s.den), pt + 1, i + 1, rfl, (by omega), (by omega), ?_, ?_, (by omega), rfl, hS⟩
    ·
     rw [psum_next _ _ hi0, ← hwh]; omega
    ·
     rw [frN_next s hi0, ← hpt]; first | rw [if_pos (by omega)] | rw [if_neg (by omega)]
   refine zsk <| zbn <| ztn <| zrg ?_
   refine zlv (xadd (r := i + 1)) ?_
   refine zlv xmv ?_
   refine zln <| zlq ⟨wh + (Int.tdiv (s.X i) s.den), pt, i + 1, rfl, (by omega), (by omega), ?_, ?_, (by omega), rfl, hS⟩
   ·
    rw [psum_next _ _ hi0, ← hwh]; omega
   ·
    rw [frN_next s hi0, ← hpt]; first | rw [if_pos (by omega)] | rw [if_neg (by omega)]
  refine zxt <| ztx <| ztx <| zbh <| ztn <| zsq ?_
  refine zdst [0, 1] [0, 1] 1000 mx_ hS ?_; clear hS; intro w hS
  refine zdla 0 (fun w hS => (xls 0 st_24 hS)) ?_
  refine zdla 1 (fun w hS => (xls 1 st_54 hS)) ?_
  refine zdc 2 (xc0 cl_22) (c_own34 (u := u) (ml := ml) (mf := mf) (s := s) w (hM.below hS.below) (hX.below hS.below) (hY.below hS.below)) ?_; rintro _ w ⟨rfl, hS'⟩
  replace hS := hS.cmp hS'; clear hS'
  refine ⟨⟨fun _ => hS, hS⟩, ?_⟩
  refine zdc 3 (xc0 cl_21) (c_down (p := p) (u := u) (ml := ml) (mf := mf) (s := s) w (h.below hS.below) (hM.below hS.below) (hX.below hS.below) (hY.below hS.below) (by omega)) ?_; rintro _ w ⟨vndw1, nndw1, pndw1, lndw1, gndw1, cndw1, endw1, rfl, hdw1, hcdw1, hndw1, hvndw1, hS'⟩
  replace hS : Sat w0 w [.blk g1 [vL, vD, .int .i64 p.stock, .int .i64 p.kerf], .blk g2 [vM, vX, vY, .int .i64 s.val, .int .i64 s.den], .own vndw1 2 50 nndw1 (ucells pndw1 cndw1), .sem (Frame.rows 3 nndw1 pndw1 lndw1 gndw1)] := hS.comp hS'; clear hS'
  have hrndw1 := fun k (k0 : 0 ≤ k) (k1 : k < nndw1) => hS.slhIn 3 rfl k0 k1
  refine ⟨⟨fun _ => hS.pk [0, 1], hS.pk [0, 1]⟩, ?_⟩
  refine zdv 4 (fun _ => xmv) ?_
  refine zdv 5 (fun _ => xex) ?_
  refine zdv 6 (fun _ => xex) ?_
  refine zdv 7 (fun _ => xas) ?_
  refine zdv 8 (fun _ => xas) ?_
  refine zdd <| ztn <| zsq ?_
  refine zdst [0, 1, 2, 3] [0, 1, 2, 3] 1000 mx_ hS ?_; clear hS; intro w hS
  refine zdla 0 (fun w hS => (xls 0 st_24 hS)) ?_
  refine zdla 1 (fun w hS => (xls 1 st_54 hS)) ?_
  refine zdc 2 (xc0 cl_22) (c_own34 (u := u) (ml := ml) (mf := mf) (s := s) w (hM.below hS.below) (hX.below hS.below) (hY.below hS.below)) ?_; rintro _ w ⟨rfl, hS'⟩
  replace hS := hS.cmp hS'; clear hS'
  refine ⟨⟨fun _ => hS, hS⟩, ?_⟩
  refine zdc 3 (xc0 cl_24) (c_up (p := p) (u := u) (ml := ml) (mf := mf) (s := s) w (h.below hS.below) (hM.below hS.below) (hX.below hS.below) (hY.below hS.below) (by omega)) ?_; rintro _ w ⟨vnup1, nnup1, pnup1, lnup1, gnup1, cnup1, enup1, rfl, hup1, hcup1, hnup1, hvnup1, hS'⟩
  replace hS : Sat w0 w [.blk g1 [vL, vD, .int .i64 p.stock, .int .i64 p.kerf], .blk g2 [vM, vX, vY, .int .i64 s.val, .int .i64 s.den], .own vndw1 2 50 nndw1 (ucells pndw1 cndw1), .sem (Frame.rows 3 nndw1 pndw1 lndw1 gndw1), .own vnup1 2 50 nnup1 (ucells pnup1 cnup1), .sem (Frame.rows 3 nnup1 pnup1 lnup1 gnup1)] := hS.comp hS'; clear hS'
  have hrnup1 := fun k (k0 : 0 ≤ k) (k1 : k < nnup1) => hS.slhIn 5 rfl k0 k1
  refine ⟨⟨fun _ => hS.pk [0, 1, 2, 3], hS.pk [0, 1, 2, 3]⟩, ?_⟩
  refine zdv 4 (fun _ => xmv) ?_
  refine zdv 5 (fun _ => xex) ?_
  refine zdv 6 (fun _ => xex) ?_
  refine zdv 7 (fun _ => xas) ?_
  refine zdv 8 (fun _ => xas) ?_
  refine zdd <| ztn <| zsr ?_
  refine zlv xmv ?_
  have hiN : i = u := by omega
  rw [hiN] at hwh hpt
  obtain ⟨z1, z2⟩ := down_law hokp hf28 hfitt hu hdw1
  obtain ⟨z3, z4⟩ := up_law hokp hf28 hfitt hu hup1
  have z5 := wsum_plL' (fun _ => 1) (ln := lndw1) (pt := gndw1) (cnt := cndw1) hvndw1.n0
  have z6 := wsum_plL' (fun _ => 1) (ln := lnup1) (pt := gnup1) (cnt := cnup1) hvnup1.n0
  rw [z5, ← hwh, ← hpt] at z2
  rw [z6, ← hwh, ← hpt] at z4
  refine zs2 ?_
  refine zlb 68 ?_ ?_ <;> intro hc
  ·
   refine zs4 ?_
   refine zlb 72 ?_ ?_ <;> intro hc
   ·
    refine zlv xmv ?_
    obtain ⟨z7, z8⟩ := plan_cnt (fun k k0 k1 => (hcup1 k k0 k1).1) (by rw [z6]; exact z4)
    refine zlc (xc0 cl_16) (c_pbars (u := nnup1) (pv := pnup1) (ln := lnup1) (pt := gnup1) (cnt := cnup1) w (⟨(hS.rowN 4 rfl), fun k k0 k1 => hS.rowIn 5 rfl k0 k1, fun k k0 k1 => hS.roomIn 5 rfl k0 k1⟩ : VAt _ vnup1 nnup1 pnup1 lnup1 gnup1 cnup1) (by omega) (fun k k0 k1 => by have h8 := z8 k k0 k1; first | (have := hcdw1 k k0 k1; omega) | (have := hcup1 k k0 k1; omega))) ?_; rintro _ w ⟨rfl, hS'⟩
    replace hS := hS.cmp hS'; clear hS'
    refine zs2 ?_
    refine zlv (xadd (r := wh + pt)) ?_
    refine zs3 ?_
    refine zlb 80 ?_ ?_ <;> intro hc
    ·
     refine zs3 ?_
     refine zlb 83 ?_ ?_ <;> intro hc
     ·
      iterate 4 refine zlo ?_
      refine zs3 ?_
      refine zlt <| zrt <| zf1 ⟨_, rfl, ?_⟩
      exact ⟨rfl, hS.nl⟩
     refine zlv xmv ?_
     obtain ⟨z7, z8⟩ := plan_cnt (fun k k0 k1 => (hcdw1 k k0 k1).1) (by rw [z5]; exact z2 (by omega))
     refine zlc (xc0 cl_16) (c_pbars (u := nndw1) (pv := pndw1) (ln := lndw1) (pt := gndw1) (cnt := cndw1) w (⟨(hS.rowN 2 rfl), fun k k0 k1 => hS.rowIn 3 rfl k0 k1, fun k k0 k1 => hS.roomIn 3 rfl k0 k1⟩ : VAt _ vndw1 nndw1 pndw1 lndw1 gndw1 cndw1) (by omega) (fun k k0 k1 => by have h8 := z8 k k0 k1; first | (have := hcdw1 k k0 k1; omega) | (have := hcup1 k k0 k1; omega))) ?_; rintro _ w ⟨rfl, hS'⟩
     replace hS := hS.cmp hS'; clear hS'
     refine zs5 ?_
     refine zlt <| zrt <| zf1 ⟨_, rfl, ?_⟩
     exact ⟨(true_B (by omega)).symm, hS.nl⟩
    iterate 8 refine zlo ?_
    refine zs2 ?_
    refine zlt <| zrt <| zf1 ⟨_, rfl, ?_⟩
    exfalso
    omega
   iterate 6 refine zlo ?_
   refine zs2 ?_
   iterate 8 refine zlo ?_
   refine zs2 ?_
   refine zlt <| zrt <| zf1 ⟨_, rfl, ?_⟩
   exfalso
   omega
  iterate 2 refine zlo ?_
  refine zs2 ?_
  iterate 6 refine zlo ?_
  refine zs2 ?_
  iterate 8 refine zlo ?_
  refine zs2 ?_
  refine zlt <| zrt <| zf1 ⟨_, rfl, ?_⟩
  exfalso
  omega

end Go.Proofs.Ytopmifmfecfaaaa
