/- The walk of awake, of the statements. -/
import Derived.Test.YtopmifmfecfaaaaGv
import Derived.Test.YtopmifmfecfaaaaR7
namespace Go.Proofs.Ytopmifmfecfaaaa
open Go Go.RowKit Go.Proofs.Gw
set_option linter.unusedVariables false

theorem cl_18 : calledT Try.prog 18 = true := by kernel_rfl
theorem cl_26 : calledT Try.prog 26 = true := by kernel_rfl
/-- Three uses of one bar each, written out. -/
theorem planEx {w : World} {v a b c : Value} {f g h : Int → Int} (hr : Row w v 2 3 (fun k => ([a, .int .i64 1, b, .int .i64 1, c, .int .i64 1] : List Value).getD k.toNat undef)) (ha : Row w a 1 2 (ints f)) (hb : Row w b 1 2 (ints g)) (hc : Row w c 1 2 (ints h)) (ra : Gw.Roomy a) (rb : Gw.Roomy b) (rc : Gw.Roomy c) :
    VAt w v 3 (fun k => [a, b, c].getD k.toNat undef) (fun _ => 2) (fun k => [f, g, h].getD k.toNat (fun _ => 0)) (fun _ => 1) := by
  have e : ∀ k : Int, 0 ≤ k → k < 3 → k = 0 ∨ k = 1 ∨ k = 2 := fun k k0 k1 => by omega
  refine ⟨⟨hr.1, fun k hk => ?_⟩, fun i i0 i1 => ?_, fun i i0 i1 => ?_⟩
  · have := hr.2 k hk
    rcases k with _ | _ | _ | _ | _ | _ | k
    · exact this
    · exact this
    · exact this
    · exact this
    · exact this
    · exact this
    · simp at hk; omega
  · rcases e i i0 i1 with rfl | rfl | rfl
    · exact ha
    · exact hb
    · exact hc
  · rcases e i i0 i1 with rfl | rfl | rfl
    · exact ra
    · exact rb
    · exact rc

set_option maxRecDepth 20000 in
theorem c_awake34  (w0 : World) :
    Calls Try.prog 17 [].toArray w0 fun e w => ∃ v, e = .returned v ∧ v = .bool true ∧ Sat w0 w [] := by
  refine zenG Try.func17 Try.ntmps17 fun w hS => ?_
  refine zsr ?_
  refine zlv xas ?_
  refine zlz ?_
  refine zla (xli (n := 2) (len := 2) (pv := [(0, .int .i64 5), (1, .int .i64 3)]) (cs := [.int .i64 5, .int .i64 3]) (c := ints (fun k => [5, 3].getD k.toNat 0)) sl_22 el_3 hS) ?_; rintro v1 w ⟨hS, hv1⟩
  replace hS := hS.n1
  refine zla (xli (n := 2) (len := 2) (pv := [(0, .int .i64 3), (1, .int .i64 4)]) (cs := [.int .i64 3, .int .i64 4]) (c := ints (fun k => [3, 4].getD k.toNat 0)) sl_22 el_3 hS) ?_; rintro v2 w ⟨hS, hv2⟩
  replace hS := hS.n2
  refine zlv (xany (v := .agg #[v1, v2, .int .i64 11, .int .i64 1]) (hr := by obtain ⟨_, _, _, _, rfl, _⟩ := hv1; obtain ⟨_, _, _, _, rfl, _⟩ := hv2; kernel_rfl)) ?_
  refine zlc (xc0 cl_18) (c_ffit (p := (⟨2, (fun k => [5, 3].getD k.toNat 0), 2, (fun k => [3, 4].getD k.toNat 0), 11, 1⟩ : Prob)) w (⟨(hS.rowN 0 rfl), (hS.rowN 1 rfl), (litb _ (by decide)), (litb _ (by decide)), (by (try dsimp only); omega), (by (try dsimp only); omega)⟩ : PAt _ _ _ (⟨2, (fun k => [5, 3].getD k.toNat 0), 2, (fun k => [3, 4].getD k.toNat 0), 11, 1⟩ : Prob))) ?_; rintro _ w ⟨vnff1, nnff1, pnff1, lnff1, gnff1, cnff1, enff1, rfl, hffff1, hfcff1, hfnff1, hvnff1, hS'⟩
  replace hS : Sat w0 w [.own v1 1 3 2 (ints (fun k => [5, 3].getD k.toNat 0)), .own v2 1 3 2 (ints (fun k => [3, 4].getD k.toNat 0)), .own vnff1 2 50 nnff1 (ucells pnff1 cnff1), .sem (Frame.rows 3 nnff1 pnff1 lnff1 gnff1)] := hS.comp hS'; clear hS'
  have hrnff1 := fun k (k0 : 0 ≤ k) (k1 : k < nnff1) => hS.slhIn 3 rfl k0 k1
  obtain ⟨he0, hl0⟩ := ffitEx hffff1
  refine zs5 ?_
  refine zlz ?_
  refine zs3 ?_
  refine zlb 12 ?_ ?_ <;> intro hc
  ·
   refine zlv xmv ?_
   refine zla (xli (n := 2) (len := 2) (pv := [(0, .int .i64 2), (1, .int .i64 0)]) (cs := [.int .i64 2, .int .i64 0]) (c := ints (fun k => [2, 0].getD k.toNat 0)) sl_22 el_3 hS) ?_; rintro v3 w ⟨hS, hv3⟩
   replace hS := hS.n5
   refine zlv (xany (v := .agg #[v3, .int .i64 1]) (hr := by obtain ⟨_, _, _, _, rfl, _⟩ := hv3; kernel_rfl)) ?_
   refine zla (xli (n := 2) (len := 2) (pv := [(0, .int .i64 1), (1, .int .i64 1)]) (cs := [.int .i64 1, .int .i64 1]) (c := ints (fun k => [1, 1].getD k.toNat 0)) sl_22 el_3 hS) ?_; rintro v4 w ⟨hS, hv4⟩
   replace hS := hS.n6
   refine zlv (xany (v := .agg #[v4, .int .i64 1]) (hr := by obtain ⟨_, _, _, _, rfl, _⟩ := hv4; kernel_rfl)) ?_
   refine zla (xli (n := 2) (len := 2) (pv := [(0, .int .i64 0), (1, .int .i64 3)]) (cs := [.int .i64 0, .int .i64 3]) (c := ints (fun k => [0, 3].getD k.toNat 0)) sl_22 el_3 hS) ?_; rintro v5 w ⟨hS, hv5⟩
   replace hS := hS.n7
   refine zlv (xany (v := .agg #[v5, .int .i64 1]) (hr := by obtain ⟨_, _, _, _, rfl, _⟩ := hv5; kernel_rfl)) ?_
   refine zla (xli (n := 3) (len := 3) (pv := [(0, .agg #[v3, .int .i64 1]), (1, .agg #[v4, .int .i64 1]), (2, .agg #[v5, .int .i64 1])]) (cs := [v3, .int .i64 1, v4, .int .i64 1, v5, .int .i64 1]) (c := fun k => ([(v3 : Value), (.int .i64 1 : Value), (v4 : Value), (.int .i64 1 : Value), (v5 : Value), (.int .i64 1 : Value)]).getD k.toNat undef) sl_25 el_34 hS (hf := by obtain ⟨_, _, _, _, rfl, _⟩ := hv3; obtain ⟨_, _, _, _, rfl, _⟩ := hv4; obtain ⟨_, _, _, _, rfl, _⟩ := hv5; kernel_rfl)) ?_; rintro v6 w ⟨hS, hv6⟩
   replace hS := hS.n8
   have hsm : SameP nnff1 3 lnff1 (fun _ => 2) gnff1 (fun k => [(fun k => [2, 0].getD k.toNat 0), (fun k => [1, 1].getD k.toNat 0), (fun k => [0, 3].getD k.toNat 0)].getD k.toNat (fun _ => 0)) cnff1 (fun _ => 1) := SameP.of_plL hvnff1.n0 (by omega) (fun k k0 k1 => (hrnff1 k k0 k1).n0) (fun _ _ _ => by omega) (hl0.trans (by decide +kernel))
   refine zlc (xc0 cl_26) (c_same34 (n := nnff1) (pv := pnff1) (ln := lnff1) (pt := gnff1) (cnt := cnff1) (n2 := 3) (ln2 := fun _ => 2) (pt2 := (fun k => [(fun k => [2, 0].getD k.toNat 0), (fun k => [1, 1].getD k.toNat 0), (fun k => [0, 3].getD k.toNat 0)].getD k.toNat (fun _ => 0))) (cnt2 := fun _ => 1) w (⟨(hS.rowN 2 rfl), fun k k0 k1 => hS.rowIn 3 rfl k0 k1, fun k k0 k1 => hS.roomIn 3 rfl k0 k1⟩ : VAt _ vnff1 nnff1 pnff1 lnff1 gnff1 cnff1) (planEx (hS.rowN 7 rfl) (hS.rowN 4 rfl) (hS.rowN 5 rfl) (hS.rowN 6 rfl) (Ent.holds.roomy (hS.holds _ (List.mem_of_getElem? (i := 4) rfl))) (Ent.holds.roomy (hS.holds _ (List.mem_of_getElem? (i := 5) rfl))) (Ent.holds.roomy (hS.holds _ (List.mem_of_getElem? (i := 6) rfl)))) (by omega)) ?_; rintro _ w ⟨rfl, hS'⟩
   replace hS := hS.cmp hS'; clear hS'
   refine zs2 ?_
   refine zlt <| zrt <| zf1 ⟨_, rfl, ?_⟩
   exact ⟨(true_B hsm).symm, hS.nl⟩
  iterate 9 refine zlo ?_
  refine zs2 ?_
  refine zlt <| zrt <| zf1 ⟨_, rfl, ?_⟩
  exfalso
  first | omega | exact absurd hsm ‹_›

end Go.Proofs.Ytopmifmfecfaaaa
