/- The walk of awake, of the statements of layer 30. -/
import Derived.Test.YtdlojjhknmmmlaaGv
import Derived.Test.YtdlojjhknmmmlaaM12
import Derived.Test.YtdlojjhknmmmlaaFw
import Derived.Laws.StructEq
namespace Go.Proofs.Ytdlojjhknmmmlaa
open Go Go.RowKit Go.Proofs.Gw
set_option linter.unusedVariables false

theorem cl_24 : calledT Try.prog 24 = true := by kernel_rfl
theorem cl_25 : calledT Try.prog 25 = true := by kernel_rfl
theorem cl_26 : calledT Try.prog 26 = true := by kernel_rfl
theorem cl_41 : calledT Try.prog 41 = true := by kernel_rfl
theorem el_36 : elemT Try.prog 36 = some (.agg #[.slice none 0 0, .slice none 0 0, .int .i64 0, .int .i64 0], 4, 64) := by kernel_rfl
def pMx : Prob := ⟨2, fun k => [5, 3].getD k.toNat 0, 2, fun k => [2, 3].getD k.toNat 0, 11, 1⟩
theorem okMx : pMx.Ok := ⟨by decide, by decide, rfl, by decide, by decide, by decide, by decide, bnd (P := fun i => pMx.each i) (by unfold Prob.each; decide)⟩
def nMx : Int := stN pMx 2
theorem prMx : PropL pMx (stN pMx 2) (stL pMx 2) (stG pMx 2) := ⟨okMx, by
  have h2 : stN pMx 2 = 2 := by decide +kernel
  intro k k0 k1
  have : k = 0 ∨ k = 1 := by omega
  rcases this with rfl | rfl
  · exact ⟨⟨okMx, by decide +kernel, bnd (by decide +kernel), by decide +kernel⟩, bnd (by decide +kernel)⟩
  · exact ⟨⟨okMx, by decide +kernel, bnd (by decide +kernel), by decide +kernel⟩, bnd (by decide +kernel)⟩⟩
def lMx : Lp := lpOf pMx (stN pMx 2) (stG pMx 2)
def tMx1 : Tb := piv (startT lMx) 0 0
def tMx2 : Tb := piv tMx1 1 1
theorem okLMx : LOk lMx := ⟨by decide +kernel, by decide +kernel, by decide +kernel, rfl, bnd (by decide +kernel), bnd (by decide +kernel), fun i i0 i1 => by
  have : i = 0 ∨ i = 1 := by have : lMx.m = 2 := rfl; omega
  rcases this with rfl | rfl
  · exact ⟨rfl, bnd (by decide +kernel)⟩
  · exact ⟨rfl, bnd (by decide +kernel)⟩⟩
theorem runMx : Run 1000 (startT lMx) tMx2 0 :=
  .go (next_of (r := 0) (c := 0) (by decide +kernel) (by decide +kernel) (by decide +kernel) (by decide) (by decide)) (piv_of (by decide +kernel))
    (.go (next_of (r := 1) (c := 1) (by decide +kernel) (by decide +kernel) (by decide +kernel) (by decide) (by decide)) (piv_of (by decide +kernel))
      (.stop (stop_of (by decide +kernel) (by decide +kernel)) (.inl rfl)))
theorem solMx {s : So} {e : Int} (h : MSolveR pMx (stN pMx 2) (stL pMx 2) (stG pMx 2) s e) : e = 0 ∧ s = readS tMx2 := by
  have h2 : stN pMx 2 = 2 := by decide +kernel
  rcases h with ⟨h, _⟩ | ⟨_, h, _⟩ | ⟨_, _, _, h, _⟩ | ⟨_, _, _, h, _⟩ | ⟨_, _, _, _, h⟩
  · exact absurd prMx h
  · have : pMx.m = 2 := rfl; omega
  · omega
  · omega
  · obtain ⟨h1, h2⟩ := SolveR.same h (.inr ⟨okLMx, tMx2, runMx, .inr ⟨rfl, rfl⟩⟩)
    exact ⟨h2, h1⟩
theorem valMx {x y e : Int} (h : ValR (readS tMx2) x y e) : e = 0 ∧ x = 2 ∧ y = 1 := by
  have hs : SoundS (readS tMx2) := ⟨by decide +kernel, by decide +kernel, bnd (by decide +kernel)⟩
  rcases h with ⟨h, _⟩ | ⟨_, h1, h2, h3⟩
  · exact absurd hs h
  · exact ⟨h3, h1.trans (by decide +kernel), h2.trans (by decide +kernel)⟩
theorem sameMx : SameL (stN pMx 2) 2 (stL pMx 2) (pair2 2 2) (stG pMx 2) (pair2 (fun k => [2, 0].getD k.toNat 0) (fun k => [0, 3].getD k.toNat 0)) := ⟨by decide +kernel, by
  have h2 : stN pMx 2 = 2 := by decide +kernel
  intro k k0 k1
  have : k = 0 ∨ k = 1 := by omega
  rcases this with rfl | rfl
  · exact ⟨by decide +kernel, bnd (by decide +kernel)⟩
  · exact ⟨by decide +kernel, bnd (by decide +kernel)⟩⟩

theorem uRat : Try.prog.underlying 45 = some (.struct (Try.prog.fieldsOf 45)) := by kernel_rfl
theorem sRat : Try.prog.stoodInHeld 45 = false := by kernel_rfl
theorem gRat : Try.prog.eqGuardType Try.prog.depth 45 = false := by kernel_rfl
theorem uInt : Try.prog.underlying 3 = some (.int .i64) := by kernel_rfl
theorem fRat : ((Try.prog.fieldsOf 45).toList.map fun f => (decide (f.name ≠ "_"), f.offset, f.type)) = [(true, 0, 3), (true, 1, 3)] := by kernel_rfl
theorem eqRat (w : World) (a b c d : Int) (n : Nat) : (Op.eqFields (n + 1) #[.int .i64 a, .int .i64 b] #[.int .i64 c, .int .i64 d] (Try.prog.fieldsOf 45).toList).run Try.prog w = .ok (a == c && b == d) w := by
  have hf := fRat
  generalize (Try.prog.fieldsOf 45).toList = l at hf
  obtain ⟨f, g, rfl⟩ : ∃ f g, l = [f, g] := by
    rcases l with _ | ⟨f, _ | ⟨g, _ | ⟨x, l⟩⟩⟩
    · simp at hf
    · simp at hf
    · exact ⟨f, g, rfl⟩
    · simp at hf
  simp only [List.map_cons, List.map_nil, List.cons.injEq, Prod.mk.injEq, decide_eq_true_eq, and_true] at hf
  obtain ⟨⟨f1, f2, f3⟩, g1, g2, g3⟩ := hf
  simp [Op.eqFields, f1, f2, f3, g1, g2, g3, part, sizeOf, typeInfo]
  rw [run_equalIn_int w n 3 .i64 .i64 a c uInt]
  simp only [Result.andThen_ok]
  rw [run_equalIn_int w n 3 .i64 .i64 b d uInt]
  simp only [Result.andThen_ok]
  by_cases h1 : a = c <;> by_cases h2 : b = d <;> simp [h1, h2]
theorem xeqr {L : List (Nat × Value)} {w : World} {o : Oper} {x y : Operand} {T' : TypeId} {a b c d : Int} (ho : o.op = .binOp .eql 45 x y T' := by exact rfl) (hx : evL L x = some (.agg #[.int .i64 a, .int .i64 b]) := by exact rfl) (hy : evL L y = some (.agg #[.int .i64 c, .int .i64 d]) := by exact rfl) : Runs Try.prog L w o (.value (B (a = c ∧ b = d))) w := fun ρ h => by
  have e : (binOp .eql 45 (.agg #[.int .i64 a, .int .i64 b]) (.agg #[.int .i64 c, .int .i64 d])).run Try.prog w = .ok (B (a = c ∧ b = d)) w := by
    rw [run_eql_struct, run_equalIn_struct w 9999 45 _ _ uRat sRat, eqRat w a b c d 9998]
    simp only [Result.andThen_ok]
    by_cases h1 : a = c <;> by_cases h2 : b = d
    · rw [B_true ⟨h1, h2⟩]; simp [h1, h2]
    · rw [B_false (fun hh => h2 hh.2)]; simp [h2]
    · rw [B_false (fun hh => h1 hh.1)]; simp [h1]
    · rw [B_false (fun hh => h1 hh.1)]; simp [h1]
  simp [execOp, ho, h _ _ hx, h _ _ hy, run_eqGuard_agg w _ _ _ _ _ _ gRat, e]

set_option maxRecDepth 20000 in
theorem c_awake30  (w0 : World) :
    Calls Try.prog 23 [].toArray w0 fun e w => ∃ v, e = .returned v ∧ v = .bool true ∧ Sat w0 w [] := by
  refine zenG Try.func23 Try.ntmps23 fun w hS => ?_
  refine zsr ?_
  refine zlv xas ?_
  refine zlz ?_
  refine zla (xli (n := 2) (len := 2) (pv := [(0, .int .i64 5), (1, .int .i64 3)]) (cs := [.int .i64 5, .int .i64 3]) (c := ints (fun k => [5, 3].getD k.toNat 0)) sl_22 el_3 hS) ?_; rintro v1 w ⟨hS, hv1⟩
  replace hS := hS.n1
  refine zla (xli (n := 2) (len := 2) (pv := [(0, .int .i64 2), (1, .int .i64 3)]) (cs := [.int .i64 2, .int .i64 3]) (c := ints (fun k => [2, 3].getD k.toNat 0)) sl_22 el_3 hS) ?_; rintro v2 w ⟨hS, hv2⟩
  replace hS := hS.n2
  refine zlv (xany (v := .agg #[v1, v2, .int .i64 11, .int .i64 1]) (hr := by obtain ⟨_, _, _, _, rfl, _⟩ := hv1; obtain ⟨_, _, _, _, rfl, _⟩ := hv2; kernel_rfl)) ?_
  refine zla (xal (cs := [_, _, _, _]) el_36 hS) ?_; rintro _ w ⟨g1, rfl, hS⟩
  replace hS := hS.n3
  refine zle (xsw 2 st_36 hS (hd := (ones_cons hv1.one (ones_cons hv2.one (ones_cons rfl (ones_cons rfl ones_nil)))))) ?_; clear hS; rintro w hS
  replace hS := hS.n3
  refine zlz ?_
  refine zlv (xls 2 st_36 hS) ?_
  refine zlc (xc0 cl_24) (c_mstart (p := (⟨2, (fun k => [5, 3].getD k.toNat 0), 2, (fun k => [2, 3].getD k.toNat 0), 11, 1⟩ : Prob)) w (⟨(hS.rowN 0 rfl), (hS.rowN 1 rfl), (litb _ (by decide)), (litb _ (by decide)), (by (try dsimp only); omega), (by (try dsimp only); omega)⟩ : PAt _ _ _ (⟨2, (fun k => [5, 3].getD k.toNat 0), 2, (fun k => [2, 3].getD k.toNat 0), 11, 1⟩ : Prob))) ?_; rintro _ w ⟨srm91, snm91, svm91, slm91, sgm91, em91, rfl, hmsm91, hsrm91, hS'⟩
  replace hS : Sat w0 w [.own v1 1 3 2 (ints (fun k => [5, 3].getD k.toNat 0)), .own v2 1 3 2 (ints (fun k => [2, 3].getD k.toNat 0)), .blk g1 [v1, v2, .int .i64 11, .int .i64 1], .own srm91 1 22 snm91 svm91, .sem (Frame.rows 3 snm91 svm91 slm91 sgm91)] := hS.comp hS'; clear hS'
  have hswm91 := fun k (k0 : 0 ≤ k) (k1 : k < snm91) => hS.slhIn 4 rfl k0 k1
  refine zs5 ?_
  refine zlz ?_
  refine zlv (xls 2 st_36 hS) ?_
  refine zlv xmv ?_
  refine zlc (xc0 cl_25) (c_msolve (p := (⟨2, (fun k => [5, 3].getD k.toNat 0), 2, (fun k => [2, 3].getD k.toNat 0), 11, 1⟩ : Prob)) (u := snm91) (ml := slm91) (mf := sgm91) w (⟨(hS.rowN 0 rfl), (hS.rowN 1 rfl), (litb _ (by decide)), (litb _ (by decide)), (by (try dsimp only); omega), (by (try dsimp only); omega)⟩ : PAt _ _ _ (⟨2, (fun k => [5, 3].getD k.toNat 0), 2, (fun k => [2, 3].getD k.toNat 0), 11, 1⟩ : Prob)) (⟨(hS.rowN 3 rfl), fun k k0 k1 => hS.rowIn 4 rfl k0 k1, fun k k0 k1 => hS.roomIn 4 rfl k0 k1⟩ : MAt _ srm91 snm91 svm91 slm91 sgm91)) ?_; rintro _ w ⟨vXm81, vYm81, sm81, em81, rfl, hmom81, hvXm81, hvYm81, hS'⟩
  replace hS : Sat w0 w [.own v1 1 3 2 (ints (fun k => [5, 3].getD k.toNat 0)), .own v2 1 3 2 (ints (fun k => [2, 3].getD k.toNat 0)), .blk g1 [v1, v2, .int .i64 11, .int .i64 1], .own srm91 1 22 snm91 svm91, .sem (Frame.rows 3 snm91 svm91 slm91 sgm91), .own vXm81 1 3 sm81.n (ints sm81.X), .own vYm81 1 3 sm81.m (ints sm81.Y)] := hS.comp hS'; clear hS'
  refine zs3 ?_
  refine zla (xal (cs := [_, _, _, _]) el_30 hS) ?_; rintro _ w ⟨g2, rfl, hS⟩
  replace hS := hS.n8
  refine zle (xsw 7 st_30 hS (hd := (ones_cons hvXm81.one (ones_cons hvYm81.one (ones_cons rfl (ones_cons rfl ones_nil)))))) ?_; clear hS; rintro w hS
  replace hS := hS.n8
  refine zlv xas ?_
  refine zlz ?_
  refine zlv (xls 7 st_30 hS) ?_
  rcases hmsm91 with ⟨h9, _⟩ | ⟨_, m1, m2, m3, m4⟩
  · exact absurd okMx h9
  obtain ⟨z1, z2⟩ := solMx (by have h8 := hmom81; rw [m1, m2, m3] at h8; exact h8)
  have hn9 : sm81.n ≤ 1000 := by rw [z2]; decide +kernel
  refine zlc (xc0 cl_26) (c_value30 (s := sm81) w (hS.rowN 5 rfl) (hS.rowN 6 rfl) (by omega)) ?_; rintro _ w ⟨xv91, yv91, ev91, rfl, hvav91, hS'⟩
  replace hS := hS.cmp hS'; clear hS'
  refine zs3 ?_
  refine zla (xal (cs := [_, _]) el_45 hS) ?_; rintro _ w ⟨g3, rfl, hS⟩
  replace hS := hS.n9
  refine zle (xsw 8 st_45 hS) ?_; clear hS; rintro w hS
  replace hS := hS.n9
  refine zlv xas ?_
  refine zlz ?_
  refine zlv xmv ?_
  obtain ⟨z3, z4, z5⟩ := valMx (by have h8 := hvav91; rw [z2] at h8; exact h8)
  have hsm : SameL snm91 2 slm91 (pair2 2 2) sgm91 (pair2 (fun k => [2, 0].getD k.toNat 0) (fun k => [0, 3].getD k.toNat 0)) := by rw [m1, m2, m3]; exact sameMx
  refine zs2 ?_
  refine zlb 29 ?_ ?_ <;> intro hc
  ·
   refine zs4 ?_
   refine zlb 33 ?_ ?_ <;> intro hc
   ·
    refine zs4 ?_
    refine zlb 37 ?_ ?_ <;> intro hc
    ·
     refine zlv xmv ?_
     refine zla (xli (n := 2) (len := 2) (pv := [(0, .int .i64 2), (1, .int .i64 0)]) (cs := [.int .i64 2, .int .i64 0]) (c := ints (fun k => [2, 0].getD k.toNat 0)) sl_22 el_3 hS) ?_; rintro v3 w ⟨hS, hv3⟩
     replace hS := hS.n10
     refine zla (xli (n := 2) (len := 2) (pv := [(0, .int .i64 0), (1, .int .i64 3)]) (cs := [.int .i64 0, .int .i64 3]) (c := ints (fun k => [0, 3].getD k.toNat 0)) sl_22 el_3 hS) ?_; rintro v4 w ⟨hS, hv4⟩
     replace hS := hS.n11
     refine zla (xli (n := 2) (len := 2) (pv := [(0, v3), (1, v4)]) (cs := [v3, v4]) (c := fun k => ([(v3 : Value), (v4 : Value)]).getD k.toNat undef) sl_28 el_22 hS (hf := by obtain ⟨_, _, _, _, rfl, _⟩ := hv3; obtain ⟨_, _, _, _, rfl, _⟩ := hv4; kernel_rfl)) ?_; rintro v5 w ⟨hS, hv5⟩
     replace hS := hS.n12
     refine zlc (xc0 cl_41) (c_sall (u := snm91) (u2 := 2) (ml := slm91) (ml2 := pair2 2 2) (mf := sgm91) (mf2 := pair2 (fun k => [2, 0].getD k.toNat 0) (fun k => [0, 3].getD k.toNat 0)) w (⟨(hS.rowN 3 rfl), fun k k0 k1 => hS.rowIn 4 rfl k0 k1, fun k k0 k1 => hS.roomIn 4 rfl k0 k1⟩ : MAt _ srm91 snm91 svm91 slm91 sgm91) (matEx (hS.rowN 11 rfl) (hS.rowN 9 rfl) (hS.rowN 10 rfl) (Ent.holds.roomy (hS.holds _ (List.mem_of_getElem? (i := 9) rfl))) (Ent.holds.roomy (hS.holds _ (List.mem_of_getElem? (i := 10) rfl))))) ?_; rintro _ w ⟨rfl, hS'⟩
     replace hS := hS.cmp hS'; clear hS'
     refine zs2 ?_
     refine zlb 44 ?_ ?_ <;> intro hc
     ·
      refine zlv (xls 8 st_45 hS) ?_
      refine zlv (xany (v := .agg #[.int .i64 2, .int .i64 1])) ?_
      refine zlv xeqr ?_
      refine zs2 ?_
      refine zlt <| zrt <| zf1 ⟨_, rfl, ?_⟩
      exact ⟨(true_B ⟨z4, z5⟩).symm, hS.nl⟩
     iterate 3 refine zlo ?_
     refine zs2 ?_
     refine zlt <| zrt <| zf1 ⟨_, rfl, ?_⟩
     exfalso
     first | omega | exact absurd hsm ‹_›
    iterate 5 refine zlo ?_
    refine zs2 ?_
    iterate 3 refine zlo ?_
    refine zs2 ?_
    refine zlt <| zrt <| zf1 ⟨_, rfl, ?_⟩
    exfalso
    first | omega | exact absurd hsm ‹_›
   iterate 2 refine zlo ?_
   refine zs2 ?_
   iterate 5 refine zlo ?_
   refine zs2 ?_
   iterate 3 refine zlo ?_
   refine zs2 ?_
   refine zlt <| zrt <| zf1 ⟨_, rfl, ?_⟩
   exfalso
   first | omega | exact absurd hsm ‹_›
  iterate 2 refine zlo ?_
  refine zs2 ?_
  iterate 2 refine zlo ?_
  refine zs2 ?_
  iterate 5 refine zlo ?_
  refine zs2 ?_
  iterate 3 refine zlo ?_
  refine zs2 ?_
  refine zlt <| zrt <| zf1 ⟨_, rfl, ?_⟩
  exfalso
  first | omega | exact absurd hsm ‹_›

end Go.Proofs.Ytdlojjhknmmmlaa
