/- The walk of MasterRead. -/
import Derived.Test.YtopmifmfecfaaaaGv
import Derived.Test.YtopmifmfecfaaaaM12
import Derived.Test.YtopmifmfecfaaaaFw
import Derived.Laws.StructEq
import Derived.Test.YtopmifmfecfaaaaGu
namespace Go.Proofs.Ytopmifmfecfaaaa
open Go Go.RowKit Go.Proofs.Gw
set_option linter.unusedVariables false

theorem cl_12 : calledT Try.prog 12 = true := by kernel_rfl
theorem cl_28 : calledT Try.prog 28 = true := by kernel_rfl
theorem cl_29 : calledT Try.prog 29 = true := by kernel_rfl
theorem cl_30 : calledT Try.prog 30 = true := by kernel_rfl
theorem cl_62 : calledT Try.prog 62 = true := by kernel_rfl
theorem el_34 : elemT Try.prog 34 = some (.agg #[.slice none 0 0, .int .i64 0], 2, 32) := by kernel_rfl
theorem el_39 : elemT Try.prog 39 = some (.agg #[.slice none 0 0, .slice none 0 0, .int .i64 0, .int .i64 0], 4, 64) := by kernel_rfl
theorem el_50 : elemT Try.prog 50 = some (.agg #[.slice none 0 0, .int .i64 0], 2, 32) := by kernel_rfl
theorem sl_43 : sliceT Try.prog 43 = some (50, 2) := by kernel_rfl
theorem st_50 : structT Try.prog 50 = some 2 := by kernel_rfl
theorem st_52 : structT Try.prog 52 = some 4 := by kernel_rfl
def pMx : Prob := ⟨2, fun k => [5, 3].getD k.toNat 0, 2, fun k => [2, 3].getD k.toNat 0, 11, 1⟩
theorem okMx : pMx.Ok := ⟨by decide, by decide, rfl, by decide, by decide, by decide, by decide, bnd (P := fun i => pMx.each i) (by unfold Prob.each; decide)⟩
def nMx : Int := stN pMx 2
theorem prMx : PropL pMx (stN pMx 2) (stL pMx 2) (stG pMx 2) := ⟨okMx, by
  have h2 : stN pMx 2 = 2 := by decide +kernel
  intro k k0 k1
  have : k = 0 ∨ k = 1 := by omega
  rcases this with rfl | rfl
  · exact ⟨⟨okMx, by decide +kernel, bnd (by decide +kernel), by decide +kernel⟩, bnd (by decide +kernel)⟩
  · exact ⟨⟨okMx, by decide +kernel, bnd (by decide +kernel), by decide +kernel⟩, bnd (by decide +kernel)⟩⟩
def lMx : Lp := lpOf pMx (stN pMx 2) (stG pMx 2)
def tMx1 : Tb := piv (startT lMx) 0 0
def tMx2 : Tb := piv tMx1 1 1
theorem okLMx : LOk lMx := ⟨by decide +kernel, by decide +kernel, by decide +kernel, rfl, bnd (by decide +kernel), bnd (by decide +kernel), fun i i0 i1 => by
  have : i = 0 ∨ i = 1 := by have : lMx.m = 2 := rfl; omega
  rcases this with rfl | rfl
  · exact ⟨rfl, bnd (by decide +kernel)⟩
  · exact ⟨rfl, bnd (by decide +kernel)⟩⟩
theorem runMx : Run 1000 (startT lMx) tMx2 0 :=
  .go (next_of (r := 0) (c := 0) (by decide +kernel) (by decide +kernel) (by decide +kernel) (by decide) (by decide)) (piv_of (by decide +kernel))
    (.go (next_of (r := 1) (c := 1) (by decide +kernel) (by decide +kernel) (by decide +kernel) (by decide) (by decide)) (piv_of (by decide +kernel))
      (.stop (stop_of (by decide +kernel) (by decide +kernel)) (.inl rfl)))
theorem solMx {s : So} {e : Int} (h : MSolveR pMx (stN pMx 2) (stL pMx 2) (stG pMx 2) s e) : e = 0 ∧ s = readS tMx2 := by
  have h2 : stN pMx 2 = 2 := by decide +kernel
  rcases h with ⟨h, _⟩ | ⟨_, h, _⟩ | ⟨_, _, _, h, _⟩ | ⟨_, _, _, h, _⟩ | ⟨_, _, _, _, h⟩
  · exact absurd prMx h
  · have : pMx.m = 2 := rfl; omega
  · omega
  · omega
  · obtain ⟨h1, h2⟩ := SolveR.same h (.inr ⟨okLMx, tMx2, runMx, .inr ⟨rfl, rfl⟩⟩)
    exact ⟨h2, h1⟩
theorem valMx {x y e : Int} (h : ValR (readS tMx2) x y e) : e = 0 ∧ x = 2 ∧ y = 1 := by
  have hs : SoundS (readS tMx2) := ⟨by decide +kernel, by decide +kernel, bnd (by decide +kernel)⟩
  rcases h with ⟨h, _⟩ | ⟨_, h1, h2, h3⟩
  · exact absurd hs h
  · exact ⟨h3, h1.trans (by decide +kernel), h2.trans (by decide +kernel)⟩
theorem sameMx : SameL (stN pMx 2) 2 (stL pMx 2) (pair2 2 2) (stG pMx 2) (pair2 (fun k => [2, 0].getD k.toNat 0) (fun k => [0, 3].getD k.toNat 0)) := ⟨by decide +kernel, by
  have h2 : stN pMx 2 = 2 := by decide +kernel
  intro k k0 k1
  have : k = 0 ∨ k = 1 := by omega
  rcases this with rfl | rfl
  · exact ⟨by decide +kernel, bnd (by decide +kernel)⟩
  · exact ⟨by decide +kernel, bnd (by decide +kernel)⟩⟩

theorem uRat : Try.prog.underlying 65 = some (.struct (Try.prog.fieldsOf 65)) := by kernel_rfl
theorem sRat : Try.prog.stoodInHeld 65 = false := by kernel_rfl
theorem gRat : Try.prog.eqGuardType Try.prog.depth 65 = false := by kernel_rfl
theorem uInt : Try.prog.underlying 3 = some (.int .i64) := by kernel_rfl
theorem fRat : ((Try.prog.fieldsOf 65).toList.map fun f => (decide (f.name ≠ "_"), f.offset, f.type)) = [(true, 0, 3), (true, 1, 3)] := by kernel_rfl
theorem eqRat (w : World) (a b c d : Int) (n : Nat) : (Op.eqFields (n + 1) #[.int .i64 a, .int .i64 b] #[.int .i64 c, .int .i64 d] (Try.prog.fieldsOf 65).toList).run Try.prog w = .ok (a == c && b == d) w := by
  have hf := fRat
  generalize (Try.prog.fieldsOf 65).toList = l at hf
  obtain ⟨f, g, rfl⟩ : ∃ f g, l = [f, g] := by
    rcases l with _ | ⟨f, _ | ⟨g, _ | ⟨x, l⟩⟩⟩
    · simp at hf
    · simp at hf
    · exact ⟨f, g, rfl⟩
    · simp at hf
  simp only [List.map_cons, List.map_nil, List.cons.injEq, Prod.mk.injEq, decide_eq_true_eq, and_true] at hf
  obtain ⟨⟨f1, f2, f3⟩, g1, g2, g3⟩ := hf
  simp [Op.eqFields, f1, f2, f3, g1, g2, g3, part, sizeOf, typeInfo]
  rw [run_equalIn_int w n 3 .i64 .i64 a c uInt]
  simp only [Result.andThen_ok]
  rw [run_equalIn_int w n 3 .i64 .i64 b d uInt]
  simp only [Result.andThen_ok]
  by_cases h1 : a = c <;> by_cases h2 : b = d <;> simp [h1, h2]
theorem xeqr {L : List (Nat × Value)} {w : World} {o : Oper} {x y : Operand} {T' : TypeId} {a b c d : Int} (ho : o.op = .binOp .eql 65 x y T' := by exact rfl) (hx : evL L x = some (.agg #[.int .i64 a, .int .i64 b]) := by exact rfl) (hy : evL L y = some (.agg #[.int .i64 c, .int .i64 d]) := by exact rfl) : Runs Try.prog L w o (.value (B (a = c ∧ b = d))) w := fun ρ h => by
  have e : (binOp .eql 65 (.agg #[.int .i64 a, .int .i64 b]) (.agg #[.int .i64 c, .int .i64 d])).run Try.prog w = .ok (B (a = c ∧ b = d)) w := by
    rw [run_eql_struct, run_equalIn_struct w 9999 65 _ _ uRat sRat, eqRat w a b c d 9998]
    simp only [Result.andThen_ok]
    by_cases h1 : a = c <;> by_cases h2 : b = d
    · rw [B_true ⟨h1, h2⟩]; simp [h1, h2]
    · rw [B_false (fun hh => h2 hh.2)]; simp [h2]
    · rw [B_false (fun hh => h1 hh.1)]; simp [h1]
    · rw [B_false (fun hh => h1 hh.1)]; simp [h1]
  simp [execOp, ho, h _ _ hx, h _ _ hy, run_eqGuard_agg w _ _ _ _ _ _ gRat, e]

set_option maxRecDepth 20000 in
theorem c_awake30  (w0 : World) :
    Calls Try.prog 7 [].toArray w0 fun e w => ∃ v, e = .returned v ∧ v = .bool true ∧ Sat w0 w [] := by
  refine zenG Try.func7 Try.ntmps7 fun w hS => ?_
  refine zsr ?_
  refine zlv xas ?_
  refine zlz ?_
  refine zla (xli (n := 2) (len := 2) (pv := [(0, .int .i64 5), (1, .int .i64 3)]) (cs := [.int .i64 5, .int .i64 3]) (c := ints (fun k => [5, 3].getD k.toNat 0)) sl_22 el_3 hS) ?_; rintro v1 w ⟨hS, hv1⟩
  replace hS := hS.n1
  refine zla (xli (n := 2) (len := 2) (pv := [(0, .int .i64 2), (1, .int .i64 3)]) (cs := [.int .i64 2, .int .i64 3]) (c := ints (fun k => [2, 3].getD k.toNat 0)) sl_22 el_3 hS) ?_; rintro v2 w ⟨hS, hv2⟩
  replace hS := hS.n2
  refine zlv (xany (v := .agg #[v1, v2, .int .i64 11, .int .i64 1]) (hr := by obtain ⟨_, _, _, _, rfl, _⟩ := hv1; obtain ⟨_, _, _, _, rfl, _⟩ := hv2; kernel_rfl)) ?_
  refine zla (xal (cs := [_, _, _, _]) el_39 hS) ?_; rintro _ w ⟨g1, rfl, hS⟩
  replace hS := hS.n3
  refine zle (xsw 2 st_39 hS (hd := (ones_cons hv1.one (ones_cons hv2.one (ones_cons rfl (ones_cons rfl ones_nil)))))) ?_; clear hS; rintro w hS
  replace hS := hS.n3
  refine zlz ?_
  refine zlv (xls 2 st_39 hS) ?_
  refine zlc (xc0 cl_28) (c_mstart (p := (⟨2, (fun k => [5, 3].getD k.toNat 0), 2, (fun k => [2, 3].getD k.toNat 0), 11, 1⟩ : Prob)) w (⟨(hS.rowN 0 rfl), (hS.rowN 1 rfl), (litb _ (by decide)), (litb _ (by decide)), (by (try dsimp only); omega), (by (try dsimp only); omega)⟩ : PAt _ _ _ (⟨2, (fun k => [5, 3].getD k.toNat 0), 2, (fun k => [2, 3].getD k.toNat 0), 11, 1⟩ : Prob))) ?_; rintro _ w ⟨srm91, snm91, svm91, slm91, sgm91, em91, rfl, hmsm91, hsrm91, hS'⟩
  replace hS : Sat w0 w [.own v1 1 3 2 (ints (fun k => [5, 3].getD k.toNat 0)), .own v2 1 3 2 (ints (fun k => [2, 3].getD k.toNat 0)), .blk g1 [v1, v2, .int .i64 11, .int .i64 1], .own srm91 1 22 snm91 svm91, .sem (Frame.rows 3 snm91 svm91 slm91 sgm91)] := hS.comp hS'; clear hS'
  have hswm91 := fun k (k0 : 0 ≤ k) (k1 : k < snm91) => hS.slhIn 4 rfl k0 k1
  refine zs5 ?_
  refine zlz ?_
  refine zlv (xls 2 st_39 hS) ?_
  refine zlv xmv ?_
  refine zlc (xc0 cl_12) (c_msolve (p := (⟨2, (fun k => [5, 3].getD k.toNat 0), 2, (fun k => [2, 3].getD k.toNat 0), 11, 1⟩ : Prob)) (u := snm91) (ml := slm91) (mf := sgm91) w (⟨(hS.rowN 0 rfl), (hS.rowN 1 rfl), (litb _ (by decide)), (litb _ (by decide)), (by (try dsimp only); omega), (by (try dsimp only); omega)⟩ : PAt _ _ _ (⟨2, (fun k => [5, 3].getD k.toNat 0), 2, (fun k => [2, 3].getD k.toNat 0), 11, 1⟩ : Prob)) (⟨(hS.rowN 3 rfl), fun k k0 k1 => hS.rowIn 4 rfl k0 k1, fun k k0 k1 => hS.roomIn 4 rfl k0 k1⟩ : MAt _ srm91 snm91 svm91 slm91 sgm91)) ?_; rintro _ w ⟨vXm81, vYm81, sm81, em81, rfl, hmom81, hvXm81, hvYm81, hS'⟩
  replace hS : Sat w0 w [.own v1 1 3 2 (ints (fun k => [5, 3].getD k.toNat 0)), .own v2 1 3 2 (ints (fun k => [2, 3].getD k.toNat 0)), .blk g1 [v1, v2, .int .i64 11, .int .i64 1], .own srm91 1 22 snm91 svm91, .sem (Frame.rows 3 snm91 svm91 slm91 sgm91), .own vXm81 1 3 sm81.n (ints sm81.X), .own vYm81 1 3 sm81.m (ints sm81.Y)] := hS.comp hS'; clear hS'
  refine zs3 ?_
  refine zla (xal (cs := [_, _, _, _]) el_36 hS) ?_; rintro _ w ⟨g2, rfl, hS⟩
  replace hS := hS.n8
  refine zle (xsw 7 st_36 hS (hd := (ones_cons hvXm81.one (ones_cons hvYm81.one (ones_cons rfl (ones_cons rfl ones_nil)))))) ?_; clear hS; rintro w hS
  replace hS := hS.n8
  refine zlv xas ?_
  refine zlz ?_
  refine zlv (xls 7 st_36 hS) ?_
  rcases hmsm91 with ⟨h9, _⟩ | ⟨_, m1, m2, m3, m4⟩
  · exact absurd okMx h9
  obtain ⟨z1, z2⟩ := solMx (by have h8 := hmom81; rw [m1, m2, m3] at h8; exact h8)
  have hn9 : sm81.n ≤ 1000 := by rw [z2]; decide +kernel
  refine zlc (xc0 cl_29) (c_value30 (s := sm81) w (hS.rowN 5 rfl) (hS.rowN 6 rfl) (by omega)) ?_; rintro _ w ⟨xv91, yv91, ev91, rfl, hvav91, hS'⟩
  replace hS := hS.cmp hS'; clear hS'
  refine zs3 ?_
  refine zla (xal (cs := [_, _]) el_65 hS) ?_; rintro _ w ⟨g3, rfl, hS⟩
  replace hS := hS.n9
  refine zle (xsw 8 st_65 hS) ?_; clear hS; rintro w hS
  replace hS := hS.n9
  refine zlv xas ?_
  refine zlz ?_
  refine zlv xmv ?_
  obtain ⟨z3, z4, z5⟩ := valMx (by have h8 := hvav91; rw [z2] at h8; exact h8)
  have hsm : SameL snm91 2 slm91 (pair2 2 2) sgm91 (pair2 (fun k => [2, 0].getD k.toNat 0) (fun k => [0, 3].getD k.toNat 0)) := by rw [m1, m2, m3]; exact sameMx
  refine zs2 ?_
  refine zlb 29 ?_ ?_ <;> intro hc
  ·
   refine zs4 ?_
   refine zlb 33 ?_ ?_ <;> intro hc
   ·
    refine zs4 ?_
    refine zlb 37 ?_ ?_ <;> intro hc
    ·
     refine zlv xmv ?_
     refine zla (xli (n := 2) (len := 2) (pv := [(0, .int .i64 2), (1, .int .i64 0)]) (cs := [.int .i64 2, .int .i64 0]) (c := ints (fun k => [2, 0].getD k.toNat 0)) sl_22 el_3 hS) ?_; rintro v3 w ⟨hS, hv3⟩
     replace hS := hS.n10
     refine zla (xli (n := 2) (len := 2) (pv := [(0, .int .i64 0), (1, .int .i64 3)]) (cs := [.int .i64 0, .int .i64 3]) (c := ints (fun k => [0, 3].getD k.toNat 0)) sl_22 el_3 hS) ?_; rintro v4 w ⟨hS, hv4⟩
     replace hS := hS.n11
     refine zla (xli (n := 2) (len := 2) (pv := [(0, v3), (1, v4)]) (cs := [v3, v4]) (c := fun k => ([(v3 : Value), (v4 : Value)]).getD k.toNat undef) sl_32 el_22 hS (hf := by obtain ⟨_, _, _, _, rfl, _⟩ := hv3; obtain ⟨_, _, _, _, rfl, _⟩ := hv4; kernel_rfl)) ?_; rintro v5 w ⟨hS, hv5⟩
     replace hS := hS.n12
     refine zlc (xc0 cl_30) (c_sall (u := snm91) (u2 := 2) (ml := slm91) (ml2 := pair2 2 2) (mf := sgm91) (mf2 := pair2 (fun k => [2, 0].getD k.toNat 0) (fun k => [0, 3].getD k.toNat 0)) w (⟨(hS.rowN 3 rfl), fun k k0 k1 => hS.rowIn 4 rfl k0 k1, fun k k0 k1 => hS.roomIn 4 rfl k0 k1⟩ : MAt _ srm91 snm91 svm91 slm91 sgm91) (matEx (hS.rowN 11 rfl) (hS.rowN 9 rfl) (hS.rowN 10 rfl) (Ent.holds.roomy (hS.holds _ (List.mem_of_getElem? (i := 9) rfl))) (Ent.holds.roomy (hS.holds _ (List.mem_of_getElem? (i := 10) rfl))))) ?_; rintro _ w ⟨rfl, hS'⟩
     replace hS := hS.cmp hS'; clear hS'
     refine zs2 ?_
     refine zlb 44 ?_ ?_ <;> intro hc
     ·
      refine zlv (xls 8 st_65 hS) ?_
      refine zlv (xany (v := .agg #[.int .i64 2, .int .i64 1])) ?_
      refine zlv xeqr ?_
      refine zs2 ?_
      refine zlt <| zrt <| zf1 ⟨_, rfl, ?_⟩
      exact ⟨(true_B ⟨z4, z5⟩).symm, hS.nl⟩
     iterate 3 refine zlo ?_
     refine zs2 ?_
     refine zlt <| zrt <| zf1 ⟨_, rfl, ?_⟩
     exfalso
     first | omega | exact absurd hsm ‹_›
    iterate 5 refine zlo ?_
    refine zs2 ?_
    iterate 3 refine zlo ?_
    refine zs2 ?_
    refine zlt <| zrt <| zf1 ⟨_, rfl, ?_⟩
    exfalso
    first | omega | exact absurd hsm ‹_›
   iterate 2 refine zlo ?_
   refine zs2 ?_
   iterate 5 refine zlo ?_
   refine zs2 ?_
   iterate 3 refine zlo ?_
   refine zs2 ?_
   refine zlt <| zrt <| zf1 ⟨_, rfl, ?_⟩
   exfalso
   first | omega | exact absurd hsm ‹_›
  iterate 2 refine zlo ?_
  refine zs2 ?_
  iterate 2 refine zlo ?_
  refine zs2 ?_
  iterate 5 refine zlo ?_
  refine zs2 ?_
  iterate 3 refine zlo ?_
  refine zs2 ?_
  refine zlt <| zrt <| zf1 ⟨_, rfl, ?_⟩
  exfalso
  first | omega | exact absurd hsm ‹_›

/-- The plan of the whole uses. -/
def flN (s : So) : Nat → Int
  | 0 => 0
  | k + 1 => if s.den ≤ s.X k then flN s k + 1 else flN s k
def flL (s : So) (ml : Int → Int) : Nat → Int → Int
  | 0 => fun _ => 0
  | k + 1 => if s.den ≤ s.X k then gsn (flL s ml k) (flN s k) (ml k) else flL s ml k
def flG (s : So) (mf : Int → Int → Int) : Nat → Int → Int → Int
  | 0 => fun _ _ => 0
  | k + 1 => if s.den ≤ s.X k then gsn (flG s mf k) (flN s k) (mf k) else flG s mf k
def flC (s : So) : Nat → Int → Int
  | 0 => fun _ => 0
  | k + 1 => if s.den ≤ s.X k then snoc (flC s k) (flN s k) ((s.X k).tdiv s.den) else flC s k
theorem flN_next (s : So) {i : Int} (h : 0 ≤ i) : flN s (i + 1).toNat = if s.den ≤ s.X i then flN s i.toNat + 1 else flN s i.toNat := by
  obtain ⟨k, rfl⟩ := Int.eq_ofNat_of_zero_le h; rw [show ((k : Int) + 1).toNat = k + 1 by omega, Int.toNat_natCast]; rfl
theorem flL_next (s : So) (ml : Int → Int) {i : Int} (h : 0 ≤ i) : flL s ml (i + 1).toNat = if s.den ≤ s.X i then gsn (flL s ml i.toNat) (flN s i.toNat) (ml i) else flL s ml i.toNat := by
  obtain ⟨k, rfl⟩ := Int.eq_ofNat_of_zero_le h; rw [show ((k : Int) + 1).toNat = k + 1 by omega, Int.toNat_natCast]; rfl
theorem flG_next (s : So) (mf : Int → Int → Int) {i : Int} (h : 0 ≤ i) : flG s mf (i + 1).toNat = if s.den ≤ s.X i then gsn (flG s mf i.toNat) (flN s i.toNat) (mf i) else flG s mf i.toNat := by
  obtain ⟨k, rfl⟩ := Int.eq_ofNat_of_zero_le h; rw [show ((k : Int) + 1).toNat = k + 1 by omega, Int.toNat_natCast]; rfl
theorem flC_next (s : So) {i : Int} (h : 0 ≤ i) : flC s (i + 1).toNat = if s.den ≤ s.X i then snoc (flC s i.toNat) (flN s i.toNat) ((s.X i).tdiv s.den) else flC s i.toNat := by
  obtain ⟨k, rfl⟩ := Int.eq_ofNat_of_zero_le h; rw [show ((k : Int) + 1).toNat = k + 1 by omega, Int.toNat_natCast]; rfl
theorem flN_rng (s : So) : ∀ k : Nat, 0 ≤ flN s k ∧ flN s k ≤ k
  | 0 => by simp [flN]
  | k + 1 => by
    have := flN_rng s k
    simp only [flN]; split <;> omega
def FloorR (s : So) (u : Int) (ml : Int → Int) (mf : Int → Int → Int) (n : Int) (ln : Int → Int) (pt : Int → Int → Int) (cnt : Int → Int) (e : Int) : Prop :=
  (¬ (SoundS s ∧ u = s.n) ∧ n = 0 ∧ e = 1) ∨ (SoundS s ∧ u = s.n ∧ n = flN s u.toNat ∧ ln = flL s ml u.toNat ∧ pt = flG s mf u.toNat ∧ cnt = flC s u.toNat ∧ e = 0)
theorem FloorR.rng {s : So} {u : Int} {ml : Int → Int} {mf : Int → Int → Int} {n e : Int} {ln cnt : Int → Int} {pt : Int → Int → Int} (hu : 0 ≤ u) (h : FloorR s u ml mf n ln pt cnt e) : 0 ≤ n ∧ n ≤ u := by
  rcases h with ⟨_, h, _⟩ | ⟨_, _, h, _⟩
  · omega
  · have := flN_rng s u.toNat; omega
theorem FloorR.same {s : So} {u : Int} {ml : Int → Int} {mf : Int → Int → Int} {n n2 e e2 : Int} {ln ln2 cnt cnt2 : Int → Int} {pt pt2 : Int → Int → Int} (h : FloorR s u ml mf n ln pt cnt e) (h' : FloorR s u ml mf n2 ln2 pt2 cnt2 e2) : SameP n n2 ln ln2 pt pt2 cnt cnt2 ∧ e = e2 := by
  rcases h with ⟨h1, h2, h3⟩ | ⟨h1, h2, h3, h4, h5, h6, h7⟩ <;> rcases h' with ⟨g1, g2, g3⟩ | ⟨g1, g2, g3, g4, g5, g6, g7⟩
  · exact ⟨⟨by omega, fun k k0 k1 => by omega⟩, by omega⟩
  · exact absurd ⟨g1, g2⟩ h1
  · exact absurd ⟨h1, h2⟩ g1
  · rw [h3, h4, h5, h6, h7, g3, g4, g5, g6, g7]; exact ⟨⟨rfl, fun _ _ _ => ⟨rfl, rfl, fun _ _ _ => rfl⟩⟩, rfl⟩

set_option maxRecDepth 20000 in
theorem c_floor30 {vM : Value} {u : Int} {mv : Int → Value} {ml : Int → Int} {mf : Int → Int → Int} {vX vY : Value} {s : So} (w0 : World) (hM : MAt w0 vM u mv ml mf) (hX : Row w0 vX 1 s.n (ints s.X)) (hY : Row w0 vY 1 s.m (ints s.Y)) (hn60 : s.n ≤ 1000) (hml : ∀ k, 0 ≤ k → k < u → ml k ≤ 100000) :
    Calls Try.prog 14 [vM, .agg #[vX, vY, .int .i64 s.val, .int .i64 s.den]].toArray w0 fun e w => ∃ v, e = .returned v ∧ ∃ r n pv ln pt cnt e, v = .tuple #[r, .int .i64 e] ∧ FloorR s u ml mf n ln pt cnt e ∧ Slh r n ∧ Sat w0 w [.own r 2 50 n (ucells pv cnt), .sem (Frame.rows 3 n pv ln pt)] := by
  have hn := hX.slh.n0; have hn1 := hX.slh.n1
  have hu := hM.row.slh.n0; have hu1 := hM.row.slh.n1
  refine zenG Try.func14 Try.ntmps14 fun w hS => ?_
  refine zsr ?_
  refine zla (xbx (cs := [_, _, _, _]) hS) ?_; rintro _ w ⟨g1, rfl, hS⟩
  replace hS := hS.n1
  refine zs2 ?_
  refine zlt <| zsq <| zsr ?_
  refine zlv (xls 0 st_36 hS) ?_
  refine zlc (xc0 cl_43) (c_sound30 (s := s) w (hX.below hS.below) (hY.below hS.below) (by omega)) ?_; rintro _ w ⟨rfl, hS'⟩
  replace hS := hS.cmp hS'; clear hS'
  refine zs2 ?_
  refine zlb 12 ?_ ?_ <;> intro hc
  ·
   iterate 6 refine zlo ?_
   refine zlv xpt ?_
   refine zlt <| zct <| zsr ?_
   refine zs2 ?_
   refine zlt <| zrt <| ztr <| zf2 ⟨_, rfl, ?_⟩
   exact ⟨_, 0, fun _ => undef, fun _ => 0, fun _ _ => 0, fun _ => 0, 1, rfl, .inl ⟨by first | exact fun hh => absurd hh.1 ‹¬ SoundS s› | (rintro ⟨_, hh⟩; omega), rfl, rfl⟩, slh_nil, ((hS.sub (.cons _ .slnil)).addnil 2 50 (ucells (fun _ => undef) (fun _ => 0))).addrows 3 (fun _ => undef) (fun _ => 0) (fun _ _ => 0)⟩
  refine zlv xmv ?_
  refine zlv (xln sl_32 hM.row.slh) ?_
  refine zlv (xfb 0 fd_36_0) ?_
  refine zlv (xlb 0 pl_22 hS) ?_
  refine zlv (xln sl_22 hX.slh) ?_
  refine zs2 ?_
  refine zlt ?_
  refine zcif ?_ ?_ <;> intro hc
  ·
   refine zsr ?_
   refine zs2 ?_
   refine zlt <| zrt <| ztr <| zf2 ⟨_, rfl, ?_⟩
   exact ⟨_, 0, fun _ => undef, fun _ => 0, fun _ _ => 0, fun _ => 0, 1, rfl, .inl ⟨by first | exact fun hh => absurd hh.1 ‹¬ SoundS s› | (rintro ⟨_, hh⟩; omega), rfl, rfl⟩, slh_nil, ((hS.sub (.cons _ .slnil)).addnil 2 50 (ucells (fun _ => undef) (fun _ => 0))).addrows 3 (fun _ => undef) (fun _ => 0) (fun _ _ => 0)⟩
  refine zsk <| ztn <| zsr ?_
  refine zlv xas ?_
  refine zlt <| zsq <| zsr ?_
  refine zlv (xfb 0 fd_36_0) ?_
  refine zlv (xlb 0 pl_22 hS) ?_
  refine zlv (xln sl_22 hX.slh) ?_
  refine zlv xmv ?_
  refine zlt <| zbk ?_
  have hsd : SoundS s := by first | assumption | exact Classical.not_not.1 ‹_›
  obtain ⟨⟨d1, d2⟩, ⟨d3, d4⟩, d5⟩ := id hsd
  have hun : u = s.n := by omega
  replace hS := hS.addnil 2 50 (ucells (fun _ => Value.slice none 0 0) (fun _ => 0))
  replace hS := hS.n2
  replace hS := hS.addrows 3 (fun _ => Value.slice none 0 0) (fun _ => 0) (fun _ _ => 0)
  replace hS := hS.n3
  replace hS := hS.n3
  have hrs0 := fun k (k0 : 0 ≤ k) (k1 : k < 0) => hS.slhIn 2 rfl k0 k1
  refine zlp (fun mm M w => ∃ (nC : Int) (wv : Int → Value) (lC : Int → Int) (gC : Int → Int → Int) (cC : Int → Int) (i : Int) (wC : Value), mm = ((s.n - i).toNat) ∧ (0 ≤ i) ∧ (i ≤ s.n) ∧ (nC = flN s i.toNat) ∧ (lC = flL s ml i.toNat) ∧ (gC = flG s mf i.toNat) ∧ (cC = flC s i.toNat) ∧ (Slh wC nC) ∧ M = [(0, vM), (3, .pointer (some ⟨g1, 0, none⟩)), (4, .slice none 0 0), (5, .int .i64 0), (6, wC), (21, vX), (22, .int .i64 s.n), (23, .int .i64 i)] ∧ Sat w0 w [.blk g1 [vX, vY, .int .i64 s.val, .int .i64 s.den], .own wC 2 50 nC (ucells wv cC), .sem (Frame.rows 3 nC wv lC gC)]) ⟨0, (fun _ => Value.slice none 0 0), (fun _ => 0), (fun _ _ => 0), (fun _ => 0), 0, (.slice none 0 0), rfl, (by omega), (by omega), ?_, ?_, ?_, ?_, ?_, rfl, hS⟩ ?_
  ·
   rfl
  ·
   rfl
  ·
   rfl
  ·
   rfl
  ·
   exact slh_nil
  clear hS w
  rintro mm M w ⟨nC, wv, lC, gC, cC, i, wC, rfl, h0, h1, hnC, hlC, hgC, hcC, hwC, rfl, hS⟩
  have hrs1 := fun k (k0 : 0 ≤ k) (k1 : k < nC) => hS.slhIn 2 rfl k0 k1
  have hnr := flN_rng s i.toNat
  refine zsr ?_
  refine zlv xlss ?_
  refine zlt <| zsq ?_
  refine zcif ?_ ?_ <;> intro hc
  ·
   refine zsk <| ztn <| zsq <| zbk <| zsr ?_
   refine zlv xmv ?_
   refine zlv (xix (kk := i) sl_22 hX.slh) ?_
   refine zlv (xlr (u := .int .i64 (s.X i)) pl_3 (hX.below hS.below)) ?_
   refine zs2 ?_
   refine zlz ?_
   refine zlv xmv ?_
   refine zlv (xfb 3 fd_36_3) ?_
   refine zlv (xlb 0 pl_3 hS) ?_
   refine zlv xgeq ?_
   refine zlt ?_
   refine zcif ?_ ?_ <;> intro hc
   ·
    refine zdst [0] [0] 1000 mx_ hS ?_; clear hS; intro w hS
    refine zdv 0 (fun _ => xmv) ?_
    refine zdv 1 (fun _ => xmv) ?_
    refine zdv 2 (fun _ => xmv) ?_
    refine zdv 3 (fun _ => (xix (kk := i) sl_32 hM.row.slh)) ?_
    refine zdla 4 (fun w hS => (xlr (u := (mv i)) pl_22 (hM.row.below hS.below))) ?_
    have hmli := hml i h0 (by omega)
    refine zdv 6 (fun _ => xmv) ?_
    refine zdv 7 (fun _ => (xfb 3 fd_36_3)) ?_
    refine zdla 8 (fun w hS => (xlb 0 pl_3 hS)) ?_
    have hqd := tdiv_abs (a := s.X i) (d := s.den) (A := 1073741824) (by omega) (by have := d5 i h0 (by omega); omega)
    refine zdv 9 (fun _ => (xquo (r := (Int.tdiv (s.X i) s.den)))) ?_
    refine zdc 5 (xc0 cl_42) (c_clone (n := (ml i)) (f := (mf i)) w ((hM.p i (by omega) (by omega)).below hS.below) (by omega)) ?_; rintro vq1 w ⟨_, rfl, hslq1, hS'⟩
    replace hS : Sat w0 w [.blk g1 [vX, vY, .int .i64 s.val, .int .i64 s.den], .own wC 2 50 nC (ucells wv cC), .sem (Frame.rows 3 nC wv lC gC), .own vq1 1 3 (ml i) (ints (mf i))] := hS.comp hS'; clear hS'
    refine ⟨⟨fun _ => hS.pk [0], hS.pk [0]⟩, ?_⟩
    refine zdv 10 (fun _ => (xany (v := .agg #[vq1, .int .i64 (Int.tdiv (s.X i) s.den)]) (hr := by obtain ⟨_, _, _, _, rfl, _⟩ := hslq1; kernel_rfl))) ?_
    refine zda 11 (xli (n := 1) (len := 1) (pv := [(0, .agg #[vq1, .int .i64 (Int.tdiv (s.X i) s.den)])]) (cs := [vq1, .int .i64 (Int.tdiv (s.X i) s.den)]) (c := ucells (fun _ => vq1) (fun _ => (Int.tdiv (s.X i) s.den))) sl_43 el_50 hS (hf := by obtain ⟨_, _, _, _, rfl, _⟩ := hslq1; kernel_rfl)) ?_; rintro v1 w ⟨hS, hv1⟩
    replace hS := hS.n5
    refine ⟨⟨fun _ => hS.pk [0], hS.pk [0]⟩, ?_⟩
    refine zda 12 (xap 1 (r := nC + 1) sl_43 el_50 hS (hS.rowN 4 rfl) (cat_ucells _ _ _ _ _) (h1 := fun k _ _ => ucells_one (fun _ => hslq1.one) k)) ?_; rintro v2 w ⟨hS, hv2⟩
    replace hS := hS.n5
    replace hS := Sat.merge (l1 := [_, _]) (l2 := []) (l3 := [_]) hS (by omega)
    have hrs2 := fun k (k0 : 0 ≤ k) (k1 : k < nC + 1) => hS.slhIn 2 rfl k0 k1
    replace hS := hS.n4
    refine ⟨⟨fun _ => hS.pk [0], hS.pk [0]⟩, ?_⟩
    refine zdv 13 (fun _ => xas) ?_
    refine zdd <| zbn <| ztn <| zrg ?_
    refine zlv (xadd (r := i + 1)) ?_
    refine zlv xmv ?_
    refine zln <| zlq ⟨nC + 1, gsn wv nC vq1, gsn lC nC (ml i), gsn gC nC (mf i), (snoc cC nC (Int.tdiv (s.X i) s.den)), i + 1, v2, rfl, (by omega), (by omega), ?_, ?_, ?_, ?_, ?_, rfl, hS.pk [0, 1, 2]⟩
    ·
     rw [flN_next s h0, ← hnC]; first | rw [if_pos (by omega)] | rw [if_neg (by omega)]
    ·
     rw [flL_next s ml h0, ← hlC, ← hnC]; first | rw [if_pos (by omega)] | rw [if_neg (by omega)]
    ·
     rw [flG_next s mf h0, ← hgC, ← hnC]; first | rw [if_pos (by omega)] | rw [if_neg (by omega)]
    ·
     rw [flC_next s h0, ← hcC, ← hnC]; first | rw [if_pos (by omega)] | rw [if_neg (by omega)]
    ·
     exact hv2
   refine zsk <| zbn <| ztn <| zrg ?_
   refine zlv (xadd (r := i + 1)) ?_
   refine zlv xmv ?_
   refine zln <| zlq ⟨nC, wv, lC, gC, cC, i + 1, wC, rfl, (by omega), (by omega), ?_, ?_, ?_, ?_, ?_, rfl, hS⟩
   ·
    rw [flN_next s h0, ← hnC]; first | rw [if_pos (by omega)] | rw [if_neg (by omega)]
   ·
    rw [flL_next s ml h0, ← hlC, ← hnC]; first | rw [if_pos (by omega)] | rw [if_neg (by omega)]
   ·
    rw [flG_next s mf h0, ← hgC, ← hnC]; first | rw [if_pos (by omega)] | rw [if_neg (by omega)]
   ·
    rw [flC_next s h0, ← hcC, ← hnC]; first | rw [if_pos (by omega)] | rw [if_neg (by omega)]
   ·
    exact hwC
  refine zxt <| ztx <| ztx <| zbh <| ztn <| zsr ?_
  refine zs3 ?_
  refine zlt <| zrt <| zf2 ⟨_, rfl, ?_⟩
  have him : i = u := by omega
  rw [him] at hnC hlC hgC hcC
  exact ⟨_, _, _, _, _, _, 0, rfl, .inr ⟨hsd, hun, hnC, hlC, hgC, hcC, rfl⟩, hwC, hS.pk [1, 2]⟩

set_option maxRecDepth 20000 in
theorem c_rfloor30 {vM : Value} {u : Int} {mv : Int → Value} {ml : Int → Int} {mf : Int → Int → Int} {vX vY : Value} {s : So} (w0 : World) (hM : MAt w0 vM u mv ml mf) (hX : Row w0 vX 1 s.n (ints s.X)) (hY : Row w0 vY 1 s.m (ints s.Y)) (hu60 : u ≤ 1000) (hml : ∀ k, 0 ≤ k → k < u → ml k ≤ 100000) :
    Calls Try.prog 54 [vM, .agg #[vX, vY, .int .i64 s.val, .int .i64 s.den]].toArray w0 fun e w => ∃ v, e = .returned v ∧ ∃ r n pv ln pt cnt e, v = .tuple #[r, .int .i64 e] ∧ FloorR s u ml mf n ln pt cnt e ∧ Slh r n ∧ Sat w0 w [.own r 2 34 n (ucells pv cnt), .sem (Frame.rows 3 n pv ln pt)] := by
  have hn := hX.slh.n0; have hn1 := hX.slh.n1
  have hu := hM.row.slh.n0; have hu1 := hM.row.slh.n1
  refine zenG Try.func54 Try.ntmps54 fun w hS => ?_
  refine zsr ?_
  refine zla (xbx (cs := [_, _, _, _]) hS) ?_; rintro _ w ⟨g1, rfl, hS⟩
  replace hS := hS.n1
  refine zs2 ?_
  refine zlt <| zsq <| zsr ?_
  refine zlv (xls 0 st_52 hS) ?_
  refine zlc (xc0 cl_62) (c_rsound30 (s := s) w (hX.below hS.below) (hY.below hS.below)) ?_; rintro _ w ⟨rfl, hS'⟩
  replace hS := hS.cmp hS'; clear hS'
  refine zs2 ?_
  refine zlb 11 ?_ ?_ <;> intro hc
  ·
   iterate 6 refine zlo ?_
   refine zlv xpt ?_
   refine zlt <| zct <| zsr ?_
   refine zs2 ?_
   refine zlt <| zrt <| ztr <| zf2 ⟨_, rfl, ?_⟩
   exact ⟨_, 0, fun _ => undef, fun _ => 0, fun _ _ => 0, fun _ => 0, 1, rfl, .inl ⟨by first | exact fun hh => absurd hh.1 ‹¬ SoundS s› | (rintro ⟨_, hh⟩; omega), rfl, rfl⟩, slh_nil, ((hS.sub (.cons _ .slnil)).addnil 2 34 (ucells (fun _ => undef) (fun _ => 0))).addrows 3 (fun _ => undef) (fun _ => 0) (fun _ _ => 0)⟩
  refine zlv xmv ?_
  refine zlv (xln sl_32 hM.row.slh) ?_
  refine zlv (xfb 0 fd_52_0) ?_
  refine zlv (xlb 0 pl_22 hS) ?_
  refine zlv (xln sl_22 hX.slh) ?_
  refine zs2 ?_
  refine zlt ?_
  refine zcif ?_ ?_ <;> intro hc
  ·
   refine zsr ?_
   refine zs2 ?_
   refine zlt <| zrt <| ztr <| zf2 ⟨_, rfl, ?_⟩
   exact ⟨_, 0, fun _ => undef, fun _ => 0, fun _ _ => 0, fun _ => 0, 1, rfl, .inl ⟨by first | exact fun hh => absurd hh.1 ‹¬ SoundS s› | (rintro ⟨_, hh⟩; omega), rfl, rfl⟩, slh_nil, ((hS.sub (.cons _ .slnil)).addnil 2 34 (ucells (fun _ => undef) (fun _ => 0))).addrows 3 (fun _ => undef) (fun _ => 0) (fun _ _ => 0)⟩
  refine zsk <| ztn <| zsr ?_
  refine zlv xas ?_
  refine zlt <| zsq <| zsr ?_
  refine zlv xas ?_
  refine zlt <| zbk ?_
  have hsd : SoundS s := by first | assumption | exact Classical.not_not.1 ‹_›
  obtain ⟨⟨d1, d2⟩, ⟨d3, d4⟩, d5⟩ := id hsd
  have hun : u = s.n := by omega
  replace hS := hS.addnil 2 34 (ucells (fun _ => Value.slice none 0 0) (fun _ => 0))
  replace hS := hS.n2
  replace hS := hS.addrows 3 (fun _ => Value.slice none 0 0) (fun _ => 0) (fun _ _ => 0)
  replace hS := hS.n3
  replace hS := hS.n3
  have hrs0 := fun k (k0 : 0 ≤ k) (k1 : k < 0) => hS.slhIn 2 rfl k0 k1
  refine zlp (fun mm M w => ∃ (nC : Int) (wv : Int → Value) (lC : Int → Int) (gC : Int → Int → Int) (cC : Int → Int) (i : Int) (wC : Value), mm = ((u - i).toNat) ∧ (0 ≤ i) ∧ (i ≤ u) ∧ (nC = flN s i.toNat) ∧ (lC = flL s ml i.toNat) ∧ (gC = flG s mf i.toNat) ∧ (cC = flC s i.toNat) ∧ (Slh wC nC) ∧ M = [(0, vM), (3, .pointer (some ⟨g1, 0, none⟩)), (4, .slice none 0 0), (5, .int .i64 0), (6, wC), (7, .int .i64 i)] ∧ Sat w0 w [.blk g1 [vX, vY, .int .i64 s.val, .int .i64 s.den], .own wC 2 34 nC (ucells wv cC), .sem (Frame.rows 3 nC wv lC gC)]) ⟨0, (fun _ => Value.slice none 0 0), (fun _ => 0), (fun _ _ => 0), (fun _ => 0), 0, (.slice none 0 0), rfl, (by omega), (by omega), ?_, ?_, ?_, ?_, ?_, rfl, hS⟩ ?_
  ·
   rfl
  ·
   rfl
  ·
   rfl
  ·
   rfl
  ·
   exact slh_nil
  clear hS w
  rintro mm M w ⟨nC, wv, lC, gC, cC, i, wC, rfl, h0, h1, hnC, hlC, hgC, hcC, hwC, rfl, hS⟩
  have hrs1 := fun k (k0 : 0 ≤ k) (k1 : k < nC) => hS.slhIn 2 rfl k0 k1
  have hnr := flN_rng s i.toNat
  refine zsq <| zsr ?_
  refine zs2 ?_
  refine zlv (xln sl_32 hM.row.slh) ?_
  refine zlv xlss ?_
  refine zlt ?_
  refine zcif ?_ ?_ <;> intro hc
  ·
   refine zsk <| ztn <| zsq <| zbk <| zsq ?_
   refine zdst [0, 1, 2] [0, 1, 2] 1000 mx_ hS ?_; clear hS; intro w hS
   refine zdv 0 (fun _ => (xfb 0 fd_52_0)) ?_
   refine zdla 1 (fun w hS => (xlb 0 pl_22 hS)) ?_
   refine zdv 2 (fun _ => xmv) ?_
   refine zdv 3 (fun _ => (xix (kk := i) sl_22 hX.slh)) ?_
   refine zdla 4 (fun w hS => (xlr (u := .int .i64 (s.X i)) pl_3 (hX.below hS.below))) ?_
   refine zdv 5 (fun _ => (xfb 3 fd_52_3)) ?_
   refine zdla 6 (fun w hS => (xlb 0 pl_3 hS)) ?_
   refine zdv 7 (fun _ => xgeq) ?_
   refine zdd <| ztn ?_
   refine zcif ?_ ?_ <;> intro hc
   ·
    refine zdst [0] [0] 1000 mx_ hS ?_; clear hS; intro w hS
    refine zdv 0 (fun _ => xmv) ?_
    refine zdv 2 (fun _ => xmv) ?_
    refine zdv 3 (fun _ => xmv) ?_
    refine zdv 4 (fun _ => (xix (kk := i) sl_32 hM.row.slh)) ?_
    refine zdla 5 (fun w hS => (xlr (u := (mv i)) pl_22 (hM.row.below hS.below))) ?_
    have hmli := hml i h0 (by omega)
    refine zdv 7 (fun _ => (xfb 0 fd_52_0)) ?_
    refine zdla 8 (fun w hS => (xlb 0 pl_22 hS)) ?_
    refine zdv 9 (fun _ => xmv) ?_
    refine zdv 10 (fun _ => (xix (kk := i) sl_22 hX.slh)) ?_
    refine zdla 11 (fun w hS => (xlr (u := .int .i64 (s.X i)) pl_3 (hX.below hS.below))) ?_
    have hqd := tdiv_abs (a := s.X i) (d := s.den) (A := 1073741824) (by omega) (by have := d5 i h0 (by omega); omega)
    refine zdv 12 (fun _ => (xfb 3 fd_52_3)) ?_
    refine zdla 13 (fun w hS => (xlb 0 pl_3 hS)) ?_
    refine zdv 14 (fun _ => (xquo (r := (Int.tdiv (s.X i) s.den)))) ?_
    refine zda 1 (xl0 (c := ints (mf i)) sl_22 hS) ?_; rintro v1 w ⟨hS, hv1⟩
    replace hS := hS.n4
    refine ⟨⟨fun _ => hS.pk [0], hS.pk [0]⟩, ?_⟩
    refine zda 6 (xap 3 (r := (ml i)) (f := ints (mf i)) sl_22 el_3 hS ((hM.p i (by omega) (by omega)).below hS.below) (by exact cat_self _ _)) ?_; rintro v2 w ⟨hS, hv2⟩
    replace hS := hS.n4
    refine ⟨⟨fun _ => hS.pk [0], hS.pk [0]⟩, ?_⟩
    refine zdv 15 (fun _ => (xany (v := .agg #[v2, .int .i64 (Int.tdiv (s.X i) s.den)]) (hr := by obtain ⟨_, _, _, _, rfl, _⟩ := hv2; kernel_rfl))) ?_
    refine zda 16 (xli (n := 1) (len := 1) (pv := [(0, .agg #[v2, .int .i64 (Int.tdiv (s.X i) s.den)])]) (cs := [v2, .int .i64 (Int.tdiv (s.X i) s.den)]) (c := ucells (fun _ => v2) (fun _ => (Int.tdiv (s.X i) s.den))) sl_25 el_34 hS (hf := by obtain ⟨_, _, _, _, rfl, _⟩ := hv2; kernel_rfl)) ?_; rintro v3 w ⟨hS, hv3⟩
    replace hS := hS.n5
    refine ⟨⟨fun _ => hS.pk [0], hS.pk [0]⟩, ?_⟩
    refine zda 17 (xap 1 (r := nC + 1) sl_25 el_34 hS (hS.rowN 4 rfl) (cat_ucells _ _ _ _ _) (h1 := fun k _ _ => ucells_one (fun _ => hv2.one) k)) ?_; rintro v4 w ⟨hS, hv4⟩
    replace hS := hS.n5
    replace hS := Sat.merge (l1 := [_, _]) (l2 := []) (l3 := [_]) hS (by omega)
    have hrs2 := fun k (k0 : 0 ≤ k) (k1 : k < nC + 1) => hS.slhIn 2 rfl k0 k1
    replace hS := hS.n4
    refine ⟨⟨fun _ => hS.pk [0], hS.pk [0]⟩, ?_⟩
    refine zdv 18 (fun _ => xas) ?_
    refine zdd <| zbn <| ztn <| zrg ?_
    refine zlv xmv ?_
    refine zlv (xadd (r := i + 1)) ?_
    refine zlv xas ?_
    refine zln <| zlq ⟨nC + 1, gsn wv nC v2, gsn lC nC (ml i), gsn gC nC (mf i), (snoc cC nC (Int.tdiv (s.X i) s.den)), i + 1, v4, rfl, (by omega), (by omega), ?_, ?_, ?_, ?_, ?_, rfl, hS.pk [0, 1, 2]⟩
    ·
     rw [flN_next s h0, ← hnC]; first | rw [if_pos (by omega)] | rw [if_neg (by omega)]
    ·
     rw [flL_next s ml h0, ← hlC, ← hnC]; first | rw [if_pos (by omega)] | rw [if_neg (by omega)]
    ·
     rw [flG_next s mf h0, ← hgC, ← hnC]; first | rw [if_pos (by omega)] | rw [if_neg (by omega)]
    ·
     rw [flC_next s h0, ← hcC, ← hnC]; first | rw [if_pos (by omega)] | rw [if_neg (by omega)]
    ·
     exact hv4
   refine zsk <| zbn <| ztn <| zrg ?_
   refine zlv xmv ?_
   refine zlv (xadd (r := i + 1)) ?_
   refine zlv xas ?_
   refine zln <| zlq ⟨nC, wv, lC, gC, cC, i + 1, wC, rfl, (by omega), (by omega), ?_, ?_, ?_, ?_, ?_, rfl, hS⟩
   ·
    rw [flN_next s h0, ← hnC]; first | rw [if_pos (by omega)] | rw [if_neg (by omega)]
   ·
    rw [flL_next s ml h0, ← hlC, ← hnC]; first | rw [if_pos (by omega)] | rw [if_neg (by omega)]
   ·
    rw [flG_next s mf h0, ← hgC, ← hnC]; first | rw [if_pos (by omega)] | rw [if_neg (by omega)]
   ·
    rw [flC_next s h0, ← hcC, ← hnC]; first | rw [if_pos (by omega)] | rw [if_neg (by omega)]
   ·
    exact hwC
  refine zxt <| ztx <| ztx <| zbh <| ztn <| zsr ?_
  refine zs3 ?_
  refine zlt <| zrt <| zf2 ⟨_, rfl, ?_⟩
  have him : i = u := by omega
  rw [him] at hnC hlC hgC hcC
  exact ⟨_, _, _, _, _, _, 0, rfl, .inr ⟨hsd, hun, hnC, hlC, hgC, hcC, rfl⟩, hwC, hS.pk [1, 2]⟩

def FracR (s : So) (k : Int) (ok : Prop) : Prop := (¬ SoundS s ∧ k = 0 ∧ ¬ ok) ∨ (SoundS s ∧ (∀ j, 0 ≤ j → j < s.n → (s.X j).tmod s.den = 0) ∧ k = 0 ∧ ¬ ok) ∨ (SoundS s ∧ 0 ≤ k ∧ k < s.n ∧ (s.X k).tmod s.den ≠ 0 ∧ (∀ j, 0 ≤ j → j < k → (s.X j).tmod s.den = 0) ∧ ok)
theorem FracR.same {s : So} {k k2 : Int} {ok ok2 : Prop} (h : FracR s k ok) (h' : FracR s k2 ok2) : k = k2 ∧ (ok ↔ ok2) := by
  rcases h with ⟨h1, h2, h3⟩ | ⟨h1, h2, h3, h4⟩ | ⟨h1, h2, h3, h4, h5, h6⟩ <;> rcases h' with ⟨g1, g2, g3⟩ | ⟨g1, g2, g3, g4⟩ | ⟨g1, g2, g3, g4, g5, g6⟩ <;>
    first
    | exact absurd ‹SoundS s› ‹¬ SoundS s›
    | exact ⟨by omega, fun h => absurd h ‹¬ ok›, fun h => absurd h ‹¬ ok2›⟩
    | exact absurd (g2 k (by omega) (by omega)) (by assumption)
    | exact absurd (h2 k2 (by omega) (by omega)) (by assumption)
    | (refine ⟨?_, fun _ => g6, fun _ => h6⟩
       rcases Int.lt_trichotomy k k2 with h | h | h
       · exact absurd (g5 k (by omega) h) h4
       · exact h
       · exact absurd (h5 k2 (by omega) h) g4)

theorem fracR_ix {s : So} {r : Int} (h : SoundS s) (hr : (r = -1 ∧ ∀ k, 0 ≤ k → k < s.n → ¬ ((s.X k).tmod s.den ≠ 0)) ∨ (0 ≤ r ∧ r < s.n ∧ (s.X r).tmod s.den ≠ 0 ∧ ∀ k, 0 ≤ k → k < r → ¬ ((s.X k).tmod s.den ≠ 0))) : FracR s (max r 0) (0 ≤ r) := by
  rcases hr with ⟨h1, h2⟩ | ⟨h1, h2, h3, h4⟩
  · exact .inr (.inl ⟨h, fun j j0 j1 => Classical.not_not.1 (h2 j j0 j1), by omega, by omega⟩)
  · rw [show max r 0 = r by omega]
    exact .inr (.inr ⟨h, h1, h2, h3, fun j j0 j1 => Classical.not_not.1 (h4 j j0 j1), h1⟩)

set_option maxRecDepth 20000 in
theorem c_splan {vV : Value} {n : Int} {pv : Int → Value} {ln : Int → Int} {pt : Int → Int → Int} {cnt : Int → Int} {vV2 : Value} {n2 : Int} {pv2 : Int → Value} {ln2 : Int → Int} {pt2 : Int → Int → Int} {cnt2 : Int → Int} (w0 : World) (hV : VAt w0 vV n pv ln pt cnt) (hV2 : VAt w0 vV2 n2 pv2 ln2 pt2 cnt2) :
    Calls Try.prog 60 [vV, vV2].toArray w0 fun e w => ∃ v, e = .returned v ∧ v = B (SameP n n2 ln ln2 pt pt2 cnt cnt2) ∧ Sat w0 w [] := by
  have hn := hV.row.slh.n0; have hn1 := hV.row.slh.n1
  have hm1 := hV2.row.slh.n1
  refine zenG Try.func60 Try.ntmps60 fun w hS => ?_
  refine zsr ?_
  refine zlv xas ?_
  refine zlt <| zsq <| zsr ?_
  refine zlv xmv ?_
  refine zlv (xln sl_25 hV.row.slh) ?_
  refine zlv xmv ?_
  refine zlv (xln sl_25 hV2.row.slh) ?_
  refine zlv xneq ?_
  refine zlt ?_
  refine zcif ?_ ?_ <;> intro hc
  ·
   refine zsr ?_
   refine zlv xas ?_
   refine zlt <| zrt <| ztr <| zf1 ⟨_, rfl, ?_⟩
   exact ⟨false_B (by rintro ⟨h1, h2⟩; first | omega | (obtain ⟨g1, g2⟩ := h2 i h0 (by omega); first | omega | exact absurd g2 ‹_›)), hS⟩
  refine zsk <| ztn <| zsq <| zsr ?_
  refine zlv xas ?_
  refine zlt <| zbk <| zlp (fun mm M w => ∃ (i : Int), mm = ((n - i).toNat) ∧ (0 ≤ i) ∧ (i ≤ n) ∧ (∀ k, 0 ≤ k → k < i → cnt k = cnt2 k ∧ ln k = ln2 k ∧ ∀ j, 0 ≤ j → j < ln k → pt k j = pt2 k j) ∧ M = [(0, vV), (1, vV2), (5, .int .i64 i)] ∧ Sat w0 w []) ⟨0, rfl, (by omega), (by omega), ?_, rfl, hS⟩ ?_
  ·
   intro k k0 k1; omega
  clear hS w
  rintro mm M w ⟨i, rfl, h0, h1, hall, rfl, hS⟩
  refine zsq <| zsr ?_
  refine zs2 ?_
  refine zlv (xln sl_25 hV.row.slh) ?_
  refine zlv xlss ?_
  refine zlt ?_
  refine zcif ?_ ?_ <;> intro hc
  ·
   refine zsk <| ztn <| zsq <| zbk <| zsq ?_
   refine zdst [] [] 1000 mx_ hS ?_; clear hS; intro w hS
   refine zdv 0 (fun _ => xmv) ?_
   refine zdv 1 (fun _ => xmv) ?_
   refine zdv 2 (fun _ => (xix (kk := 2 * i) sl_25 hV.row.slh)) ?_
   refine zdv 3 (fun _ => (xfc (kk := 2 * i + 1) fd_34_1 hV.row.slh)) ?_
   refine zdla 4 (fun w hS => (xlr (u := .int .i64 (cnt i)) pl_3 (hV.row.below hS.below) (e := (ucells1 pv cnt (by omega))))) ?_
   refine zdv 5 (fun _ => xmv) ?_
   refine zdv 6 (fun _ => xmv) ?_
   refine zdv 7 (fun _ => (xix (kk := 2 * i) sl_25 hV2.row.slh)) ?_
   refine zdv 8 (fun _ => (xfc (kk := 2 * i + 1) fd_34_1 hV2.row.slh)) ?_
   refine zdla 9 (fun w hS => (xlr (u := .int .i64 (cnt2 i)) pl_3 (hV2.row.below hS.below) (e := (ucells1 pv2 cnt2 (by omega))))) ?_
   refine zdv 10 (fun _ => xneq) ?_
   refine zdv 11 (fun _ => xmv) ?_
   refine zdb 28 ?_ ?_ <;> intro hc
   ·
    refine zdof 12 ?_
    refine zdof 13 ?_
    refine zdof 14 ?_
    refine zdof 15 ?_
    refine zdof 16 ?_
    refine zdof 17 ?_
    refine zdof 18 ?_
    refine zdof 19 ?_
    refine zdof 20 ?_
    refine zdof 21 ?_
    refine zdof 22 ?_
    refine zdof 23 ?_
    refine zdv 24 (fun _ => xpt) ?_
    refine zdd <| ztn <| zct <| zsr ?_
    refine zlv xas ?_
    refine zlt <| zrt <| zbr <| ztr <| ztr <| zbr <| ztr <| zf1 ⟨_, rfl, ?_⟩
    exact ⟨false_B (by rintro ⟨h1, h2⟩; first | omega | (obtain ⟨g1, g2⟩ := h2 i h0 (by omega); first | omega | exact absurd g2 ‹_›)), hS⟩
   refine zdv 12 (fun _ => xmv) ?_
   refine zdv 13 (fun _ => xmv) ?_
   refine zdv 14 (fun _ => (xix (kk := 2 * i) sl_25 hV.row.slh)) ?_
   refine zdv 15 (fun _ => (xfc (kk := 2 * i) fd_34_0 hV.row.slh)) ?_
   refine zdla 16 (fun w hS => (xlr (u := (pv i)) pl_22 (hV.row.below hS.below) (e := (ucells0 pv cnt (by omega))))) ?_
   refine zdv 17 (fun _ => xmv) ?_
   refine zdv 18 (fun _ => xmv) ?_
   refine zdv 19 (fun _ => (xix (kk := 2 * i) sl_25 hV2.row.slh)) ?_
   refine zdv 20 (fun _ => (xfc (kk := 2 * i) fd_34_0 hV2.row.slh)) ?_
   refine zdla 21 (fun w hS => (xlr (u := (pv2 i)) pl_22 (hV2.row.below hS.below) (e := (ucells0 pv2 cnt2 (by omega))))) ?_
   refine zdc 22 (xc0 cl_66) (c_same28 (n := (ln i)) (m := (ln2 i)) (f := (pt i)) (g := (pt2 i)) w ((hV.p i (by omega) (by omega)).below hS.below) ((hV2.p i (by omega) (by omega)).below hS.below)) ?_; rintro _ w ⟨rfl, hS'⟩
   replace hS := hS.cmp hS'; clear hS'
   refine ⟨⟨fun _ => hS, hS⟩, ?_⟩
   refine zdv 23 (fun _ => xnot) ?_
   refine zdv 24 (fun _ => xpf) ?_
   refine zdd <| ztn ?_
   refine zcif ?_ ?_ <;> intro hc
   ·
    refine zsr ?_
    refine zlv xas ?_
    refine zlt <| zrt <| zbr <| ztr <| ztr <| zbr <| ztr <| zf1 ⟨_, rfl, ?_⟩
    exact ⟨false_B (by rintro ⟨h1, h2⟩; first | omega | (obtain ⟨g1, g2⟩ := h2 i h0 (by omega); first | omega | exact absurd g2 ‹_›)), hS⟩
   refine zsk <| zbn <| ztn <| zrg ?_
   refine zlv xmv ?_
   refine zlv (xadd (r := i + 1)) ?_
   refine zlv xas ?_
   refine zln <| zlq ⟨i + 1, rfl, (by omega), (by omega), ?_, rfl, hS⟩
   ·
    have hq : (ln i) = (ln2 i) ∧ ∀ k, 0 ≤ k → k < (ln i) → (pt i) k = (pt2 i) k := by first | assumption | exact Classical.not_not.1 ‹_›
    intro k k0 k1; rcases Int.lt_or_eq_of_le (show k ≤ i by omega) with hk | hk
    · exact hall k k0 hk
    · rw [hk]; exact ⟨by omega, hq⟩
  refine zxt <| ztx <| ztx <| zbh <| ztn <| zsr ?_
  refine zlv xas ?_
  refine zlt <| zrt <| zf1 ⟨_, rfl, ?_⟩
  exact ⟨true_B ⟨by omega, fun k k0 k1 => hall k k0 (by omega)⟩, hS⟩

set_option maxRecDepth 20000 in
theorem c_theirs {vV : Value} {n : Int} {pv : Int → Value} {ln : Int → Int} {pt : Int → Int → Int} {cnt : Int → Int} (w0 : World) (hV : VAt w0 vV n pv ln pt cnt) (hn5 : n ≤ 100000) :
    Calls Try.prog 61 [vV].toArray w0 fun e w => ∃ v, e = .returned v ∧ ∃ r, v = r ∧ Slh r n ∧ Sat w0 w [.own r 2 34 n (ucells pv cnt)] := by
  have hn := hV.row.slh.n0; have hn1 := hV.row.slh.n1
  refine zenG Try.func61 Try.ntmps61 fun w hS => ?_
  refine zsr ?_
  refine zlv xas ?_
  refine zlz ?_
  refine zlv xas ?_
  refine zlt <| zsq <| zsr ?_
  refine zlv xmv ?_
  refine zlv (xln sl_43 hV.row.slh) ?_
  refine zlv xmv ?_
  refine zlt <| zbk ?_
  replace hS := hS.addnil 2 34 (ucells (fun _ => Value.slice none 0 0) (fun _ => 0))
  replace hS := hS.n1
  refine zlp (fun mm M w => ∃ (nC : Int) (wv : Int → Value) (cC : Int → Int) (i : Int) (wC : Value), mm = ((n - i).toNat) ∧ (0 ≤ i) ∧ (i ≤ n) ∧ (nC = i) ∧ (∀ k, 0 ≤ k → k < i → wv k = pv k) ∧ (∀ k, 0 ≤ k → k < i → cC k = cnt k) ∧ (Slh wC nC) ∧ M = [(2, .slice none 0 0), (3, wC), (6, vV), (7, .int .i64 n), (8, .int .i64 i)] ∧ Sat w0 w [.own wC 2 34 nC (ucells wv cC)]) ⟨0, (fun _ => Value.slice none 0 0), (fun _ => 0), 0, (.slice none 0 0), rfl, (by omega), (by omega), (by omega), ?_, ?_, ?_, rfl, hS⟩ ?_
  ·
   intro k k0 k1; omega
  ·
   intro k k0 k1; omega
  ·
   exact slh_nil
  clear hS w
  rintro mm M w ⟨nC, wv, cC, i, wC, rfl, h0, h1, hnC, hwv, hcC, hwC, rfl, hS⟩
  refine zsr ?_
  refine zlv xlss ?_
  refine zlt <| zsq ?_
  refine zcif ?_ ?_ <;> intro hc
  ·
   refine zsk <| ztn <| zsq <| zbk <| zsr ?_
   refine zlv (xix (kk := 2 * i) sl_43 hV.row.slh) ?_
   refine zlv (xlw (cs := [(pv i), .int .i64 (cnt i)]) st_50 (hV.row.below hS.below) (ucells_at (k := 2 * i) (i := i) pv cnt (by omega))) ?_
   refine zla (xal (cs := [_, _]) el_50 hS) ?_; rintro _ w ⟨g1, rfl, hS⟩
   replace hS := hS.n2
   refine zle (xsw 1 st_50 hS (hd := (ones_cons (hV.p i (by omega) (by omega)).slh.one (ones_cons rfl ones_nil)))) ?_; clear hS; rintro w hS
   replace hS := hS.n2
   refine zlt <| zrg ?_
   refine zlv xmv ?_
   refine zlv (xls 1 st_50 hS) ?_
   refine zla (xli (n := 1) (len := 1) (pv := [(0, .agg #[(pv i), .int .i64 (cnt i)])]) (cs := [(pv i), .int .i64 (cnt i)]) (c := ucells (fun _ => (pv i)) (fun _ => (cnt i))) sl_25 el_34 hS (hf := by have hz := (hV.p i (by omega) (by omega)).slh; revert hz; generalize (pv i) = z; rintro ⟨_, _, _, _, rfl, _⟩; show _ = _; kernel_rfl)) ?_; rintro v1 w ⟨hS, hv1⟩
   replace hS := hS.n3
   refine zla (xap 0 (r := nC + 1) sl_25 el_34 hS (hS.rowN 2 rfl) (cat_ucells _ _ _ _ _) (h1 := fun k _ _ => ucells_one (fun _ => (hV.p i (by omega) (by omega)).slh.one) k)) ?_; rintro v2 w ⟨hS, hv2⟩
   replace hS := hS.n3
   refine zlv xas ?_
   refine zln <| zbn <| ztn <| zrg ?_
   refine zlv (xadd (r := i + 1)) ?_
   refine zlv xmv ?_
   refine zln <| zlq ⟨nC + 1, (gsn wv nC (pv i)), (snoc cC nC (cnt i)), i + 1, v2, rfl, (by omega), (by omega), (by omega), ?_, ?_, ?_, rfl, hS.pk [0]⟩
   ·
    intro k k0 k1; by_cases e : k < nC
    · rw [gsn_lt e]; exact hwv k k0 (by omega)
    · rw [gsn_at e, show k = i by omega]
   ·
    intro k k0 k1; by_cases e : k < nC
    · rw [snoc_lt e]; exact hcC k k0 (by omega)
    · rw [snoc_at e, show k = i by omega]
   ·
    exact hv2
  refine zxt <| ztx <| ztx <| zbh <| ztn <| zsr ?_
  refine zs2 ?_
  refine zlt <| zrt <| zf1 ⟨_, rfl, ?_⟩
  obtain rfl : i = n := by omega
  subst hnC
  replace hS := hS.recont 0 rfl (d := ucells pv cnt) (fun k k0 k1 => by unfold ucells; rw [hwv _ (by omega) (by omega), hcC _ (by omega) (by omega)])
  exact ⟨_, rfl, hwC, hS⟩

theorem eqlB (w : World) (a b : Bool) : (binOp .eql 4 (.bool a) (.bool b)).run Try.prog w = .ok (.bool (a == b)) w := by
  cases a <;> cases b <;> kernel_rfl
theorem ex_eqb {L : List (Nat × Value)} {w : World} {o : Oper} {x y : Operand} {T' : TypeId} {p q : Prop} (ho : o.op = .binOp .eql 4 x y T') (hx : evL L x = some (B p)) (hy : evL L y = some (B q)) : Runs Try.prog L w o (.value (B (p ↔ q))) w := fun ρ h => by
  by_cases hp : p <;> by_cases hq : q
  · rw [B_true hp] at hx; rw [B_true hq] at hy; rw [B_true (show p ↔ q from ⟨fun _ => hq, fun _ => hp⟩)]; simp [execOp, ho, h _ _ hx, h _ _ hy, eqlB]; rfl
  · rw [B_true hp] at hx; rw [B_false hq] at hy; rw [B_false (show ¬ (p ↔ q) from fun e => hq (e.1 hp))]; simp [execOp, ho, h _ _ hx, h _ _ hy, eqlB]; rfl
  · rw [B_false hp] at hx; rw [B_true hq] at hy; rw [B_false (show ¬ (p ↔ q) from fun e => hp (e.2 hq))]; simp [execOp, ho, h _ _ hx, h _ _ hy, eqlB]; rfl
  · rw [B_false hp] at hx; rw [B_false hq] at hy; rw [B_true (show p ↔ q from ⟨fun e => absurd e hp, fun e => absurd e hq⟩)]; simp [execOp, ho, h _ _ hx, h _ _ hy, eqlB]; rfl

end Go.Proofs.Ytopmifmfecfaaaa
