/- A region that draws its order, within a round or not, with calls and calls of yield among its operations: each order is followed. Over any program. -/
import Derived.Test.YtopmifmfecfaaaaGh
import Derived.OrdersIn
namespace Go.Proofs.Gw
open Go Go.RowKit
set_option linter.unusedVariables false
section
variable {P : Program} {l rest : List Oper} {Q Q' : Exit → Act → World → Prop} {w w' w0 : World} {o : Oper} {n d fuel i : Nat} {L M : List (Nat × Value)} {x y : Code} {c : Operand} {e : Exit} {p : Prop} {r : Option Nat} {ds : List Deferred} {listed : Array Bool} {K : Act → World → Prop}
def Hd (P : Program) (r : Option Nat) (n : Nat) (l : List Oper) (Q : Exit → Act → World → Prop) (fuel : Nat) (listed : Array Bool) (ds : List Deferred) (L : List (Nat × Value)) (w : World) : Prop := ∀ a, Frd a n ds L → wpAnyIn (FZ r) 0 P .any l.toArray Q fuel listed a w
def Ho (P : Program) (r : Option Nat) (n : Nat) (l : List Oper) (Q : Exit → Act → World → Prop) (o : Oper) (K : Act → World → Prop) (ds : List Deferred) (L : List (Nat × Value)) (w : World) : Prop := ∀ a, Frd a n ds L → if Region.wanted o (yielded l.toArray a.tmps) = true then o.wpIn (FZ r) 0 P a w K Q else (∀ f, o.about P w a.eval = some f → (FZ r).fn f) ∧ K (a.put o.dst undef) w
theorem Ho.op {i : Nat} (h : Ho P r n l Q o K ds L w) (ho : l[i]? = some o) {a : Act} (hF : Frd a n ds L) : wpOpIn (FZ r) 0 P l.toArray Q i K a w := by
  unfold wpOpIn
  rw [show l.toArray[i]? = some o by simpa using ho]
  exact h a hF
theorem hdr {id : Nat} {m : List Ent} (fuel : Nat) (hm : P.follows .mixedOrders = true) (hS : Sat w0 w m) (K : ∀ w, Sat w0 w m → Hd P r n l Q fuel (Array.replicate fuel false) ds L w) (hn : l.length = fuel := by exact rfl) : Hc P r n Q (.region id l.toArray true) ds L w := fun a hF => by
  subst hn
  exact wpIn_region_any hm (by have := K _ hS.draw a hF; simpa using this)
theorem hd0 (h : He n Q .normal ds L w) (hr : Region.ready .any l.toArray listed = [] := by kernel_rfl) : Hd P r n l Q fuel listed ds L w := fun a hF => wpAnyIn_done hr (h a hF) _
theorem hd1 (i : Nat) {o : Oper} (h : Ho P r n l Q o (wpAnyIn (FZ r) 0 P .any l.toArray Q fuel (listed.setIfInBounds i true)) ds L w) (hr : Region.ready .any l.toArray listed = [i] := by kernel_rfl) (ho : l[i]? = some o := by exact rfl) : Hd P r n l Q (fuel + 1) listed ds L w := fun a hF =>
  wpAnyIn_all hr (by simp) fun j hj => by obtain rfl : j = i := by simpa using hj
                                          exact h.op ho hF
theorem hd2 (i j : Nat) {o o' : Oper} (hi : Ho P r n l Q o (wpAnyIn (FZ r) 0 P .any l.toArray Q fuel (listed.setIfInBounds i true)) ds L w) (hj : Ho P r n l Q o' (wpAnyIn (FZ r) 0 P .any l.toArray Q fuel (listed.setIfInBounds j true)) ds L w) (hr : Region.ready .any l.toArray listed = [i, j] := by kernel_rfl) (ho : l[i]? = some o := by exact rfl) (ho' : l[j]? = some o' := by exact rfl) : Hd P r n l Q (fuel + 1) listed ds L w := fun a hF =>
  wpAnyIn_all hr (by simp) fun k hk => by
    rcases List.mem_cons.1 hk with rfl | hk
    · exact hi.op ho hF
    · obtain rfl : k = j := by simpa using hk
      exact hj.op ho' hF
theorem hov {v : Value} (hr : Runs P L w o (.value v) w') (K : Hd P r n l Q fuel listed ds ((d, v) :: L) w') (hg : gdB l L o = some true := by exact rfl) (hd : o.dst = some d := by exact rfl) (hdn : Nat.blt d n = true := by exact rfl) (hn : ndf o = true := by exact rfl) : Ho P r n l Q o (wpAnyIn (FZ r) 0 P .any l.toArray Q fuel listed) ds L w := fun a hF => by
  rw [if_pos (hwant hF hg)]
  refine ⟨fun _ _ => trivial, ?_⟩
  rw [ndf_sem hn, hr _ hF.agr, Oper.uponIn_value, hd]
  exact K _ (hF.put (by simpa [Nat.blt_eq] using hdn) v)
theorem hoc {f : FuncId} {args : Array Value} {R : Value → World → Prop} (hr : Runs P L w o (.enter f args) w) (hc : Calls P f args w fun e w' => ∃ v, e = .returned v ∧ R v w') (K : ∀ v w', R v w' → Hd P r n l Q fuel listed ds ((d, v) :: L) w')
    (hg : gdB l L o = some true := by exact rfl) (hd : o.dst = some d := by exact rfl) (hdn : Nat.blt d n = true := by exact rfl) (hn : ndf o = true := by exact rfl) : Ho P r n l Q o (wpAnyIn (FZ r) 0 P .any l.toArray Q fuel listed) ds L w := fun a hF => by
  rw [if_pos (hwant hF hg)]
  refine ⟨fun _ _ => trivial, ?_⟩
  rw [ndf_sem hn, hr _ hF.agr, Oper.uponIn_enter]
  refine ⟨fun h => (by cases h), FZ_calls (hc.mono fun e w' ⟨v, he, hR⟩ => ?_)⟩
  subst he
  rw [hd]
  exact K v w' hR _ (hF.put (by simpa [Nat.blt_eq] using hdn) v)
theorem hoy {l0 : Nat} {xs : Array Operand} {ts : Array TypeId} {vs : List Value} {z : Operand} {R : Value → World → Prop} (hY : Yld P l0 vs w R) (K : ∀ v w', R v w' → Hd P r n l Q fuel listed ds ((d, v) :: L) w')
    (hop : o.op = .call { callee := .value z, args := xs, argTypes := ts } := by exact rfl) (hx : evL L z = some (.func (.yield l0) #[] #[]) := by exact rfl) (ha : Args L xs vs := by repeat' first | exact args0 | apply args_cons rfl)
    (hg : gdB l L o = some true := by exact rfl) (hd : o.dst = some d := by exact rfl) (hdn : Nat.blt d n = true := by exact rfl) : Ho P r n l Q o (wpAnyIn (FZ r) 0 P .any l.toArray Q fuel listed) ds L w := fun a hF => by
  obtain ⟨fn, tmps, assign, body, hy, hR⟩ := hY
  have hr := xyl (P := P) (L := L) (o := o) hy hop hx ha
  rw [if_pos (hwant hF hg)]
  refine ⟨fun _ _ => trivial, ?_⟩
  rw [ndf_sem (by unfold ndf; rw [hop]), hr _ hF.agr, Oper.uponIn_round]
  refine ⟨fun h => (by cases h), (show RoundIn (FZ r) (0 - 1) P l0 fn tmps assign body w fun e w' => ∃ v, e = .returned v ∧ R v w' from hR).mono fun e w' ⟨v, he, hR⟩ => ?_⟩
  subst he
  rw [hd]
  exact K v w' hR _ (hF.put (by simpa [Nat.blt_eq] using hdn) v)
/-! An iterator that holds a loop over another one. -/
theorem henIM {f : FuncId} {fn : Func} {vs : List Value} {R : Ending → World → Prop} (hf : P.funcs[f]? = some fn) (hn : fn.ntmps = n) (K : Hc P none n (bodyPostM (FZ none) 0 P fn R) x [] (num 0 vs) w) (hb : fn.body = some x := by exact rfl) (hv : Nat.ble vs.length n = true := by exact rfl) : Calls P f vs.toArray w R :=
  FZ_calls' (r := none) (n := 0) (callsIn_of_wp_marks hf hb trivial (by
    rw [hn]
    exact K _ ((Fr.enter (vs := vs.toArray) (by simpa using Nat.le_of_ble_eq_true hv) fun t v ht => by have := (lk_num vs 0 t v ht).2; simpa using this))))
theorem hmkn0 {fn : Func} {R : Ending → World → Prop} (h : Ge n [] (bodyPost P fn R) .normal L w) : He n (bodyPostM (FZ none) 0 P fn R) .normal [] L w := fun a hF => hmk0 (fun a hF => h a hF) a hF
theorem hmkn1 {fn : Func} {R : Ending → World → Prop} {E : List Ent} {D : Nat} (i : Nat) (hS : Sat w0 w E) (K : ∀ w', Sat w0 w' (E.set i (dfE D false)) → Ge n [] (bodyPost P fn R) .normal L w') (hi : E[i]? = some (dfE D true) := by exact rfl) : He n (bodyPostM (FZ none) 0 P fn R) .normal [mrk D] L w := fun a hF => hmk1 i hS (fun w' h a hF => K w' h a hF) hi a hF
end
end Go.Proofs.Gw
