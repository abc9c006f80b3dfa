/- Walks of functions that hold a loop over a function, and of the functions that are looped over: frames with marks among their deferred calls, rounds, calls of yield. Over any program. -/
import Derived.Test.YtopmifmfecfaaaaGc
import Derived.RangeFuncBox
import Derived.RangeFuncLeaves
namespace Go.Proofs.Gw
open Go Go.RowKit
set_option linter.unusedVariables false
set_option linter.unusedSimpArgs false

def FZ (r : Option Nat) : Fence := { fn := fun _ => True, depth := none, alive := false, round := r }
theorem FZ_calls {P : Program} {f : FuncId} {args : Array Value} {w : World} {R : Ending → World → Prop} {r : Option Nat} {n : Nat} (h : Calls P f args w R) : CallsIn (FZ r) n P f args w R :=
  (callsIn_wide (n := n)).2 h
theorem FZ_calls' {P : Program} {f : FuncId} {args : Array Value} {w : World} {R : Ending → World → Prop} {r : Option Nat} {n : Nat} (h : CallsIn (FZ r) n P f args w R) : Calls P f args w R :=
  (callsIn_wide (n := n)).1 h
abbrev Frd (a : Act) (n : Nat) (ds : List Deferred) (L : List (Nat × Value)) : Prop := Fr a n ds L
def ndf (o : Oper) : Bool := match o.op with
  | .defer _ => false
  | _ => true
theorem ndf_sem {o : Oper} (h : ndf o = true) (r : Option Nat) (ρ : Operand → Value) : o.semAt r ρ = execOp ρ o :=
  Oper.semAt_eq _ _ _ (by intro c hc; unfold ndf at h; rw [hc] at h; cases h)

section
variable {P : Program} {l rest : List Oper} {Q Q' : Exit → Act → World → Prop} {w w' w0 : World} {o : Oper} {n d : Nat} {L M : List (Nat × Value)} {x y : Code} {c : Operand} {e : Exit} {p : Prop} {r : Option Nat} {ds : List Deferred}
def Hl (P : Program) (r : Option Nat) (n : Nat) (l : List Oper) (Q : Exit → Act → World → Prop) (rest : List Oper) (ds : List Deferred) (L : List (Nat × Value)) (w : World) : Prop := ∀ a, Frd a n ds L → wpListIn (FZ r) 0 P l.toArray Q rest a w
def Hc (P : Program) (r : Option Nat) (n : Nat) (Q : Exit → Act → World → Prop) (x : Code) (ds : List Deferred) (L : List (Nat × Value)) (w : World) : Prop := ∀ a, Frd a n ds L → x.wpIn (FZ r) 0 P Q a w
abbrev He (n : Nat) (Q : Exit → Act → World → Prop) (e : Exit) (ds : List Deferred) (L : List (Nat × Value)) (w : World) : Prop := Ge n ds Q e L w
theorem hwant {b : Bool} {a : Act} (hF : Frd a n ds L) (h : gdB l L o = some b) : Region.wanted o (yielded l.toArray a.tmps) = b := by
  exact (gdB_want h).wanted hF
theorem hlv {v : Value} (hr : Runs P L w o (.value v) w') (K : Hl P r n l Q rest ds ((d, v) :: L) w') (hg : gdB l L o = some true := by exact rfl) (hd : o.dst = some d := by exact rfl) (hdn : Nat.blt d n = true := by exact rfl) (hn : ndf o = true := by exact rfl) : Hl P r n l Q (o :: rest) ds L w := fun a hF => by
  unfold wpListIn
  rw [if_pos (hwant hF hg)]
  refine ⟨fun _ _ => trivial, ?_⟩
  rw [ndf_sem hn, hr _ hF.agr, Oper.uponIn_value, hd]
  exact K _ (hF.put (by simpa [Nat.blt_eq] using hdn) v)
theorem hlvr {v : Value} (hg : gdB l L o = some true) (hd : o.dst = some d) (hdn : Nat.blt d n = true) (hr : Runs P L w o (.value v) w') (K : Hl P r n l Q rest ds ((d, v) :: L) w') (hn : ndf o = true := by exact rfl) : Hl P r n l Q (o :: rest) ds L w := hlv hr K hg hd hdn hn
theorem hlo (K : Hl P r n l Q rest ds ((d, undef) :: L) w) (hg : gdB l L o = some false := by exact rfl) (hd : o.dst = some d := by exact rfl) (hdn : Nat.blt d n = true := by exact rfl) : Hl P r n l Q (o :: rest) ds L w := fun a hF => by
  unfold wpListIn
  rw [if_neg (by rw [hwant hF hg]; simp)]
  refine ⟨fun _ _ => trivial, ?_⟩
  rw [hd]
  exact K _ (hF.put (by simpa [Nat.blt_eq] using hdn) undef)
theorem hla {R : Value → World → Prop} (hr : ∃ v w', Runs P L w o (.value v) w' ∧ R v w') (K : ∀ v w', R v w' → Hl P r n l Q rest ds ((d, v) :: L) w') (hg : gdB l L o = some true := by exact rfl) (hd : o.dst = some d := by exact rfl) (hdn : Nat.blt d n = true := by exact rfl) (hn : ndf o = true := by exact rfl) : Hl P r n l Q (o :: rest) ds L w := by
  obtain ⟨v, w', hr, hR⟩ := hr
  exact hlv hr (K v w' hR) hg hd hdn hn
theorem hlar {R : Value → World → Prop} (hg : gdB l L o = some true) (hd : o.dst = some d) (hdn : Nat.blt d n = true) (hr : ∃ v w', Runs P L w o (.value v) w' ∧ R v w') (K : ∀ v w', R v w' → Hl P r n l Q rest ds ((d, v) :: L) w') (hn : ndf o = true := by exact rfl) : Hl P r n l Q (o :: rest) ds L w := hla hr K hg hd hdn hn
theorem hle {R : World → Prop} (hr : ∃ w', Runs P L w o .skip w' ∧ R w') (K : ∀ w', R w' → Hl P r n l Q rest ds L w') (hg : gdB l L o = some true := by exact rfl) (hd : o.dst = none := by exact rfl) (hn : ndf o = true := by exact rfl) : Hl P r n l Q (o :: rest) ds L w := fun a hF => by
  obtain ⟨w', hr, hR⟩ := hr
  unfold wpListIn
  rw [if_pos (hwant hF hg)]
  refine ⟨fun _ _ => trivial, ?_⟩
  rw [ndf_sem hn, hr _ hF.agr, Oper.uponIn_skip, hd]
  exact K w' hR a hF
theorem hler {R : World → Prop} (hg : gdB l L o = some true) (hd : o.dst = none) (hr : ∃ w', Runs P L w o .skip w' ∧ R w') (K : ∀ w', R w' → Hl P r n l Q rest ds L w') (hn : ndf o = true := by exact rfl) : Hl P r n l Q (o :: rest) ds L w := hle hr K hg hd hn
theorem hlc {f : FuncId} {args : Array Value} {R : Value → World → Prop} (hr : Runs P L w o (.enter f args) w) (hc : Calls P f args w fun e w' => ∃ v, e = .returned v ∧ R v w') (K : ∀ v w', R v w' → Hl P r n l Q rest ds ((d, v) :: L) w')
    (hg : gdB l L o = some true := by exact rfl) (hd : o.dst = some d := by exact rfl) (hdn : Nat.blt d n = true := by exact rfl) (hn : ndf o = true := by exact rfl) : Hl P r n l Q (o :: rest) ds L w := fun a hF => by
  unfold wpListIn
  rw [if_pos (hwant hF hg)]
  refine ⟨fun _ _ => trivial, ?_⟩
  rw [ndf_sem hn, hr _ hF.agr, Oper.uponIn_enter]
  refine ⟨fun h => (by cases h), FZ_calls (hc.mono fun e w' ⟨v, he, hR⟩ => ?_)⟩
  subst he
  rw [hd]
  exact K v w' hR _ (hF.put (by simpa [Nat.blt_eq] using hdn) v)
/-- What a call of yield leads to. -/
def Yld (P : Program) (l : Nat) (vs : List Value) (w : World) (R : Value → World → Prop) : Prop :=
  ∃ fn tmps assign body, (Instr.yield l vs.toArray).run P w = .ok (.round l fn tmps assign body) w ∧ RoundIn (FZ none) 0 P l fn tmps assign body w fun e w' => ∃ v, e = .returned v ∧ R v w'
theorem xyl {l0 : Nat} {xs : Array Operand} {ts : Array TypeId} {vs : List Value} {z : Operand} {N : Next} (hy : (Instr.yield l0 vs.toArray).run P w = .ok N w) (ho : o.op = .call { callee := .value z, args := xs, argTypes := ts }) (hx : evL L z = some (.func (.yield l0) #[] #[])) (ha : Args L xs vs) : Runs P L w o N w := fun ρ h => by
  have h1 := ha ρ h
  simp [execOp, ho, resolve, h _ _ hx, Deferred.ofValue, invoke, h1, hy]
theorem hly {l0 : Nat} {xs : Array Operand} {ts : Array TypeId} {vs : List Value} {z : Operand} {R : Value → World → Prop} (hY : Yld P l0 vs w R) (K : ∀ v w', R v w' → Hl P none n l Q rest ds ((d, v) :: L) w')
    (ho : o.op = .call { callee := .value z, args := xs, argTypes := ts } := by exact rfl) (hx : evL L z = some (.func (.yield l0) #[] #[]) := by exact rfl) (ha : Args L xs vs := by repeat' first | exact args0 | apply args_cons rfl)
    (hg : gdB l L o = some true := by exact rfl) (hd : o.dst = some d := by exact rfl) (hdn : Nat.blt d n = true := by exact rfl) : Hl P none n l Q (o :: rest) ds L w := fun a hF => by
  obtain ⟨fn, tmps, assign, body, hy, hR⟩ := hY
  have hr := xyl (P := P) (L := L) (o := o) hy ho hx ha
  unfold wpListIn
  rw [if_pos (hwant hF hg)]
  refine ⟨fun _ _ => trivial, ?_⟩
  rw [ndf_sem (by unfold ndf; rw [ho]), hr _ hF.agr, Oper.uponIn_round]
  refine ⟨fun h => (by cases h), hR.mono fun e w' ⟨v, he, hR⟩ => ?_⟩
  subst he
  rw [hd]
  exact K v w' hR _ (hF.put (by simpa [Nat.blt_eq] using hdn) v)
theorem hln (K : He n Q .normal ds L w) : Hl P r n l Q [] ds L w := K
theorem hlb (d : Nat) (ht : p → Hl P r n l Q rest ds ((d, .bool true) :: L) w) (hf : ¬ p → Hl P r n l Q rest ds ((d, .bool false) :: L) w) (hd : lk L d = some (B p) := by exact rfl) : Hl P r n l Q rest ds L w := fun a hF =>
  by_slot hF hd (fun hp h => ht hp _ h) (fun hp h => hf hp _ h)
theorem hlas (d : Nat) {u v : Value} (e : v = u) (K : Hl P r n l Q rest ds ((d, u) :: L) w) (hd : lk L d = some v := by exact rfl) : Hl P r n l Q rest ds L w := fun a hF => K a (hF.as hd e)
/-! ## Control -/
theorem hsq (h : Hc P r n (Exit.then (y.wpIn (FZ r) 0 P Q) Q) x ds L w) : Hc P r n Q (.seq x y) ds L w := fun a hF => wpIn_seq (h a hF)
theorem hrg {id : Nat} (h : Hl P r n l Q l ds L w) : Hc P r n Q (.region id l.toArray false) ds L w := fun a hF => wpIn_region_lit (h a hF)
/-- A region that only ends. -/
def onlyN (Q : Exit → Act → World → Prop) : Exit → Act → World → Prop := fun e a w => e = .normal ∧ Q .normal a w
theorem not_letsOut : ¬ LetsOut (onlyN Q) := fun ⟨_, _, h⟩ => by cases h.1
theorem rows_in {row : String} {args : Array Value} {R : Value → World → Prop} (h : Rows P row args w R) : RowsIn (FZ r) 0 P row args w R := fun c cs _ => by
  obtain ⟨v, w', h1, h2⟩ := h c cs
  exact ⟨v, w', h1, (stepsIn_wide (P := P)).2 h2⟩
theorem ops_in {ops : Array Oper} {Qn : Exit → Act → World → Prop} (q1 : ∀ a w, Qn .normal a w → Q .normal a w) (q2 : ∀ ch a w, ¬ Qn (.panic ch) a w) (q3 : ¬ LetsOut Qn) (hn : ops.toList.all ndf = true) : ∀ (is : List Nat) (a : Act) (w : World), wpOps P ops Qn is a w → wpOpsIn (FZ r) 0 P ops Q is a w
  | [], a, w, h => q1 _ _ h
  | i :: is, a, w, h => by
    unfold wpOps at h
    unfold wpOpsIn
    cases ho : ops[i]? with
    | none => simp only [ho] at h ⊢; exact ops_in q1 q2 q3 hn is a w h
    | some o =>
      simp only [ho] at h ⊢
      have hndf : ndf o = true := List.all_eq_true.1 hn o (by
        obtain ⟨hi, rfl⟩ := Array.getElem?_eq_some_iff.1 ho
        simp)
      by_cases hw : Region.wanted o (yielded ops a.tmps) = true
      · rw [if_pos hw] at h ⊢
        refine ⟨fun _ _ => trivial, ?_⟩
        rw [ndf_sem hndf]
        rcases h with h | h
        · unfold Oper.wp at h
          cases he : (execOp a.eval o).run P w with
          | ok N w1 =>
            rw [he] at h
            cases N with
            | value v => exact ops_in q1 q2 q3 hn is _ _ h
            | skip => exact ops_in q1 q2 q3 hn is _ _ h
            | defer d => exact ops_in q1 q2 q3 hn is _ _ h
            | enter f args =>
              refine ⟨fun h => (by cases h), FZ_calls (Calls.mono h fun e w' hh => ?_)⟩
              cases e with
              | returned v => exact ops_in q1 q2 q3 hn is _ _ hh
              | panicked ch => exact absurd hh (q2 _ _ _)
              | outgrown => exact absurd hh q3
            | row rw args => 
              refine ⟨fun h => (by cases h), rows_in (Rows.mono h fun v w' hh => ops_in q1 q2 q3 hn is _ _ hh)⟩
            | _ => exact h.elim
          | halt x w1 =>
            rw [he] at h
            cases x with
            | panic v => exact absurd h (q2 _ _ _)
            | _ => exact h.elim
        · exact absurd h.2 q3
      · rw [if_neg hw] at h ⊢
        exact ⟨fun _ _ => trivial, ops_in q1 q2 q3 hn is _ _ h⟩
theorem only1 : ∀ a w, onlyN Q .normal a w → Q .normal a w := fun _ _ h => h.2
theorem only2 : ∀ ch a w, ¬ onlyN Q (.panic ch) a w := fun _ _ _ h => by cases h.1
theorem zh (h : Ge n ds Q .normal L w) : Ge n ds (onlyN Q) .normal L w := fun a hF => ⟨rfl, h a hF⟩
theorem ops_of_list {ops : Array Oper} {a : Act} (h : wpList P ops Q ops.toList a w) : wpOps P ops Q (List.range ops.size) a w := by
  rw [List.range_eq_range', ← Array.length_toList, wpOps_eq_wpList ops.toList 0 (by simp)]; exact h
/-- A region in the plain manner, in whatever round. -/
theorem hrz {id : Nat} (h : Gl P n ds l (onlyN Q) l L w) (hn : l.all ndf = true := by exact rfl) : Hc P r n Q (.region id l.toArray false) ds L w := fun a hF =>
  wpIn_region (ops_in only1 only2 not_letsOut (by simpa using hn) _ _ _ (ops_of_list (by have := h a hF; simpa using this)))
theorem hdst {w0 : World} {id : Nat} {m m0 m1 : List Ent} {fuel : Nat} (is js : List Nat) (brk : Nat) (hm : P.follows .mixedOrders = true) (hS : Sat w0 w m) (K : ∀ w', Sat w0 w' m → Gd P n ds l (onlyN Q) (fun w' => Sat w0 w' m0) (fun w' => Sat w0 w' m1) brk fuel (Array.replicate fuel false) L w')
    (h0 : pkL m is = m0 := by exact rfl) (h1 : pkL m js = m1 := by exact rfl) (hn0 : is.Nodup := by decide) (hn1 : js.Nodup := by decide) (hn : l.length = fuel := by exact rfl) (hnd : l.all ndf = true := by exact rfl) : Hc P r n Q (.region id l.toArray true) ds L w := fun a hF => by
  subst h0; subst h1; subst hn
  refine wpIn_region_draw fun t => ops_in (Qn := NoPanic (onlyN Q)) (fun _ _ h => h.2) (fun _ _ _ h => h.elim) (fun ⟨_, _, h⟩ => by cases h.1) (by simpa using hnd) _ _ _ ?_
  simp only [Region.schedule, hm, Bool.true_or, if_true]
  have hcl : Closed l.toArray (Array.replicate l.length false) := by have := Closed.start (ops := l.toArray); simpa using this
  have h2 := wpAny_of_B _ _ _ _ (K w.drew hS.draw hcl ⟨fun _ => hS.draw.pk is hn0, hS.draw.pk js hn1⟩ a hF)
  have h3 := wpAny_sound l.length t _ a _ h2
  have e : l.toArray.size = l.length := by simp
  first | exact h3 | (unfold Region.linearise; rw [e]; exact h3)
theorem hcif (ht : p → Hc P r n Q x ds L w) (hf : ¬ p → Hc P r n Q y ds L w) (hc : evL L c = some (B p) := by exact rfl) : Hc P r n Q (.cond c x y) ds L w := fun a hF => by
  have := hF.agr _ _ hc
  by_cases hp : p
  · exact wpIn_cond_true (by rw [this, B_true hp]) (ht hp a hF)
  · exact wpIn_cond_false (by rw [this, B_false hp]) (hf hp a hF)
theorem hct (h : Hc P r n Q x ds L w) (hc : evL L c = some (.bool true) := by exact rfl) : Hc P r n Q (.cond c x y) ds L w := fun a hF => wpIn_cond_true (hF.agr _ _ hc) (h a hF)
theorem hcf (h : Hc P r n Q y ds L w) (hc : evL L c = some (.bool false) := by exact rfl) : Hc P r n Q (.cond c x y) ds L w := fun a hF => wpIn_cond_false (hF.agr _ _ hc) (h a hF)
theorem hsk (h : He n Q .normal ds L w) : Hc P r n Q .skip ds L w := fun a hF => wpIn_skip (h a hF)
theorem hrt (h : He n Q .ret ds L w) : Hc P r n Q .ret ds L w := fun a hF => wpIn_ret (h a hF)
theorem hxt {id : Nat} (h : He n Q (.exit id) ds L w) : Hc P r n Q (.exit id) ds L w := fun a hF => wpIn_exit (h a hF)
theorem hbk {id : Nat} (h : Hc P r n (Exit.inBlock id Q) x ds L w) : Hc P r n Q (.block id x) ds L w := fun a hF => wpIn_block (h a hF)
theorem htn (h : Hc P r n Q y ds L w) : He n (Exit.then (y.wpIn (FZ r) 0 P Q) Q') .normal ds L w := h
theorem wpIn_loopJ {F : Fence} {nn : Nat} {body : Code} {a : Act} (I : Nat → Act → World → Prop) {m : Nat} (h0 : I m a w) (round : ∀ m a w, I m a w → body.wpIn F nn P (Exit.then (fun a' w' => ∃ m', m' < m ∧ I m' a' w') Q) a w) : (Code.loop body).wpIn F nn P Q a w := by
  intro b k cs hro hb hr
  have key : ∀ m a w, I m a w → ∃ e a' w', Q e a' w' ∧ ArrivesIn (Machine.fenced P F) P (lone (b.atR a (.code body :: .inLoop body :: k)) cs w) b k cs e a' w' := by
    intro m
    induction m using Nat.strongRecOn with
    | _ m ih =>
      intro a w hI
      obtain ⟨e, a₁, w₁, hq, harr⟩ := round m a w hI b (.inLoop body :: k) cs hro hb hr
      cases e with
      | normal =>
        obtain ⟨m', hlt, hI₁⟩ := hq
        obtain ⟨e₂, a₂, w₂, hq₂, harr₂⟩ := ih m' hlt a₁ w₁ hI₁
        exact ⟨e₂, a₂, w₂, hq₂, .of_steps (StepsIn.trans harr (.one (fenced_calm hb hr rfl) stepR_inLoop)) harr₂⟩
      | exit id => exact ⟨_, a₁, w₁, hq, .pass (x := .inLoop body) rfl (fun _ _ => .inl (by simp)) harr⟩
      | goto l => exact ⟨_, a₁, w₁, hq, .pass (x := .inLoop body) rfl (fun _ _ => .inl (by simp)) harr⟩
      | ret => exact ⟨_, a₁, w₁, hq, .pass (x := .inLoop body) rfl (fun _ _ => .inl (by simp)) harr⟩
      | panic ch => exact ⟨_, a₁, w₁, hq, .pass (x := .inLoop body) rfl (fun _ _ => .inl (by simp)) harr⟩
      | outgrown => exact ⟨_, a₁, w₁, hq, .pass (x := .inLoop body) rfl (fun _ _ => .inl (by simp)) harr⟩
  obtain ⟨e, a', w', hq, harr⟩ := key m a w h0
  exact ⟨e, a', w', hq, .of_steps (.one (fenced_calm hb hr rfl) stepR_loop) harr⟩
theorem hlp (J : Nat → List (Nat × Value) → World → Prop) {m : Nat} (h0 : J m M w) (round : ∀ m M w, J m M w → Hc P r n (Exit.then (fun a w => ∃ m', m' < m ∧ ∃ M', J m' M' w ∧ Frd a n ds M') Q) x ds M w)
    (hM : Sub L M := by repeat' first | exact zpk0 | refine zpk rfl ?_) : Hc P r n Q (.loop x) ds L w := fun a hF =>
  wpIn_loopJ (fun m a w => ∃ M, J m M w ∧ Frd a n ds M) ⟨M, h0, hF.sub hM⟩ fun m a w ⟨M', hJ, hF'⟩ => round m M' w hJ a hF'
theorem hlq {J : Nat → List (Nat × Value) → World → Prop} {m m' : Nat} (hJ : J m' M w) (hlt : m' < m := by omega) (hM : Sub L M := by repeat' first | exact zpk0 | refine zpk rfl ?_) : He n (Exit.then (fun a w => ∃ m', m' < m ∧ ∃ M', J m' M' w ∧ Frd a n ds M') Q) .normal ds L w :=
  fun a hF => ⟨m', hlt, M, hJ, hF.sub hM⟩
theorem henM {f : FuncId} {fn : Func} {vs : List Value} {R : Ending → World → Prop} (hf : P.funcs[f]? = some fn) (hn : fn.ntmps = n) (K : ∀ w, Sat w0 w [] → Hc P none n (bodyPostM (FZ none) 0 P fn R) x [] (num 0 vs) w) (hb : fn.body = some x := by exact rfl) (hv : Nat.ble vs.length n = true := by exact rfl) : Calls P f vs.toArray w0 R :=
  FZ_calls' (r := none) (n := 0) (callsIn_of_wp_marks hf hb trivial (by
    rw [hn]
    exact K _ (Sat.start w0) _ ((Fr.enter (vs := vs.toArray) (by simpa using Nat.le_of_ble_eq_true hv) fun t v ht => by have := (lk_num vs 0 t v ht).2; simpa using this))))
theorem henI {f : FuncId} {fn : Func} {vs : List Value} {R : Ending → World → Prop} (hf : P.funcs[f]? = some fn) (hn : fn.ntmps = n) (K : Hc P none n (bodyPost P fn R) x [] (num 0 vs) w) (hb : fn.body = some x := by exact rfl) (hv : Nat.ble vs.length n = true := by exact rfl) : Calls P f vs.toArray w R :=
  enter hf hb hn hv fun a hF => (wpIn_wide (n := 0)).1 (K a hF)
/-- The way out of a function: no marks. -/
theorem hmk0 {fn : Func} {R : Ending → World → Prop} (h : Ge n [] (bodyPost P fn R) .ret L w) : He n (bodyPostM (FZ none) 0 P fn R) .ret [] L w := fun a hF => by
  obtain ⟨_, v, h1, h2⟩ := h a hF
  have e := hF.defers
  show LeavesInM _ _ _ _ _ _ a.defers _ _
  rw [e]
  exact ⟨v, h1, h2⟩
/-- A block that is no variable's: a loop's record, a list of deferred calls. -/
def Frame.obj (g : Nat) (o : Obj) : Frame where
  holds w := w.heap[g]? = some o
  has k := k = g
  keep h hk := (hk g rfl).trans h
  lt h hg := by rw [hg]; exact (Array.getElem?_eq_some_iff.1 h).1
/-- A statement that holds whatever turns. -/
def Frame.fact (p : Prop) : Frame where
  holds _ := p
  has _ := False
  keep h _ := h
  lt _ h := h.elim
theorem Sat.addfact {l : List Ent} (h : Sat w0 w l) {p : Prop} (hp : p) : Sat w0 w (l ++ [.sem (Frame.fact p)]) := by
  refine h.comp (m := [.sem (Frame.fact p)]) ⟨Below.refl _ _, ?_, ?_, List.pairwise_singleton _ _⟩
  · intro e he; obtain rfl := List.mem_singleton.1 he; exact hp
  · intro e he g hg; obtain rfl := List.mem_singleton.1 he; exact hg.elim
theorem Sat.factN {l : List Ent} (h : Sat w0 w l) (i : Nat) {p : Prop} (hi : l[i]? = some (.sem (Frame.fact p))) : p := h.holds _ (List.mem_of_getElem? hi)
abbrev dfE (D : Nat) (b : Bool) : Ent := .sem (Frame.obj D (.deferred (if b then some [] else none)))
def mrk (D : Nat) : Deferred := { target := .collected D, args := #[] }
theorem Sat.putObj {l1 l2 : List Ent} {g : Nat} {o o' : Obj} (h : Sat w0 w (l1 ++ .sem (Frame.obj g o) :: l2)) : Sat w0 (w.putObj g o') (l1 ++ .sem (Frame.obj g o') :: l2) := by
  have hg : w.heap[g]? = some o := h.get
  refine h.turn (d := .sem (Frame.obj g o)) (fun k _ hk => World.putObj_heap_other (fun e => hk e)) rfl rfl rfl (by simp) ?_ (fun _ h => .inl h)
  exact World.putObj_heap_same (Array.getElem?_eq_some_iff.1 hg).1
theorem hmk1 {fn : Func} {R : Ending → World → Prop} {E : List Ent} {D : Nat} (i : Nat) (hS : Sat w0 w E) (K : ∀ w', Sat w0 w' (E.set i (dfE D false)) → Ge n [] (bodyPost P fn R) .ret L w') (hi : E[i]? = some (dfE D true) := by exact rfl) : He n (bodyPostM (FZ none) 0 P fn R) .ret [mrk D] L w := fun a hF => by
  have e := hF.defers
  show LeavesInM _ _ _ _ _ _ a.defers _ _
  rw [e]
  have hD : w.heap[D]? = some (.deferred (some [])) := hS.holds _ (List.mem_of_getElem? hi)
  refine ⟨by simp, .inl ⟨D, _, rfl, run_takeDeferred hD, ?_⟩⟩
  have h1 : Sat w0 (w.putObj D (.deferred none)) (E.set i (dfE D false)) := by
    have h' := hS
    rw [split_at hi] at h'
    rw [set_at hi]
    exact h'.putObj
  obtain ⟨_, v, h2, h3⟩ := K _ h1 { a with defers := [] } ⟨hF.size, rfl, hF.get⟩
  exact ⟨v, h2, h3⟩
end

theorem hasg {J : List (Nat × Value) → List Ent → Prop} {F : List Ent → List Ent} {Q : Exit → Act → World → Prop} {w w0 : World} {n : Nat} {L M : List (Nat × Value)} {es : List Ent} (hJ : J M es) (hS : Sat w0 w (F es)) (hM : Sub L M := by repeat' first | exact zpk0 | refine zpk rfl ?_) :
    Ge n [] (Exit.then (fun a w' => ∃ M es, J M es ∧ Frd a n [] M ∧ Sat w0 w' (F es)) Q) .normal L w := fun a hF => ⟨M, es, hJ, hF.sub hM, hS⟩
theorem zfc4 {P : Program} {L : List (Nat × Value)} {w : World} {n : Nat} {fn : Func} {R : Ending → World → Prop} {T1 T2 T3 T4 : TypeId} {s1 s2 s3 s4 : Nat} {a1 a2 a3 a4 : Addr} {v1 v2 v3 v4 : Value} (t1 : plainT P T1 = true) (t2 : plainT P T2 = true) (t3 : plainT P T3 = true) (t4 : plainT P T4 = true) (c1 : w.cell? a1 = some v1) (c2 : w.cell? a2 = some v2) (c3 : w.cell? a3 = some v3) (c4 : w.cell? a4 = some v4) (h : R (.returned (.tuple #[v1, v2, v3, v4])) w)
    (hr : fn.results = #[.cell s1 T1, .cell s2 T2, .cell s3 T3, .cell s4 T4] := by exact rfl) (h1 : lk L s1 = some (.pointer (some a1)) := by exact rfl) (h2 : lk L s2 = some (.pointer (some a2)) := by exact rfl) (h3 : lk L s3 = some (.pointer (some a3)) := by exact rfl) (h4 : lk L s4 = some (.pointer (some a4)) := by exact rfl) : Ge n [] (bodyPost P fn R) .ret L w := fun a hF => by
  refine ⟨hF.defers, _, ?_, h⟩
  obtain ⟨⟨_, _, q1⟩, _⟩ := plain_of (w := w) t1
  obtain ⟨⟨_, _, q2⟩, _⟩ := plain_of (w := w) t2
  obtain ⟨⟨_, _, q3⟩, _⟩ := plain_of (w := w) t3
  obtain ⟨⟨_, _, q4⟩, _⟩ := plain_of (w := w) t4
  have e1 := hF.get s1 _ h1
  have e2 := hF.get s2 _ h2
  have e3 := hF.get s3 _ h3
  have e4 := hF.get s4 _ h4
  rw [Array.getD_eq_getD_getElem?] at e1 e2 e3 e4
  simp [results, hr, e1, e2, e3, e4, asAddr, loadVar, q1, q2, q3, q4, c1, c2, c3, c4]
theorem zfc2 {P : Program} {L : List (Nat × Value)} {w : World} {n : Nat} {fn : Func} {R : Ending → World → Prop} {T1 T2 : TypeId} {s1 s2 : Nat} {a1 a2 : Addr} {v1 v2 : Value} (t1 : plainT P T1 = true) (t2 : plainT P T2 = true) (c1 : w.cell? a1 = some v1) (c2 : w.cell? a2 = some v2) (h : R (.returned (.tuple #[v1, v2])) w)
    (hr : fn.results = #[.cell s1 T1, .cell s2 T2] := by exact rfl) (h1 : lk L s1 = some (.pointer (some a1)) := by exact rfl) (h2 : lk L s2 = some (.pointer (some a2)) := by exact rfl) : Ge n [] (bodyPost P fn R) .ret L w := fun a hF => by
  refine ⟨hF.defers, _, ?_, h⟩
  obtain ⟨⟨_, _, q1⟩, _⟩ := plain_of (w := w) t1
  obtain ⟨⟨_, _, q2⟩, _⟩ := plain_of (w := w) t2
  have e1 := hF.get s1 _ h1
  have e2 := hF.get s2 _ h2
  rw [Array.getD_eq_getD_getElem?] at e1 e2
  simp [results, hr, e1, e2, asAddr, loadVar, q1, q2, c1, c2]
/-! ## A loop over a function -/
theorem perm_of {l m : List Ent} (h : ∀ f : Ent → Nat, (l.map f).sum = (m.map f).sum) : l.Perm m := by
  classical
  rw [List.perm_iff_count]
  intro z
  have := h (fun x => if x = z then 1 else 0)
  have e : ∀ l : List Ent, (l.map fun x => if x = z then 1 else 0).sum = l.count z := fun l => by
    induction l with
    | nil => rfl
    | cons x l ih =>
      rw [List.map_cons, List.sum_cons, ih, List.count_cons]
      by_cases hx : x = z
      · subst hx; simp; omega
      · simp [hx]
  rw [e, e] at this
  exact this
section
variable {P : Program} {Q : Exit → Act → World → Prop} {w w' w0 : World} {n : Nat} {L : List (Nat × Value)} {ds : List Deferred}
/-- What a function that is looped over promises: C s is whatever the looping function holds between two rounds, D t when a round has left; Sh is read by both. -/
def ItC {St X Tt : Type} (P : Program) (w0 : World) (gf : FuncId) (lb : List Value) (Sh : List Ent) (enc : X → List Value) (Pre : St → X → Frame → Prop) (Nx : St → X → St → Prop) (Sx : St → X → Tt → Prop) (s0 : St) (Fin : St → Frame → Prop) (FinX : Tt → Frame → Prop) : Prop :=
  ∀ (l : Nat) (C : St → Frame) (D : Tt → Frame) (w : World), Sat w0 w (.sem (C s0) :: Sh) →
    (∀ s x rest w, Pre s x rest → Sat w0 w (.sem (C s) :: (Sh ++ [.sem rest])) → Yld P l (enc x) w fun v w' =>
      (v = .bool true ∧ ∃ s', Nx s x s' ∧ Sat w0 w' (.sem (C s') :: (Sh ++ [.sem rest]))) ∨ (v = .bool false ∧ ∃ t, Sx s x t ∧ Sat w0 w' (.sem (D t) :: (Sh ++ [.sem rest])))) →
    Calls P gf (.func (.yield l) #[] #[] :: lb).toArray w fun e w' => ∃ v, e = .returned v ∧
      ((∃ s rest, Fin s rest ∧ Sat w0 w' (.sem (C s) :: (Sh ++ [.sem rest]))) ∨ (∃ t rest, FinX t rest ∧ Sat w0 w' (.sem (D t) :: (Sh ++ [.sem rest]))))
def zipL : List Nat → List Value → List (Nat × Value) → List (Nat × Value)
  | t :: ts, v :: vs, L => zipL ts vs ((t, v) :: L)
  | _, _, L => L
theorem zipL_fr {a : Act} : ∀ (ts : List Nat) (vs : List Value) (T : Array Value) {L : List (Nat × Value)}, Frd { tmps := T, defers := [] } n [] L → (ts.all fun t => Nat.blt t n) = true →
    Frd { tmps := (ts.zip vs).foldl (fun t (p : Nat × Value) => t.setIfInBounds p.1 p.2) T, defers := [] } n [] (zipL ts vs L)
  | [], vs, T, L, h, _ => by simpa [zipL] using h
  | t :: ts, [], T, L, h, _ => by simpa [zipL] using h
  | t :: ts, v :: vs, T, L, h, hb => by
    simp only [List.all_cons, Bool.and_eq_true] at hb
    have h1 := h.put (by simpa [Nat.blt_eq] using hb.1) v
    simp only [List.zip_cons_cons, List.foldl_cons, zipL]
    exact zipL_fr (a := a) ts vs _ h1 hb.2
/-- How a round's body may be left. -/
def rdQ {St Tt : Type} (w0 : World) (C : St → List Ent) (D : Tt → List Ent) (jc : Tt → Code) (Sh : List Ent) (N : St → Prop) (S : Tt → Prop) (rest : Frame) : Exit → Act → World → Prop
  | .normal, _, w' => ∃ s', N s' ∧ Sat w0 w' (C s' ++ (Sh ++ [.sem rest]))
  | .ret, _, w' => ∃ t, S t ∧ jc t = .ret ∧ Sat w0 w' (D t ++ (Sh ++ [.sem rest]))
  | .exit id, _, w' => ∃ t, S t ∧ jc t = .exit id ∧ Sat w0 w' (D t ++ (Sh ++ [.sem rest]))
  | _, _, _ => False
theorem hrdN {St Tt : Type} {w0 w : World} {C : St → List Ent} {D : Tt → List Ent} {jc : Tt → Code} {Sh : List Ent} {N : St → Prop} {S : Tt → Prop} {rest : Frame} {n : Nat} {L : List (Nat × Value)} (s' : St) (hN : N s') (hS : Sat w0 w (C s' ++ (Sh ++ [.sem rest]))) : Ge n [] (rdQ w0 C D jc Sh N S rest) .normal L w := fun _ _ => ⟨s', hN, hS⟩
theorem hrdR {St Tt : Type} {w0 w : World} {C : St → List Ent} {D : Tt → List Ent} {jc : Tt → Code} {Sh : List Ent} {N : St → Prop} {S : Tt → Prop} {rest : Frame} {n : Nat} {L : List (Nat × Value)} (t : Tt) (hN : S t) (hj : jc t = .ret) (hS : Sat w0 w (D t ++ (Sh ++ [.sem rest]))) : Ge n [] (rdQ w0 C D jc Sh N S rest) .ret L w := fun _ _ => ⟨t, hN, hj, hS⟩
theorem hrdX {St Tt : Type} {w0 w : World} {C : St → List Ent} {D : Tt → List Ent} {jc : Tt → Code} {Sh : List Ent} {N : St → Prop} {S : Tt → Prop} {rest : Frame} {n id : Nat} {L : List (Nat × Value)} (t : Tt) (hN : S t) (hj : jc t = .exit id) (hS : Sat w0 w (D t ++ (Sh ++ [.sem rest]))) : Ge n [] (rdQ w0 C D jc Sh N S rest) (.exit id) L w := fun _ _ => ⟨t, hN, hj, hS⟩
def exitOf : Code → Exit
  | .ret => .ret
  | .exit id => .exit id
  | _ => .normal
theorem Sat.swap2 {A B E F : List Ent} (h : Sat w0 w (A ++ (B ++ (E ++ F)))) : Sat w0 w (A ++ (E ++ (B ++ F))) :=
  h.perm (List.Perm.append_left A (by rw [← List.append_assoc, ← List.append_assoc]; exact List.Perm.append_right F List.perm_append_comm))
theorem Sat.unbun {l1 l2 l3 : List Ent} (h : Sat w0 w (l1 ++ .sem (Frame.bun l2) :: l3)) : Sat w0 w (l1 ++ (l2 ++ l3)) := h.unbundle
theorem hrf {St X Tt : Type} {gf : FuncId} {lb : List Value} {g : Operand} {ps : Array Tmp} {assign body : Code} {Sh : List Ent} {enc : X → List Value} {Pre : St → X → Frame → Prop} {Nx : St → X → St → Prop} {Sx : St → X → Tt → Prop} {Fin : St → Frame → Prop} {FinX : Tt → Frame → Prop}
    (C : St → List Ent) (D : Tt → List Ent) (jc : Tt → Code) (s0 : St) (J : X → List (Nat × Value) → List Ent → Prop) (hit : ItC P w0 gf lb Sh enc Pre Nx Sx s0 Fin FinX) (hS : Sat w0 w (C s0 ++ Sh)) (hcl : calledT P gf = true)
    (hpl : ∀ x, (enc x).length = ps.size) (hjc : ∀ t, jc t = .ret ∨ ∃ id, jc t = .exit id)
    (hassign : ∀ l s x rest w, Pre s x rest → ∀ rest', (∀ w, rest'.holds w → rest.holds w) → Sat w0 w (C s ++ (Sh ++ [.sem rest'])) → Hc P (some l) n (Exit.then (fun a w' => ∃ M es, J x M es ∧ Frd a n [] M ∧ Sat w0 w' (C s ++ (Sh ++ (.sem rest' :: es)))) (fun _ _ _ => False)) assign [] (zipL ps.toList (enc x) L) w)
    (hbody : ∀ l s x M es rest w, Pre s x rest → J x M es → ∀ rest', (∀ w, rest'.holds w → rest.holds w) → Sat w0 w (C s ++ (Sh ++ (.sem rest' :: es))) → Hc P (some l) n (rdQ w0 C D jc Sh (Nx s x) (Sx s x) rest') body [] M w)
    (hdone : ∀ Dk s rest w', Fin s rest → Sat w0 w' (C s ++ (Sh ++ [.sem rest, dfE Dk true])) → He n Q .normal (mrk Dk :: ds) L w')
    (hstop : ∀ Dk t rest w', FinX t rest → Sat w0 w' (D t ++ (Sh ++ [.sem rest, dfE Dk true])) → He n Q (exitOf (jc t)) (mrk Dk :: ds) L w')
    (hg : evL L g = some (.func (.func gf) #[] lb.toArray) := by exact rfl) (hpb : (ps.toList.all fun t => Nat.blt t n) = true := by exact rfl) : Hc P none n Q (.rangeFunc g ps assign body) ds L w := by
  intro a hF
  refine wpIn_rangeFunc ?_
  intro fn hfn
  obtain ⟨rec, hrec⟩ : ∃ rec : LoopState → Option Code → Loop, rec = fun st pe => { state := st, pending := pe, fn, tmps := a.tmps, params := ps, assign, body, defers := w.heap.size } := ⟨_, rfl⟩
  obtain ⟨W1, hW1⟩ : ∃ W1, (w.alloc (.deferred (some []))).alloc (.loop (rec .ready none)) = W1 := ⟨_, rfl⟩
  obtain ⟨l, hl⟩ : ∃ l, w.heap.size + 1 = l := ⟨_, rfl⟩
  obtain ⟨Dk, hDk⟩ : ∃ Dk, w.heap.size = Dk := ⟨_, rfl⟩
  -- the two blocks are laid
  have hS1 : Sat w0 W1 ((C s0 ++ Sh) ++ [dfE Dk true] ++ [.sem (Frame.obj l (.loop (rec .ready none)))]) := by
    rw [← hW1]
    refine (hS.alloc _ (e := dfE Dk true) ?_ ?_).alloc _ (e := .sem (Frame.obj l (.loop (rec .ready none)))) ?_ ?_
    · rw [← hDk]; exact heap_alloc_new w _
    · intro g hg; rw [← hDk] at hg; exact hg
    · have := heap_alloc_new (w.alloc (.deferred (some []))) (.loop (rec .ready none))
      rw [World.size_alloc, hl] at this; exact this
    · intro g hg; rw [World.size_alloc, hl]; exact hg
  have eval : a.eval g = .func (.func gf) #[] lb.toArray := hF.agr _ _ hg
  have hfun : ∃ fnn, P.funcs[gf]? = some fnn ∧ fnn.body.isSome = true ∧ (fnn.name == "runtime.NumGoroutine") = false := by
    unfold calledT at hcl
    cases hf : P.funcs[gf]? with
    | none => simp [hf] at hcl
    | some fnn =>
      simp only [hf, Bool.and_eq_true, Bool.not_eq_true'] at hcl
      exact ⟨fnn, rfl, hcl.1, hcl.2⟩
  obtain ⟨fnn, hf1, hf2, hf3⟩ := hfun
  have hf2' : fnn.body ≠ none := by intro e; rw [e] at hf2; simp at hf2
  have hf3' : fnn.name ≠ "runtime.NumGoroutine" := by simpa using hf3
  let C' : St → Frame := fun s => Frame.bun (C s ++ [.sem (Frame.obj l (.loop (rec .ready none))), dfE Dk true])
  let D' : Tt → Frame := fun t => Frame.bun (D t ++ [.sem (Frame.obj l (.loop (rec .done (some (jc t))))), dfE Dk true])
  have hS2 : Sat w0 W1 (.sem (C' s0) :: Sh) := by
    have h1 : Sat w0 W1 (Sh ++ (C s0 ++ [.sem (Frame.obj l (.loop (rec .ready none))), dfE Dk true])) := hS1.perm (perm_of fun f => by simp only [List.map_append, List.map_cons, List.map_nil, List.sum_append, List.sum_cons, List.sum_nil]; omega)
    have h2 := h1.bundle
    exact h2.perm List.perm_append_comm
  refine ⟨l, [mrk Dk], W1, { target := .fn (.func gf) lb.toArray, args := #[.func (.yield l) #[] #[]] }, W1, gf, #[.func (.yield l) #[] #[]] ++ lb.toArray, W1, ?_, ?_, ?_, ?_, fun h => (by cases h), ?_⟩
  · rw [← hW1, hrec, ← hl, ← hDk]; exact run_enterLoop_outer _ _ _ _ _
  · simp only [resolve, eval]
    simp [go_sem]
  · intro f' hf'; trivial
  · simp [invoke, go_sem, callFunc, hf1, hf2', hf3']
  have eargs : (#[.func (.yield l) #[] #[]] ++ lb.toArray : Array Value) = (.func (.yield l) #[] #[] :: lb).toArray := by simp
  rw [eargs]
  refine FZ_calls ((hit l C' D' W1 hS2 ?_).mono ?_)
  · -- a round
    intro s x rest W hpre hSW
    have h1 : Sat w0 W (C s ++ (Sh ++ [.sem rest, .sem (Frame.obj l (.loop (rec .ready none))), dfE Dk true])) := by
      have := Sat.unbun (l1 := []) hSW
      exact this.perm (perm_of fun f => by simp only [List.map_append, List.map_cons, List.map_nil, List.sum_append, List.sum_cons, List.sum_nil]; omega)
    have hlr : W.heap[l]? = some (.loop (rec .ready none)) := h1.holds (.sem (Frame.obj l (.loop (rec .ready none)))) (by simp)
    have hy := run_yield (P := P) (args := (enc x).toArray) hlr (by rw [hrec]; simp [hpl x])
    rw [hrec] at hy
    refine ⟨fn, _, assign, body, hy, roundIn_of_wpIn trivial ?_⟩
    clear hy
    -- the assignment
    let r1 : Frame := Frame.bun [.sem rest, .sem (Frame.obj l (.loop (rec .ready none))), dfE Dk true]
    have h2 : Sat w0 W (C s ++ (Sh ++ [.sem r1])) := by
      rw [← List.append_assoc] at h1 ⊢
      exact h1.bundle
    have hfr : Frd { tmps := (ps.zip (enc x).toArray).foldl (fun t (p, v) => t.setIfInBounds p v) a.tmps, defers := [] } n [] (zipL ps.toList (enc x) L) := by
      have := zipL_fr (a := a) (n := n) ps.toList (enc x) a.tmps (L := L) ⟨hF.size, rfl, hF.get⟩ hpb
      have e : (ps.zip (enc x).toArray).foldl (fun t (p, v) => t.setIfInBounds p v) a.tmps = (ps.toList.zip (enc x)).foldl (fun t (p : Nat × Value) => t.setIfInBounds p.1 p.2) a.tmps := by
        rw [← Array.foldl_toList, Array.toList_zip]
      rw [e]; exact this
    refine Go.wpIn_mono (hassign l s x rest W hpre r1 (fun w h => h.1 (.sem rest) (by simp)) h2 _ hfr) ?_
    intro e a1 Wa hp
    cases e <;> try exact hp.elim
    obtain ⟨M, es, hJ, hFM, hSa⟩ := hp
    have h3 : Sat w0 Wa ((C s ++ (Sh ++ ([.sem rest] ++ es)) ++ [dfE Dk true]) ++ .sem (Frame.obj l (.loop (rec .ready none))) :: []) := by
      have := Sat.unbun (l1 := C s ++ Sh) (l3 := es) (by rw [List.append_assoc]; exact hSa)
      exact this.perm (perm_of fun f => by simp only [List.map_append, List.map_cons, List.map_nil, List.sum_append, List.sum_cons, List.sum_nil]; omega)
    have hlr : Wa.heap[l]? = some (.loop (rec .ready none)) := h3.get
    refine ⟨_, run_beginRound hlr (by rw [hrec]), ?_⟩
    have h4 := h3.putObj (o' := .loop { rec .ready none with state := .busy })
    let r2 : Frame := Frame.bun [.sem rest, .sem (Frame.obj l (.loop { rec .ready none with state := .busy })), dfE Dk true]
    have h5 : Sat w0 (Wa.putObj l (.loop { rec .ready none with state := .busy })) (C s ++ (Sh ++ (.sem r2 :: es))) := by
      have h : Sat w0 (Wa.putObj l (.loop { rec .ready none with state := .busy })) ((C s ++ (Sh ++ es)) ++ [.sem rest, .sem (Frame.obj l (.loop { rec .ready none with state := .busy })), dfE Dk true]) := by
        exact h4.perm (perm_of fun f => by simp only [List.map_append, List.map_cons, List.map_nil, List.sum_append, List.sum_cons, List.sum_nil]; omega)
      have hb : Sat w0 (Wa.putObj l (.loop { rec .ready none with state := .busy })) ((C s ++ (Sh ++ es)) ++ [.sem r2]) := h.bundle
      exact hb.perm (perm_of fun f => by simp only [List.map_append, List.map_cons, List.map_nil, List.sum_append, List.sum_cons, List.sum_nil]; omega)
    refine Go.wpIn_mono (hbody l s x M es rest _ hpre hJ r2 (fun w h => h.1 (.sem rest) (by simp)) h5 _ hFM) ?_
    have fin : ∀ (jump : Option Code) (A : List Ent) (W3 : World), Sat w0 W3 (A ++ (Sh ++ [.sem r2])) →
        (Instr.endRound l jump).run P W3 = .ok (.bool jump.isNone) (W3.putObj l (.loop (rec (if jump.isNone then .ready else .done) jump))) ∧
        Sat w0 (W3.putObj l (.loop (rec (if jump.isNone then .ready else .done) jump))) (.sem (Frame.bun (A ++ [.sem (Frame.obj l (.loop (rec (if jump.isNone then .ready else .done) jump))), dfE Dk true])) :: (Sh ++ [.sem rest])) := fun jump A W3 hA => by
      have h6 : Sat w0 W3 ((Sh ++ [.sem rest] ++ (A ++ [dfE Dk true])) ++ .sem (Frame.obj l (.loop { rec .ready none with state := .busy })) :: []) := by
        have := Sat.unbun (l1 := A ++ Sh) (l3 := []) (by rw [List.append_assoc]; exact hA)
        exact this.perm (perm_of fun f => by simp only [List.map_append, List.map_cons, List.map_nil, List.sum_append, List.sum_cons, List.sum_nil]; omega)
      have hlb : W3.heap[l]? = some (.loop { rec .ready none with state := .busy }) := h6.get
      have hr := run_endRound (P := P) jump hlb
      have h7 := h6.putObj (o' := .loop (rec (if jump.isNone then .ready else .done) jump))
      refine ⟨by rw [hrec] at hr ⊢; exact hr, ?_⟩
      have h8 : Sat w0 (W3.putObj l (.loop (rec (if jump.isNone then .ready else .done) jump))) ((Sh ++ [.sem rest]) ++ (A ++ [.sem (Frame.obj l (.loop (rec (if jump.isNone then .ready else .done) jump))), dfE Dk true])) := by
        exact h7.perm (perm_of fun f => by simp only [List.map_append, List.map_cons, List.map_nil, List.sum_append, List.sum_cons, List.sum_nil]; omega)
      exact h8.bundle.perm List.perm_append_comm
    intro e a3 W3 hp
    cases e with
    | normal =>
      obtain ⟨s', hn, hA⟩ := hp
      obtain ⟨hr, h6⟩ := fin none _ _ hA
      exact ⟨_, _, hr, _, rfl, .inl ⟨rfl, s', hn, h6⟩⟩
    | ret =>
      obtain ⟨t, hn, hj, hA⟩ := hp
      obtain ⟨hr, h6⟩ := fin (some .ret) _ _ hA
      refine ⟨_, _, hr, _, rfl, .inr ⟨rfl, t, hn, ?_⟩⟩
      simp only [D', hj]; exact h6
    | exit id =>
      obtain ⟨t, hn, hj, hA⟩ := hp
      obtain ⟨hr, h6⟩ := fin (some (.exit id)) _ _ hA
      refine ⟨_, _, hr, _, rfl, .inr ⟨rfl, t, hn, ?_⟩⟩
      simp only [D', hj]; exact h6
    | goto t => exact hp.elim
    | panic ch => exact hp.elim
    | outgrown => exact hp.elim
  · -- behind the function that was looped over
    have out : ∀ (st : LoopState) (pe : Option Code) (A : List Ent) (rest : Frame) (W2 : World), st ≠ .busy → Sat w0 W2 (.sem (Frame.bun (A ++ [.sem (Frame.obj l (.loop (rec st pe))), dfE Dk true])) :: (Sh ++ [.sem rest])) →
        (Instr.endLoop l).run P W2 = .ok pe (W2.putObj l (.loop { rec st pe with state := .exhausted })) ∧ Sat w0 (W2.putObj l (.loop { rec st pe with state := .exhausted })) (A ++ (Sh ++ [.sem rest, dfE Dk true])) := fun st pe A rest W2 hst h => by
      have h1 := Sat.unbun (l1 := []) h
      have h2 : Sat w0 W2 ((A ++ (Sh ++ [.sem rest, dfE Dk true])) ++ .sem (Frame.obj l (.loop (rec st pe))) :: []) := by
        exact h1.perm (perm_of fun f => by simp only [List.map_append, List.map_cons, List.map_nil, List.sum_append, List.sum_cons, List.sum_nil]; omega)
      have hl : W2.heap[l]? = some (.loop (rec st pe)) := h2.get
      have h3 := h2.putObj (o' := .loop { rec st pe with state := .exhausted })
      refine ⟨?_, h3.sub (List.sublist_append_left _ _)⟩
      have := run_endLoop (P := P) hl (by rw [hrec]; exact hst)
      rw [hrec] at this ⊢; exact this
    rintro e W2 ⟨v, rfl, h⟩
    have hF' : ∀ {L'}, Frd a n ds L' → Frd { a with defers := [mrk Dk] ++ a.defers } n (mrk Dk :: ds) L' := fun h => ⟨h.size, by rw [← h.defers]; rfl, h.get⟩
    rcases h with ⟨s, rest, hfin, h⟩ | ⟨t, rest, hfin, h⟩
    · obtain ⟨h1, h2⟩ := out .ready none _ rest W2 (by simp) h
      exact ⟨none, _, h1, hdone Dk s rest _ hfin h2 _ (hF' hF)⟩
    · obtain ⟨h1, h2⟩ := out .done (some (jc t)) _ rest W2 (by simp) h
      refine ⟨some (jc t), _, h1, ?_⟩
      have h3 := hstop Dk t rest _ hfin h2 _ (hF' hF)
      rcases hjc t with hj | ⟨id, hj⟩
      · rw [hj] at h3 ⊢; exact wpIn_ret h3
      · rw [hj] at h3 ⊢; exact wpIn_exit h3
end
end Go.Proofs.Gw
