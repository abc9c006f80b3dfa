/- Part 3 of the texts that the proof needs. -/
import Derived.Test.YtopmifmfecfaaaaRrB
import Derived.RangeFuncBox
import Derived.RangeFuncLeaves
import Derived.OrdersIn
set_option linter.unusedVariables false
set_option linter.unusedSimpArgs false
namespace Go.Proofs.Gw
open Go Go.RowKit
def FZ (r : Option Nat) : Fence := { fn := fun _ => True, depth := none, alive := false, round := r }
theorem FZ_calls {P : Program} {f : FuncId} {args : Array Value} {w : World} {R : Ending → World → Prop} {r : Option Nat} {n : Nat} (h : Calls P f args w R) : CallsIn (FZ r) n P f args w R :=
  (callsIn_wide (n := n)).2 h
theorem FZ_calls' {P : Program} {f : FuncId} {args : Array Value} {w : World} {R : Ending → World → Prop} {r : Option Nat} {n : Nat} (h : CallsIn (FZ r) n P f args w R) : Calls P f args w R :=
  (callsIn_wide (n := n)).1 h
abbrev Frd (a : Act) (n : Nat) (ds : List Deferred) (L : List (Nat × Value)) : Prop := Fr a n ds L
def ndf (o : Oper) : Bool := match o.op with
  | .defer _ => false
  | _ => true
theorem ndf_sem {o : Oper} (h : ndf o = true) (r : Option Nat) (ρ : Operand → Value) : o.semAt r ρ = execOp ρ o :=
  Oper.semAt_eq _ _ _ (by intro c hc; unfold ndf at h; rw [hc] at h; cases h)
section
variable {P : Program} {l rest : List Oper} {Q Q' : Exit → Act → World → Prop} {w w' w0 : World} {o : Oper} {n d : Nat} {L M : List (Nat × Value)} {x y : Code} {c : Operand} {e : Exit} {p : Prop} {r : Option Nat} {ds : List Deferred}
def Hl (P : Program) (r : Option Nat) (n : Nat) (l : List Oper) (Q : Exit → Act → World → Prop) (rest : List Oper) (ds : List Deferred) (L : List (Nat × Value)) (w : World) : Prop := ∀ a, Frd a n ds L → wpListIn (FZ r) 0 P l.toArray Q rest a w
def Hc (P : Program) (r : Option Nat) (n : Nat) (Q : Exit → Act → World → Prop) (x : Code) (ds : List Deferred) (L : List (Nat × Value)) (w : World) : Prop := ∀ a, Frd a n ds L → x.wpIn (FZ r) 0 P Q a w
abbrev He (n : Nat) (Q : Exit → Act → World → Prop) (e : Exit) (ds : List Deferred) (L : List (Nat × Value)) (w : World) : Prop := Ge n ds Q e L w
theorem hwant {b : Bool} {a : Act} (hF : Frd a n ds L) (h : gdB l L o = some b) : Region.wanted o (yielded l.toArray a.tmps) = b := by
  exact (gdB_want h).wanted hF
theorem hlv {v : Value} (hr : Runs P L w o (.value v) w') (K : Hl P r n l Q rest ds ((d, v) :: L) w') (hg : gdB l L o = some true := by exact rfl) (hd : o.dst = some d := by exact rfl) (hdn : Nat.blt d n = true := by exact rfl) (hn : ndf o = true := by exact rfl) : Hl P r n l Q (o :: rest) ds L w := fun a hF => by
  unfold wpListIn
  rw [if_pos (hwant hF hg)]
  refine ⟨fun _ _ => trivial, ?_⟩
  rw [ndf_sem hn, hr _ hF.agr, Oper.uponIn_value, hd]
  exact K _ (hF.put (by simpa [Nat.blt_eq] using hdn) v)
theorem hlo (K : Hl P r n l Q rest ds ((d, undef) :: L) w) (hg : gdB l L o = some false := by exact rfl) (hd : o.dst = some d := by exact rfl) (hdn : Nat.blt d n = true := by exact rfl) : Hl P r n l Q (o :: rest) ds L w := fun a hF => by
  unfold wpListIn
  rw [if_neg (by rw [hwant hF hg]; simp)]
  refine ⟨fun _ _ => trivial, ?_⟩
  rw [hd]
  exact K _ (hF.put (by simpa [Nat.blt_eq] using hdn) undef)
theorem hle {R : World → Prop} (hr : ∃ w', Runs P L w o .skip w' ∧ R w') (K : ∀ w', R w' → Hl P r n l Q rest ds L w') (hg : gdB l L o = some true := by exact rfl) (hd : o.dst = none := by exact rfl) (hn : ndf o = true := by exact rfl) : Hl P r n l Q (o :: rest) ds L w := fun a hF => by
  obtain ⟨w', hr, hR⟩ := hr
  unfold wpListIn
  rw [if_pos (hwant hF hg)]
  refine ⟨fun _ _ => trivial, ?_⟩
  rw [ndf_sem hn, hr _ hF.agr, Oper.uponIn_skip, hd]
  exact K w' hR a hF
theorem hlc {f : FuncId} {args : Array Value} {R : Value → World → Prop} (hr : Runs P L w o (.enter f args) w) (hc : Calls P f args w fun e w' => ∃ v, e = .returned v ∧ R v w') (K : ∀ v w', R v w' → Hl P r n l Q rest ds ((d, v) :: L) w')
    (hg : gdB l L o = some true := by exact rfl) (hd : o.dst = some d := by exact rfl) (hdn : Nat.blt d n = true := by exact rfl) (hn : ndf o = true := by exact rfl) : Hl P r n l Q (o :: rest) ds L w := fun a hF => by
  unfold wpListIn
  rw [if_pos (hwant hF hg)]
  refine ⟨fun _ _ => trivial, ?_⟩
  rw [ndf_sem hn, hr _ hF.agr, Oper.uponIn_enter]
  refine ⟨fun h => (by cases h), FZ_calls (hc.mono fun e w' ⟨v, he, hR⟩ => ?_)⟩
  subst he
  rw [hd]
  exact K v w' hR _ (hF.put (by simpa [Nat.blt_eq] using hdn) v)
def Yld (P : Program) (l : Nat) (vs : List Value) (w : World) (R : Value → World → Prop) : Prop :=
  ∃ fn tmps assign body, (Instr.yield l vs.toArray).run P w = .ok (.round l fn tmps assign body) w ∧ RoundIn (FZ none) 0 P l fn tmps assign body w fun e w' => ∃ v, e = .returned v ∧ R v w'
theorem xyl {l0 : Nat} {xs : Array Operand} {ts : Array TypeId} {vs : List Value} {z : Operand} {N : Next} (hy : (Instr.yield l0 vs.toArray).run P w = .ok N w) (ho : o.op = .call { callee := .value z, args := xs, argTypes := ts }) (hx : evL L z = some (.func (.yield l0) #[] #[])) (ha : Args L xs vs) : Runs P L w o N w := fun ρ h => by
  have h1 := ha ρ h
  simp [execOp, ho, resolve, h _ _ hx, Deferred.ofValue, invoke, h1, hy]
theorem hly {l0 : Nat} {xs : Array Operand} {ts : Array TypeId} {vs : List Value} {z : Operand} {R : Value → World → Prop} (hY : Yld P l0 vs w R) (K : ∀ v w', R v w' → Hl P none n l Q rest ds ((d, v) :: L) w')
    (ho : o.op = .call { callee := .value z, args := xs, argTypes := ts } := by exact rfl) (hx : evL L z = some (.func (.yield l0) #[] #[]) := by exact rfl) (ha : Args L xs vs := by repeat' first | exact args0 | apply args_cons rfl)
    (hg : gdB l L o = some true := by exact rfl) (hd : o.dst = some d := by exact rfl) (hdn : Nat.blt d n = true := by exact rfl) : Hl P none n l Q (o :: rest) ds L w := fun a hF => by
  obtain ⟨fn, tmps, assign, body, hy, hR⟩ := hY
  have hr := xyl (P := P) (L := L) (o := o) hy ho hx ha
  unfold wpListIn
  rw [if_pos (hwant hF hg)]
  refine ⟨fun _ _ => trivial, ?_⟩
  rw [ndf_sem (by unfold ndf; rw [ho]), hr _ hF.agr, Oper.uponIn_round]
  refine ⟨fun h => (by cases h), hR.mono fun e w' ⟨v, he, hR⟩ => ?_⟩
  subst he
  rw [hd]
  exact K v w' hR _ (hF.put (by simpa [Nat.blt_eq] using hdn) v)
theorem hln (K : He n Q .normal ds L w) : Hl P r n l Q [] ds L w := K
theorem hlb (d : Nat) (ht : p → Hl P r n l Q rest ds ((d, .bool true) :: L) w) (hf : ¬ p → Hl P r n l Q rest ds ((d, .bool false) :: L) w) (hd : lk L d = some (B p) := by exact rfl) : Hl P r n l Q rest ds L w := fun a hF =>
  by_slot hF hd (fun hp h => ht hp _ h) (fun hp h => hf hp _ h)
theorem hsq (h : Hc P r n (Exit.then (y.wpIn (FZ r) 0 P Q) Q) x ds L w) : Hc P r n Q (.seq x y) ds L w := fun a hF => wpIn_seq (h a hF)
theorem hrg {id : Nat} (h : Hl P r n l Q l ds L w) : Hc P r n Q (.region id l.toArray false) ds L w := fun a hF => wpIn_region_lit (h a hF)
def onlyN (Q : Exit → Act → World → Prop) : Exit → Act → World → Prop := fun e a w => e = .normal ∧ Q .normal a w
theorem not_letsOut : ¬ LetsOut (onlyN Q) := fun ⟨_, _, h⟩ => by cases h.1
theorem rows_in {row : String} {args : Array Value} {R : Value → World → Prop} (h : Rows P row args w R) : RowsIn (FZ r) 0 P row args w R := fun c cs _ => by
  obtain ⟨v, w', h1, h2⟩ := h c cs
  exact ⟨v, w', h1, (stepsIn_wide (P := P)).2 h2⟩
theorem ops_in {ops : Array Oper} {Qn : Exit → Act → World → Prop} (q1 : ∀ a w, Qn .normal a w → Q .normal a w) (q2 : ∀ ch a w, ¬ Qn (.panic ch) a w) (q3 : ¬ LetsOut Qn) (hn : ops.toList.all ndf = true) : ∀ (is : List Nat) (a : Act) (w : World), wpOps P ops Qn is a w → wpOpsIn (FZ r) 0 P ops Q is a w
  | [], a, w, h => q1 _ _ h
  | i :: is, a, w, h => by
    unfold wpOps at h
    unfold wpOpsIn
    cases ho : ops[i]? with
    | none => simp only [ho] at h ⊢; exact ops_in q1 q2 q3 hn is a w h
    | some o =>
      simp only [ho] at h ⊢
      have hndf : ndf o = true := List.all_eq_true.1 hn o (by
        obtain ⟨hi, rfl⟩ := Array.getElem?_eq_some_iff.1 ho
        simp)
      by_cases hw : Region.wanted o (yielded ops a.tmps) = true
      · rw [if_pos hw] at h ⊢
        refine ⟨fun _ _ => trivial, ?_⟩
        rw [ndf_sem hndf]
        rcases h with h | h
        · unfold Oper.wp at h
          cases he : (execOp a.eval o).run P w with
          | ok N w1 =>
            rw [he] at h
            cases N with
            | value v => exact ops_in q1 q2 q3 hn is _ _ h
            | skip => exact ops_in q1 q2 q3 hn is _ _ h
            | defer d => exact ops_in q1 q2 q3 hn is _ _ h
            | enter f args =>
              refine ⟨fun h => (by cases h), FZ_calls (Calls.mono h fun e w' hh => ?_)⟩
              cases e with
              | returned v => exact ops_in q1 q2 q3 hn is _ _ hh
              | panicked ch => exact absurd hh (q2 _ _ _)
              | outgrown => exact absurd hh q3
            | row rw args => 
              refine ⟨fun h => (by cases h), rows_in (Rows.mono h fun v w' hh => ops_in q1 q2 q3 hn is _ _ hh)⟩
            | _ => exact h.elim
          | halt x w1 =>
            rw [he] at h
            cases x with
            | panic v => exact absurd h (q2 _ _ _)
            | _ => exact h.elim
        · exact absurd h.2 q3
      · rw [if_neg hw] at h ⊢
        exact ⟨fun _ _ => trivial, ops_in q1 q2 q3 hn is _ _ h⟩
theorem only1 : ∀ a w, onlyN Q .normal a w → Q .normal a w := fun _ _ h => h.2
theorem only2 : ∀ ch a w, ¬ onlyN Q (.panic ch) a w := fun _ _ _ h => by cases h.1
theorem zh (h : Ge n ds Q .normal L w) : Ge n ds (onlyN Q) .normal L w := fun a hF => ⟨rfl, h a hF⟩
theorem ops_of_list {ops : Array Oper} {a : Act} (h : wpList P ops Q ops.toList a w) : wpOps P ops Q (List.range ops.size) a w := by
  rw [List.range_eq_range', ← Array.length_toList, wpOps_eq_wpList ops.toList 0 (by simp)]; exact h
theorem hrz {id : Nat} (h : Gl P n ds l (onlyN Q) l L w) (hn : l.all ndf = true := by exact rfl) : Hc P r n Q (.region id l.toArray false) ds L w := fun a hF =>
  wpIn_region (ops_in only1 only2 not_letsOut (by simpa using hn) _ _ _ (ops_of_list (by have := h a hF; simpa using this)))
theorem hdst {w0 : World} {id : Nat} {m m0 m1 : List Ent} {fuel : Nat} (is js : List Nat) (brk : Nat) (hm : P.follows .mixedOrders = true) (hS : Sat w0 w m) (K : ∀ w', Sat w0 w' m → Gd P n ds l (onlyN Q) (fun w' => Sat w0 w' m0) (fun w' => Sat w0 w' m1) brk fuel (Array.replicate fuel false) L w')
    (h0 : pkL m is = m0 := by exact rfl) (h1 : pkL m js = m1 := by exact rfl) (hn0 : is.Nodup := by decide) (hn1 : js.Nodup := by decide) (hn : l.length = fuel := by exact rfl) (hnd : l.all ndf = true := by exact rfl) : Hc P r n Q (.region id l.toArray true) ds L w := fun a hF => by
  subst h0; subst h1; subst hn
  refine wpIn_region_draw fun t => ops_in (Qn := NoPanic (onlyN Q)) (fun _ _ h => h.2) (fun _ _ _ h => h.elim) (fun ⟨_, _, h⟩ => by cases h.1) (by simpa using hnd) _ _ _ ?_
  simp only [Region.schedule, hm, Bool.true_or, if_true]
  have hcl : Closed l.toArray (Array.replicate l.length false) := by have := Closed.start (ops := l.toArray); simpa using this
  have h2 := wpAny_of_B _ _ _ _ (K w.drew hS.draw hcl ⟨fun _ => hS.draw.pk is hn0, hS.draw.pk js hn1⟩ a hF)
  have h3 := wpAny_sound l.length t _ a _ h2
  have e : l.toArray.size = l.length := by simp
  first | exact h3 | (unfold Region.linearise; rw [e]; exact h3)
theorem hcif (ht : p → Hc P r n Q x ds L w) (hf : ¬ p → Hc P r n Q y ds L w) (hc : evL L c = some (B p) := by exact rfl) : Hc P r n Q (.cond c x y) ds L w := fun a hF => by
  have := hF.agr _ _ hc
  by_cases hp : p
  · exact wpIn_cond_true (by rw [this, B_true hp]) (ht hp a hF)
  · exact wpIn_cond_false (by rw [this, B_false hp]) (hf hp a hF)
theorem hct (h : Hc P r n Q x ds L w) (hc : evL L c = some (.bool true) := by exact rfl) : Hc P r n Q (.cond c x y) ds L w := fun a hF => wpIn_cond_true (hF.agr _ _ hc) (h a hF)
theorem hcf (h : Hc P r n Q y ds L w) (hc : evL L c = some (.bool false) := by exact rfl) : Hc P r n Q (.cond c x y) ds L w := fun a hF => wpIn_cond_false (hF.agr _ _ hc) (h a hF)
theorem hsk (h : He n Q .normal ds L w) : Hc P r n Q .skip ds L w := fun a hF => wpIn_skip (h a hF)
theorem hrt (h : He n Q .ret ds L w) : Hc P r n Q .ret ds L w := fun a hF => wpIn_ret (h a hF)
theorem hxt {id : Nat} (h : He n Q (.exit id) ds L w) : Hc P r n Q (.exit id) ds L w := fun a hF => wpIn_exit (h a hF)
theorem hbk {id : Nat} (h : Hc P r n (Exit.inBlock id Q) x ds L w) : Hc P r n Q (.block id x) ds L w := fun a hF => wpIn_block (h a hF)
theorem htn (h : Hc P r n Q y ds L w) : He n (Exit.then (y.wpIn (FZ r) 0 P Q) Q') .normal ds L w := h
theorem wpIn_loopJ {F : Fence} {nn : Nat} {body : Code} {a : Act} (I : Nat → Act → World → Prop) {m : Nat} (h0 : I m a w) (round : ∀ m a w, I m a w → body.wpIn F nn P (Exit.then (fun a' w' => ∃ m', m' < m ∧ I m' a' w') Q) a w) : (Code.loop body).wpIn F nn P Q a w := by
  intro b k cs hro hb hr
  have key : ∀ m a w, I m a w → ∃ e a' w', Q e a' w' ∧ ArrivesIn (Machine.fenced P F) P (lone (b.atR a (.code body :: .inLoop body :: k)) cs w) b k cs e a' w' := by
    intro m
    induction m using Nat.strongRecOn with
    | _ m ih =>
      intro a w hI
      obtain ⟨e, a₁, w₁, hq, harr⟩ := round m a w hI b (.inLoop body :: k) cs hro hb hr
      cases e with
      | normal =>
        obtain ⟨m', hlt, hI₁⟩ := hq
        obtain ⟨e₂, a₂, w₂, hq₂, harr₂⟩ := ih m' hlt a₁ w₁ hI₁
        exact ⟨e₂, a₂, w₂, hq₂, .of_steps (StepsIn.trans harr (.one (fenced_calm hb hr rfl) stepR_inLoop)) harr₂⟩
      | exit id => exact ⟨_, a₁, w₁, hq, .pass (x := .inLoop body) rfl (fun _ _ => .inl (by simp)) harr⟩
      | goto l => exact ⟨_, a₁, w₁, hq, .pass (x := .inLoop body) rfl (fun _ _ => .inl (by simp)) harr⟩
      | ret => exact ⟨_, a₁, w₁, hq, .pass (x := .inLoop body) rfl (fun _ _ => .inl (by simp)) harr⟩
      | panic ch => exact ⟨_, a₁, w₁, hq, .pass (x := .inLoop body) rfl (fun _ _ => .inl (by simp)) harr⟩
      | outgrown => exact ⟨_, a₁, w₁, hq, .pass (x := .inLoop body) rfl (fun _ _ => .inl (by simp)) harr⟩
  obtain ⟨e, a', w', hq, harr⟩ := key m a w h0
  exact ⟨e, a', w', hq, .of_steps (.one (fenced_calm hb hr rfl) stepR_loop) harr⟩
theorem hlp (J : Nat → List (Nat × Value) → World → Prop) {m : Nat} (h0 : J m M w) (round : ∀ m M w, J m M w → Hc P r n (Exit.then (fun a w => ∃ m', m' < m ∧ ∃ M', J m' M' w ∧ Frd a n ds M') Q) x ds M w)
    (hM : Sub L M := by repeat' first | exact zpk0 | refine zpk rfl ?_) : Hc P r n Q (.loop x) ds L w := fun a hF =>
  wpIn_loopJ (fun m a w => ∃ M, J m M w ∧ Frd a n ds M) ⟨M, h0, hF.sub hM⟩ fun m a w ⟨M', hJ, hF'⟩ => round m M' w hJ a hF'
theorem hlq {J : Nat → List (Nat × Value) → World → Prop} {m m' : Nat} (hJ : J m' M w) (hlt : m' < m := by omega) (hM : Sub L M := by repeat' first | exact zpk0 | refine zpk rfl ?_) : He n (Exit.then (fun a w => ∃ m', m' < m ∧ ∃ M', J m' M' w ∧ Frd a n ds M') Q) .normal ds L w :=
  fun a hF => ⟨m', hlt, M, hJ, hF.sub hM⟩
theorem henM {f : FuncId} {fn : Func} {vs : List Value} {R : Ending → World → Prop} (hf : P.funcs[f]? = some fn) (hn : fn.ntmps = n) (K : ∀ w, Sat w0 w [] → Hc P none n (bodyPostM (FZ none) 0 P fn R) x [] (num 0 vs) w) (hb : fn.body = some x := by exact rfl) (hv : Nat.ble vs.length n = true := by exact rfl) : Calls P f vs.toArray w0 R :=
  FZ_calls' (r := none) (n := 0) (callsIn_of_wp_marks hf hb trivial (by
    rw [hn]
    exact K _ (Sat.start w0) _ ((Fr.enter (vs := vs.toArray) (by simpa using Nat.le_of_ble_eq_true hv) fun t v ht => by have := (lk_num vs 0 t v ht).2; simpa using this))))
theorem henI {f : FuncId} {fn : Func} {vs : List Value} {R : Ending → World → Prop} (hf : P.funcs[f]? = some fn) (hn : fn.ntmps = n) (K : Hc P none n (bodyPost P fn R) x [] (num 0 vs) w) (hb : fn.body = some x := by exact rfl) (hv : Nat.ble vs.length n = true := by exact rfl) : Calls P f vs.toArray w R :=
  enter hf hb hn hv fun a hF => (wpIn_wide (n := 0)).1 (K a hF)
theorem hmk0 {fn : Func} {R : Ending → World → Prop} (h : Ge n [] (bodyPost P fn R) .ret L w) : He n (bodyPostM (FZ none) 0 P fn R) .ret [] L w := fun a hF => by
  obtain ⟨_, v, h1, h2⟩ := h a hF
  have e := hF.defers
  show LeavesInM _ _ _ _ _ _ a.defers _ _
  rw [e]
  exact ⟨v, h1, h2⟩
def Frame.obj (g : Nat) (o : Obj) : Frame where
  holds w := w.heap[g]? = some o
  has k := k = g
  keep h hk := (hk g rfl).trans h
  lt h hg := by rw [hg]; exact (Array.getElem?_eq_some_iff.1 h).1
abbrev dfE (D : Nat) (b : Bool) : Ent := .sem (Frame.obj D (.deferred (if b then some [] else none)))
def mrk (D : Nat) : Deferred := { target := .collected D, args := #[] }
theorem Sat.putObj {l1 l2 : List Ent} {g : Nat} {o o' : Obj} (h : Sat w0 w (l1 ++ .sem (Frame.obj g o) :: l2)) : Sat w0 (w.putObj g o') (l1 ++ .sem (Frame.obj g o') :: l2) := by
  have hg : w.heap[g]? = some o := h.get
  refine h.turn (d := .sem (Frame.obj g o)) (fun k _ hk => World.putObj_heap_other (fun e => hk e)) rfl rfl rfl (by simp) ?_ (fun _ h => .inl h)
  exact World.putObj_heap_same (Array.getElem?_eq_some_iff.1 hg).1
theorem hmk1 {fn : Func} {R : Ending → World → Prop} {E : List Ent} {D : Nat} (i : Nat) (hS : Sat w0 w E) (K : ∀ w', Sat w0 w' (E.set i (dfE D false)) → Ge n [] (bodyPost P fn R) .ret L w') (hi : E[i]? = some (dfE D true) := by exact rfl) : He n (bodyPostM (FZ none) 0 P fn R) .ret [mrk D] L w := fun a hF => by
  have e := hF.defers
  show LeavesInM _ _ _ _ _ _ a.defers _ _
  rw [e]
  have hD : w.heap[D]? = some (.deferred (some [])) := hS.holds _ (List.mem_of_getElem? hi)
  refine ⟨by simp, .inl ⟨D, _, rfl, run_takeDeferred hD, ?_⟩⟩
  have h1 : Sat w0 (w.putObj D (.deferred none)) (E.set i (dfE D false)) := by
    have h' := hS
    rw [split_at hi] at h'
    rw [set_at hi]
    exact h'.putObj
  obtain ⟨_, v, h2, h3⟩ := K _ h1 { a with defers := [] } ⟨hF.size, rfl, hF.get⟩
  exact ⟨v, h2, h3⟩
end
theorem hasg {J : List (Nat × Value) → List Ent → Prop} {F : List Ent → List Ent} {Q : Exit → Act → World → Prop} {w w0 : World} {n : Nat} {L M : List (Nat × Value)} {es : List Ent} (hJ : J M es) (hS : Sat w0 w (F es)) (hM : Sub L M := by repeat' first | exact zpk0 | refine zpk rfl ?_) :
    Ge n [] (Exit.then (fun a w' => ∃ M es, J M es ∧ Frd a n [] M ∧ Sat w0 w' (F es)) Q) .normal L w := fun a hF => ⟨M, es, hJ, hF.sub hM, hS⟩
theorem perm_of {l m : List Ent} (h : ∀ f : Ent → Nat, (l.map f).sum = (m.map f).sum) : l.Perm m := by
  classical
  rw [List.perm_iff_count]
  intro z
  have := h (fun x => if x = z then 1 else 0)
  have e : ∀ l : List Ent, (l.map fun x => if x = z then 1 else 0).sum = l.count z := fun l => by
    induction l with
    | nil => rfl
    | cons x l ih =>
      rw [List.map_cons, List.sum_cons, ih, List.count_cons]
      by_cases hx : x = z
      · subst hx; simp; omega
      · simp [hx]
  rw [e, e] at this
  exact this
section
variable {P : Program} {Q : Exit → Act → World → Prop} {w w' w0 : World} {n : Nat} {L : List (Nat × Value)} {ds : List Deferred}
def ItC {St X Tt : Type} (P : Program) (w0 : World) (gf : FuncId) (lb : List Value) (Sh : List Ent) (enc : X → List Value) (Pre : St → X → Frame → Prop) (Nx : St → X → St → Prop) (Sx : St → X → Tt → Prop) (s0 : St) (Fin : St → Frame → Prop) (FinX : Tt → Frame → Prop) : Prop :=
  ∀ (l : Nat) (C : St → Frame) (D : Tt → Frame) (w : World), Sat w0 w (.sem (C s0) :: Sh) →
    (∀ s x rest w, Pre s x rest → Sat w0 w (.sem (C s) :: (Sh ++ [.sem rest])) → Yld P l (enc x) w fun v w' =>
      (v = .bool true ∧ ∃ s', Nx s x s' ∧ Sat w0 w' (.sem (C s') :: (Sh ++ [.sem rest]))) ∨ (v = .bool false ∧ ∃ t, Sx s x t ∧ Sat w0 w' (.sem (D t) :: (Sh ++ [.sem rest])))) →
    Calls P gf (.func (.yield l) #[] #[] :: lb).toArray w fun e w' => ∃ v, e = .returned v ∧
      ((∃ s rest, Fin s rest ∧ Sat w0 w' (.sem (C s) :: (Sh ++ [.sem rest]))) ∨ (∃ t rest, FinX t rest ∧ Sat w0 w' (.sem (D t) :: (Sh ++ [.sem rest]))))
def zipL : List Nat → List Value → List (Nat × Value) → List (Nat × Value)
  | t :: ts, v :: vs, L => zipL ts vs ((t, v) :: L)
  | _, _, L => L
theorem zipL_fr {a : Act} : ∀ (ts : List Nat) (vs : List Value) (T : Array Value) {L : List (Nat × Value)}, Frd { tmps := T, defers := [] } n [] L → (ts.all fun t => Nat.blt t n) = true →
    Frd { tmps := (ts.zip vs).foldl (fun t (p : Nat × Value) => t.setIfInBounds p.1 p.2) T, defers := [] } n [] (zipL ts vs L)
  | [], vs, T, L, h, _ => by simpa [zipL] using h
  | t :: ts, [], T, L, h, _ => by simpa [zipL] using h
  | t :: ts, v :: vs, T, L, h, hb => by
    simp only [List.all_cons, Bool.and_eq_true] at hb
    have h1 := h.put (by simpa [Nat.blt_eq] using hb.1) v
    simp only [List.zip_cons_cons, List.foldl_cons, zipL]
    exact zipL_fr (a := a) ts vs _ h1 hb.2
def rdQ {St Tt : Type} (w0 : World) (C : St → List Ent) (D : Tt → List Ent) (jc : Tt → Code) (Sh : List Ent) (N : St → Prop) (S : Tt → Prop) (rest : Frame) : Exit → Act → World → Prop
  | .normal, _, w' => ∃ s', N s' ∧ Sat w0 w' (C s' ++ (Sh ++ [.sem rest]))
  | .ret, _, w' => ∃ t, S t ∧ jc t = .ret ∧ Sat w0 w' (D t ++ (Sh ++ [.sem rest]))
  | .exit id, _, w' => ∃ t, S t ∧ jc t = .exit id ∧ Sat w0 w' (D t ++ (Sh ++ [.sem rest]))
  | _, _, _ => False
theorem hrdN {St Tt : Type} {w0 w : World} {C : St → List Ent} {D : Tt → List Ent} {jc : Tt → Code} {Sh : List Ent} {N : St → Prop} {S : Tt → Prop} {rest : Frame} {n : Nat} {L : List (Nat × Value)} (s' : St) (hN : N s') (hS : Sat w0 w (C s' ++ (Sh ++ [.sem rest]))) : Ge n [] (rdQ w0 C D jc Sh N S rest) .normal L w := fun _ _ => ⟨s', hN, hS⟩
theorem hrdR {St Tt : Type} {w0 w : World} {C : St → List Ent} {D : Tt → List Ent} {jc : Tt → Code} {Sh : List Ent} {N : St → Prop} {S : Tt → Prop} {rest : Frame} {n : Nat} {L : List (Nat × Value)} (t : Tt) (hN : S t) (hj : jc t = .ret) (hS : Sat w0 w (D t ++ (Sh ++ [.sem rest]))) : Ge n [] (rdQ w0 C D jc Sh N S rest) .ret L w := fun _ _ => ⟨t, hN, hj, hS⟩
def exitOf : Code → Exit
  | .ret => .ret
  | .exit id => .exit id
  | _ => .normal
theorem Sat.unbun {l1 l2 l3 : List Ent} (h : Sat w0 w (l1 ++ .sem (Frame.bun l2) :: l3)) : Sat w0 w (l1 ++ (l2 ++ l3)) := h.unbundle
theorem hrf {St X Tt : Type} {gf : FuncId} {lb : List Value} {g : Operand} {ps : Array Tmp} {assign body : Code} {Sh : List Ent} {enc : X → List Value} {Pre : St → X → Frame → Prop} {Nx : St → X → St → Prop} {Sx : St → X → Tt → Prop} {Fin : St → Frame → Prop} {FinX : Tt → Frame → Prop}
    (C : St → List Ent) (D : Tt → List Ent) (jc : Tt → Code) (s0 : St) (J : X → List (Nat × Value) → List Ent → Prop) (hit : ItC P w0 gf lb Sh enc Pre Nx Sx s0 Fin FinX) (hS : Sat w0 w (C s0 ++ Sh)) (hcl : calledT P gf = true)
    (hpl : ∀ x, (enc x).length = ps.size) (hjc : ∀ t, jc t = .ret ∨ ∃ id, jc t = .exit id)
    (hassign : ∀ l s x rest w, Pre s x rest → ∀ rest', (∀ w, rest'.holds w → rest.holds w) → Sat w0 w (C s ++ (Sh ++ [.sem rest'])) → Hc P (some l) n (Exit.then (fun a w' => ∃ M es, J x M es ∧ Frd a n [] M ∧ Sat w0 w' (C s ++ (Sh ++ (.sem rest' :: es)))) (fun _ _ _ => False)) assign [] (zipL ps.toList (enc x) L) w)
    (hbody : ∀ l s x M es rest w, Pre s x rest → J x M es → ∀ rest', (∀ w, rest'.holds w → rest.holds w) → Sat w0 w (C s ++ (Sh ++ (.sem rest' :: es))) → Hc P (some l) n (rdQ w0 C D jc Sh (Nx s x) (Sx s x) rest') body [] M w)
    (hdone : ∀ Dk s rest w', Fin s rest → Sat w0 w' (C s ++ (Sh ++ [.sem rest, dfE Dk true])) → He n Q .normal (mrk Dk :: ds) L w')
    (hstop : ∀ Dk t rest w', FinX t rest → Sat w0 w' (D t ++ (Sh ++ [.sem rest, dfE Dk true])) → He n Q (exitOf (jc t)) (mrk Dk :: ds) L w')
    (hg : evL L g = some (.func (.func gf) #[] lb.toArray) := by exact rfl) (hpb : (ps.toList.all fun t => Nat.blt t n) = true := by exact rfl) : Hc P none n Q (.rangeFunc g ps assign body) ds L w := by
  intro a hF
  refine wpIn_rangeFunc ?_
  intro fn hfn
  obtain ⟨rec, hrec⟩ : ∃ rec : LoopState → Option Code → Loop, rec = fun st pe => { state := st, pending := pe, fn, tmps := a.tmps, params := ps, assign, body, defers := w.heap.size } := ⟨_, rfl⟩
  obtain ⟨W1, hW1⟩ : ∃ W1, (w.alloc (.deferred (some []))).alloc (.loop (rec .ready none)) = W1 := ⟨_, rfl⟩
  obtain ⟨l, hl⟩ : ∃ l, w.heap.size + 1 = l := ⟨_, rfl⟩
  obtain ⟨Dk, hDk⟩ : ∃ Dk, w.heap.size = Dk := ⟨_, rfl⟩
  have hS1 : Sat w0 W1 ((C s0 ++ Sh) ++ [dfE Dk true] ++ [.sem (Frame.obj l (.loop (rec .ready none)))]) := by
    rw [← hW1]
    refine (hS.alloc _ (e := dfE Dk true) ?_ ?_).alloc _ (e := .sem (Frame.obj l (.loop (rec .ready none)))) ?_ ?_
    · rw [← hDk]; exact heap_alloc_new w _
    · intro g hg; rw [← hDk] at hg; exact hg
    · have := heap_alloc_new (w.alloc (.deferred (some []))) (.loop (rec .ready none))
      rw [World.size_alloc, hl] at this; exact this
    · intro g hg; rw [World.size_alloc, hl]; exact hg
  have eval : a.eval g = .func (.func gf) #[] lb.toArray := hF.agr _ _ hg
  have hfun : ∃ fnn, P.funcs[gf]? = some fnn ∧ fnn.body.isSome = true ∧ (fnn.name == "runtime.NumGoroutine") = false := by
    unfold calledT at hcl
    cases hf : P.funcs[gf]? with
    | none => simp [hf] at hcl
    | some fnn =>
      simp only [hf, Bool.and_eq_true, Bool.not_eq_true'] at hcl
      exact ⟨fnn, rfl, hcl.1, hcl.2⟩
  obtain ⟨fnn, hf1, hf2, hf3⟩ := hfun
  have hf2' : fnn.body ≠ none := by intro e; rw [e] at hf2; simp at hf2
  have hf3' : fnn.name ≠ "runtime.NumGoroutine" := by simpa using hf3
  let C' : St → Frame := fun s => Frame.bun (C s ++ [.sem (Frame.obj l (.loop (rec .ready none))), dfE Dk true])
  let D' : Tt → Frame := fun t => Frame.bun (D t ++ [.sem (Frame.obj l (.loop (rec .done (some (jc t))))), dfE Dk true])
  have hS2 : Sat w0 W1 (.sem (C' s0) :: Sh) := by
    have h1 : Sat w0 W1 (Sh ++ (C s0 ++ [.sem (Frame.obj l (.loop (rec .ready none))), dfE Dk true])) := hS1.perm (perm_of fun f => by simp only [List.map_append, List.map_cons, List.map_nil, List.sum_append, List.sum_cons, List.sum_nil]; omega)
    have h2 := h1.bundle
    exact h2.perm List.perm_append_comm
  refine ⟨l, [mrk Dk], W1, { target := .fn (.func gf) lb.toArray, args := #[.func (.yield l) #[] #[]] }, W1, gf, #[.func (.yield l) #[] #[]] ++ lb.toArray, W1, ?_, ?_, ?_, ?_, fun h => (by cases h), ?_⟩
  · rw [← hW1, hrec, ← hl, ← hDk]; exact run_enterLoop_outer _ _ _ _ _
  · simp only [resolve, eval]
    simp [go_sem]
  · intro f' hf'; trivial
  · simp [invoke, go_sem, callFunc, hf1, hf2', hf3']
  have eargs : (#[.func (.yield l) #[] #[]] ++ lb.toArray : Array Value) = (.func (.yield l) #[] #[] :: lb).toArray := by simp
  rw [eargs]
  refine FZ_calls ((hit l C' D' W1 hS2 ?_).mono ?_)
  · 
    intro s x rest W hpre hSW
    have h1 : Sat w0 W (C s ++ (Sh ++ [.sem rest, .sem (Frame.obj l (.loop (rec .ready none))), dfE Dk true])) := by
      have := Sat.unbun (l1 := []) hSW
      exact this.perm (perm_of fun f => by simp only [List.map_append, List.map_cons, List.map_nil, List.sum_append, List.sum_cons, List.sum_nil]; omega)
    have hlr : W.heap[l]? = some (.loop (rec .ready none)) := h1.holds (.sem (Frame.obj l (.loop (rec .ready none)))) (by simp)
    have hy := run_yield (P := P) (args := (enc x).toArray) hlr (by rw [hrec]; simp [hpl x])
    rw [hrec] at hy
    refine ⟨fn, _, assign, body, hy, roundIn_of_wpIn trivial ?_⟩
    clear hy
    let r1 : Frame := Frame.bun [.sem rest, .sem (Frame.obj l (.loop (rec .ready none))), dfE Dk true]
    have h2 : Sat w0 W (C s ++ (Sh ++ [.sem r1])) := by
      rw [← List.append_assoc] at h1 ⊢
      exact h1.bundle
    have hfr : Frd { tmps := (ps.zip (enc x).toArray).foldl (fun t (p, v) => t.setIfInBounds p v) a.tmps, defers := [] } n [] (zipL ps.toList (enc x) L) := by
      have := zipL_fr (a := a) (n := n) ps.toList (enc x) a.tmps (L := L) ⟨hF.size, rfl, hF.get⟩ hpb
      have e : (ps.zip (enc x).toArray).foldl (fun t (p, v) => t.setIfInBounds p v) a.tmps = (ps.toList.zip (enc x)).foldl (fun t (p : Nat × Value) => t.setIfInBounds p.1 p.2) a.tmps := by
        rw [← Array.foldl_toList, Array.toList_zip]
      rw [e]; exact this
    refine Go.wpIn_mono (hassign l s x rest W hpre r1 (fun w h => h.1 (.sem rest) (by simp)) h2 _ hfr) ?_
    intro e a1 Wa hp
    cases e <;> try exact hp.elim
    obtain ⟨M, es, hJ, hFM, hSa⟩ := hp
    have h3 : Sat w0 Wa ((C s ++ (Sh ++ ([.sem rest] ++ es)) ++ [dfE Dk true]) ++ .sem (Frame.obj l (.loop (rec .ready none))) :: []) := by
      have := Sat.unbun (l1 := C s ++ Sh) (l3 := es) (by rw [List.append_assoc]; exact hSa)
      exact this.perm (perm_of fun f => by simp only [List.map_append, List.map_cons, List.map_nil, List.sum_append, List.sum_cons, List.sum_nil]; omega)
    have hlr : Wa.heap[l]? = some (.loop (rec .ready none)) := h3.get
    refine ⟨_, run_beginRound hlr (by rw [hrec]), ?_⟩
    have h4 := h3.putObj (o' := .loop { rec .ready none with state := .busy })
    let r2 : Frame := Frame.bun [.sem rest, .sem (Frame.obj l (.loop { rec .ready none with state := .busy })), dfE Dk true]
    have h5 : Sat w0 (Wa.putObj l (.loop { rec .ready none with state := .busy })) (C s ++ (Sh ++ (.sem r2 :: es))) := by
      have h : Sat w0 (Wa.putObj l (.loop { rec .ready none with state := .busy })) ((C s ++ (Sh ++ es)) ++ [.sem rest, .sem (Frame.obj l (.loop { rec .ready none with state := .busy })), dfE Dk true]) := by
        exact h4.perm (perm_of fun f => by simp only [List.map_append, List.map_cons, List.map_nil, List.sum_append, List.sum_cons, List.sum_nil]; omega)
      have hb : Sat w0 (Wa.putObj l (.loop { rec .ready none with state := .busy })) ((C s ++ (Sh ++ es)) ++ [.sem r2]) := h.bundle
      exact hb.perm (perm_of fun f => by simp only [List.map_append, List.map_cons, List.map_nil, List.sum_append, List.sum_cons, List.sum_nil]; omega)
    refine Go.wpIn_mono (hbody l s x M es rest _ hpre hJ r2 (fun w h => h.1 (.sem rest) (by simp)) h5 _ hFM) ?_
    have fin : ∀ (jump : Option Code) (A : List Ent) (W3 : World), Sat w0 W3 (A ++ (Sh ++ [.sem r2])) →
        (Instr.endRound l jump).run P W3 = .ok (.bool jump.isNone) (W3.putObj l (.loop (rec (if jump.isNone then .ready else .done) jump))) ∧
        Sat w0 (W3.putObj l (.loop (rec (if jump.isNone then .ready else .done) jump))) (.sem (Frame.bun (A ++ [.sem (Frame.obj l (.loop (rec (if jump.isNone then .ready else .done) jump))), dfE Dk true])) :: (Sh ++ [.sem rest])) := fun jump A W3 hA => by
      have h6 : Sat w0 W3 ((Sh ++ [.sem rest] ++ (A ++ [dfE Dk true])) ++ .sem (Frame.obj l (.loop { rec .ready none with state := .busy })) :: []) := by
        have := Sat.unbun (l1 := A ++ Sh) (l3 := []) (by rw [List.append_assoc]; exact hA)
        exact this.perm (perm_of fun f => by simp only [List.map_append, List.map_cons, List.map_nil, List.sum_append, List.sum_cons, List.sum_nil]; omega)
      have hlb : W3.heap[l]? = some (.loop { rec .ready none with state := .busy }) := h6.get
      have hr := run_endRound (P := P) jump hlb
      have h7 := h6.putObj (o' := .loop (rec (if jump.isNone then .ready else .done) jump))
      refine ⟨by rw [hrec] at hr ⊢; exact hr, ?_⟩
      have h8 : Sat w0 (W3.putObj l (.loop (rec (if jump.isNone then .ready else .done) jump))) ((Sh ++ [.sem rest]) ++ (A ++ [.sem (Frame.obj l (.loop (rec (if jump.isNone then .ready else .done) jump))), dfE Dk true])) := by
        exact h7.perm (perm_of fun f => by simp only [List.map_append, List.map_cons, List.map_nil, List.sum_append, List.sum_cons, List.sum_nil]; omega)
      exact h8.bundle.perm List.perm_append_comm
    intro e a3 W3 hp
    cases e with
    | normal =>
      obtain ⟨s', hn, hA⟩ := hp
      obtain ⟨hr, h6⟩ := fin none _ _ hA
      exact ⟨_, _, hr, _, rfl, .inl ⟨rfl, s', hn, h6⟩⟩
    | ret =>
      obtain ⟨t, hn, hj, hA⟩ := hp
      obtain ⟨hr, h6⟩ := fin (some .ret) _ _ hA
      refine ⟨_, _, hr, _, rfl, .inr ⟨rfl, t, hn, ?_⟩⟩
      simp only [D', hj]; exact h6
    | exit id =>
      obtain ⟨t, hn, hj, hA⟩ := hp
      obtain ⟨hr, h6⟩ := fin (some (.exit id)) _ _ hA
      refine ⟨_, _, hr, _, rfl, .inr ⟨rfl, t, hn, ?_⟩⟩
      simp only [D', hj]; exact h6
    | goto t => exact hp.elim
    | panic ch => exact hp.elim
    | outgrown => exact hp.elim
  · 
    have out : ∀ (st : LoopState) (pe : Option Code) (A : List Ent) (rest : Frame) (W2 : World), st ≠ .busy → Sat w0 W2 (.sem (Frame.bun (A ++ [.sem (Frame.obj l (.loop (rec st pe))), dfE Dk true])) :: (Sh ++ [.sem rest])) →
        (Instr.endLoop l).run P W2 = .ok pe (W2.putObj l (.loop { rec st pe with state := .exhausted })) ∧ Sat w0 (W2.putObj l (.loop { rec st pe with state := .exhausted })) (A ++ (Sh ++ [.sem rest, dfE Dk true])) := fun st pe A rest W2 hst h => by
      have h1 := Sat.unbun (l1 := []) h
      have h2 : Sat w0 W2 ((A ++ (Sh ++ [.sem rest, dfE Dk true])) ++ .sem (Frame.obj l (.loop (rec st pe))) :: []) := by
        exact h1.perm (perm_of fun f => by simp only [List.map_append, List.map_cons, List.map_nil, List.sum_append, List.sum_cons, List.sum_nil]; omega)
      have hl : W2.heap[l]? = some (.loop (rec st pe)) := h2.get
      have h3 := h2.putObj (o' := .loop { rec st pe with state := .exhausted })
      refine ⟨?_, h3.sub (List.sublist_append_left _ _)⟩
      have := run_endLoop (P := P) hl (by rw [hrec]; exact hst)
      rw [hrec] at this ⊢; exact this
    rintro e W2 ⟨v, rfl, h⟩
    have hF' : ∀ {L'}, Frd a n ds L' → Frd { a with defers := [mrk Dk] ++ a.defers } n (mrk Dk :: ds) L' := fun h => ⟨h.size, by rw [← h.defers]; rfl, h.get⟩
    rcases h with ⟨s, rest, hfin, h⟩ | ⟨t, rest, hfin, h⟩
    · obtain ⟨h1, h2⟩ := out .ready none _ rest W2 (by simp) h
      exact ⟨none, _, h1, hdone Dk s rest _ hfin h2 _ (hF' hF)⟩
    · obtain ⟨h1, h2⟩ := out .done (some (jc t)) _ rest W2 (by simp) h
      refine ⟨some (jc t), _, h1, ?_⟩
      have h3 := hstop Dk t rest _ hfin h2 _ (hF' hF)
      rcases hjc t with hj | ⟨id, hj⟩
      · rw [hj] at h3 ⊢; exact wpIn_ret h3
      · rw [hj] at h3 ⊢; exact wpIn_exit h3
end
end Go.Proofs.Gw
namespace Go.Proofs.Ytopmifmfecfaaaa
open Go Go.RowKit Go.Proofs.Gw
theorem cl_44 : calledT Try.prog 44 = true := by kernel_rfl
theorem cl_45 : calledT Try.prog 45 = true := by kernel_rfl
theorem cl_76 : calledT Try.prog 76 = true := by kernel_rfl
theorem cl_77 : calledT Try.prog 77 = true := by kernel_rfl
theorem cl_79 : calledT Try.prog 79 = true := by kernel_rfl
theorem cl_80 : calledT Try.prog 80 = true := by kernel_rfl
theorem cl_95 : calledT Try.prog 95 = true := by kernel_rfl
theorem el_32 : elemT Try.prog 32 = some (.slice none 0 0, 1, 24) := by kernel_rfl
set_option maxRecDepth 20000 in
theorem c_total {vL vD : Value} {p : Prob} (w0 : World) (h : PAt w0 vL vD p) (hok : p.Ok) :
    Calls Try.prog 76 [.agg #[vL, vD, .int .i64 p.stock, .int .i64 p.kerf]].toArray w0 fun e w => ∃ v, e = .returned v ∧ v = .int .i64 (psum (fun _ => 1) p.D p.m.toNat) ∧ Sat w0 w [] := by
  have hm := h.L.slh.n0; have hm1 := h.L.slh.n1; have hd := h.D.slh.n0; have hd1 := h.D.slh.n1; have hs := h.is; have hk := h.ik
  have hpd := hok.d; have hpm2 := hok.m2
  refine zenG Try.func76 Try.ntmps76 fun w hS => ?_
  refine zsr ?_
  refine zla (xbx (cs := [_, _, _, _]) hS) ?_; rintro _ w ⟨g1, rfl, hS⟩
  replace hS := hS.n1
  refine zlv xas ?_
  refine zlz ?_
  refine zlv xas ?_
  refine zlt <| zsq <| zsr ?_
  refine zlv (xfb 1 fd_39_1) ?_
  refine zlv (xlb 0 pl_22 hS) ?_
  refine zlv (xln sl_22 h.D.slh) ?_
  refine zlv xmv ?_
  refine zlt <| zbk <| zlp (fun mm M w => ∃ (s : Int) (i : Int), mm = ((p.d - i).toNat) ∧ (0 ≤ i) ∧ (i ≤ p.d) ∧ (s = psum (fun _ => 1) p.D i.toNat) ∧ (0 ≤ s ∧ s ≤ 1000000 * i) ∧ M = [(2, .int .i64 0), (3, .int .i64 s), (7, vD), (8, .int .i64 p.d), (9, .int .i64 i)] ∧ Sat w0 w [.blk g1 [vL, vD, .int .i64 p.stock, .int .i64 p.kerf]]) ⟨0, 0, rfl, (by omega), (by omega), ?_, (by omega), rfl, hS⟩ ?_
  ·
   rfl
  clear hS w
  rintro mm M w ⟨s, i, rfl, h0, h1, hs9, hsb, rfl, hS⟩
  refine zsr ?_
  refine zlv xlss ?_
  refine zlt <| zsq ?_
  refine zcif ?_ ?_ <;> intro hc
  ·
   refine zsk <| ztn <| zsq <| zbk <| zsr ?_
   refine zlv (xix (kk := i) sl_22 h.D.slh) ?_
   refine zlv (xlr (u := .int .i64 (p.D i)) pl_3 (h.D.below hS.below)) ?_
   have hbv := h.iD i
   have he := hok.all i h0 (by omega); unfold Prob.each at he
   refine zlv xas ?_
   refine zlt <| zrg ?_
   refine zs2 ?_
   refine zlv (xadd (r := s + p.D i)) ?_
   refine zlv xas ?_
   refine zln <| zbn <| ztn <| zrg ?_
   refine zlv (xadd (r := i + 1)) ?_
   refine zlv xmv ?_
   refine zln <| zlq ⟨s + p.D i, i + 1, rfl, (by omega), (by omega), ?_, (by omega), rfl, hS⟩
   ·
    rw [psum_next _ _ h0, ← hs9]; omega
  refine zxt <| ztx <| ztx <| zbh <| ztn <| zsr ?_
  refine zs2 ?_
  refine zlt <| zrt <| zf1 ⟨_, rfl, ?_⟩
  obtain rfl : p.m = i := by omega
  rw [← hs9]
  exact ⟨rfl, hS.nl⟩
def ChkR (p : Prob) (e : Int) : Prop := (¬ p.Ok ∧ e = 1) ∨ (p.Ok ∧ 1000 < psum (fun _ => 1) p.D p.m.toNat ∧ e = 9) ∨ (p.Ok ∧ psum (fun _ => 1) p.D p.m.toNat ≤ 1000 ∧ e = 0)
set_option maxRecDepth 20000 in
theorem c_chk34 {vL vD : Value} {p : Prob} (w0 : World) (h : PAt w0 vL vD p) :
    Calls Try.prog 44 [.agg #[vL, vD, .int .i64 p.stock, .int .i64 p.kerf]].toArray w0 fun e w => ∃ v, e = .returned v ∧ ∃ e : Int, v = .int .i64 e ∧ ChkR p e ∧ Sat w0 w [] := by
  have hm := h.L.slh.n0; have hm1 := h.L.slh.n1; have hd := h.D.slh.n0; have hd1 := h.D.slh.n1; have hs := h.is; have hk := h.ik
  refine zenG Try.func44 Try.ntmps44 fun w hS => ?_
  refine zsr ?_
  refine zla (xbx (cs := [_, _, _, _]) hS) ?_; rintro _ w ⟨g1, rfl, hS⟩
  replace hS := hS.n1
  refine zlv xas ?_
  refine zlt <| zsq <| zbk <| zsr ?_
  refine zlv (xls 0 st_39 hS) ?_
  refine zlc (xc0 cl_34) (c_pvalid (p := p) w (h.below hS.below)) ?_; rintro _ w ⟨rfl, hS'⟩
  replace hS := hS.cmp hS'; clear hS'
  refine zs2 ?_
  refine zlt ?_
  refine zcif ?_ ?_ <;> intro hc
  ·
   refine zsr ?_
   refine zlv xas ?_
   refine zlt <| zrt <| zbr <| ztr <| zf1 ⟨_, rfl, ?_⟩
   exact ⟨1, rfl, .inl ⟨‹¬ p.Ok›, rfl⟩, hS.nl⟩
  refine zsr ?_
  refine zlv (xls 0 st_39 hS) ?_
  have hok9 : p.Ok := by first | assumption | exact Classical.not_not.1 ‹_›
  refine zlc (xc0 cl_76) (c_total (p := p) w (h.below hS.below) hok9) ?_; rintro _ w ⟨rfl, hS'⟩
  replace hS := hS.cmp hS'; clear hS'
  refine zs2 ?_
  refine zlt ?_
  refine zcif ?_ ?_ <;> intro hc
  ·
   refine zsr ?_
   refine zlv xas ?_
   refine zlt <| zrt <| zbr <| ztr <| zf1 ⟨_, rfl, ?_⟩
   exact ⟨9, rfl, .inr (.inl ⟨hok9, by omega, rfl⟩), hS.nl⟩
  refine zsk <| zbn <| ztn <| zsr ?_
  refine zlv xas ?_
  refine zlt <| zrt <| zf1 ⟨_, rfl, ?_⟩
  exact ⟨0, rfl, .inr (.inr ⟨hok9, by omega, rfl⟩), hS.nl⟩
theorem c_pieces {vL vD : Value} {p : Prob} (w0 : World) (h : PAt w0 vL vD p) :
    Calls Try.prog 77 [.agg #[vL, vD, .int .i64 p.stock, .int .i64 p.kerf]].toArray w0 fun e w => ∃ v, e = .returned v ∧ ∃ g, v = .func (.func 95) #[] #[.pointer (some ⟨g, 0, none⟩)] ∧ Sat w0 w [.blk g [vL, vD, .int .i64 p.stock, .int .i64 p.kerf]] := by
  refine zenG Try.func77 Try.ntmps77 fun w hS => ?_
  refine zsr ?_
  refine zla (xbx (cs := [_, _, _, _]) hS) ?_; rintro _ w ⟨g1, rfl, hS⟩
  replace hS := hS.n1
  refine zlv xas ?_
  refine zlz ?_
  refine zlv xmf ?_
  refine zlv xas ?_
  refine zlt <| zrt <| zf1 ⟨_, rfl, ?_⟩
  exact ⟨_, rfl, hS⟩
set_option maxRecDepth 20000 in
theorem c_pieces1 {vL vD : Value} {p : Prob} {gp : Nat} {St : Type} (hist : St → List Int) (Inv : St → Prop) (s0 : St) (hs0 : hist s0 = []) (hI0 : Inv s0) (w0 : World) (h : PAt w0 vL vD p) (hok : p.Ok) : ItC (St := St) (X := Int) (Tt := Unit) Try.prog w0 95 [.pointer (some ⟨gp, 0, none⟩)] [.blk gp [vL, vD, .int .i64 p.stock, .int .i64 p.kerf]] (fun x => [.int .i64 x]) (fun s x rest => Inv s ∧ ∃ c, 0 ≤ x ∧ x < p.m ∧ 0 ≤ c ∧ c < p.D x ∧ hist s = pcsTo p.D x c) (fun s x s1 => hist s1 = hist s ++ [x] ∧ Inv s1) (fun _ _ _ => False) (s0) (fun s rest => Inv s ∧ hist s = pcsTo p.D p.m 0) (fun _ _ => False) := by
  intro l C D w hS hY
  have hm := h.L.slh.n0; have hm1 := h.L.slh.n1; have hd := h.D.slh.n0; have hd1 := h.D.slh.n1; have hs := h.is; have hk := h.ik
  have hpd := hok.d; have hpm2 := hok.m2
  refine henI Try.func95 Try.ntmps95 ?_
  refine hsq <| hrz ?_
  refine zlv (xfb 1 fd_39_1) ?_
  refine zlv (xlb 1 pl_22 hS) ?_
  refine zlv (xln sl_22 h.D.slh) ?_
  refine zlv xmv ?_
  refine zln <| zh <| htn <| hbk <| hlp (fun mm M w => ∃ (s : St) (i : Int), mm = ((p.d - i).toNat) ∧ (0 ≤ i) ∧ (i ≤ p.d) ∧ (Inv s) ∧ (hist s = pcsTo p.D i 0) ∧ M = [(0, .func (.yield l) #[] #[]), (6, vD), (7, .int .i64 p.d), (8, .int .i64 i)] ∧ Sat w0 w [.sem (C s), .blk gp [vL, vD, .int .i64 p.stock, .int .i64 p.kerf]]) ⟨s0, 0, rfl, (by omega), (by omega), ?_, ?_, rfl, hS⟩ ?_
  ·
   exact hI0
  ·
   exact hs0
  clear hS w
  rintro mm M w ⟨s, i, rfl, h0, h1, hI, hh, rfl, hS⟩
  refine hsq <| hrz ?_
  refine zlv xlss ?_
  refine zln <| zh <| htn <| hsq ?_
  refine hcif ?_ ?_ <;> intro hc
  ·
   refine hsk <| htn <| hsq <| hbk <| hsq <| hrz ?_
   refine zlv xmv ?_
   refine zlv (xix (kk := i) sl_22 h.D.slh) ?_
   refine zlv (xlr (u := .int .i64 (p.D i)) pl_3 (h.D.below hS.below)) ?_
   have hbv := h.iD i
   have he := hok.all i h0 (by omega); unfold Prob.each at he
   refine zs2 ?_
   refine zln <| zh <| htn <| hsq <| hrz ?_
   refine zs2 ?_
   refine zln <| zh <| htn <| hbk <| hlp (fun mm M w => ∃ (s2 : St) (c : Int), mm = ((p.D i - c).toNat) ∧ (0 ≤ c) ∧ (c ≤ p.D i) ∧ (Inv s2) ∧ (hist s2 = pcsTo p.D i c) ∧ M = [(0, .func (.yield l) #[] #[]), (3, .int .i64 i), (6, vD), (7, .int .i64 p.d), (8, .int .i64 i), (13, .int .i64 (p.D i)), (14, .int .i64 c)] ∧ Sat w0 w [.sem (C s2), .blk gp [vL, vD, .int .i64 p.stock, .int .i64 p.kerf]]) ⟨s, 0, rfl, (by omega), (by omega), ?_, ?_, rfl, hS⟩ ?_
   ·
    exact hI
   ·
    exact hh
   clear hS w
   rintro mm M w ⟨s2, c, rfl, c0, c1, hI2, hh2, rfl, hS⟩
   refine hsq <| hrz ?_
   refine zlv xlss ?_
   refine zln <| zh <| htn <| hsq ?_
   refine hcif ?_ ?_ <;> intro hc
   ·
    refine hsk <| htn <| hsq <| hbk <| hsq <| hrg ?_
    iterate 2 refine hlv xmv ?_
    refine hly (hY s2 i _ w ⟨hI2, c, h0, by omega, c0, by omega, hh2⟩ (Sat.bundle (l1 := [_, _]) (l2 := []) hS)) ?_; rintro _ w (⟨rfl, sy1, hny1, hS⟩ | ⟨rfl, ty1, hdy1, hS⟩)
    ·
     replace hS := Sat.unbundle (l1 := [_, _]) (l3 := []) hS
     replace hS := hS.n2
     refine hlv xnt ?_
     refine hln <| htn <| hcf <| hsk <| zbn <| htn <| hrz ?_
     refine zlv (xadd (r := c + 1)) ?_
     refine zlv xmv ?_
     refine zln <| zh <| hlq ⟨sy1, c + 1, rfl, (by omega), (by omega), ?_, ?_, rfl, hS⟩
     ·
      exact hny1.2
     ·
      rw [hny1.1, hh2, ← pcsTo_next _ c0]
    ·
     replace hS := Sat.unbundle (l1 := [_, _]) (l3 := []) hS
     replace hS := hS.n2
     refine hlv xnf ?_
     refine hln <| htn <| hct <| hrt <| zbr <| ztr <| ztr <| zbr <| zbr <| ztr <| ztr <| zbr <| zf0 ⟨_, rfl, ?_⟩
     exact hdy1.elim
   refine hxt <| ztx <| ztx <| zbh <| zbn <| htn <| hrz ?_
   refine zlv (xadd (r := i + 1)) ?_
   refine zlv xmv ?_
   refine zln <| zh <| hlq ⟨s2, i + 1, rfl, (by omega), (by omega), ?_, ?_, rfl, hS⟩
   ·
    exact hI2
   ·
    rw [pcsTo_kind _ h0 (c := c) (by omega)]; exact hh2
  refine hxt <| ztx <| ztx <| zbh <| zfn0 ⟨_, rfl, ?_⟩
  exact .inl ⟨s, _, ⟨hI, by rw [hh, show i = p.m by omega]⟩, Sat.bundle (l1 := [_, _]) (l2 := []) hS⟩
theorem pcsTo_ok {d : Int → Int} {m i c : Int} (hd : ∀ k, 0 ≤ k → k < m → 0 ≤ d k) (i0 : 0 ≤ i) (i1 : i ≤ m) (c0 : 0 ≤ c) (c1 : i < m → c ≤ d i) (c2 : i = m → c = 0) : (∀ x ∈ pcsTo d i c, 0 ≤ x ∧ x < m) ∧ ((pcsTo d i c).length : Int) ≤ psum (fun _ => 1) d m.toNat := by
  constructor
  · intro x hx
    unfold pcsTo at hx
    rcases List.mem_append.1 hx with h | h
    · have := pcs_mem x h; omega
    · have h1 := List.mem_replicate.1 h
      have h2 := h1.2
      rcases Int.lt_or_eq_of_le i1 with h3 | h3
      · omega
      · have := c2 h3; have := h1.1; omega
  · rw [pcsTo_len d i0 c0 fun k k0 k1 => hd k k0 (by omega)]
    rcases Int.lt_or_eq_of_le i1 with h3 | h3
    · have h4 := c1 h3
      have h5 := psum_next (fun _ => 1) d i0
      have h6 := psum_mono (d := d) (f := fun _ => 1) (i := (i + 1).toNat) (n := m.toNat) (by omega) fun k hk => by have := hd k (by omega) (by omega); omega
      rw [h5] at h6; omega
    · have := c2 h3; rw [h3]; omega
theorem puse_ge {sz : Int → Int} {p : List Int} (hp : ∀ v ∈ p, 0 ≤ v) (hs : ∀ k : Nat, k < p.length → 1 ≤ sz k) {j : Nat} (hj : j < p.length) : p.getD j 0 ≤ puse sz p := by
  have key : ∀ (l : List Nat) (f : Nat → Int), (∀ k ∈ l, 0 ≤ f k) → ∀ j ∈ l, f j ≤ (l.map f).sum := by
    intro l f
    induction l with
    | nil => intro _ j h; simp at h
    | cons a l ih =>
      intro h0 j h
      have h1 : 0 ≤ (l.map f).sum := by
        clear ih h
        induction l with
        | nil => simp
        | cons b l ih2 => rw [List.map_cons, List.sum_cons]; have := h0 b (by simp); have := ih2 (fun k hk => h0 k (by rcases List.mem_cons.1 hk with h | h <;> simp [h])); omega
      rw [List.map_cons, List.sum_cons]
      rcases List.mem_cons.1 h with e | e
      · rw [e]; omega
      · have := ih (fun k hk => h0 k (by simp [hk])) j e; have := h0 a (by simp); omega
  have nn : ∀ k : Nat, k < p.length → 0 ≤ p.getD k 0 := fun k hk => by
    rw [List.getD_eq_getElem?_getD, List.getElem?_eq_getElem hk]
    exact hp _ (List.getElem_mem hk)
  have h1 := key (List.range p.length) (fun k => p.getD k 0 * sz k) (fun k hk => by
    have hk := List.mem_range.1 hk
    exact Int.mul_nonneg (nn k hk) (by have := hs k hk; omega)) j (List.mem_range.2 hj)
  have h2 := nn j hj
  have h3 := hs j hj
  have h4 := Int.mul_le_mul_of_nonneg_left h3 h2
  exact Int.le_trans (show p.getD j 0 ≤ p.getD j 0 * sz j by omega) h1
structure FSt where
  h : List Int
  vB : Value
  n : Int
  vv : Int → Value
  P : Int → Int → Int
  vL : Value
  L : Int → Int
abbrev szP (p : Prob) : Int → Int := fun k => p.L k + p.kerf
def FInv (p : Prob) (s : FSt) : Prop := plL s.n (fun _ => p.m) s.P s.L = ffRun p.m (p.stock + p.kerf) (szP p) s.h ∧ Slh s.vB s.n ∧ Slh s.vL s.n
def FSt.zer : FSt := ⟨[], .slice none 0 0, 0, fun _ => .slice none 0 0, fun _ _ => 0, .slice none 0 0, fun _ => 0⟩
theorem FInv.zer (p : Prob) : FInv p FSt.zer := ⟨rfl, slh_nil, slh_nil⟩
theorem szP_ok {p : Prob} (hok : p.Ok) {x : Int} (x0 : 0 ≤ x) (x1 : x < p.m) : 1 ≤ szP p x ∧ szP p x ≤ p.stock + p.kerf := by
  have he := hok.all x x0 x1
  unfold Prob.each at he
  have := hok.k1
  unfold szP; omega
theorem ffRun_p {p : Prob} (hok : p.Ok) {l : List Int} (hm : ∀ x ∈ l, 0 ≤ x ∧ x < p.m) : FFOk p.m (p.stock + p.kerf) (szP p) l (ffRun p.m (p.stock + p.kerf) (szP p) l) :=
  ffRun_ok fun x hx => by
    have h1 := hm x hx
    have h2 := szP_ok hok h1.1 h1.2
    exact ⟨h1.1, h1.2, by omega, h2.2⟩
theorem FInv.rng {p : Prob} {s : FSt} (hok : p.Ok) (h : FInv p s) (hm : ∀ x ∈ s.h, 0 ≤ x ∧ x < p.m) (hl : (s.h.length : Int) ≤ 1000) : s.n ≤ 1000 ∧ ∀ k, 0 ≤ k → k < s.n → (0 ≤ s.L k ∧ s.L k ≤ p.stock + p.kerf) ∧ ∀ j, 0 ≤ j → j < p.m → 0 ≤ s.P k j ∧ s.P k j ≤ p.stock + p.kerf := by
  have hk := ffRun_p hok hm
  rw [← h.1] at hk
  have h1 := hk.ln
  rw [plL_len] at h1
  refine ⟨by omega, fun k k0 k1 => ?_⟩
  have hb : (lst p.m (s.P k), s.L k) ∈ plL s.n (fun _ => p.m) s.P s.L := List.mem_iff_getElem?.2 ⟨k.toNat, by rw [plL_get, Int.toNat_of_nonneg k0, if_pos k1]⟩
  obtain ⟨h2, h3, h4⟩ := hk.ok _ hb
  have h5 := hk.nn _ hb
  dsimp only at h2 h3 h4 h5
  have hg : ∀ j, 0 ≤ j → j < p.m → (lst p.m (s.P k)).getD j.toNat 0 = s.P k j := fun j j0 j1 => by rw [List.getD_eq_getElem?_getD, lst_get, Int.toNat_of_nonneg j0, if_pos j1]; rfl
  have h8 : ∀ j : Nat, j < (lst p.m (s.P k)).length → 1 ≤ szP p j := fun j hj => by
    rw [lst_len] at hj
    exact (szP_ok hok (by omega) (by omega)).1
  have h9 : 0 ≤ puse (szP p) (lst p.m (s.P k)) := by
    have hm1 := hok.m1
    have h10 := puse_ge h5 h8 (j := 0) (by rw [lst_len]; omega)
    have h11 := hg 0 (by omega) (by omega)
    have h12 := h5 (s.P k 0) (by
      have := lst_get p.m (s.P k) 0
      rw [if_pos (by omega)] at this
      exact List.mem_of_getElem? this)
    rw [show (0 : Int).toNat = 0 from rfl] at h11
    omega
  refine ⟨⟨h4, by omega⟩, fun j j0 j1 => ?_⟩
  have h6 := puse_ge h5 h8 (j := j.toNat) (by rw [lst_len]; omega)
  rw [hg j j0 j1] at h6
  have h7 := h5 (s.P k j) (by
    have := lst_get p.m (s.P k) j.toNat
    rw [Int.toNat_of_nonneg j0, if_pos j1] at this
    exact List.mem_of_getElem? this)
  exact ⟨h7, by omega⟩
theorem ffm_at {n m room r x y : Int} {sz L : Int → Int} {P : Int → Int → Int} (n0 : 0 ≤ n) (x0 : 0 ≤ x) (r0 : 0 ≤ r) (r1 : r < n) (h : sz x ≤ L r) (hf : ∀ j, 0 ≤ j → j < r → ¬ (sz x ≤ L j)) (hy : y = L r - sz x) :
    plL n (fun _ => m) (upd P r (upd (P r) x (P r x + 1))) (upd L r y) = ffPut m room sz x (plL n (fun _ => m) P L) :=
  ff_at n0 x0 r0 r1 h (fun j j0 j1 => by have := hf j j0 j1; omega) (fun a a0 a1 b b0 b1 => by
    unfold upd
    by_cases ha : a = r
    · subst ha
      by_cases hb : b = x
      · subst hb; simp
      · simp [hb]
    · simp [ha]) (fun a a0 a1 => by
    unfold upd
    by_cases ha : a = r
    · subst ha; simp [hy]
    · simp [ha])
theorem ffm_new {n m room x y : Int} {sz L : Int → Int} {P : Int → Int → Int} (n0 : 0 ≤ n) (x0 : 0 ≤ x) (hf : ∀ j, 0 ≤ j → j < n → ¬ (sz x ≤ L j)) (hy : y = snoc L n room n - sz x) :
    plL (n + 1) (fun _ => m) (upd (gsn P n (fun _ => 0)) n (upd (gsn P n (fun _ => 0) n) x (gsn P n (fun _ => 0) n x + 1))) (upd (snoc L n room) n y) = ffPut m room sz x (plL n (fun _ => m) P L) := by
  have e1 : gsn P n (fun _ => 0) n = fun _ => 0 := gsn_at (by omega)
  have e2 : snoc L n room n = room := snoc_at (by omega)
  rw [e2] at hy
  rw [e1]
  refine ff_new n0 x0 (fun j j0 j1 => by have := hf j j0 j1; omega) (fun a a0 a1 b b0 b1 => ?_) (fun b b0 b1 => ?_) (fun a a0 a1 => ?_) ?_
  · unfold upd; rw [if_neg (by omega), gsn_lt a1]
  · unfold upd; rw [if_pos rfl]
    by_cases hb : b = x
    · simp [hb]
    · simp [hb]
  · unfold upd; rw [if_neg (by omega), snoc_lt a1]
  · unfold upd; rw [if_pos rfl]; exact hy
theorem ones_plL (n : Int) (ln : Int → Int) (pt : Int → Int → Int) (cnt : Int → Int) : ones (plL n ln pt cnt) = plL n ln pt (fun _ => 1) := by
  unfold ones plL
  rw [List.map_map]; rfl
theorem gsn_const {α : Type} (a : α) (n : Int) : gsn (fun _ => a) n a = fun _ => a := by
  funext k; unfold gsn; split <;> rfl
theorem c_ff1 {x m : Int} {a1 : Addr} (w0 : World) (hp1 : w0.cell? a1 = some (.int .i64 m)) :
    Calls Try.prog 79 [.int .i64 x, .pointer (some a1)].toArray w0 fun e w => ∃ v, e = .returned v ∧ v = B (m ≤ x) ∧ Sat w0 w [] := by
  refine zenG Try.func79 Try.ntmps79 fun w hS => ?_
  refine zsr ?_
  refine zlv xas ?_
  refine zlz ?_
  refine zlv xmv ?_
  refine zlv (xlf pl_3 hp1 hS) ?_
  refine zs2 ?_
  refine zlt <| zrt <| zf1 ⟨_, rfl, ?_⟩
  exact ⟨B_congr (by omega), hS⟩
set_option maxRecDepth 20000 in
theorem c_ixff {v : Value} {n m : Int} {f : Int → Int} {a1 : Addr} (w0 : World) (hR : Row w0 v 1 n (ints f)) (hp1 : w0.cell? a1 = some (.int .i64 m)) :
    Calls Try.prog 78 [v, .func (.func 79) #[] #[.pointer (some a1)]].toArray w0 fun e w => ∃ v, e = .returned v ∧ ∃ r : Int, v = .int .i64 r ∧ ((r = -1 ∧ ∀ k, 0 ≤ k → k < n → ¬ (m ≤ f k)) ∨ (0 ≤ r ∧ r < n ∧ (m ≤ f r) ∧ ∀ k, 0 ≤ k → k < r → ¬ (m ≤ f k))) ∧ Sat w0 w [] := by
  have hn := hR.slh.n0; have hn1 := hR.slh.n1
  refine zenG Try.func78 Try.ntmps78 fun w hS => ?_
  refine zsr ?_
  refine zlv xas ?_
  refine zlt <| zsq <| zsr ?_
  refine zlv xmv ?_
  refine zlv (xln sl_22 hR.slh) ?_
  refine zlv xmv ?_
  refine zlt <| zbk <| zlp (fun mm M w => ∃ (i : Int), mm = ((n - i).toNat) ∧ (0 ≤ i) ∧ (i ≤ n) ∧ (∀ k, 0 ≤ k → k < i → ¬ (m ≤ f k)) ∧ M = [(0, v), (1, .func (.func 79) #[] #[.pointer (some a1)]), (7, .int .i64 n), (8, .int .i64 i)] ∧ Sat w0 w []) ⟨0, rfl, (by omega), (by omega), ?_, rfl, hS⟩ ?_
  ·
   intro k h0 h1; omega
  clear hS w
  rintro mm M w ⟨i, rfl, h0, h1, hall, rfl, hS⟩
  refine zsr ?_
  refine zlv xlss ?_
  refine zlt <| zsq ?_
  refine zcif ?_ ?_ <;> intro hc
  ·
   refine zsk <| ztn <| zsq <| zbk <| zsr ?_
   refine zs2 ?_
   refine zlz ?_
   refine zs3 ?_
   refine zlv (xix (kk := i) sl_22 hR.slh) ?_
   refine zlv (xlr (u := .int .i64 (f i)) pl_3 (hR.below hS.below)) ?_
   refine zlc (xcc (vs := [_]) cl_79) (c_ff1 (x := (f i)) (m := m) w (hS.ref hp1)) ?_; rintro _ w ⟨rfl, hS'⟩
   replace hS := hS.cmp hS'; clear hS'
   refine zlt ?_
   refine zcif ?_ ?_ <;> intro hc
   ·
    refine zsr ?_
    refine zs2 ?_
    refine zlt <| zrt <| zbr <| ztr <| ztr <| zbr <| ztr <| zf1 ⟨_, rfl, ?_⟩
    exact ⟨i, rfl, .inr ⟨by omega, by omega, ‹m ≤ f i›, hall⟩, hS⟩
   refine zsk <| zbn <| ztn <| zrg ?_
   refine zlv (xadd (r := i + 1)) ?_
   refine zlv xmv ?_
   refine zln <| zlq ⟨i + 1, rfl, (by omega), (by omega), ?_, rfl, hS⟩
   ·
    intro k h0' h1'; rcases Int.lt_or_eq_of_le (show k ≤ i by omega) with hk | hk; exact hall k h0' hk; rw [hk]; assumption
  refine zxt <| ztx <| ztx <| zbh <| ztn <| zsr ?_
  refine zlv xas ?_
  refine zlt <| zrt <| zf1 ⟨_, rfl, ?_⟩
  exact ⟨-1, rfl, .inl ⟨rfl, fun k h0 h1 => hall k h0 (by omega)⟩, hS⟩
set_option maxHeartbeats 4000000 in
set_option maxRecDepth 20000 in
theorem c_firstfit {vL vD : Value} {p : Prob} (w0 : World) (h : PAt w0 vL vD p) (hok : p.Ok) (htot : psum (fun _ => 1) p.D p.m.toNat ≤ 1000) :
    Calls Try.prog 45 [.agg #[vL, vD, .int .i64 p.stock, .int .i64 p.kerf]].toArray w0 fun e w => ∃ v, e = .returned v ∧ ∃ r n2 pv2 ln2 pt2 cnt2, v = r ∧ NormR (ones (ffRun p.m (p.stock + p.kerf) (szP p) (pcsTo p.D p.m 0))) (plL n2 ln2 pt2 cnt2) ∧ 0 ≤ n2 ∧ n2 ≤ 1000 ∧ (∀ k, 0 ≤ k → k < n2 → 1 ≤ cnt2 k ∧ cnt2 k ≤ 1000000) ∧ Slh r n2 ∧ Sat w0 w [.own r 2 50 n2 (ucells pv2 cnt2), .sem (Frame.rows 3 n2 pv2 ln2 pt2)] := by
  have hm := h.L.slh.n0; have hm1 := h.L.slh.n1; have hd := h.D.slh.n0; have hd1 := h.D.slh.n1; have hs := h.is; have hk := h.ik
  have hpd := hok.d; have hpm2 := hok.m2; have hpm1 := hok.m1; have hs1 := hok.s1; have hs2 := hok.s2; have hk1 := hok.k1; have hk2 := hok.k2
  refine henM Try.func45 Try.ntmps45 fun w hS => ?_
  refine hsq <| hrz ?_
  refine zla (xbx (cs := [_, _, _, _]) hS) ?_; rintro _ w ⟨g1, rfl, hS⟩
  replace hS := hS.n1
  refine zlv xas ?_
  refine zln <| zh <| htn <| hsq <| hrz ?_
  refine zla (xal (cs := [_]) el_32 hS) ?_; rintro _ w ⟨g2, rfl, hS⟩
  replace hS := hS.n2
  refine zln <| zh <| htn <| hsq <| hrz ?_
  refine zla (xal (cs := [_]) el_22 hS) ?_; rintro _ w ⟨g3, rfl, hS⟩
  replace hS := hS.n3
  refine zln <| zh <| htn <| hsq <| hsq <| hrz ?_
  refine zlv (xls 0 st_39 hS) ?_
  refine zlc (xc0 cl_77) (c_pieces (p := p) w (h.below hS.below)) ?_; rintro _ w ⟨g4, rfl, hS'⟩
  replace hS : Sat w0 w [.blk g1 [vL, vD, .int .i64 p.stock, .int .i64 p.kerf], .blk g2 [.slice none 0 0], .blk g3 [.slice none 0 0], .blk g4 [vL, vD, .int .i64 p.stock, .int .i64 p.kerf]] := hS.comp hS'; clear hS'
  refine zln <| zh <| htn <| hbk ?_
  replace hS := hS.addnil 1 22 (fun _ => Value.slice none 0 0)
  replace hS := hS.n5
  replace hS := hS.addrows 3 (fun _ => Value.slice none 0 0) (fun _ => p.m) (fun _ _ => 0)
  replace hS := hS.n6
  replace hS := hS.addnil 1 3 (ints (fun _ => 0))
  replace hS := hS.n7
  refine hrf (St := FSt) (X := Int) (Tt := Unit) (fun s => [.blk g1 [vL, vD, .int .i64 p.stock, .int .i64 p.kerf], .blk g2 [s.vB], .blk g3 [s.vL], .own s.vB 1 22 s.n s.vv, .sem (Frame.rows 3 s.n s.vv (fun _ => p.m) s.P), .own s.vL 1 3 s.n (ints s.L)]) (fun t => []) (fun _ => .ret) FSt.zer (fun x M es => M = [(0, .agg #[vL, vD, .int .i64 p.stock, .int .i64 p.kerf]), (1, .pointer (some ⟨g1, 0, none⟩)), (2, .slice none 0 0), (3, .pointer (some ⟨g2, 0, none⟩)), (4, .pointer (some ⟨g3, 0, none⟩)), (11, .agg #[vL, vD, .int .i64 p.stock, .int .i64 p.kerf]), (12, .func (.func 95) #[] #[.pointer (some ⟨g4, 0, none⟩)]), (13, .int .i64 x), (5, .int .i64 x)] ∧ es = []) (c_pieces1 (gp := g4) (fun s => s.h) (FInv p) FSt.zer rfl (FInv.zer p) w0 h hok) (hS.pk [0, 1, 2, 4, 5, 6, 3]) cl_95 (fun _ => rfl) (fun _ => .inl rfl) ?_ ?_ ?_ ?_
  ·
   intro lq s x rest w hpre rest1 hrr hS
   replace hS := hS.n8
   refine hrz ?_
   refine zlv xas ?_
   refine zln <| zh <| hasg ⟨rfl, rfl⟩ hS
  ·
   rintro lq s x _ _ rest w hpre ⟨rfl, rfl⟩ rest1 hrr hS
   replace hS := hS.n8
   obtain ⟨hIv, c, x0, x1, c0, c1, hh⟩ := hpre
   have hlB := hIv.2.1; have hlL := hIv.2.2
   obtain ⟨hmem, hlen⟩ := pcsTo_ok (d := p.D) (i := x) (c := c) (fun k k0 k1 => by have he := hok.all k k0 k1; unfold Prob.each at he; omega) x0 (by omega) c0 (fun _ => by omega) (fun _ => by omega)
   rw [← hh] at hmem hlen
   obtain ⟨hn9, hrg⟩ := hIv.rng hok hmem (by omega)
   have hex := hok.all x x0 x1; unfold Prob.each at hex
   have hsn := hlB.n0
   have hrB := fun k (k0 : 0 ≤ k) (k1 : k < s.n) => hS.slhIn 4 rfl k0 k1
   refine hbk <| hsq ?_
   refine hdst [0, 1, 2, 3, 4, 5, 6, 7] [0, 1, 2, 3, 4, 5, 6, 7] 9 mx_ hS ?_; clear hS; intro w hS
   refine zdv 0 (fun _ => (xfb 0 fd_39_0)) ?_
   refine zdla 1 (fun w hS => (xlb 0 pl_22 hS)) ?_
   refine zdv 2 (fun _ => xmv) ?_
   refine zdv 3 (fun _ => (xix (kk := x) sl_22 h.L.slh)) ?_
   refine zdla 4 (fun w hS => (xlr (u := .int .i64 (p.L x)) pl_3 (h.L.below hS.below))) ?_
   have hbv := h.iL x
   refine zdv 5 (fun _ => (xfb 3 fd_39_3)) ?_
   refine zdla 6 (fun w hS => (xlb 0 pl_3 hS)) ?_
   refine zdv 7 (fun _ => (xadd (r := p.L x + p.kerf))) ?_
   refine zda 8 (xal (cs := [_]) el_3 hS) ?_; rintro _ w ⟨g5, rfl, hS⟩
   replace hS := hS.n9
   refine ⟨⟨fun _ => hS.pk [0, 1, 2, 3, 4, 5, 6, 7], hS.pk [0, 1, 2, 3, 4, 5, 6, 7]⟩, ?_⟩
   refine zde 9 (xsb 8 pl_3 hS) ?_; clear hS; rintro w hS
   replace hS := hS.n9
   refine ⟨⟨fun h => absurd h (by decide), hS.pk [0, 1, 2, 3, 4, 5, 6, 7]⟩, ?_⟩
   refine zdd <| zh <| htn <| hsq <| hrz ?_
   refine zlv (xlb 2 pl_22 hS) ?_
   refine zlv xmf ?_
   refine zlc (xc0 cl_78) (c_ixff (n := s.n) (m := (p.L x + p.kerf)) (f := s.L) w (hS.rowN 5 rfl) (hS.cellN 8 rfl rfl)) ?_; rintro _ w ⟨r1, rfl, hr1, hS'⟩
   replace hS := hS.cmp hS'; clear hS'
   have hrr : r1 = -1 ∨ (0 ≤ r1 ∧ r1 < s.n) := by rcases hr1 with ⟨h2, _⟩ | ⟨h2, h3, _⟩ <;> omega
   have hbr : 0 ≤ r1 → (0 ≤ s.L r1 ∧ s.L r1 ≤ p.stock + p.kerf) ∧ 0 ≤ s.P r1 x ∧ s.P r1 x ≤ p.stock + p.kerf := fun h => by have h9 := hrg r1 h (by omega); exact ⟨h9.1, h9.2 x x0 x1⟩
   refine zlv xas ?_
   refine zln <| zh <| htn <| hsq <| hsq <| hrz ?_
   refine zs2 ?_
   refine zln <| zh <| htn ?_
   refine hcif ?_ ?_ <;> intro hc
   ·
    refine hsq <| hrz ?_
    refine zlv (xlb 1 pl_32 hS) ?_
    refine zlv (xln sl_32 hlB) ?_
    refine zlv xas ?_
    refine zln <| zh <| htn <| hsq ?_
    refine hdst [0, 1, 2, 6, 7, 8] [0, 2, 6, 7, 8] 7 mx_ hS ?_; clear hS; intro w hS
    refine zdl 0 (fun w hS => (xlb 1 pl_32 hS)) ?_
    refine zdv 1 (fun _ => (xfb 0 fd_39_0)) ?_
    refine zdla 2 (fun w hS => (xlb 0 pl_22 hS)) ?_
    refine zdv 3 (fun _ => (xln sl_22 h.L.slh)) ?_
    refine zda 4 (xmk sl_22 el_3 hS) ?_; rintro v1 w ⟨hS, hv1⟩
    replace hS := hS.n10
    refine ⟨⟨fun _ => hS.pk [0, 1, 2, 6, 7, 8], hS.pk [0, 2, 6, 7, 8]⟩, ?_⟩
    refine zda 5 (xli (n := 1) (len := 1) (pv := [(0, v1)]) (cs := [v1]) (c := (fun _ => v1)) sl_32 el_22 hS (hf := by obtain ⟨_, _, _, _, rfl, _⟩ := hv1; kernel_rfl)) ?_; rintro v2 w ⟨hS, hv2⟩
    replace hS := hS.n11
    refine ⟨⟨fun _ => hS.pk [0, 1, 2, 6, 7, 8], hS.pk [0, 2, 6, 7, 8]⟩, ?_⟩
    refine zda 6 (xap 3 (r := s.n + 1) sl_32 el_22 hS (hS.rowN 10 rfl) (cat_gsn _ _ _) (h1 := fun _ _ _ => hv1.one)) ?_; rintro v3 w ⟨hS, hv3⟩
    replace hS := hS.n11
    replace hS := Sat.merge (l1 := [_, _, _, _]) (l2 := [_, _, _, _]) (l3 := [_]) hS (by omega)
    have hrs1 := fun k (k0 : 0 ≤ k) (k1 : k < s.n + 1) => hS.slhIn 4 rfl k0 k1
    replace hS := hS.n10
    refine ⟨⟨fun _ => hS.pk [0, 1, 2, 6, 7, 8], hS.pk [0, 2, 6, 7, 8]⟩, ?_⟩
    refine zde 7 (xsb 1 pl_32 hS (hv := hv3.one)) ?_; clear hS; rintro w hS
    replace hS := hS.n10
    refine ⟨⟨fun h => absurd h (by decide), hS.pk [0, 2, 6, 7, 8]⟩, ?_⟩
    refine zdd <| zh <| htn <| hrz ?_
    refine zlv (xlb 2 pl_22 hS) ?_
    refine zlv (xfb 2 fd_39_2) ?_
    refine zlv (xlb 0 pl_3 hS) ?_
    refine zlv (xfb 3 fd_39_3) ?_
    refine zlv (xlb 0 pl_3 hS) ?_
    refine zlv (xadd (r := p.stock + p.kerf)) ?_
    refine zla (xli (n := 1) (len := 1) (pv := [(0, .int .i64 (p.stock + p.kerf))]) (cs := [.int .i64 (p.stock + p.kerf)]) (c := ints (fun _ => p.stock + p.kerf)) sl_22 el_3 hS) ?_; rintro v4 w ⟨hS, hv4⟩
    replace hS := hS.n11
    refine zla (xap 5 (r := s.n + 1) sl_22 el_3 hS (hS.rowN 10 rfl) (cat_snoc _ _ _)) ?_; rintro v5 w ⟨hS, hv5⟩
    replace hS := hS.n11
    rw [gsn_const] at hS hrs1
    have hz9 : gsn s.P s.n (fun _ => 0) s.n x = 0 := by rw [gsn_at (by omega)]
    have hl9 : snoc s.L s.n (p.stock + p.kerf) s.n = p.stock + p.kerf := snoc_at (by omega)
    refine zle (xsb 2 pl_22 hS (hv := hv5.one)) ?_; clear hS; rintro w hS
    replace hS := hS.n11
    refine zln <| zh <| htn <| hsq <| hrz ?_
    refine zlv (xlb 1 pl_32 hS) ?_
    refine zlv xmv ?_
    refine zlv (xix (kk := s.n) sl_32 hv3) ?_
    refine zlv (xlr (u := ((gsn s.vv s.n v1) s.n)) pl_22 (hS.rowN 3 rfl)) ?_
    refine zlv xmv ?_
    refine zlv (xix (kk := x) sl_22 (hrs1 s.n (by omega) (by omega))) ?_
    refine zlv (xlr (u := .int .i64 ((gsn s.P s.n (fun _ => 0)) s.n x)) pl_3 (hS.rowIn (k := s.n) 4 rfl (by omega) (by omega))) ?_
    refine zlv (xadd (r := ((gsn s.P s.n (fun _ => 0)) s.n x) + 1)) ?_
    refine zlv (xix (kk := x) sl_22 (hrs1 s.n (by omega) (by omega))) ?_
    refine zle (xsr 4 pl_3 hS rfl) ?_; clear hS; rintro w hS
    replace hS := hS.n11
    refine zln <| zh <| htn ?_
    refine hdst [0, 1, 2, 3, 4, 5, 6, 7, 8, 9, 10] [0, 1, 2, 3, 4, 6, 7, 8, 9, 10] 7 mx_ hS ?_; clear hS; intro w hS
    refine zdla 0 (fun w hS => (xlb 2 pl_22 hS)) ?_
    refine zdv 1 (fun _ => xmv) ?_
    refine zdv 2 (fun _ => (xix (kk := s.n) sl_22 hv5)) ?_
    refine zdl 3 (fun w hS => (xlr (u := .int .i64 ((snoc s.L s.n (p.stock + p.kerf)) s.n)) pl_3 (hS.rowN 5 rfl))) ?_
    refine zdla 4 (fun w hS => (xlb 7 pl_3 hS)) ?_
    refine zdv 5 (fun _ => (xsub (r := ((snoc s.L s.n (p.stock + p.kerf)) s.n) - p.L x - p.kerf))) ?_
    refine zdv 6 (fun _ => (xix (kk := s.n) sl_22 hv5)) ?_
    refine zde 7 (xso 5 pl_3 hS (upd_ints _ _ _)) ?_; clear hS; rintro w hS
    replace hS := hS.n11
    refine ⟨⟨fun h => absurd h (by decide), hS.pk [0, 1, 2, 3, 4, 6, 7, 8, 9, 10]⟩, ?_⟩
    refine zdd <| zh <| zbn <| hrdN ⟨s.h ++ [x], v3, s.n + 1, gsn s.vv s.n v1, upd (gsn s.P s.n (fun _ => 0)) s.n (upd ((gsn s.P s.n (fun _ => 0)) s.n) x (((gsn s.P s.n (fun _ => 0)) s.n x) + 1)), v5, (upd (snoc s.L s.n (p.stock + p.kerf)) s.n (((snoc s.L s.n (p.stock + p.kerf)) s.n) - p.L x - p.kerf))⟩ ⟨rfl, (by show plL _ _ _ _ = ffRun _ _ _ (s.h ++ [x]); rw [ffRun_snoc, ← hIv.1]; first | exact ffm_new (sz := szP p) hsn x0 (hr1.resolve_right (fun h => by omega)).2 (by unfold szP; omega) | (have hr9 := hr1.resolve_left (fun h => by omega); exact ffm_at (sz := szP p) hsn x0 hr9.1 hr9.2.1 hr9.2.2.1 hr9.2.2.2 (by unfold szP; omega))), hv3, hv5⟩ (hS.pk [0, 1, 2, 3, 4, 5, 6, 7])
   refine hsk <| htn <| hsq <| hrz ?_
   refine zlv (xlb 1 pl_32 hS) ?_
   refine zlv xmv ?_
   refine zlv (xix (kk := r1) sl_32 hlB) ?_
   refine zlv (xlr (u := (s.vv r1)) pl_22 (hS.rowN 3 rfl)) ?_
   refine zlv xmv ?_
   refine zlv (xix (kk := x) sl_22 (hrB r1 (by omega) (by omega))) ?_
   refine zlv (xlr (u := .int .i64 (s.P r1 x)) pl_3 (hS.rowIn (k := r1) 4 rfl (by omega) (by omega))) ?_
   refine zlv (xadd (r := (s.P r1 x) + 1)) ?_
   refine zlv (xix (kk := x) sl_22 (hrB r1 (by omega) (by omega))) ?_
   refine zle (xsr 4 pl_3 hS rfl) ?_; clear hS; rintro w hS
   replace hS := hS.n9
   refine zln <| zh <| htn ?_
   refine hdst [0, 1, 2, 3, 4, 5, 6, 7, 8] [0, 1, 2, 3, 4, 6, 7, 8] 7 mx_ hS ?_; clear hS; intro w hS
   refine zdla 0 (fun w hS => (xlb 2 pl_22 hS)) ?_
   refine zdv 1 (fun _ => xmv) ?_
   refine zdv 2 (fun _ => (xix (kk := r1) sl_22 hlL)) ?_
   refine zdl 3 (fun w hS => (xlr (u := .int .i64 (s.L r1)) pl_3 (hS.rowN 5 rfl))) ?_
   refine zdla 4 (fun w hS => (xlb 7 pl_3 hS)) ?_
   refine zdv 5 (fun _ => (xsub (r := (s.L r1) - p.L x - p.kerf))) ?_
   refine zdv 6 (fun _ => (xix (kk := r1) sl_22 hlL)) ?_
   refine zde 7 (xso 5 pl_3 hS (upd_ints _ _ _)) ?_; clear hS; rintro w hS
   replace hS := hS.n9
   refine ⟨⟨fun h => absurd h (by decide), hS.pk [0, 1, 2, 3, 4, 6, 7, 8]⟩, ?_⟩
   refine zdd <| zh <| zbn <| hrdN ⟨s.h ++ [x], s.vB, s.n, s.vv, upd s.P r1 (upd (s.P r1) x ((s.P r1 x) + 1)), s.vL, (upd s.L r1 ((s.L r1) - p.L x - p.kerf))⟩ ⟨rfl, (by show plL _ _ _ _ = ffRun _ _ _ (s.h ++ [x]); rw [ffRun_snoc, ← hIv.1]; first | exact ffm_new (sz := szP p) hsn x0 (hr1.resolve_right (fun h => by omega)).2 (by unfold szP; omega) | (have hr9 := hr1.resolve_left (fun h => by omega); exact ffm_at (sz := szP p) hsn x0 hr9.1 hr9.2.1 hr9.2.2.1 hr9.2.2.2 (by unfold szP; omega))), hlB, hlL⟩ (hS.pk [0, 1, 2, 3, 4, 5, 6, 7])
  ·
   intro Dk s rest w hfin hS
   replace hS := hS.n9
   obtain ⟨hIv, hh⟩ := hfin
   have hlB := hIv.2.1; have hlL := hIv.2.2
   obtain ⟨hmem, hlen⟩ := pcsTo_ok (d := p.D) (i := p.m) (c := 0) (fun k k0 k1 => by have he := hok.all k k0 k1; unfold Prob.each at he; omega) (by omega) (by omega) (by omega) (fun h => by omega) (fun _ => rfl)
   rw [← hh] at hmem hlen
   obtain ⟨hn9, hrg⟩ := hIv.rng hok hmem (by omega)
   have hsn := hlB.n0
   have hrB := fun k (k0 : 0 ≤ k) (k1 : k < s.n) => hS.slhIn 4 rfl k0 k1
   refine zbn <| htn <| hsq <| hrz ?_
   refine zlv xas ?_
   refine zln <| zh <| htn <| hsq <| hsq <| hrz ?_
   refine zlv (xlb 1 pl_32 hS) ?_
   refine zlv (xln sl_32 hlB) ?_
   refine zlv xmv ?_
   refine zln <| zh <| htn <| hbk ?_
   replace hS := hS.addnil 2 50 (ucells (fun _ => Value.slice none 0 0) (fun _ => 0))
   replace hS := hS.n10
   refine hlp (fun mm M w => ∃ (nC : Int) (wv : Int → Value) (cC : Int → Int) (i : Int) (wC : Value), mm = ((s.n - i).toNat) ∧ (0 ≤ i) ∧ (i ≤ s.n) ∧ (nC = i) ∧ (∀ k, 0 ≤ k → k < i → wv k = s.vv k) ∧ (∀ k, 0 ≤ k → k < i → cC k = 1) ∧ (Slh wC nC) ∧ M = [(2, .slice none 0 0), (8, wC), (60, s.vB), (61, .int .i64 s.n), (62, .int .i64 i)] ∧ Sat w0 w [.blk g1 [vL, vD, .int .i64 p.stock, .int .i64 p.kerf], .blk g2 [s.vB], .blk g3 [s.vL], .own s.vB 1 22 s.n s.vv, .sem (Frame.rows 3 s.n s.vv (fun _ => p.m) s.P), .own s.vL 1 3 s.n (ints s.L), .blk g4 [vL, vD, .int .i64 p.stock, .int .i64 p.kerf], .sem rest, .sem (Frame.obj Dk (.deferred (some []))), .own wC 2 50 nC (ucells wv cC)]) ⟨0, (fun _ => Value.slice none 0 0), (fun _ => 0), 0, (.slice none 0 0), rfl, (by omega), (by omega), (by omega), ?_, ?_, ?_, rfl, hS⟩ ?_
   ·
    intro k k0 k1; omega
   ·
    intro k k0 k1; omega
   ·
    exact slh_nil
   clear hS w
   rintro mm M w ⟨nC, wv, cC, i, wC, rfl, h0, h1, hnC, hwv, hcC, hwC, rfl, hS⟩
   refine hsq <| hrz ?_
   refine zlv xlss ?_
   refine zln <| zh <| htn <| hsq ?_
   refine hcif ?_ ?_ <;> intro hc
   ·
    refine hsk <| htn <| hsq <| hbk <| hsq <| hrz ?_
    refine zlv (xix (kk := i) sl_32 hlB) ?_
    refine zlv (xlr (u := (s.vv i)) pl_22 (hS.rowN 3 rfl)) ?_
    refine zlv xas ?_
    refine zln <| zh <| htn <| hrz ?_
    refine zs2 ?_
    refine zlv (xany (v := .agg #[(s.vv i), .int .i64 1]) (hr := by have hz := (hrB i (by omega) (by omega)); revert hz; generalize (s.vv i) = z; rintro ⟨_, _, _, _, rfl, _⟩; show _ = _; kernel_rfl)) ?_
    refine zla (xli (n := 1) (len := 1) (pv := [(0, .agg #[(s.vv i), .int .i64 1])]) (cs := [(s.vv i), .int .i64 1]) (c := ucells (fun _ => (s.vv i)) (fun _ => 1)) sl_43 el_50 hS (hf := by have hz := (hrB i (by omega) (by omega)); revert hz; generalize (s.vv i) = z; rintro ⟨_, _, _, _, rfl, _⟩; show _ = _; kernel_rfl)) ?_; rintro v6 w ⟨hS, hv6⟩
    replace hS := hS.n11
    refine zla (xap 9 (r := nC + 1) sl_43 el_50 hS (hS.rowN 10 rfl) (cat_ucells _ _ _ _ _) (h1 := fun k _ _ => ucells_one (fun _ => (hrB i (by omega) (by omega)).one) k)) ?_; rintro v7 w ⟨hS, hv7⟩
    replace hS := hS.n11
    refine zlv xas ?_
    refine zln <| zh <| zbn <| htn <| hrz ?_
    refine zlv (xadd (r := i + 1)) ?_
    refine zlv xmv ?_
    refine zln <| zh <| hlq ⟨nC + 1, (gsn wv nC (s.vv i)), (snoc cC nC 1), i + 1, v7, rfl, (by omega), (by omega), (by omega), ?_, ?_, ?_, rfl, hS.pk [0, 1, 2, 3, 4, 5, 6, 7, 8, 9]⟩
    ·
     intro k k0 k1; by_cases e : k < nC
     · rw [gsn_lt e]; exact hwv k k0 (by omega)
     · rw [gsn_at e, show k = i by omega]
    ·
     intro k k0 k1; by_cases e : k < nC
     · rw [snoc_lt e]; exact hcC k k0 (by omega)
     · rw [snoc_at e]
    ·
     exact hv7
   refine hxt <| ztx <| ztx <| zbh <| htn <| hsq <| hrz ?_
   refine zlv xmv ?_
   have hiN : i = s.n := by omega
   have hnN : nC = s.n := by omega
   subst hnN
   replace hS := hS.recont 9 rfl (d := ucells s.vv (fun _ => 1)) (fun k k0 k1 => by unfold ucells; rw [hwv _ (by omega) (by omega), hcC _ (by omega) (by omega)])
   replace hS := hS.n10
   refine zlc (xc0 cl_80) (c_norm (u := s.n) (pv := s.vv) (ln := (fun _ => p.m)) (pt := s.P) (cnt := (fun _ => 1)) w (⟨(hS.rowN 9 rfl), fun k k0 k1 => hS.rowIn 4 rfl k0 k1, fun k k0 k1 => hS.roomIn 4 rfl k0 k1⟩ : VAt _ wC s.n s.vv (fun _ => p.m) s.P (fun _ => 1)) (by omega) (fun k k0 k1 => by omega) (fun k k0 k1 => by omega)) ?_; rintro vnn1 w ⟨_, nnn1, pnn1, lnn1, gnn1, cnn1, rfl, hnrn1, hn0n1, hn1n1, hncn1, hvnn1, hS'⟩
   replace hS : Sat w0 w [.blk g1 [vL, vD, .int .i64 p.stock, .int .i64 p.kerf], .blk g2 [s.vB], .blk g3 [s.vL], .own s.vB 1 22 s.n s.vv, .sem (Frame.rows 3 s.n s.vv (fun _ => p.m) s.P), .own s.vL 1 3 s.n (ints s.L), .blk g4 [vL, vD, .int .i64 p.stock, .int .i64 p.kerf], .sem rest, .sem (Frame.obj Dk (.deferred (some []))), .own wC 2 50 s.n (ucells s.vv (fun _ => 1)), .own vnn1 2 50 nnn1 (ucells pnn1 cnn1), .sem (Frame.rows 3 nnn1 pnn1 lnn1 gnn1)] := hS.comp hS'; clear hS'
   have hrnn1 := fun k (k0 : 0 ≤ k) (k1 : k < nnn1) => hS.slhIn 11 rfl k0 k1
   refine zlv xas ?_
   refine zln <| zh <| htn <| hrt <| hmk1 8 hS fun w hS => zf1 ⟨_, rfl, ?_⟩
   exact ⟨_, _, _, _, _, _, rfl, (by rw [← hh, ← hIv.1, ones_plL]; exact hnrn1), hn0n1, by omega, fun k k0 k1 => by have := hncn1 k k0 k1; omega, hvnn1, hS.pk [10, 11]⟩
  ·
   intro Dk t rest w hfin hS
   replace hS := hS.n3
   exact hfin.elim
theorem wsum_plL (f : List Int → Int) {ln : Int → Int} {pt : Int → Int → Int} {cnt : Int → Int} : ∀ n : Nat, wsum f (plL (n : Int) ln pt cnt) = psum (fun k => f (lst (ln k) (pt k))) cnt n
  | 0 => rfl
  | n + 1 => by
    rw [show ((n + 1 : Nat) : Int) = (n : Int) + 1 by omega, plL_next (by omega), wsum_append, wsum_plL f n]
    simp only [wsum, psum]; omega
theorem wsum_plL' (f : List Int → Int) {n : Int} {ln : Int → Int} {pt : Int → Int → Int} {cnt : Int → Int} (n0 : 0 ≤ n) : wsum f (plL n ln pt cnt) = psum (fun k => f (lst (ln k) (pt k))) cnt n.toNat := by
  have := wsum_plL f (ln := ln) (pt := pt) (cnt := cnt) n.toNat
  rwa [Int.toNat_of_nonneg n0] at this
theorem sum_range (f : Nat → Int) : ∀ n : Nat, ((List.range (n + 1)).map f).sum = ((List.range n).map f).sum + f n := fun n => by
  rw [List.range_succ, List.map_append, List.sum_append]; simp
theorem puse_lst (sz : Int → Int) (f : Int → Int) : ∀ n : Nat, puse sz (lst (n : Int) f) = psum sz f n := fun n => by
  have key : ∀ j : Nat, j ≤ n → ((List.range j).map fun (k : Nat) => (lst (n : Int) f).getD k 0 * sz k).sum = psum sz f j := by
    intro j
    induction j with
    | zero => intro _; rfl
    | succ j ih =>
      intro hj
      rw [sum_range, ih (by omega), psum, List.getD_eq_getElem?_getD, lst_get, if_pos (by omega), Int.mul_comm]; rfl
  unfold puse
  rw [lst_len, Int.toNat_natCast]
  exact key n (Nat.le_refl _)
theorem puse_lst' (sz : Int → Int) (f : Int → Int) {n : Int} (n0 : 0 ≤ n) : puse sz (lst n f) = psum sz f n.toNat := by
  have := puse_lst sz f n.toNat
  rwa [Int.toNat_of_nonneg n0] at this
theorem SameP.of_plL {n n2 : Int} {ln ln2 : Int → Int} {pt pt2 : Int → Int → Int} {cnt cnt2 : Int → Int} (n0 : 0 ≤ n) (m0 : 0 ≤ n2) (h1 : ∀ k, 0 ≤ k → k < n → 0 ≤ ln k) (h2 : ∀ k, 0 ≤ k → k < n2 → 0 ≤ ln2 k) (h : plL n ln pt cnt = plL n2 ln2 pt2 cnt2) : SameP n n2 ln ln2 pt pt2 cnt cnt2 := by
  have hl := congrArg List.length h
  rw [plL_len, plL_len] at hl
  refine ⟨by omega, fun k k0 k1 => ?_⟩
  have hk := congrArg (fun l => l[k.toNat]?) h
  simp only [plL_get] at hk
  rw [Int.toNat_of_nonneg k0, if_pos k1, if_pos (by omega)] at hk
  injection hk with hk
  injection hk with hk1 hk2
  obtain ⟨h3, h4⟩ := (lst_eq (h1 k k0 k1) (h2 k k0 (by omega))).1 hk1
  exact ⟨hk2, h3, h4⟩
def FFitR (p : Prob) (l : Us) (e : Int) : Prop := ChkR p e ∧ (e = 0 → NormR (ones (ffRun p.m (p.stock + p.kerf) (szP p) (pcsTo p.D p.m 0))) l) ∧ (e ≠ 0 → l = [])
theorem ChkR.same {p : Prob} {e f : Int} (h : ChkR p e) (k : ChkR p f) : e = f := by
  rcases h with ⟨h1, h2⟩ | ⟨h1, h2, h3⟩ | ⟨h1, h2, h3⟩ <;> rcases k with ⟨k1, k2⟩ | ⟨k1, k2, k3⟩ | ⟨k1, k2, k3⟩ <;> first | exact absurd h1 k1 | exact absurd k1 h1 | omega
theorem FFitR.same {p : Prob} {l m : Us} {e f : Int} (h : FFitR p l e) (k : FFitR p m f) : l = m ∧ e = f := by
  have he := h.1.same k.1
  subst he
  refine ⟨?_, rfl⟩
  by_cases h0 : e = 0
  · exact (h.2.1 h0).same (k.2.1 h0)
  · rw [h.2.2 h0, k.2.2 h0]
def pR : Prob := ⟨2, fun k => [5, 3].getD k.toNat 0, 2, fun k => [3, 4].getD k.toNat 0, 11, 1⟩
theorem okR : pR.Ok := ⟨by decide, by decide, rfl, by decide, by decide, by decide, by decide, fun i i0 i1 => by
  have i1' : i < 2 := i1
  have : i = 0 ∨ i = 1 := by omega
  rcases this with rfl | rfl <;> (unfold Prob.each; decide)⟩
def exPt : Int → Int → Int := fun k j => ([[2, 0], [1, 1], [0, 3]].getD k.toNat []).getD j.toNat 0
theorem runR : ones (ffRun pR.m (pR.stock + pR.kerf) (szP pR) (pcsTo pR.D pR.m 0)) = plL 3 (fun _ => 2) exPt (fun _ => 1) := by decide +kernel
theorem normR : NormR (ones (ffRun pR.m (pR.stock + pR.kerf) (szP pR) (pcsTo pR.D pR.m 0))) (plL 3 (fun _ => 2) exPt (fun _ => 1)) := by
  rw [runR]
  refine ⟨by decide +kernel, ?_⟩
  have e : plL 3 (fun _ => 2) exPt (fun _ => 1) = [([2, 0], 1), ([1, 1], 1), ([0, 3], 1)] := by decide +kernel
  rw [e]
  have a1 : ahd [2, 0] [1, 1] := ⟨0, fun k hk => by omega, by simp [olt]⟩
  have a2 : ahd [1, 1] [0, 3] := ⟨0, fun k hk => by omega, by simp [olt]⟩
  refine .cons (fun b hb => ?_) (.cons (fun b hb => ?_) (.cons (fun b hb => by simp at hb) .nil))
  · simp at hb; rcases hb with rfl | rfl
    · exact a1
    · exact ahd_trans a1 a2
  · simp at hb; subst hb; exact a2
theorem ffitEx {l : Us} {e : Int} (h : FFitR pR l e) : e = 0 ∧ l = plL 3 (fun _ => 2) exPt (fun _ => 1) := by
  have k : FFitR pR (plL 3 (fun _ => 2) exPt (fun _ => 1)) 0 := ⟨.inr (.inr ⟨okR, by decide +kernel, rfl⟩), fun _ => normR, fun h => absurd rfl h⟩
  obtain ⟨h1, h2⟩ := h.same k
  exact ⟨h2, h1⟩
set_option maxRecDepth 20000 in
theorem c_ffit {vL vD : Value} {p : Prob} (w0 : World) (h : PAt w0 vL vD p) :
    Calls Try.prog 18 [.agg #[vL, vD, .int .i64 p.stock, .int .i64 p.kerf]].toArray w0 fun e w => ∃ v, e = .returned v ∧ ∃ r n pv ln pt cnt e, v = .tuple #[r, .int .i64 e] ∧ FFitR p (plL n ln pt cnt) e ∧ (∀ k, 0 ≤ k → k < n → 1 ≤ cnt k ∧ cnt k ≤ 1000000) ∧ n ≤ 1000 ∧ Slh r n ∧ Sat w0 w [.own r 2 50 n (ucells pv cnt), .sem (Frame.rows 3 n pv ln pt)] := by
  have hm := h.L.slh.n0; have hm1 := h.L.slh.n1; have hd := h.D.slh.n0; have hd1 := h.D.slh.n1; have hs := h.is; have hk := h.ik
  refine zenG Try.func18 Try.ntmps18 fun w hS => ?_
  refine zsr ?_
  refine zla (xbx (cs := [_, _, _, _]) hS) ?_; rintro _ w ⟨g1, rfl, hS⟩
  replace hS := hS.n1
  refine zs2 ?_
  refine zlt <| zsq <| zsr ?_
  refine zlv (xls 0 st_39 hS) ?_
  refine zlc (xc0 cl_44) (c_chk34 (p := p) w (h.below hS.below)) ?_; rintro _ w ⟨eck1, rfl, hck1, hS'⟩
  replace hS := hS.cmp hS'; clear hS'
  refine zlv xas ?_
  refine zlz ?_
  refine zs2 ?_
  refine zlt ?_
  refine zcif ?_ ?_ <;> intro hc
  ·
   refine zsr ?_
   refine zs3 ?_
   refine zlt <| zrt <| ztr <| zf2 ⟨_, rfl, ?_⟩
   exact ⟨_, 0, fun _ => undef, fun _ => 0, fun _ _ => 0, fun _ => 0, _, rfl, ⟨hck1, fun h => by omega, fun _ => rfl⟩, fun k k0 k1 => by omega, by omega, slh_nil, ((hS.sub (.cons _ .slnil)).addnil 2 50 (ucells (fun _ => undef) (fun _ => 0))).addrows 3 (fun _ => undef) (fun _ => 0) (fun _ _ => 0)⟩
  refine zsk <| ztn <| zsr ?_
  refine zlv (xls 0 st_39 hS) ?_
  obtain ⟨hok9, htot⟩ : p.Ok ∧ psum (fun _ => 1) p.D p.m.toNat ≤ 1000 := by rcases hck1 with ⟨_, h9⟩ | ⟨_, _, h9⟩ | ⟨h8, h9, _⟩; omega; omega; exact ⟨h8, h9⟩
  refine zlc (xc0 cl_45) (c_firstfit (p := p) w (h.below hS.below) hok9 (by omega)) ?_; rintro vnn1 w ⟨_, nnn1, pnn1, lnn1, gnn1, cnn1, rfl, hnrn1, hn0n1, hn1n1, hncn1, hvnn1, hS'⟩
  replace hS : Sat w0 w [.blk g1 [vL, vD, .int .i64 p.stock, .int .i64 p.kerf], .own vnn1 2 50 nnn1 (ucells pnn1 cnn1), .sem (Frame.rows 3 nnn1 pnn1 lnn1 gnn1)] := hS.comp hS'; clear hS'
  have hrnn1 := fun k (k0 : 0 ≤ k) (k1 : k < nnn1) => hS.slhIn 2 rfl k0 k1
  refine zs2 ?_
  refine zlt <| zrt <| zf2 ⟨_, rfl, ?_⟩
  exact ⟨_, _, _, _, _, _, 0, rfl, ⟨(show eck1 = 0 by omega) ▸ hck1, fun _ => hnrn1, fun h => absurd rfl h⟩, hncn1, hn1n1, hvnn1, hS.pk [1, 2]⟩
end Go.Proofs.Ytopmifmfecfaaaa
namespace Go.Proofs.Gw
open Go Go.RowKit
section
variable {P : Program} {l rest : List Oper} {Q Q' : Exit → Act → World → Prop} {w w' w0 : World} {o : Oper} {n d fuel i : Nat} {L M : List (Nat × Value)} {x y : Code} {c : Operand} {e : Exit} {p : Prop} {r : Option Nat} {ds : List Deferred} {listed : Array Bool} {K : Act → World → Prop}
def Hd (P : Program) (r : Option Nat) (n : Nat) (l : List Oper) (Q : Exit → Act → World → Prop) (fuel : Nat) (listed : Array Bool) (ds : List Deferred) (L : List (Nat × Value)) (w : World) : Prop := ∀ a, Frd a n ds L → wpAnyIn (FZ r) 0 P .any l.toArray Q fuel listed a w
def Ho (P : Program) (r : Option Nat) (n : Nat) (l : List Oper) (Q : Exit → Act → World → Prop) (o : Oper) (K : Act → World → Prop) (ds : List Deferred) (L : List (Nat × Value)) (w : World) : Prop := ∀ a, Frd a n ds L → if Region.wanted o (yielded l.toArray a.tmps) = true then o.wpIn (FZ r) 0 P a w K Q else (∀ f, o.about P w a.eval = some f → (FZ r).fn f) ∧ K (a.put o.dst undef) w
theorem Ho.op {i : Nat} (h : Ho P r n l Q o K ds L w) (ho : l[i]? = some o) {a : Act} (hF : Frd a n ds L) : wpOpIn (FZ r) 0 P l.toArray Q i K a w := by
  unfold wpOpIn
  rw [show l.toArray[i]? = some o by simpa using ho]
  exact h a hF
theorem hdr {id : Nat} {m : List Ent} (fuel : Nat) (hm : P.follows .mixedOrders = true) (hS : Sat w0 w m) (K : ∀ w, Sat w0 w m → Hd P r n l Q fuel (Array.replicate fuel false) ds L w) (hn : l.length = fuel := by exact rfl) : Hc P r n Q (.region id l.toArray true) ds L w := fun a hF => by
  subst hn
  exact wpIn_region_any hm (by have := K _ hS.draw a hF; simpa using this)
theorem hd0 (h : He n Q .normal ds L w) (hr : Region.ready .any l.toArray listed = [] := by kernel_rfl) : Hd P r n l Q fuel listed ds L w := fun a hF => wpAnyIn_done hr (h a hF) _
theorem hd1 (i : Nat) {o : Oper} (h : Ho P r n l Q o (wpAnyIn (FZ r) 0 P .any l.toArray Q fuel (listed.setIfInBounds i true)) ds L w) (hr : Region.ready .any l.toArray listed = [i] := by kernel_rfl) (ho : l[i]? = some o := by exact rfl) : Hd P r n l Q (fuel + 1) listed ds L w := fun a hF =>
  wpAnyIn_all hr (by simp) fun j hj => by obtain rfl : j = i := by simpa using hj
                                          exact h.op ho hF
theorem hd2 (i j : Nat) {o o' : Oper} (hi : Ho P r n l Q o (wpAnyIn (FZ r) 0 P .any l.toArray Q fuel (listed.setIfInBounds i true)) ds L w) (hj : Ho P r n l Q o' (wpAnyIn (FZ r) 0 P .any l.toArray Q fuel (listed.setIfInBounds j true)) ds L w) (hr : Region.ready .any l.toArray listed = [i, j] := by kernel_rfl) (ho : l[i]? = some o := by exact rfl) (ho' : l[j]? = some o' := by exact rfl) : Hd P r n l Q (fuel + 1) listed ds L w := fun a hF =>
  wpAnyIn_all hr (by simp) fun k hk => by
    rcases List.mem_cons.1 hk with rfl | hk
    · exact hi.op ho hF
    · obtain rfl : k = j := by simpa using hk
      exact hj.op ho' hF
theorem hov {v : Value} (hr : Runs P L w o (.value v) w') (K : Hd P r n l Q fuel listed ds ((d, v) :: L) w') (hg : gdB l L o = some true := by exact rfl) (hd : o.dst = some d := by exact rfl) (hdn : Nat.blt d n = true := by exact rfl) (hn : ndf o = true := by exact rfl) : Ho P r n l Q o (wpAnyIn (FZ r) 0 P .any l.toArray Q fuel listed) ds L w := fun a hF => by
  rw [if_pos (hwant hF hg)]
  refine ⟨fun _ _ => trivial, ?_⟩
  rw [ndf_sem hn, hr _ hF.agr, Oper.uponIn_value, hd]
  exact K _ (hF.put (by simpa [Nat.blt_eq] using hdn) v)
theorem hoc {f : FuncId} {args : Array Value} {R : Value → World → Prop} (hr : Runs P L w o (.enter f args) w) (hc : Calls P f args w fun e w' => ∃ v, e = .returned v ∧ R v w') (K : ∀ v w', R v w' → Hd P r n l Q fuel listed ds ((d, v) :: L) w')
    (hg : gdB l L o = some true := by exact rfl) (hd : o.dst = some d := by exact rfl) (hdn : Nat.blt d n = true := by exact rfl) (hn : ndf o = true := by exact rfl) : Ho P r n l Q o (wpAnyIn (FZ r) 0 P .any l.toArray Q fuel listed) ds L w := fun a hF => by
  rw [if_pos (hwant hF hg)]
  refine ⟨fun _ _ => trivial, ?_⟩
  rw [ndf_sem hn, hr _ hF.agr, Oper.uponIn_enter]
  refine ⟨fun h => (by cases h), FZ_calls (hc.mono fun e w' ⟨v, he, hR⟩ => ?_)⟩
  subst he
  rw [hd]
  exact K v w' hR _ (hF.put (by simpa [Nat.blt_eq] using hdn) v)
theorem hoy {l0 : Nat} {xs : Array Operand} {ts : Array TypeId} {vs : List Value} {z : Operand} {R : Value → World → Prop} (hY : Yld P l0 vs w R) (K : ∀ v w', R v w' → Hd P r n l Q fuel listed ds ((d, v) :: L) w')
    (hop : o.op = .call { callee := .value z, args := xs, argTypes := ts } := by exact rfl) (hx : evL L z = some (.func (.yield l0) #[] #[]) := by exact rfl) (ha : Args L xs vs := by repeat' first | exact args0 | apply args_cons rfl)
    (hg : gdB l L o = some true := by exact rfl) (hd : o.dst = some d := by exact rfl) (hdn : Nat.blt d n = true := by exact rfl) : Ho P r n l Q o (wpAnyIn (FZ r) 0 P .any l.toArray Q fuel listed) ds L w := fun a hF => by
  obtain ⟨fn, tmps, assign, body, hy, hR⟩ := hY
  have hr := xyl (P := P) (L := L) (o := o) hy hop hx ha
  rw [if_pos (hwant hF hg)]
  refine ⟨fun _ _ => trivial, ?_⟩
  rw [ndf_sem (by unfold ndf; rw [hop]), hr _ hF.agr, Oper.uponIn_round]
  refine ⟨fun h => (by cases h), (show RoundIn (FZ r) (0 - 1) P l0 fn tmps assign body w fun e w' => ∃ v, e = .returned v ∧ R v w' from hR).mono fun e w' ⟨v, he, hR⟩ => ?_⟩
  subst he
  rw [hd]
  exact K v w' hR _ (hF.put (by simpa [Nat.blt_eq] using hdn) v)
theorem henIM {f : FuncId} {fn : Func} {vs : List Value} {R : Ending → World → Prop} (hf : P.funcs[f]? = some fn) (hn : fn.ntmps = n) (K : Hc P none n (bodyPostM (FZ none) 0 P fn R) x [] (num 0 vs) w) (hb : fn.body = some x := by exact rfl) (hv : Nat.ble vs.length n = true := by exact rfl) : Calls P f vs.toArray w R :=
  FZ_calls' (r := none) (n := 0) (callsIn_of_wp_marks hf hb trivial (by
    rw [hn]
    exact K _ ((Fr.enter (vs := vs.toArray) (by simpa using Nat.le_of_ble_eq_true hv) fun t v ht => by have := (lk_num vs 0 t v ht).2; simpa using this))))
theorem hmkn1 {fn : Func} {R : Ending → World → Prop} {E : List Ent} {D : Nat} (i : Nat) (hS : Sat w0 w E) (K : ∀ w', Sat w0 w' (E.set i (dfE D false)) → Ge n [] (bodyPost P fn R) .normal L w') (hi : E[i]? = some (dfE D true) := by exact rfl) : He n (bodyPostM (FZ none) 0 P fn R) .normal [mrk D] L w := fun a hF => hmk1 i hS (fun w' h a hF => K w' h a hF) hi a hF
end
end Go.Proofs.Gw
namespace Go.Proofs.Gw
open Go Go.RowKit
section
variable {P : Program} {Q : Exit → Act → World → Prop} {w w' w0 : World} {n : Nat} {L : List (Nat × Value)} {ds : List Deferred}
def ItG {St X Tt : Type} (P : Program) (w0 : World) (gf : FuncId) (lb : List Value) (Sh : List Ent) (enc : X → List Value) (Gx : X → List Ent) (Pre : St → X → Frame → Prop) (Nx : St → X → St → Prop) (Sx : St → X → Tt → Prop) (s0 : St) (Fin : St → Frame → Prop) (FinX : Tt → Frame → Prop) : Prop :=
  ∀ (l : Nat) (C : St → Frame) (D : Tt → Frame) (w : World), Sat w0 w (.sem (C s0) :: Sh) →
    (∀ s x rest w, Pre s x rest → Sat w0 w (.sem (C s) :: (Sh ++ (Gx x ++ [.sem rest]))) → Yld P l (enc x) w fun v w' =>
      (v = .bool true ∧ ∃ s', Nx s x s' ∧ Sat w0 w' (.sem (C s') :: (Sh ++ [.sem rest]))) ∨ (v = .bool false ∧ ∃ t, Sx s x t ∧ Sat w0 w' (.sem (D t) :: (Sh ++ [.sem rest])))) →
    Calls P gf (.func (.yield l) #[] #[] :: lb).toArray w fun e w' => ∃ v, e = .returned v ∧
      ((∃ s rest, Fin s rest ∧ Sat w0 w' (.sem (C s) :: (Sh ++ [.sem rest]))) ∨ (∃ t rest, FinX t rest ∧ Sat w0 w' (.sem (D t) :: (Sh ++ [.sem rest]))))
theorem hrfG {St X Tt : Type} {gf : FuncId} {lb : List Value} {g : Operand} {ps : Array Tmp} {assign body : Code} {Sh : List Ent} {enc : X → List Value} {Gx : X → List Ent} {Pre : St → X → Frame → Prop} {Nx : St → X → St → Prop} {Sx : St → X → Tt → Prop} {Fin : St → Frame → Prop} {FinX : Tt → Frame → Prop}
    (C : St → List Ent) (D : Tt → List Ent) (jc : Tt → Code) (s0 : St) (J : X → List (Nat × Value) → List Ent → Prop) (hit : ItG P w0 gf lb Sh enc Gx Pre Nx Sx s0 Fin FinX) (hS : Sat w0 w (C s0 ++ Sh)) (hcl : calledT P gf = true)
    (hpl : ∀ x, (enc x).length = ps.size) (hjc : ∀ t, jc t = .ret ∨ ∃ id, jc t = .exit id)
    (hassign : ∀ l s x rest w, Pre s x rest → ∀ rest', (∀ w, rest'.holds w → rest.holds w) → Sat w0 w (C s ++ (Sh ++ (.sem rest' :: Gx x))) → Hc P (some l) n (Exit.then (fun a w' => ∃ M es, J x M es ∧ Frd a n [] M ∧ Sat w0 w' (C s ++ (Sh ++ (.sem rest' :: es)))) (fun _ _ _ => False)) assign [] (zipL ps.toList (enc x) L) w)
    (hbody : ∀ l s x M es rest w, Pre s x rest → J x M es → ∀ rest', (∀ w, rest'.holds w → rest.holds w) → Sat w0 w (C s ++ (Sh ++ (.sem rest' :: es))) → Hc P (some l) n (rdQ w0 C D jc Sh (Nx s x) (Sx s x) rest') body [] M w)
    (hdone : ∀ Dk s rest w', Fin s rest → Sat w0 w' (C s ++ (Sh ++ [.sem rest, dfE Dk true])) → He n Q .normal (mrk Dk :: ds) L w')
    (hstop : ∀ Dk t rest w', FinX t rest → Sat w0 w' (D t ++ (Sh ++ [.sem rest, dfE Dk true])) → He n Q (exitOf (jc t)) (mrk Dk :: ds) L w')
    (hg : evL L g = some (.func (.func gf) #[] lb.toArray) := by exact rfl) (hpb : (ps.toList.all fun t => Nat.blt t n) = true := by exact rfl) : Hc P none n Q (.rangeFunc g ps assign body) ds L w := by
  intro a hF
  refine wpIn_rangeFunc ?_
  intro fn hfn
  obtain ⟨rec, hrec⟩ : ∃ rec : LoopState → Option Code → Loop, rec = fun st pe => { state := st, pending := pe, fn, tmps := a.tmps, params := ps, assign, body, defers := w.heap.size } := ⟨_, rfl⟩
  obtain ⟨W1, hW1⟩ : ∃ W1, (w.alloc (.deferred (some []))).alloc (.loop (rec .ready none)) = W1 := ⟨_, rfl⟩
  obtain ⟨l, hl⟩ : ∃ l, w.heap.size + 1 = l := ⟨_, rfl⟩
  obtain ⟨Dk, hDk⟩ : ∃ Dk, w.heap.size = Dk := ⟨_, rfl⟩
  have hS1 : Sat w0 W1 ((C s0 ++ Sh) ++ [dfE Dk true] ++ [.sem (Frame.obj l (.loop (rec .ready none)))]) := by
    rw [← hW1]
    refine (hS.alloc _ (e := dfE Dk true) ?_ ?_).alloc _ (e := .sem (Frame.obj l (.loop (rec .ready none)))) ?_ ?_
    · rw [← hDk]; exact heap_alloc_new w _
    · intro g hg; rw [← hDk] at hg; exact hg
    · have := heap_alloc_new (w.alloc (.deferred (some []))) (.loop (rec .ready none))
      rw [World.size_alloc, hl] at this; exact this
    · intro g hg; rw [World.size_alloc, hl]; exact hg
  have eval : a.eval g = .func (.func gf) #[] lb.toArray := hF.agr _ _ hg
  have hfun : ∃ fnn, P.funcs[gf]? = some fnn ∧ fnn.body.isSome = true ∧ (fnn.name == "runtime.NumGoroutine") = false := by
    unfold calledT at hcl
    cases hf : P.funcs[gf]? with
    | none => simp [hf] at hcl
    | some fnn =>
      simp only [hf, Bool.and_eq_true, Bool.not_eq_true'] at hcl
      exact ⟨fnn, rfl, hcl.1, hcl.2⟩
  obtain ⟨fnn, hf1, hf2, hf3⟩ := hfun
  have hf2' : fnn.body ≠ none := by intro e; rw [e] at hf2; simp at hf2
  have hf3' : fnn.name ≠ "runtime.NumGoroutine" := by simpa using hf3
  let C' : St → Frame := fun s => Frame.bun (C s ++ [.sem (Frame.obj l (.loop (rec .ready none))), dfE Dk true])
  let D' : Tt → Frame := fun t => Frame.bun (D t ++ [.sem (Frame.obj l (.loop (rec .done (some (jc t))))), dfE Dk true])
  have hS2 : Sat w0 W1 (.sem (C' s0) :: Sh) := by
    have h1 : Sat w0 W1 (Sh ++ (C s0 ++ [.sem (Frame.obj l (.loop (rec .ready none))), dfE Dk true])) := hS1.perm (perm_of fun f => by simp only [List.map_append, List.map_cons, List.map_nil, List.sum_append, List.sum_cons, List.sum_nil]; omega)
    have h2 := h1.bundle
    exact h2.perm List.perm_append_comm
  refine ⟨l, [mrk Dk], W1, { target := .fn (.func gf) lb.toArray, args := #[.func (.yield l) #[] #[]] }, W1, gf, #[.func (.yield l) #[] #[]] ++ lb.toArray, W1, ?_, ?_, ?_, ?_, fun h => (by cases h), ?_⟩
  · rw [← hW1, hrec, ← hl, ← hDk]; exact run_enterLoop_outer _ _ _ _ _
  · simp only [resolve, eval]
    simp [go_sem]
  · intro f' hf'; trivial
  · simp [invoke, go_sem, callFunc, hf1, hf2', hf3']
  have eargs : (#[.func (.yield l) #[] #[]] ++ lb.toArray : Array Value) = (.func (.yield l) #[] #[] :: lb).toArray := by simp
  rw [eargs]
  refine FZ_calls ((hit l C' D' W1 hS2 ?_).mono ?_)
  · 
    intro s x rest W hpre hSW
    have h1 : Sat w0 W (C s ++ (Sh ++ (Gx x ++ [.sem rest, .sem (Frame.obj l (.loop (rec .ready none))), dfE Dk true]))) := by
      have := Sat.unbun (l1 := []) hSW
      exact this.perm (perm_of fun f => by simp only [List.map_append, List.map_cons, List.map_nil, List.sum_append, List.sum_cons, List.sum_nil]; omega)
    have hlr : W.heap[l]? = some (.loop (rec .ready none)) := h1.holds (.sem (Frame.obj l (.loop (rec .ready none)))) (by simp)
    have hy := run_yield (P := P) (args := (enc x).toArray) hlr (by rw [hrec]; simp [hpl x])
    rw [hrec] at hy
    refine ⟨fn, _, assign, body, hy, roundIn_of_wpIn trivial ?_⟩
    clear hy
    let r1 : Frame := Frame.bun [.sem rest, .sem (Frame.obj l (.loop (rec .ready none))), dfE Dk true]
    have h2 : Sat w0 W (C s ++ (Sh ++ (.sem r1 :: Gx x))) := by
      have h1b : Sat w0 W ((C s ++ (Sh ++ Gx x)) ++ [.sem r1]) := by
        have h1c : Sat w0 W ((C s ++ (Sh ++ Gx x)) ++ [.sem rest, .sem (Frame.obj l (.loop (rec .ready none))), dfE Dk true]) := by
          rw [List.append_assoc, List.append_assoc]; exact h1
        exact h1c.bundle
      exact h1b.perm (perm_of fun f => by simp only [List.map_append, List.map_cons, List.map_nil, List.sum_append, List.sum_cons, List.sum_nil]; omega)
    have hfr : Frd { tmps := (ps.zip (enc x).toArray).foldl (fun t (p, v) => t.setIfInBounds p v) a.tmps, defers := [] } n [] (zipL ps.toList (enc x) L) := by
      have := zipL_fr (a := a) (n := n) ps.toList (enc x) a.tmps (L := L) ⟨hF.size, rfl, hF.get⟩ hpb
      have e : (ps.zip (enc x).toArray).foldl (fun t (p, v) => t.setIfInBounds p v) a.tmps = (ps.toList.zip (enc x)).foldl (fun t (p : Nat × Value) => t.setIfInBounds p.1 p.2) a.tmps := by
        rw [← Array.foldl_toList, Array.toList_zip]
      rw [e]; exact this
    refine Go.wpIn_mono (hassign l s x rest W hpre r1 (fun w h => h.1 (.sem rest) (by simp)) h2 _ hfr) ?_
    intro e a1 Wa hp
    cases e <;> try exact hp.elim
    obtain ⟨M, es, hJ, hFM, hSa⟩ := hp
    have h3 : Sat w0 Wa ((C s ++ (Sh ++ ([.sem rest] ++ es)) ++ [dfE Dk true]) ++ .sem (Frame.obj l (.loop (rec .ready none))) :: []) := by
      have := Sat.unbun (l1 := C s ++ Sh) (l3 := es) (by rw [List.append_assoc]; exact hSa)
      exact this.perm (perm_of fun f => by simp only [List.map_append, List.map_cons, List.map_nil, List.sum_append, List.sum_cons, List.sum_nil]; omega)
    have hlr : Wa.heap[l]? = some (.loop (rec .ready none)) := h3.get
    refine ⟨_, run_beginRound hlr (by rw [hrec]), ?_⟩
    have h4 := h3.putObj (o' := .loop { rec .ready none with state := .busy })
    let r2 : Frame := Frame.bun [.sem rest, .sem (Frame.obj l (.loop { rec .ready none with state := .busy })), dfE Dk true]
    have h5 : Sat w0 (Wa.putObj l (.loop { rec .ready none with state := .busy })) (C s ++ (Sh ++ (.sem r2 :: es))) := by
      have h : Sat w0 (Wa.putObj l (.loop { rec .ready none with state := .busy })) ((C s ++ (Sh ++ es)) ++ [.sem rest, .sem (Frame.obj l (.loop { rec .ready none with state := .busy })), dfE Dk true]) := by
        exact h4.perm (perm_of fun f => by simp only [List.map_append, List.map_cons, List.map_nil, List.sum_append, List.sum_cons, List.sum_nil]; omega)
      have hb : Sat w0 (Wa.putObj l (.loop { rec .ready none with state := .busy })) ((C s ++ (Sh ++ es)) ++ [.sem r2]) := h.bundle
      exact hb.perm (perm_of fun f => by simp only [List.map_append, List.map_cons, List.map_nil, List.sum_append, List.sum_cons, List.sum_nil]; omega)
    refine Go.wpIn_mono (hbody l s x M es rest _ hpre hJ r2 (fun w h => h.1 (.sem rest) (by simp)) h5 _ hFM) ?_
    have fin : ∀ (jump : Option Code) (A : List Ent) (W3 : World), Sat w0 W3 (A ++ (Sh ++ [.sem r2])) →
        (Instr.endRound l jump).run P W3 = .ok (.bool jump.isNone) (W3.putObj l (.loop (rec (if jump.isNone then .ready else .done) jump))) ∧
        Sat w0 (W3.putObj l (.loop (rec (if jump.isNone then .ready else .done) jump))) (.sem (Frame.bun (A ++ [.sem (Frame.obj l (.loop (rec (if jump.isNone then .ready else .done) jump))), dfE Dk true])) :: (Sh ++ [.sem rest])) := fun jump A W3 hA => by
      have h6 : Sat w0 W3 ((Sh ++ [.sem rest] ++ (A ++ [dfE Dk true])) ++ .sem (Frame.obj l (.loop { rec .ready none with state := .busy })) :: []) := by
        have := Sat.unbun (l1 := A ++ Sh) (l3 := []) (by rw [List.append_assoc]; exact hA)
        exact this.perm (perm_of fun f => by simp only [List.map_append, List.map_cons, List.map_nil, List.sum_append, List.sum_cons, List.sum_nil]; omega)
      have hlb : W3.heap[l]? = some (.loop { rec .ready none with state := .busy }) := h6.get
      have hr := run_endRound (P := P) jump hlb
      have h7 := h6.putObj (o' := .loop (rec (if jump.isNone then .ready else .done) jump))
      refine ⟨by rw [hrec] at hr ⊢; exact hr, ?_⟩
      have h8 : Sat w0 (W3.putObj l (.loop (rec (if jump.isNone then .ready else .done) jump))) ((Sh ++ [.sem rest]) ++ (A ++ [.sem (Frame.obj l (.loop (rec (if jump.isNone then .ready else .done) jump))), dfE Dk true])) := by
        exact h7.perm (perm_of fun f => by simp only [List.map_append, List.map_cons, List.map_nil, List.sum_append, List.sum_cons, List.sum_nil]; omega)
      exact h8.bundle.perm List.perm_append_comm
    intro e a3 W3 hp
    cases e with
    | normal =>
      obtain ⟨s', hn, hA⟩ := hp
      obtain ⟨hr, h6⟩ := fin none _ _ hA
      exact ⟨_, _, hr, _, rfl, .inl ⟨rfl, s', hn, h6⟩⟩
    | ret =>
      obtain ⟨t, hn, hj, hA⟩ := hp
      obtain ⟨hr, h6⟩ := fin (some .ret) _ _ hA
      refine ⟨_, _, hr, _, rfl, .inr ⟨rfl, t, hn, ?_⟩⟩
      simp only [D', hj]; exact h6
    | exit id =>
      obtain ⟨t, hn, hj, hA⟩ := hp
      obtain ⟨hr, h6⟩ := fin (some (.exit id)) _ _ hA
      refine ⟨_, _, hr, _, rfl, .inr ⟨rfl, t, hn, ?_⟩⟩
      simp only [D', hj]; exact h6
    | goto t => exact hp.elim
    | panic ch => exact hp.elim
    | outgrown => exact hp.elim
  · 
    have out : ∀ (st : LoopState) (pe : Option Code) (A : List Ent) (rest : Frame) (W2 : World), st ≠ .busy → Sat w0 W2 (.sem (Frame.bun (A ++ [.sem (Frame.obj l (.loop (rec st pe))), dfE Dk true])) :: (Sh ++ [.sem rest])) →
        (Instr.endLoop l).run P W2 = .ok pe (W2.putObj l (.loop { rec st pe with state := .exhausted })) ∧ Sat w0 (W2.putObj l (.loop { rec st pe with state := .exhausted })) (A ++ (Sh ++ [.sem rest, dfE Dk true])) := fun st pe A rest W2 hst h => by
      have h1 := Sat.unbun (l1 := []) h
      have h2 : Sat w0 W2 ((A ++ (Sh ++ [.sem rest, dfE Dk true])) ++ .sem (Frame.obj l (.loop (rec st pe))) :: []) := by
        exact h1.perm (perm_of fun f => by simp only [List.map_append, List.map_cons, List.map_nil, List.sum_append, List.sum_cons, List.sum_nil]; omega)
      have hl : W2.heap[l]? = some (.loop (rec st pe)) := h2.get
      have h3 := h2.putObj (o' := .loop { rec st pe with state := .exhausted })
      refine ⟨?_, h3.sub (List.sublist_append_left _ _)⟩
      have := run_endLoop (P := P) hl (by rw [hrec]; exact hst)
      rw [hrec] at this ⊢; exact this
    rintro e W2 ⟨v, rfl, h⟩
    have hF' : ∀ {L'}, Frd a n ds L' → Frd { a with defers := [mrk Dk] ++ a.defers } n (mrk Dk :: ds) L' := fun h => ⟨h.size, by rw [← h.defers]; rfl, h.get⟩
    rcases h with ⟨s, rest, hfin, h⟩ | ⟨t, rest, hfin, h⟩
    · obtain ⟨h1, h2⟩ := out .ready none _ rest W2 (by simp) h
      exact ⟨none, _, h1, hdone Dk s rest _ hfin h2 _ (hF' hF)⟩
    · obtain ⟨h1, h2⟩ := out .done (some (jc t)) _ rest W2 (by simp) h
      refine ⟨some (jc t), _, h1, ?_⟩
      have h3 := hstop Dk t rest _ hfin h2 _ (hF' hF)
      rcases hjc t with hj | ⟨id, hj⟩
      · rw [hj] at h3 ⊢; exact wpIn_ret h3
      · rw [hj] at h3 ⊢; exact wpIn_exit h3
end
end Go.Proofs.Gw
namespace Go.Proofs.Gw
open Go Go.RowKit
section
variable {P : Program} {L : List (Nat × Value)} {w w0 : World} {o : Oper} {x y z : Operand} {T T' : TypeId} {l : List Ent} {E : TypeId}
theorem ex_append_make2 {n : Int} {zv z0 z1 : Value} {b : Nat} (ho : o.op = .call { callee := .builtin .append, args := #[x, y], argTypes := #[T, T'] }) (ht : sliceT P T = some (E, 2)) (hk : P.underlying T' = some (.int .i64)) (he : elemT P E = some (zv, 2, b)) (hz : zv.cells = #[z0, z1]) (hb0 : 1 ≤ b)
    (hx : evL L x = some (.slice none 0 0)) (hy : evL L y = some (.int .i64 n)) (h1 : 1 ≤ n) (hb : b * n ≤ 140737488355328) (hS : Sat w0 w l) :
    ∃ u w', Runs P L w o (.value u) w' ∧ Sat w0 w' (l ++ [.own u 2 E n (fun k => if k % 2 = 0 then z0 else z1)]) ∧ Slh u n := by
  obtain ⟨hut, _⟩ := slice_of ht
  obtain ⟨i, hi, hzz, hsz, hby⟩ := elem_of he
  have hle : n ≤ b * n := by
    have := Int.mul_le_mul_of_nonneg_right (show (1 : Int) ≤ b by omega) (show 0 ≤ n by omega)
    omega
  have hw : IntKind.i64.wrap n = n := by rw [IntKind.wrap_i64]; omega
  have h48 : ¬ (281474976710656 < n * (i.bytes : Int)) := by rw [hby, Int.mul_comm]; omega
  have hn0 : ¬ n < 0 := by omega
  have hbn : ((n.toNat * i.bytes : Nat) : Int) = b * n := by rw [Int.natCast_mul, hby, Int.toNat_of_nonneg (by omega), Int.mul_comm]
  have hcap : ¬ (281474976710656 < Builtin.nextslicecap n.toNat 0 * i.bytes) := by rw [nextslicecap_zero (by omega)]; omega
  have h63 : ¬ (9223372036854775807 < (n.toNat : Int)) := by omega
  have hnz : ¬ n.toNat = 0 := by omega
  have hnz2 : ¬ n.toNat * i.size = 0 := by rw [hsz]; omega
  have hr : ∀ ty, (Builtin.append_ #[T, T'] ty #[.slice none 0 0, .int .i64 n]).run P w = .ok (.slice (some ⟨w.heap.size, 0, none⟩) n.toNat (grownCap w n.toNat 0 E)) (w.drew.alloc (.cells (Builtin.zeroCells zv.cells n.toNat ++ Builtin.zeroCells zv.cells (grownCap w n.toNat 0 E - n.toNat)) E)) := fun ty => by
    simp [Builtin.append_, run_underlying hut, run_underlying hk, sizeOf, typeInfo, zeroValue, hi, hzz, asInt, asIntOf, hw, hn0, h48, hnz, hcap, h63, Question.forced, newRow, grownCap, Builtin.firstCells, hnz2]
    rw [if_neg (by omega), if_neg (by omega)]
  have hge := grownCap_ge w n.toNat 0 E
  have hmx := grownCap_le_maxLen w n.toNat 0 E (by unfold maxLen; omega)
  have hE : (Ent.own (.slice (some ⟨w.heap.size, 0, none⟩) n.toNat (grownCap w n.toNat 0 E)) 2 E n (fun k => if k % 2 = 0 then z0 else z1)).holds (w.drew.alloc (.cells (Builtin.zeroCells zv.cells n.toNat ++ Builtin.zeroCells zv.cells (grownCap w n.toNat 0 E - n.toNat)) E)) := by
    refine ⟨by omega, by omega, .inr ⟨_, _, _, rfl, by have := heap_alloc_new w.drew (.cells (Builtin.zeroCells zv.cells n.toNat ++ Builtin.zeroCells zv.cells (grownCap w n.toNat 0 E - n.toNat)) E); simpa using this, hge, hmx, ?_, fun k hk => ?_⟩⟩
    · simp [Builtin.zeroCells, hz]; omega
    · have hk2 : k < n.toNat * 2 := by omega
      rw [Array.getElem?_append_left (by simp [Builtin.zeroCells, hz]; omega)]
      rcases Nat.mod_two_eq_zero_or_one k with hm | hm
      · simp [Builtin.zeroCells, hz, hk2, hm]; intro hh; omega
      · simp [Builtin.zeroCells, hz, hk2, hm]; intro hh; omega
  refine ⟨_, _, fun ρ h => ?_, hS.draw.alloc _ hE (fun g hg => by simp [Ent.has, Value.ownBlock] at hg; simp [hg]), hE.row.slh⟩
  simp [execOp, ho, resolve, invoke, builtin, h _ _ hx, h _ _ hy, hr]
end
theorem cat_ucells2 (p q : Int → Value) (c d : Int → Int) (n : Int) : cat (n * 2) (ucells p c) (ucells q d) = ucells (cat n p q) (cat n c d) := by
  funext k
  unfold cat ucells
  by_cases h : k < n * 2
  · have h2 : k / 2 < n := by omega
    simp only [if_pos h, if_pos h2]
  · have h2 : ¬ k / 2 < n := by omega
    have h3 : (k - n * 2) / 2 = k / 2 - n := by omega
    have h4 : (k - n * 2) % 2 = k % 2 := by omega
    simp only [if_neg h, if_neg h2, h3, h4]
end Go.Proofs.Gw
namespace Go.Proofs.Ytopmifmfecfaaaa
open Go Go.RowKit Go.Proofs.Gw
theorem cl_104 : calledT Try.prog 104 = true := by kernel_rfl
theorem cl_105 : calledT Try.prog 105 = true := by kernel_rfl
theorem cl_106 : calledT Try.prog 106 = true := by kernel_rfl
theorem cl_107 : calledT Try.prog 107 = true := by kernel_rfl
theorem cl_118 : calledT Try.prog 118 = true := by kernel_rfl
theorem cl_49 : calledT Try.prog 49 = true := by kernel_rfl
theorem cl_82 : calledT Try.prog 82 = true := by kernel_rfl
theorem cl_83 : calledT Try.prog 83 = true := by kernel_rfl
theorem cl_84 : calledT Try.prog 84 = true := by kernel_rfl
theorem cl_85 : calledT Try.prog 85 = true := by kernel_rfl
theorem cl_86 : calledT Try.prog 86 = true := by kernel_rfl
theorem el_43 : elemT Try.prog 43 = some (.slice none 0 0, 1, 24) := by kernel_rfl
theorem pl_43 : plainT Try.prog 43 = true := by kernel_rfl
theorem pl_75 : plainT Try.prog 75 = true := by kernel_rfl
theorem sl_129 : sliceT Try.prog 129 = some (43, 1) := by kernel_rfl
set_option maxRecDepth 20000 in
theorem c_badu {vL vD : Value} {p : Prob} {gp : Nat} {vB : Value} {m b : Int} {g : Int → Int} (w0 : World) (hG : (Ent.blk gp [vL, vD, .int .i64 p.stock, .int .i64 p.kerf]).holds w0) (h : PAt w0 vL vD p) (hB : Row w0 vB 1 m (ints g)) :
    Calls Try.prog 104 [.agg #[vB, .int .i64 b], .pointer (some ⟨gp, 0, none⟩)].toArray w0 fun e w => ∃ v, e = .returned v ∧ v = B (¬ (1 ≤ b ∧ b ≤ 1000 ∧ FitsP p m g)) ∧ Sat w0 w [] := by
  refine zenG Try.func104 Try.ntmps104 fun w hS => ?_
  refine zsr ?_
  refine zla (xbx (cs := [_, _]) hS) ?_; rintro _ w ⟨g1, rfl, hS⟩
  replace hS := hS.n1
  refine zlv xas ?_
  refine zlz ?_
  refine zlv (xfb 1 fd_50_1) ?_
  refine zlv (xlb 0 pl_3 hS) ?_
  refine zs2 ?_
  refine zlb 7 ?_ ?_ <;> intro hc
  ·
   iterate 3 refine zlo ?_
   refine zs2 ?_
   iterate 5 refine zlo ?_
   refine zs2 ?_
   refine zlt <| zrt <| zf1 ⟨_, rfl, ?_⟩
   exact ⟨true_B (by rintro ⟨h1, h2, h3⟩; first | omega | exact absurd h3 ‹_›), hS.nl⟩
  refine zlv (xfb 1 fd_50_1) ?_
  refine zlv (xlb 0 pl_3 hS) ?_
  refine zs3 ?_
  refine zlb 12 ?_ ?_ <;> intro hc
  ·
   iterate 5 refine zlo ?_
   refine zs2 ?_
   refine zlt <| zrt <| zf1 ⟨_, rfl, ?_⟩
   exact ⟨true_B (by rintro ⟨h1, h2, h3⟩; first | omega | exact absurd h3 ‹_›), hS.nl⟩
  refine zlv (xlfs st_39 hG hS) ?_
  refine zlv (xfb 0 fd_50_0) ?_
  refine zlv (xlb 0 pl_22 hS) ?_
  refine zlc (xc0 cl_70) (c_pfits (p := p) w (h.below hS.below) (hB.below hS.below)) ?_; rintro _ w ⟨rfl, hS'⟩
  replace hS := hS.cmp hS'; clear hS'
  refine zs3 ?_
  refine zlt <| zrt <| zf1 ⟨_, rfl, ?_⟩
  exact ⟨B_congr ⟨fun h1 hh => h1 hh.2.2, fun h1 hh => h1 ⟨by omega, by omega, hh⟩⟩, hS.nl⟩
set_option maxRecDepth 20000 in
theorem c_ixbad {vV : Value} {u : Int} {pv : Int → Value} {ln : Int → Int} {pt : Int → Int → Int} {cnt : Int → Int} {vL vD : Value} {p : Prob} {gp : Nat} (w0 : World) (hV : VAt w0 vV u pv ln pt cnt) (hG : (Ent.blk gp [vL, vD, .int .i64 p.stock, .int .i64 p.kerf]).holds w0) (h : PAt w0 vL vD p) :
    Calls Try.prog 96 [vV, .func (.func 104) #[] #[.pointer (some ⟨gp, 0, none⟩)]].toArray w0 fun e w => ∃ v, e = .returned v ∧ ∃ r : Int, v = .int .i64 r ∧ ((r = -1 ∧ ∀ k, 0 ≤ k → k < u → ¬ (¬ (1 ≤ (cnt k) ∧ (cnt k) ≤ 1000 ∧ FitsP p (ln k) (pt k)))) ∨ (0 ≤ r ∧ r < u ∧ (¬ (1 ≤ (cnt r) ∧ (cnt r) ≤ 1000 ∧ FitsP p (ln r) (pt r))) ∧ ∀ k, 0 ≤ k → k < r → ¬ (¬ (1 ≤ (cnt k) ∧ (cnt k) ≤ 1000 ∧ FitsP p (ln k) (pt k))))) ∧ Sat w0 w [] := by
  have hn := hV.row.slh.n0; have hn1 := hV.row.slh.n1
  refine zenG Try.func96 Try.ntmps96 fun w hS => ?_
  refine zsr ?_
  refine zlv xas ?_
  refine zlt <| zsq <| zsr ?_
  refine zlv xmv ?_
  refine zlv (xln sl_43 hV.row.slh) ?_
  refine zlv xmv ?_
  refine zlt <| zbk <| zlp (fun mm M w => ∃ (i : Int), mm = ((u - i).toNat) ∧ (0 ≤ i) ∧ (i ≤ u) ∧ (∀ k, 0 ≤ k → k < i → ¬ (¬ (1 ≤ (cnt k) ∧ (cnt k) ≤ 1000 ∧ FitsP p (ln k) (pt k)))) ∧ M = [(0, vV), (1, .func (.func 104) #[] #[.pointer (some ⟨gp, 0, none⟩)]), (7, .int .i64 u), (8, .int .i64 i)] ∧ Sat w0 w []) ⟨0, rfl, (by omega), (by omega), ?_, rfl, hS⟩ ?_
  ·
   intro k h0 h1; omega
  clear hS w
  rintro mm M w ⟨i, rfl, h0, h1, hall, rfl, hS⟩
  refine zsr ?_
  refine zlv xlss ?_
  refine zlt <| zsq ?_
  refine zcif ?_ ?_ <;> intro hc
  ·
   refine zsk <| ztn <| zsq <| zbk <| zsr ?_
   refine zs2 ?_
   refine zlz ?_
   refine zs3 ?_
   refine zlv (xix (kk := 2 * i) sl_43 hV.row.slh) ?_
   refine zlv (xlw (cs := [(pv i), .int .i64 (cnt i)]) st_50 (hV.row.below hS.below) (ucells_at (k := 2 * i) (i := i) pv cnt (by omega))) ?_
   refine zlc (xcc (vs := [_]) cl_104) (c_badu (p := p) (m := (ln i)) (g := (pt i)) w (Sat.oldblk hS hG) (h.below hS.below) ((hV.p i (by omega) (by omega)).below hS.below)) ?_; rintro _ w ⟨rfl, hS'⟩
   replace hS := hS.cmp hS'; clear hS'
   refine zlt ?_
   refine zcif ?_ ?_ <;> intro hc
   ·
    refine zsr ?_
    refine zs2 ?_
    refine zlt <| zrt <| zbr <| ztr <| ztr <| zbr <| ztr <| zf1 ⟨_, rfl, ?_⟩
    exact ⟨i, rfl, .inr ⟨by omega, by omega, ‹¬ (1 ≤ (cnt i) ∧ (cnt i) ≤ 1000 ∧ FitsP p (ln i) (pt i))›, hall⟩, hS⟩
   refine zsk <| zbn <| ztn <| zrg ?_
   refine zlv (xadd (r := i + 1)) ?_
   refine zlv xmv ?_
   refine zln <| zlq ⟨i + 1, rfl, (by omega), (by omega), ?_, rfl, hS⟩
   ·
    intro k h0' h1'; rcases Int.lt_or_eq_of_le (show k ≤ i by omega) with hk | hk; exact hall k h0' hk; rw [hk]; assumption
  refine zxt <| ztx <| ztx <| zbh <| ztn <| zsr ?_
  refine zlv xas ?_
  refine zlt <| zrt <| zf1 ⟨_, rfl, ?_⟩
  exact ⟨-1, rfl, .inl ⟨rfl, fun k h0 h1 => hall k h0 (by omega)⟩, hS⟩
set_option maxRecDepth 20000 in
theorem c_cobad {vV : Value} {u : Int} {pv : Int → Value} {ln : Int → Int} {pt : Int → Int → Int} {cnt : Int → Int} {vL vD : Value} {p : Prob} {gp : Nat} (w0 : World) (hV : VAt w0 vV u pv ln pt cnt) (hG : (Ent.blk gp [vL, vD, .int .i64 p.stock, .int .i64 p.kerf]).holds w0) (h : PAt w0 vL vD p) :
    Calls Try.prog 105 [vV, .func (.func 104) #[] #[.pointer (some ⟨gp, 0, none⟩)]].toArray w0 fun e w => ∃ v, e = .returned v ∧ v = B (∃ k, 0 ≤ k ∧ k < u ∧ ¬ (1 ≤ (cnt k) ∧ (cnt k) ≤ 1000 ∧ FitsP p (ln k) (pt k))) ∧ Sat w0 w [] := by
  refine zenG Try.func105 Try.ntmps105 fun w hS => ?_
  refine zsr ?_
  refine zlv xas ?_
  refine zlz ?_
  refine zs2 ?_
  refine zlc (xc0 cl_96) (c_ixbad (u := u) (pv := pv) (ln := ln) (pt := pt) (cnt := cnt) (p := p) w (hV.below hS.below) (Sat.oldblk hS hG) (h.below hS.below)) ?_; rintro _ w ⟨r1, rfl, hr1, hS'⟩
  replace hS := hS.cmp hS'; clear hS'
  refine zs2 ?_
  refine zlt <| zrt <| zf1 ⟨_, rfl, ?_⟩
  exact ⟨B_congr (by
   rcases hr1 with ⟨h1, h2⟩ | ⟨h1, h2, h3, _⟩
   · exact ⟨fun h => by omega, fun ⟨k, h4, h5, h6⟩ => absurd h6 (h2 k h4 h5)⟩
   · exact ⟨fun _ => ⟨_, h1, h2, h3⟩, fun _ => h1⟩), hS⟩
def PlanOk (p : Prob) (u : Int) (ln : Int → Int) (pt : Int → Int → Int) (cnt : Int → Int) : Prop := p.Ok ∧ u ≤ 1000 ∧ ∀ k, 0 ≤ k → k < u → 1 ≤ cnt k ∧ cnt k ≤ 1000 ∧ FitsP p (ln k) (pt k)
def madeF (u : Int) (pt : Int → Int → Int) (cnt : Int → Int) : Int → Int := fun j => psum (fun k => pt k j) cnt u.toNat
theorem no_bad {p : Prob} {u : Int} {ln cnt : Int → Int} {pt : Int → Int → Int} : ¬ (∃ k, 0 ≤ k ∧ k < u ∧ ¬ (1 ≤ cnt k ∧ cnt k ≤ 1000 ∧ FitsP p (ln k) (pt k))) ↔ ∀ k, 0 ≤ k → k < u → 1 ≤ cnt k ∧ cnt k ≤ 1000 ∧ FitsP p (ln k) (pt k) :=
  ⟨fun h k k0 k1 => Classical.not_not.1 fun hn => h ⟨k, k0, k1, hn⟩, fun h ⟨k, k0, k1, hn⟩ => hn (h k k0 k1)⟩
theorem madeF_next {pt : Int → Int → Int} {cnt : Int → Int} {i j : Int} (i0 : 0 ≤ i) : madeF (i + 1) pt cnt j = madeF i pt cnt j + pt i j * cnt i := psum_next _ _ i0
theorem mul_rng3 {a b A B : Int} (a0 : 0 ≤ a) (a1 : a ≤ A) (b0 : 0 ≤ b) (b1 : b ≤ B) : 0 ≤ a * b ∧ a * b ≤ A * B :=
  ⟨Int.mul_nonneg a0 b0, Int.mul_le_mul a1 b1 b0 (by omega)⟩
theorem madeF_rng {p : Prob} {u : Int} {ln cnt : Int → Int} {pt : Int → Int → Int} (h : ∀ k, 0 ≤ k → k < u → 1 ≤ cnt k ∧ cnt k ≤ 1000 ∧ FitsP p (ln k) (pt k)) : ∀ {i : Int}, 0 ≤ i → i ≤ u → ∀ {j : Int}, 0 ≤ j → j < p.m → 0 ≤ madeF i pt cnt j ∧ madeF i pt cnt j ≤ 2000000 * i := by
  intro i i0
  obtain ⟨n, rfl⟩ := Int.eq_ofNat_of_zero_le i0
  induction n with
  | zero => intro _ j _ _; exact ⟨Int.le_refl _, by show (0 : Int) ≤ _; omega⟩
  | succ n ih =>
    intro hi j j0 j1
    have h1 := ih (by omega) (by omega) j0 j1
    obtain ⟨h2, h3, h4⟩ := h n (by omega) (by omega)
    have h5 := h4.all j j0 (by have := h4.eq; omega)
    have h6 := mul_rng3 h5.1 h5.2 (show 0 ≤ cnt n by omega) h3
    have h7 := madeF_next (pt := pt) (cnt := cnt) (i := (n : Int)) (j := j) (by omega)
    rw [show ((n + 1 : Nat) : Int) = (n : Int) + 1 by omega, h7]; omega
set_option maxRecDepth 20000 in
theorem c_planok {vV : Value} {u : Int} {pv : Int → Value} {ln : Int → Int} {pt : Int → Int → Int} {cnt : Int → Int} {vL vD : Value} {p : Prob} (w0 : World) (hV : VAt w0 vV u pv ln pt cnt) (h : PAt w0 vL vD p) :
    Calls Try.prog 82 [.agg #[vL, vD, .int .i64 p.stock, .int .i64 p.kerf], vV].toArray w0 fun e w => ∃ v, e = .returned v ∧ v = B (PlanOk p u ln pt cnt) ∧ Sat w0 w [] := by
  have hm := h.L.slh.n0; have hm1 := h.L.slh.n1; have hd := h.D.slh.n0; have hd1 := h.D.slh.n1; have hs := h.is; have hk := h.ik
  have hu := hV.row.slh.n0; have hu1 := hV.row.slh.n1
  refine zenG Try.func82 Try.ntmps82 fun w hS => ?_
  refine zsr ?_
  refine zla (xbx (cs := [_, _, _, _]) hS) ?_; rintro _ w ⟨g1, rfl, hS⟩
  replace hS := hS.n1
  refine zlv xas ?_
  refine zlz ?_
  refine zlv xmf ?_
  refine zlv xas ?_
  refine zlz ?_
  refine zlv (xls 0 st_39 hS) ?_
  refine zlc (xc0 cl_34) (c_pvalid (p := p) w (h.below hS.below)) ?_; rintro _ w ⟨rfl, hS'⟩
  replace hS := hS.cmp hS'; clear hS'
  refine zlv xmv ?_
  refine zlb 9 ?_ ?_ <;> intro hc
  ·
   refine zlv xmv ?_
   refine zlv (xln sl_43 hV.row.slh) ?_
   refine zs3 ?_
   refine zlb 14 ?_ ?_ <;> intro hc
   ·
    refine zs2 ?_
    refine zlc (xc0 cl_105) (c_cobad (u := u) (pv := pv) (ln := ln) (pt := pt) (cnt := cnt) (p := p) w (hV.below hS.below) (hS.holds _ (List.mem_of_getElem? (i := 0) rfl)) (h.below hS.below)) ?_; rintro _ w ⟨rfl, hS'⟩
    replace hS := hS.cmp hS'; clear hS'
    refine zs3 ?_
    refine zlt <| zrt <| zf1 ⟨_, rfl, ?_⟩
    exact ⟨B_congr ⟨fun hh => ⟨by first | assumption | exact Classical.not_not.1 ‹_›, by omega, no_bad.1 hh⟩, fun hh => no_bad.2 hh.2.2⟩, hS.nl⟩
   iterate 4 refine zlo ?_
   refine zs2 ?_
   refine zlt <| zrt <| zf1 ⟨_, rfl, ?_⟩
   exact ⟨false_B (by rintro ⟨h1, h2, h3⟩; first | exact absurd h1 ‹_› | omega | exact absurd (no_bad.2 h3) ‹_›), hS.nl⟩
  iterate 3 refine zlo ?_
  refine zs2 ?_
  iterate 4 refine zlo ?_
  refine zs2 ?_
  refine zlt <| zrt <| zf1 ⟨_, rfl, ?_⟩
  exact ⟨false_B (by rintro ⟨h1, h2, h3⟩; first | exact absurd h1 ‹_› | omega | exact absurd (no_bad.2 h3) ‹_›), hS.nl⟩
set_option maxHeartbeats 4000000 in
set_option maxRecDepth 20000 in
theorem c_pmade {vV : Value} {u : Int} {pv : Int → Value} {ln : Int → Int} {pt : Int → Int → Int} {cnt : Int → Int} {vL vD : Value} {p : Prob} (w0 : World) (hV : VAt w0 vV u pv ln pt cnt) (h : PAt w0 vL vD p) :
    Calls Try.prog 49 [.agg #[vL, vD, .int .i64 p.stock, .int .i64 p.kerf], vV].toArray w0 fun e w => ∃ v, e = .returned v ∧ ∃ r n f e, v = .tuple #[r, .int .i64 e] ∧ ((¬ PlanOk p u ln pt cnt ∧ n = 0 ∧ e = 1) ∨ (PlanOk p u ln pt cnt ∧ n = p.m ∧ f = madeF u pt cnt ∧ e = 0)) ∧ Slh r n ∧ Sat w0 w [.own r 1 3 n (ints f)] := by
  have hm := h.L.slh.n0; have hm1 := h.L.slh.n1; have hd := h.D.slh.n0; have hd1 := h.D.slh.n1; have hs := h.is; have hk := h.ik
  have hu := hV.row.slh.n0; have hu1 := hV.row.slh.n1
  refine zenG Try.func49 Try.ntmps49 fun w hS => ?_
  refine zsr ?_
  refine zla (xbx (cs := [_, _, _, _]) hS) ?_; rintro _ w ⟨g1, rfl, hS⟩
  replace hS := hS.n1
  refine zs2 ?_
  refine zlt <| zsq <| zsr ?_
  refine zlv (xls 0 st_39 hS) ?_
  refine zlv xmv ?_
  refine zlc (xc0 cl_82) (c_planok (u := u) (pv := pv) (ln := ln) (pt := pt) (cnt := cnt) (p := p) w (hV.below hS.below) (h.below hS.below)) ?_; rintro _ w ⟨rfl, hS'⟩
  replace hS := hS.cmp hS'; clear hS'
  refine zlv xnot ?_
  refine zlt ?_
  refine zcif ?_ ?_ <;> intro hc
  ·
   refine zsr ?_
   refine zs2 ?_
   refine zlt <| zrt <| ztr <| zf2 ⟨_, rfl, ?_⟩
   exact ⟨_, 0, fun _ => 0, 1, rfl, .inl ⟨‹¬ PlanOk p u ln pt cnt›, rfl, rfl⟩, slh_nil, (hS.sub (.cons _ .slnil)).addnil 1 3 (ints fun _ => 0)⟩
  refine zsk <| ztn <| zsr ?_
  refine zlv (xfb 0 fd_39_0) ?_
  have hplo : PlanOk p u ln pt cnt := by first | assumption | exact Classical.not_not.1 ‹_›
  have hpm1 := hplo.1.m1; have hpm2 := hplo.1.m2; have hu3 := hplo.2.1
  refine zlv (xlb 0 pl_22 hS) ?_
  refine zlv (xln sl_22 h.L.slh) ?_
  refine zla (xmk sl_22 el_3 hS) ?_; rintro v1 w ⟨hS, hv1⟩
  replace hS := hS.n2
  refine zlv xas ?_
  refine zlt <| zsq <| zsr ?_
  refine zlv xmv ?_
  refine zlv (xln sl_43 hV.row.slh) ?_
  refine zlv xmv ?_
  refine zlt <| zbk <| zlp (fun mm M w => ∃ (f : Int → Int) (i : Int), mm = ((u - i).toNat) ∧ (0 ≤ i) ∧ (i ≤ u) ∧ (∀ k, 0 ≤ k → k < p.m → f k = madeF i pt cnt k) ∧ M = [(4, .slice none 0 0), (5, .int .i64 0), (6, v1), (19, vV), (20, .int .i64 u), (21, .int .i64 i)] ∧ Sat w0 w [.blk g1 [vL, vD, .int .i64 p.stock, .int .i64 p.kerf], .own v1 1 3 p.m (ints f)]) ⟨(fun _ => 0), 0, rfl, (by omega), (by omega), ?_, rfl, hS⟩ ?_
  ·
   intro k _ _; rfl
  clear hS w
  rintro mm M w ⟨f, i, rfl, h0, h1, hf, rfl, hS⟩
  refine zsr ?_
  refine zlv xlss ?_
  refine zlt <| zsq ?_
  refine zcif ?_ ?_ <;> intro hc
  ·
   refine zsk <| ztn <| zsq <| zbk <| zsr ?_
   refine zlv (xix (kk := 2 * i) sl_43 hV.row.slh) ?_
   refine zlv (xlw (cs := [(pv i), .int .i64 (cnt i)]) st_50 (hV.row.below hS.below) (ucells_at (k := 2 * i) (i := i) pv cnt (by omega))) ?_
   obtain ⟨hq1, hq2, hq3⟩ := hplo.2.2 i h0 (by omega)
   have hq4 := hq3.eq
   refine zla (xal (cs := [_, _]) el_50 hS) ?_; rintro _ w ⟨g2, rfl, hS⟩
   replace hS := hS.n3
   refine zle (xsw 2 st_50 hS (hd := (ones_cons (hV.p i (by omega) (by omega)).slh.one (ones_cons rfl ones_nil)))) ?_; clear hS; rintro w hS
   replace hS := hS.n3
   refine zlz ?_
   refine zlv (xfb 0 fd_50_0) ?_
   refine zlv (xlb 2 pl_22 hS) ?_
   refine zlv (xln sl_22 (hV.p i (by omega) (by omega)).slh) ?_
   refine zlv xmv ?_
   refine zlt <| zbk <| zlp (fun mm M w => ∃ (f2 : Int → Int) (j : Int), mm = ((ln i - j).toNat) ∧ (0 ≤ j) ∧ (j ≤ ln i) ∧ (∀ k, 0 ≤ k → k < p.m → f2 k = (if k < j then madeF (i + 1) pt cnt k else madeF i pt cnt k)) ∧ M = [(4, .slice none 0 0), (5, .int .i64 0), (6, v1), (8, .pointer (some ⟨g2, 0, none⟩)), (19, vV), (20, .int .i64 u), (21, .int .i64 i), (26, (pv i)), (27, .int .i64 (ln i)), (28, .int .i64 j)] ∧ Sat w0 w [.blk g1 [vL, vD, .int .i64 p.stock, .int .i64 p.kerf], .own v1 1 3 p.m (ints f2), .blk g2 [(pv i), .int .i64 (cnt i)]]) ⟨f, 0, rfl, (by omega), (by omega), ?_, rfl, hS⟩ ?_
   ·
    intro k k0 k1; rw [if_neg (by omega)]; exact hf k k0 k1
   clear hS w
   rintro mm M w ⟨f2, j, rfl, j0, j1, hf2, rfl, hS⟩
   refine zsr ?_
   refine zlv xlss ?_
   refine zlt <| zsq ?_
   refine zcif ?_ ?_ <;> intro hc
   ·
    refine zsk <| ztn <| zsq <| zbk <| zsr ?_
    refine zlv xmv ?_
    refine zlv (xix (kk := j) sl_22 (hV.p i (by omega) (by omega)).slh) ?_
    refine zlv (xlr (u := .int .i64 ((pt i) j)) pl_3 ((hV.p i (by omega) (by omega)).below hS.below)) ?_
    have hpj := hq3.all j j0 (by omega)
    have hmr := madeF_rng hplo.2.2 h0 (by omega) (j := j) j0 (by omega)
    have hfj := hf2 j j0 (by omega)
    rw [if_neg (by omega)] at hfj
    have hmj := mul_rng3 hpj.1 hpj.2 (show 0 ≤ cnt i by omega) hq2
    refine zs2 ?_
    refine zlt ?_
    refine zdst [0, 1, 2] [0, 2] 10 mx_ hS ?_; clear hS; intro w hS
    refine zdv 0 (fun _ => xmv) ?_
    refine zdv 1 (fun _ => xmv) ?_
    refine zdv 2 (fun _ => (xix (kk := j) sl_22 hv1)) ?_
    refine zdl 3 (fun w hS => (xlr (u := .int .i64 (f2 j)) pl_3 (hS.rowN 1 rfl))) ?_
    refine zdv 4 (fun _ => xmv) ?_
    refine zdv 5 (fun _ => (xfb 1 fd_50_1)) ?_
    refine zdla 6 (fun w hS => (xlb 1 pl_3 hS)) ?_
    refine zdv 7 (fun _ => (xmul (r := (((pt i) j) * (cnt i))) (e := rfl))) ?_
    refine zdv 8 (fun _ => (xadd (r := f2 j + (((pt i) j) * (cnt i))))) ?_
    refine zdv 9 (fun _ => (xix (kk := j) sl_22 hv1)) ?_
    refine zde 10 (xso 1 pl_3 hS (upd_ints _ _ _)) ?_; clear hS; rintro w hS
    replace hS := hS.n3
    refine ⟨⟨fun h => absurd h (by decide), hS.pk [0, 2]⟩, ?_⟩
    refine zdd <| zbn <| ztn <| zrg ?_
    refine zlv (xadd (r := j + 1)) ?_
    refine zlv xmv ?_
    refine zln <| zlq ⟨(upd f2 j (f2 j + (((pt i) j) * (cnt i)))), j + 1, rfl, (by omega), (by omega), ?_, rfl, hS⟩
    ·
     intro k k0 k1; unfold upd; by_cases e : k = j
     · rw [if_pos e, if_pos (by omega), e, madeF_next h0]; omega
     · rw [if_neg e, hf2 k k0 k1]; by_cases e2 : k < j
       · rw [if_pos e2, if_pos (by omega)]
       · rw [if_neg e2, if_neg (by omega)]
   refine zxt <| ztx <| ztx <| zbh <| zbn <| ztn <| zrg ?_
   refine zlv (xadd (r := i + 1)) ?_
   refine zlv xmv ?_
   refine zln <| zlq ⟨f2, i + 1, rfl, (by omega), (by omega), ?_, rfl, hS.pk [0, 1]⟩
   ·
    intro k k0 k1; rw [hf2 k k0 k1, if_pos (by omega)]
  refine zxt <| ztx <| ztx <| zbh <| ztn <| zsr ?_
  refine zs3 ?_
  refine zlt <| zrt <| zf2 ⟨_, rfl, ?_⟩
  have hiu : i = u := by omega
  rw [hiu] at hf
  replace hS := hS.recont 1 rfl (d := ints (madeF u pt cnt)) (fun k k0 k1 => congrArg (Value.int .i64) (hf k k0 (by omega)))
  exact ⟨_, _, _, 0, rfl, .inr ⟨hplo, rfl, rfl, rfl⟩, hv1, hS.pk [1]⟩
set_option maxHeartbeats 4000000 in
set_option maxRecDepth 20000 in
theorem c_pmeets {vV : Value} {u : Int} {pv : Int → Value} {ln : Int → Int} {pt : Int → Int → Int} {cnt : Int → Int} {vL vD : Value} {p : Prob} (w0 : World) (hV : VAt w0 vV u pv ln pt cnt) (h : PAt w0 vL vD p) :
    Calls Try.prog 83 [.agg #[vL, vD, .int .i64 p.stock, .int .i64 p.kerf], vV].toArray w0 fun e w => ∃ v, e = .returned v ∧ v = B (PlanOk p u ln pt cnt ∧ ∀ j, 0 ≤ j → j < p.m → p.D j ≤ madeF u pt cnt j) ∧ Sat w0 w [] := by
  have hm := h.L.slh.n0; have hm1 := h.L.slh.n1; have hd := h.D.slh.n0; have hd1 := h.D.slh.n1; have hs := h.is; have hk := h.ik
  refine zenG Try.func83 Try.ntmps83 fun w hS => ?_
  refine zsr ?_
  refine zla (xbx (cs := [_, _, _, _]) hS) ?_; rintro _ w ⟨g1, rfl, hS⟩
  replace hS := hS.n1
  refine zlv xas ?_
  refine zlz ?_
  refine zlv (xls 0 st_39 hS) ?_
  refine zlv xmv ?_
  refine zlc (xc0 cl_49) (c_pmade (u := u) (pv := pv) (ln := ln) (pt := pt) (cnt := cnt) (p := p) w (hV.below hS.below) (h.below hS.below)) ?_; rintro _ w ⟨vdmd1, ndmd1, fdmd1, edmd1, rfl, hmdmd1, hvdmd1, hS'⟩
  replace hS : Sat w0 w [.blk g1 [vL, vD, .int .i64 p.stock, .int .i64 p.kerf], .own vdmd1 1 3 ndmd1 (ints fdmd1)] := hS.comp hS'; clear hS'
  refine zs3 ?_
  have hnd := hvdmd1.n0; have hnd1 := hvdmd1.n1
  have hndd : ndmd1 ≤ p.d := by
    rcases hmdmd1 with ⟨_, g2, _⟩ | ⟨g1, g2, _, _⟩
    · omega
    · have := g1.1.d; omega
  refine zs2 ?_
  refine zlt <| zsq <| zsr ?_
  refine zlv xmv ?_
  refine zlv (xln sl_22 hvdmd1) ?_
  refine zlv xmv ?_
  refine zlt <| zbk <| zlp (fun mm M w => ∃ (i : Int), mm = ((ndmd1 - i).toNat) ∧ (0 ≤ i) ∧ (i ≤ ndmd1) ∧ (∀ k, 0 ≤ k → k < i → p.D k ≤ fdmd1 k) ∧ M = [(2, .pointer (some ⟨g1, 0, none⟩)), (6, .int .i64 edmd1), (15, vdmd1), (16, .int .i64 ndmd1), (17, .int .i64 i)] ∧ Sat w0 w [.blk g1 [vL, vD, .int .i64 p.stock, .int .i64 p.kerf], .own vdmd1 1 3 ndmd1 (ints fdmd1)]) ⟨0, rfl, (by omega), (by omega), ?_, rfl, hS⟩ ?_
  ·
   intro k h0 h1; omega
  clear hS w
  rintro mm M w ⟨i, rfl, h0, h1, hall, rfl, hS⟩
  refine zsr ?_
  refine zlv xlss ?_
  refine zlt <| zsq ?_
  refine zcif ?_ ?_ <;> intro hc
  ·
   refine zsk <| ztn <| zsq <| zbk <| zsr ?_
   refine zlv xmv ?_
   refine zlv (xix (kk := i) sl_22 hvdmd1) ?_
   refine zlv (xlr (u := .int .i64 (fdmd1 i)) pl_3 (hS.rowN 1 rfl)) ?_
   refine zs2 ?_
   refine zlz ?_
   refine zlv xmv ?_
   refine zlv (xfb 1 fd_39_1) ?_
   refine zlv (xlb 0 pl_22 hS) ?_
   refine zlv xmv ?_
   refine zlv (xix (kk := i) sl_22 h.D.slh) ?_
   refine zlv (xlr (u := .int .i64 (p.D i)) pl_3 (h.D.below hS.below)) ?_
   have hbv := h.iD i
   refine zlv xlss ?_
   refine zlt ?_
   refine zcif ?_ ?_ <;> intro hc
   ·
    refine zsr ?_
    refine zlv xas ?_
    refine zlt <| zrt <| zbr <| ztr <| ztr <| zbr <| ztr <| zf1 ⟨_, rfl, ?_⟩
    refine ⟨false_B ?_, hS.nl⟩
    rcases hmdmd1 with ⟨g1, g2, g3⟩ | ⟨g1, g2, g3, g4⟩
    · exact fun hh => g1 hh.1
    · intro hh; subst g3; have h9 := hh.2 i h0 (by omega); omega
   refine zsk <| zbn <| ztn <| zrg ?_
   refine zlv (xadd (r := i + 1)) ?_
   refine zlv xmv ?_
   refine zln <| zlq ⟨i + 1, rfl, (by omega), (by omega), ?_, rfl, hS⟩
   ·
    intro k h0' h1'; rcases Int.lt_or_eq_of_le (show k ≤ i by omega) with hk | hk; exact hall k h0' hk; rw [hk]; omega
  refine zxt <| ztx <| ztx <| zbh <| ztn <| zsr ?_
  refine zs3 ?_
  refine zlt <| zrt <| zf1 ⟨_, rfl, ?_⟩
  refine ⟨B_congr ?_, hS.nl⟩
  rcases hmdmd1 with ⟨g1, g2, g3⟩ | ⟨g1, g2, g3, g4⟩
  · exact ⟨fun hh => by omega, fun hh => absurd hh.1 g1⟩
  · exact ⟨fun _ => ⟨g1, fun j j0 j1 => by have := hall j j0 (by omega); rw [g3] at this; exact this⟩, fun _ => by omega⟩
def dwnN (u : Int) : Nat → List Int
  | 0 => []
  | t + 1 => dwnN u t ++ [u - 1 - t]
def dwn (u x : Int) : List Int := dwnN u (u - 1 - x).toNat
theorem dwn_next {u x : Int} (h : x < u) : dwn u (x - 1) = dwn u x ++ [x] := by
  unfold dwn
  rw [show (u - 1 - (x - 1)).toNat = (u - 1 - x).toNat + 1 by omega, dwnN, show u - 1 - ((u - 1 - x).toNat : Int) = x by omega]
theorem dwn_start (u : Int) : dwn u (u - 1) = [] := by
  unfold dwn; rw [show (u - 1 - (u - 1)).toNat = 0 by omega]; rfl
def brsOf (ln : Int → Int) (pt : Int → Int → Int) (cnt : Int → Int) (l : List Int) : List (List Int) := l.flatMap fun i => List.replicate (cnt i).toNat (lst (ln i) (pt i))
theorem brsOf_snoc (ln : Int → Int) (pt : Int → Int → Int) (cnt : Int → Int) (l : List Int) (x : Int) : brsOf ln pt cnt (l ++ [x]) = brsOf ln pt cnt l ++ List.replicate (cnt x).toNat (lst (ln x) (pt x)) := by simp [brsOf]
theorem brs_len {ln cnt : Int → Int} {pt : Int → Int → Int} {u : Int} (u0 : 0 ≤ u) (hc : ∀ k, 0 ≤ k → k < u → 0 ≤ cnt k) : ∀ t : Nat, (t : Int) ≤ u → ((brsOf ln pt cnt (dwnN u t)).length : Int) = psum (fun _ => 1) cnt u.toNat - psum (fun _ => 1) cnt (u - t).toNat
  | 0, _ => by simp [dwnN, brsOf]
  | t + 1, ht => by
    have h1 := brs_len (ln := ln) (pt := pt) u0 hc t (by omega)
    have h2 := hc (u - 1 - t) (by omega) (by omega)
    have h3 := psum_next (fun _ => 1) cnt (i := u - 1 - t) (by omega)
    rw [dwnN, brsOf_snoc, List.length_append, List.length_replicate]
    rw [show u - 1 - (t : Int) + 1 = u - t by omega] at h3
    rw [show u - ((t + 1 : Nat) : Int) = u - 1 - t by omega]
    push_cast
    rw [h1, h3, Int.toNat_of_nonneg h2]; omega
theorem brs_pos {ln cnt : Int → Int} {pt : Int → Int → Int} {u x c : Int} (hc : ∀ k, 0 ≤ k → k < u → 0 ≤ cnt k) (x0 : 0 ≤ x) (x1 : x < u) (c0 : 0 ≤ c) (c1 : c < cnt x) : ((brsOf ln pt cnt (dwn u x) ++ List.replicate c.toNat (lst (ln x) (pt x))).length : Int) < psum (fun _ => 1) cnt u.toNat := by
  have h1 := brs_len (ln := ln) (pt := pt) (by omega) hc (u - 1 - x).toNat (by omega)
  have h2 := psum_next (fun _ => 1) cnt x0
  have h3 := psum_mono (d := cnt) (f := fun _ => 1) (i := 0) (n := x.toNat) (by omega) fun k hk => by have := hc k (by omega) (by omega); omega
  rw [List.length_append, List.length_replicate]
  unfold dwn
  push_cast
  rw [h1, show (u - ((u - 1 - x).toNat : Int)).toNat = (x + 1).toNat by omega, h2]
  simp only [psum] at h3
  omega
theorem c_backw {vV : Value} {u : Int} {pv : Int → Value} {ln : Int → Int} {pt : Int → Int → Int} {cnt : Int → Int} (w0 : World) (hV : VAt w0 vV u pv ln pt cnt) :
    Calls Try.prog 107 [vV].toArray w0 fun e w => ∃ v, e = .returned v ∧ ∃ g, v = .func (.func 118) #[] #[.pointer (some ⟨g, 0, none⟩)] ∧ Sat w0 w [.blk g [vV]] := by
  refine zenG Try.func107 Try.ntmps107 fun w hS => ?_
  refine zsr ?_
  refine zla (xbx (cs := [_]) hS (hc := Slh.cells hV.row.slh)) ?_; rintro _ w ⟨g1, rfl, hS⟩
  replace hS := hS.n1
  refine zlv xas ?_
  refine zlz ?_
  refine zlv xmf ?_
  refine zlv xas ?_
  refine zlt <| zrt <| zf1 ⟨_, rfl, ?_⟩
  exact ⟨_, rfl, hS⟩
set_option maxRecDepth 20000 in
theorem c_back1 {vV : Value} {u : Int} {pv : Int → Value} {ln : Int → Int} {pt : Int → Int → Int} {cnt : Int → Int} {gq : Nat} {St : Type} (hist : St → List Int) (Inv : St → Prop) (s0 : St) (hs0 : hist s0 = []) (hI0 : Inv s0) (w0 : World) (hsV : Slh vV u) (hrV : ∀ k, 0 ≤ k → k < u → Slh (pv k) (ln k)) : ItC (St := St) (X := Int) (Tt := Unit) Try.prog w0 118 [.pointer (some ⟨gq, 0, none⟩)] [.blk gq [vV], .own vV 2 50 u (ucells pv cnt), .sem (Frame.rows 3 u pv ln pt)] (fun x => [.int .i64 x, .agg #[pv x, .int .i64 (cnt x)]]) (fun s x rest => Inv s ∧ 0 ≤ x ∧ x < u ∧ hist s = dwn u x) (fun s x s1 => hist s1 = hist s ++ [x] ∧ Inv s1) (fun _ _ _ => False) (s0) (fun s rest => Inv s ∧ hist s = dwn u (-1)) (fun _ _ => False) := by
  intro l C D w hS hY
  have hu := hsV.n0; have hu1 := hsV.n1
  refine henI Try.func118 Try.ntmps118 ?_
  refine hsq <| hrz ?_
  refine zlv (xlb 1 pl_43 hS) ?_
  refine zlv (xln sl_43 hsV) ?_
  refine zlv (xsub (r := u - 1)) ?_
  refine zlv xas ?_
  refine zln <| zh <| htn <| hbk <| hlp (fun mm M w => ∃ (s : St) (i : Int), mm = ((i + 1).toNat) ∧ (-1 ≤ i) ∧ (i < u) ∧ (Inv s) ∧ (hist s = dwn u i) ∧ M = [(0, .func (.yield l) #[] #[]), (1, .pointer (some ⟨gq, 0, none⟩)), (3, .int .i64 i)] ∧ Sat w0 w [.sem (C s), .blk gq [vV], .own vV 2 50 u (ucells pv cnt), .sem (Frame.rows 3 u pv ln pt)]) ⟨s0, u - 1, rfl, (by omega), (by omega), ?_, ?_, rfl, hS⟩ ?_
  ·
   exact hI0
  ·
   rw [hs0]; exact (dwn_start u).symm
  clear hS w
  rintro mm M w ⟨s, i, rfl, h0, h1, hI, hh, rfl, hS⟩
  refine hsq <| hsq <| hrz ?_
  refine zs2 ?_
  refine zln <| zh <| htn ?_
  refine hcif ?_ ?_ <;> intro hc
  ·
   refine hsk <| htn <| hsq <| hbk <| hsq <| hrg ?_
   iterate 2 refine hlv xmv ?_
   refine hlv (xlb 1 pl_43 hS) ?_
   refine hlv xmv ?_
   refine hlv (xix (kk := 2 * i) sl_43 hsV) ?_
   refine hlv (xlw (cs := [(pv i), .int .i64 (cnt i)]) st_50 (hS.rowN 2 rfl) (ucells_at (k := 2 * i) (i := i) pv cnt (by omega))) ?_
   refine hly (hY s i _ w ⟨hI, by omega, by omega, hh⟩ (Sat.bundle (l1 := [_, _, _, _]) (l2 := []) hS)) ?_; rintro _ w (⟨rfl, sy1, hny1, hS⟩ | ⟨rfl, ty1, hdy1, hS⟩)
   ·
    replace hS := Sat.unbundle (l1 := [_, _, _, _]) (l3 := []) hS
    replace hS := hS.n4
    refine hlv xnt ?_
    refine hln <| htn <| hcf <| hsk <| zbn <| htn <| hrz ?_
    refine zlv xmv ?_
    refine zlv (xsub (r := i - 1)) ?_
    refine zlv xas ?_
    refine zln <| zh <| hlq ⟨sy1, i - 1, rfl, (by omega), (by omega), ?_, ?_, rfl, hS⟩
    ·
     exact hny1.2
    ·
     rw [hny1.1, hh]; exact (dwn_next h1).symm
   ·
    replace hS := Sat.unbundle (l1 := [_, _, _, _]) (l3 := []) hS
    replace hS := hS.n4
    refine hlv xnf ?_
    refine hln <| htn <| hct <| hrt <| zbr <| ztr <| ztr <| zbr <| zf0 ⟨_, rfl, ?_⟩
    exact hdy1.elim
  refine hxt <| ztx <| ztx <| zbh <| zfn0 ⟨_, rfl, ?_⟩
  exact .inl ⟨s, _, ⟨hI, by rw [hh, show i = -1 by omega]⟩, Sat.bundle (l1 := [_, _, _, _]) (l2 := []) hS⟩
structure BX where
  v : Value
  n : Int
  f : Int → Int
set_option maxHeartbeats 4000000 in
set_option maxRecDepth 20000 in
theorem c_bars1 {vV : Value} {u : Int} {pv : Int → Value} {ln : Int → Int} {pt : Int → Int → Int} {cnt : Int → Int} {gq : Nat} {St : Type} (hist : St → List (List Int)) (Inv : St → Prop) (s0 : St) (hs0 : hist s0 = []) (hI0 : Inv s0) (w0 : World) (hsV : Slh vV u) (hrV : ∀ k, 0 ≤ k → k < u → Slh (pv k) (ln k)) (hlc : ∀ k, 0 ≤ k → k < u → ln k ≤ 1000000) (hcn : ∀ k, 0 ≤ k → k < u → 0 ≤ cnt k ∧ cnt k ≤ 1000000000) : ItG (St := St) (X := BX) (Tt := Unit) Try.prog w0 106 [.pointer (some ⟨gq, 0, none⟩)] [.blk gq [vV], .own vV 2 50 u (ucells pv cnt), .sem (Frame.rows 3 u pv ln pt)] (fun x => [x.v]) (fun x => [.own x.v 1 3 x.n (ints x.f)]) (fun s x rest => Inv s ∧ Slh x.v x.n ∧ ((hist s).length : Int) < psum (fun _ => 1) cnt u.toNat ∧ ∃ i, 0 ≤ i ∧ i < u ∧ x.n = ln i ∧ x.f = pt i) (fun s x s1 => hist s1 = hist s ++ [lst x.n x.f] ∧ Inv s1) (fun _ _ _ => False) (s0) (fun s rest => Inv s ∧ hist s = brsOf ln pt cnt (dwn u (-1))) (fun _ _ => False) := by
  intro l C D w hS hY
  have hu := hsV.n0; have hu1 := hsV.n1
  refine henIM Try.func106 Try.ntmps106 ?_
  refine hsq <| hrz ?_
  refine zla (xbx (cs := [_]) hS) ?_; rintro _ w ⟨g1, rfl, hS⟩
  replace hS := hS.n5
  refine zln <| zh <| htn <| hsq <| hrz ?_
  refine zlv (xlb 1 pl_43 hS) ?_
  refine zlc (xc0 cl_107) (c_backw (u := u) (pv := pv) (ln := ln) (pt := pt) (cnt := cnt) w (⟨(hS.rowN 2 rfl), fun k k0 k1 => hS.rowIn 3 rfl k0 k1, fun k k0 k1 => hS.roomIn 3 rfl k0 k1⟩ : VAt _ vV u pv ln pt cnt)) ?_; rintro _ w ⟨g2, rfl, hS'⟩
  replace hS : Sat w0 w [.sem (C s0), .blk gq [vV], .own vV 2 50 u (ucells pv cnt), .sem (Frame.rows 3 u pv ln pt), .blk g1 [.func (.yield l) #[] #[]], .blk g2 [vV]] := hS.comp hS'; clear hS'
  refine zln <| zh <| htn <| hbk <| ?_
  refine hrf (St := St × List Int) (X := Int) (Tt := Unit) (fun s => [.sem (C s.1), .blk gq [vV], .blk g1 [.func (.yield l) #[] #[]]]) (fun t => []) (fun _ => .ret) (s0, []) (fun x M es => ∃ (g3 : Nat), M = [(0, .func (.yield l) #[] #[]), (1, .pointer (some ⟨gq, 0, none⟩)), (2, .pointer (some ⟨g1, 0, none⟩)), (5, vV), (6, .func (.func 118) #[] #[.pointer (some ⟨g2, 0, none⟩)]), (7, .int .i64 x), (8, .agg #[(pv x), .int .i64 (cnt x)]), (4, .pointer (some ⟨g3, 0, none⟩))] ∧ es = [.blk g3 [(pv x), .int .i64 (cnt x)]]) (c_back1 (gq := g2) (fun s => s.2) (fun s => Inv s.1 ∧ hist s.1 = brsOf ln pt cnt s.2) (s0, []) rfl ⟨hI0, hs0⟩ w0 hsV hrV) (hS.pk [0, 1, 4, 5, 2, 3]) cl_118 (fun _ => rfl) (fun _ => .inl rfl) ?_ ?_ ?_ ?_
  ·
   intro lq s x rest w hpre rest1 hrr hS
   obtain ⟨⟨hI1, hh1⟩, x0, x1, hs2⟩ := hpre
   have hlx := hlc x x0 x1; have hcx := hcn x x0 x1
   replace hS := hS.n7
   refine hrz ?_
   refine zla (xal (cs := [_, _]) el_50 hS) ?_; rintro _ w ⟨g3, rfl, hS⟩
   replace hS := hS.n8
   refine zle (xsw 7 st_50 hS (hd := (ones_cons (hrV x (by omega) (by omega)).one (ones_cons rfl ones_nil)))) ?_; clear hS; rintro w hS
   replace hS := hS.n8
   refine zln <| zh <| hasg ⟨g3, rfl, rfl⟩ hS
  ·
   rintro lq s x _ _ rest w hpre ⟨g3, rfl, rfl⟩ rest1 hrr hS
   obtain ⟨⟨hI1, hh1⟩, x0, x1, hs2⟩ := hpre
   have hlx := hlc x x0 x1; have hcx := hcn x x0 x1
   replace hS := hS.n8
   refine hbk <| hsq <| hrz ?_
   refine zlv (xfb 1 fd_50_1) ?_
   refine zlv (xlb 7 pl_3 hS) ?_
   refine zlv xmv ?_
   refine zln <| zh <| htn <| hbk <| hlp (fun mm M w => ∃ (s3 : St) (c : Int), mm = ((cnt x - c).toNat) ∧ (0 ≤ c) ∧ (c ≤ cnt x) ∧ (Inv s3) ∧ (hist s3 = brsOf ln pt cnt s.2 ++ List.replicate c.toNat (lst (ln x) (pt x))) ∧ M = [(2, .pointer (some ⟨g1, 0, none⟩)), (4, .pointer (some ⟨g3, 0, none⟩)), (10, .int .i64 (cnt x)), (11, .int .i64 c)] ∧ Sat w0 w [.sem (C s3), .blk gq [vV], .blk g1 [.func (.yield l) #[] #[]], .blk g2 [vV], .own vV 2 50 u (ucells pv cnt), .sem (Frame.rows 3 u pv ln pt), .sem rest1, .blk g3 [(pv x), .int .i64 (cnt x)]]) ⟨s.1, 0, rfl, (by omega), (by omega), ?_, ?_, rfl, hS⟩ ?_
   ·
    exact hI1
   ·
    rw [hh1]; simp
   clear hS w
   rintro mm M w ⟨s3, c, rfl, c0, c1, hI3, hh3, rfl, hS⟩
   refine hsq <| hrz ?_
   refine zlv xlss ?_
   refine zln <| zh <| htn <| hsq ?_
   refine hcif ?_ ?_ <;> intro hc
   ·
    refine hsk <| htn <| hsq <| hbk <| hsq ?_
    refine hdr 6 mx_ hS ?_; clear hS; intro w hS
    refine hd2 0 1 ?_ ?_
    ·
     refine hov (xlb 2 pl_75 hS) ?_
     refine hd1 1 ?_
     refine hov (xfb 0 fd_50_0) ?_
     refine hd1 2 ?_
     refine hov (xlb 7 pl_22 hS) ?_
     refine hd1 3 ?_
     refine hoc (xc0 cl_42) (c_clone (n := (ln x)) (f := (pt x)) w (hS.rowIn (k := x) 5 rfl (by omega) (by omega)) (by omega)) ?_; rintro vq1 w ⟨_, rfl, hslq1, hS'⟩
     replace hS : Sat w0 w [.sem (C s3), .blk gq [vV], .blk g1 [.func (.yield l) #[] #[]], .blk g2 [vV], .own vV 2 50 u (ucells pv cnt), .sem (Frame.rows 3 u pv ln pt), .sem rest1, .blk g3 [(pv x), .int .i64 (cnt x)], .own vq1 1 3 (ln x) (ints (pt x))] := hS.comp hS'; clear hS'
     refine hd1 4 ?_
     replace hS := hS.pk [0, 1, 4, 5, 2, 3, 6, 7, 8]
     replace hS := hS.n9
     replace hS := hS.pk [0, 1, 2, 3, 8, 4, 5, 6, 7]
     replace hS := hS.n9
     refine hoy (hY s3 ⟨vq1, ln x, pt x⟩ _ w ⟨hI3, hslq1, by rw [hh3, hs2]; exact brs_pos (fun k k0 k1 => (hcn k k0 k1).1) x0 x1 c0 (by omega), x, x0, x1, rfl, rfl⟩ (Sat.bundle (l1 := [_, _, _, _, _]) hS)) ?_; rintro _ w (⟨rfl, sy1, hny1, hS⟩ | ⟨rfl, ty1, hdy1, hS⟩)
     ·
      replace hS := Sat.unbundle (l1 := [_, _, _, _]) (l3 := []) hS
      replace hS := hS.n8
      refine hd1 5 ?_
      refine hov xnt ?_
      refine hd0 <| htn <| hcf <| hsk <| zbn <| htn <| hrz ?_
      refine zlv (xadd (r := c + 1)) ?_
      refine zlv xmv ?_
      refine zln <| zh <| hlq ⟨sy1, c + 1, rfl, (by omega), (by omega), ?_, ?_, rfl, hS.pk [0, 1, 4, 5, 2, 3, 6, 7]⟩
      ·
       exact hny1.2
      ·
       rw [hny1.1, hh3, show (c + 1).toNat = c.toNat + 1 by omega, List.replicate_succ', List.append_assoc]
     ·
      replace hS := Sat.unbundle (l1 := [_, _, _, _]) (l3 := []) hS
      replace hS := hS.n8
      refine hd1 5 ?_
      refine hov xnf ?_
      refine hd0 <| htn <| hct <| hrt <| zbr <| ztr <| ztr <| zbr <| zbr <| hrdR () hdy1.elim rfl (hS.pk [5, 2, 3, 6])
    ·
     refine hov (xfb 0 fd_50_0) ?_
     refine hd2 0 2 ?_ ?_
     ·
      refine hov (xlb 2 pl_75 hS) ?_
      refine hd1 2 ?_
      refine hov (xlb 7 pl_22 hS) ?_
      refine hd1 3 ?_
      refine hoc (xc0 cl_42) (c_clone (n := (ln x)) (f := (pt x)) w (hS.rowIn (k := x) 5 rfl (by omega) (by omega)) (by omega)) ?_; rintro vq1 w ⟨_, rfl, hslq1, hS'⟩
      replace hS : Sat w0 w [.sem (C s3), .blk gq [vV], .blk g1 [.func (.yield l) #[] #[]], .blk g2 [vV], .own vV 2 50 u (ucells pv cnt), .sem (Frame.rows 3 u pv ln pt), .sem rest1, .blk g3 [(pv x), .int .i64 (cnt x)], .own vq1 1 3 (ln x) (ints (pt x))] := hS.comp hS'; clear hS'
      refine hd1 4 ?_
      replace hS := hS.pk [0, 1, 4, 5, 2, 3, 6, 7, 8]
      replace hS := hS.n9
      replace hS := hS.pk [0, 1, 2, 3, 8, 4, 5, 6, 7]
      replace hS := hS.n9
      refine hoy (hY s3 ⟨vq1, ln x, pt x⟩ _ w ⟨hI3, hslq1, by rw [hh3, hs2]; exact brs_pos (fun k k0 k1 => (hcn k k0 k1).1) x0 x1 c0 (by omega), x, x0, x1, rfl, rfl⟩ (Sat.bundle (l1 := [_, _, _, _, _]) hS)) ?_; rintro _ w (⟨rfl, sy1, hny1, hS⟩ | ⟨rfl, ty1, hdy1, hS⟩)
      ·
       replace hS := Sat.unbundle (l1 := [_, _, _, _]) (l3 := []) hS
       replace hS := hS.n8
       refine hd1 5 ?_
       refine hov xnt ?_
       refine hd0 <| htn <| hcf <| hsk <| zbn <| htn <| hrz ?_
       refine zlv (xadd (r := c + 1)) ?_
       refine zlv xmv ?_
       refine zln <| zh <| hlq ⟨sy1, c + 1, rfl, (by omega), (by omega), ?_, ?_, rfl, hS.pk [0, 1, 4, 5, 2, 3, 6, 7]⟩
       ·
        exact hny1.2
       ·
        rw [hny1.1, hh3, show (c + 1).toNat = c.toNat + 1 by omega, List.replicate_succ', List.append_assoc]
      ·
       replace hS := Sat.unbundle (l1 := [_, _, _, _]) (l3 := []) hS
       replace hS := hS.n8
       refine hd1 5 ?_
       refine hov xnf ?_
       refine hd0 <| htn <| hct <| hrt <| zbr <| ztr <| ztr <| zbr <| zbr <| hrdR () hdy1.elim rfl (hS.pk [5, 2, 3, 6])
     ·
      refine hov (xlb 7 pl_22 hS) ?_
      refine hd2 0 3 ?_ ?_
      ·
       refine hov (xlb 2 pl_75 hS) ?_
       refine hd1 3 ?_
       refine hoc (xc0 cl_42) (c_clone (n := (ln x)) (f := (pt x)) w (hS.rowIn (k := x) 5 rfl (by omega) (by omega)) (by omega)) ?_; rintro vq1 w ⟨_, rfl, hslq1, hS'⟩
       replace hS : Sat w0 w [.sem (C s3), .blk gq [vV], .blk g1 [.func (.yield l) #[] #[]], .blk g2 [vV], .own vV 2 50 u (ucells pv cnt), .sem (Frame.rows 3 u pv ln pt), .sem rest1, .blk g3 [(pv x), .int .i64 (cnt x)], .own vq1 1 3 (ln x) (ints (pt x))] := hS.comp hS'; clear hS'
       refine hd1 4 ?_
       replace hS := hS.pk [0, 1, 4, 5, 2, 3, 6, 7, 8]
       replace hS := hS.n9
       replace hS := hS.pk [0, 1, 2, 3, 8, 4, 5, 6, 7]
       replace hS := hS.n9
       refine hoy (hY s3 ⟨vq1, ln x, pt x⟩ _ w ⟨hI3, hslq1, by rw [hh3, hs2]; exact brs_pos (fun k k0 k1 => (hcn k k0 k1).1) x0 x1 c0 (by omega), x, x0, x1, rfl, rfl⟩ (Sat.bundle (l1 := [_, _, _, _, _]) hS)) ?_; rintro _ w (⟨rfl, sy1, hny1, hS⟩ | ⟨rfl, ty1, hdy1, hS⟩)
       ·
        replace hS := Sat.unbundle (l1 := [_, _, _, _]) (l3 := []) hS
        replace hS := hS.n8
        refine hd1 5 ?_
        refine hov xnt ?_
        refine hd0 <| htn <| hcf <| hsk <| zbn <| htn <| hrz ?_
        refine zlv (xadd (r := c + 1)) ?_
        refine zlv xmv ?_
        refine zln <| zh <| hlq ⟨sy1, c + 1, rfl, (by omega), (by omega), ?_, ?_, rfl, hS.pk [0, 1, 4, 5, 2, 3, 6, 7]⟩
        ·
         exact hny1.2
        ·
         rw [hny1.1, hh3, show (c + 1).toNat = c.toNat + 1 by omega, List.replicate_succ', List.append_assoc]
       ·
        replace hS := Sat.unbundle (l1 := [_, _, _, _]) (l3 := []) hS
        replace hS := hS.n8
        refine hd1 5 ?_
        refine hov xnf ?_
        refine hd0 <| htn <| hct <| hrt <| zbr <| ztr <| ztr <| zbr <| zbr <| hrdR () hdy1.elim rfl (hS.pk [5, 2, 3, 6])
      ·
       refine hoc (xc0 cl_42) (c_clone (n := (ln x)) (f := (pt x)) w (hS.rowIn (k := x) 5 rfl (by omega) (by omega)) (by omega)) ?_; rintro vq1 w ⟨_, rfl, hslq1, hS'⟩
       replace hS : Sat w0 w [.sem (C s3), .blk gq [vV], .blk g1 [.func (.yield l) #[] #[]], .blk g2 [vV], .own vV 2 50 u (ucells pv cnt), .sem (Frame.rows 3 u pv ln pt), .sem rest1, .blk g3 [(pv x), .int .i64 (cnt x)], .own vq1 1 3 (ln x) (ints (pt x))] := hS.comp hS'; clear hS'
       refine hd1 0 ?_
       refine hov (xlb 2 pl_75 hS) ?_
       refine hd1 4 ?_
       replace hS := hS.pk [0, 1, 4, 5, 2, 3, 6, 7, 8]
       replace hS := hS.n9
       replace hS := hS.pk [0, 1, 2, 3, 8, 4, 5, 6, 7]
       replace hS := hS.n9
       refine hoy (hY s3 ⟨vq1, ln x, pt x⟩ _ w ⟨hI3, hslq1, by rw [hh3, hs2]; exact brs_pos (fun k k0 k1 => (hcn k k0 k1).1) x0 x1 c0 (by omega), x, x0, x1, rfl, rfl⟩ (Sat.bundle (l1 := [_, _, _, _, _]) hS)) ?_; rintro _ w (⟨rfl, sy1, hny1, hS⟩ | ⟨rfl, ty1, hdy1, hS⟩)
       ·
        replace hS := Sat.unbundle (l1 := [_, _, _, _]) (l3 := []) hS
        replace hS := hS.n8
        refine hd1 5 ?_
        refine hov xnt ?_
        refine hd0 <| htn <| hcf <| hsk <| zbn <| htn <| hrz ?_
        refine zlv (xadd (r := c + 1)) ?_
        refine zlv xmv ?_
        refine zln <| zh <| hlq ⟨sy1, c + 1, rfl, (by omega), (by omega), ?_, ?_, rfl, hS.pk [0, 1, 4, 5, 2, 3, 6, 7]⟩
        ·
         exact hny1.2
        ·
         rw [hny1.1, hh3, show (c + 1).toNat = c.toNat + 1 by omega, List.replicate_succ', List.append_assoc]
       ·
        replace hS := Sat.unbundle (l1 := [_, _, _, _]) (l3 := []) hS
        replace hS := hS.n8
        refine hd1 5 ?_
        refine hov xnf ?_
        refine hd0 <| htn <| hct <| hrt <| zbr <| ztr <| ztr <| zbr <| zbr <| hrdR () hdy1.elim rfl (hS.pk [5, 2, 3, 6])
   refine hxt <| ztx <| ztx <| zbh <| zbn <| hrdN (s3, s.2 ++ [x]) ⟨rfl, hI3, by show hist s3 = _; rw [hh3, brsOf_snoc, show c.toNat = (cnt x).toNat by omega]⟩ (hS.pk [0, 1, 2, 3, 4, 5, 6])
  ·
   intro Dk s rest w hfin hS
   replace hS := hS.n8
   refine zbn <| hmkn1 7 hS fun w hS => zfn0 ⟨_, rfl, ?_⟩
   replace hS := hS.pk [0, 1, 4, 5, 2, 3, 6, 7]
   exact .inl ⟨s.1, _, ⟨hfin.1.1, by rw [hfin.1.2, hfin.2]⟩, Sat.bundle (l1 := [_, _, _, _]) hS⟩
  ·
   intro Dk t rest w hfin hS
   replace hS := hS.n5
   exact hfin.elim
theorem c_pbarsq {vV : Value} {u : Int} {pv : Int → Value} {ln : Int → Int} {pt : Int → Int → Int} {cnt : Int → Int} (w0 : World) (hV : VAt w0 vV u pv ln pt cnt) :
    Calls Try.prog 84 [vV].toArray w0 fun e w => ∃ v, e = .returned v ∧ ∃ g, v = .func (.func 106) #[] #[.pointer (some ⟨g, 0, none⟩)] ∧ Sat w0 w [.blk g [vV]] := by
  refine zenG Try.func84 Try.ntmps84 fun w hS => ?_
  refine zsr ?_
  refine zla (xbx (cs := [_]) hS (hc := Slh.cells hV.row.slh)) ?_; rintro _ w ⟨g1, rfl, hS⟩
  replace hS := hS.n1
  refine zlv xas ?_
  refine zlz ?_
  refine zlv xmf ?_
  refine zlv xas ?_
  refine zlt <| zrt <| zf1 ⟨_, rfl, ?_⟩
  exact ⟨_, rfl, hS⟩
def tA (a m : List Int) : List Int := List.zipWith (fun x y => x - min x y) a m
def tM (a m : List Int) : List Int := List.zipWith (fun x y => y - min x y) a m
def tStep (s : List Int × Us) (a : List Int) : List Int × Us := (tM a s.1, if (tA a s.1).any (fun x => decide (0 < x)) then s.2 ++ [(tA a s.1, 1)] else s.2)
def tRun (m0 : List Int) (h : List (List Int)) : List Int × Us := h.foldl tStep (m0, [])
theorem tRun_snoc (m0 : List Int) (h : List (List Int)) (a : List Int) : tRun m0 (h ++ [a]) = tStep (tRun m0 h) a := by simp [tRun]
theorem zip_lst (F : Int → Int → Int) (n : Int) (f g : Int → Int) : List.zipWith F (lst n f) (lst n g) = lst n fun k => F (f k) (g k) := by
  apply List.ext_getElem?
  intro k
  rw [List.getElem?_zipWith, lst_get, lst_get, lst_get]
  by_cases hk : (k : Int) < n
  · rw [if_pos hk, if_pos hk, if_pos hk]
  · rw [if_neg hk, if_neg hk, if_neg hk]
theorem any_lst {n : Int} {f : Int → Int} : (lst n f).any (fun x => decide (0 < x)) = true ↔ ∃ k, 0 ≤ k ∧ k < n ∧ 0 < f k := by
  rw [List.any_eq_true]
  constructor
  · rintro ⟨x, hx, h0⟩
    unfold lst at hx
    obtain ⟨k, hk, rfl⟩ := List.mem_map.1 hx
    have := List.mem_range.1 hk
    exact ⟨(k : Int), by omega, by omega, by simpa using h0⟩
  · rintro ⟨k, k0, k1, h⟩
    refine ⟨f k, ?_, by simpa using h⟩
    have := lst_get n f k.toNat
    rw [Int.toNat_of_nonneg k0, if_pos k1] at this
    exact List.mem_of_getElem? this
def brsU (l : Us) : List (List Int) := l.reverse.flatMap fun u => List.replicate u.2.toNat u.1
theorem dwnN_cons (u : Int) : ∀ t : Nat, dwnN (u + 1) (t + 1) = u :: dwnN u t
  | 0 => by simp [dwnN]
  | t + 1 => by
    rw [dwnN, dwnN_cons u t, dwnN, List.cons_append]
    congr 2
    congr 1
    push_cast; omega
theorem brsOf_plL (ln : Int → Int) (pt : Int → Int → Int) (cnt : Int → Int) {n : Int} (n0 : 0 ≤ n) : brsOf ln pt cnt (dwn n (-1)) = brsU (plL n ln pt cnt) := by
  obtain ⟨k, rfl⟩ := Int.eq_ofNat_of_zero_le n0
  have e : ∀ k : Nat, (dwnN (k : Int) k).map (fun i => (lst (ln i) (pt i), cnt i)) = (plL (k : Int) ln pt cnt).reverse := by
    intro k
    induction k with
    | zero => simp [dwnN, plL]
    | succ k ih => rw [show ((k + 1 : Nat) : Int) = (k : Int) + 1 by omega, dwnN_cons, List.map_cons, ih, plL_next (by omega), List.reverse_append]; rfl
  unfold brsOf brsU dwn
  rw [show ((k : Int) - 1 - (-1)).toNat = k by omega, ← e k, List.flatMap_map]
structure TSt where
  h : List (List Int)
  M : Int → Int
  vO : Value
  n : Int
  vv : Int → Value
  P : Int → Int → Int
  C : Int → Int
def TInv (p : Prob) (m0 : List Int) (s : TSt) : Prop := (lst p.m s.M, plL s.n (fun _ => p.m) s.P s.C) = tRun m0 s.h ∧ Slh s.vO s.n ∧ (∀ k, 0 ≤ k → k < p.m → 0 ≤ s.M k ∧ s.M k ≤ 2000000000) ∧ s.n ≤ s.h.length ∧ ∀ k, 0 ≤ k → k < s.n → s.C k = 1
theorem TInv.yes {p : Prob} {m0 : List Int} {s : TSt} {a a2 M2 : Int → Int} (hs : (lst p.m s.M, plL s.n (fun _ => p.m) s.P s.C) = tRun m0 s.h) (n0 : 0 ≤ s.n) (ha : ∀ k, 0 ≤ k → k < p.m → a2 k = a k - min (a k) (s.M k)) (hM : ∀ k, 0 ≤ k → k < p.m → M2 k = s.M k - min (a k) (s.M k)) (hx : ∃ k, 0 ≤ k ∧ k < p.m ∧ 0 < a2 k) {P2 : Int → Int → Int} {C2 : Int → Int} (hP : ∀ k, 0 ≤ k → k < s.n → P2 k = s.P k) (hP2 : P2 s.n = a2) (hC : ∀ k, 0 ≤ k → k < s.n → C2 k = s.C k) (hC2 : C2 s.n = 1) :
    (lst p.m M2, plL (s.n + 1) (fun _ => p.m) P2 C2) = tRun m0 (s.h ++ [lst p.m a]) := by
  rw [tRun_snoc, ← hs]
  unfold tStep tM tA
  dsimp only
  rw [zip_lst, zip_lst, lst_congr (f := fun k => a k - min (a k) (s.M k)) (g := a2) fun k k0 k1 => (ha k k0 k1).symm, if_pos (any_lst.2 hx), lst_congr (f := fun k => s.M k - min (a k) (s.M k)) (g := M2) fun k k0 k1 => (hM k k0 k1).symm]
  congr 1
  exact plL_snoc (ln := fun _ => p.m) n0 (fun k k0 k1 => ⟨rfl, hC k k0 k1, hP k k0 k1⟩) rfl hC2 hP2
theorem TInv.no {p : Prob} {m0 : List Int} {s : TSt} {a a2 M2 : Int → Int} (hs : (lst p.m s.M, plL s.n (fun _ => p.m) s.P s.C) = tRun m0 s.h) (ha : ∀ k, 0 ≤ k → k < p.m → a2 k = a k - min (a k) (s.M k)) (hM : ∀ k, 0 ≤ k → k < p.m → M2 k = s.M k - min (a k) (s.M k)) (hx : ¬ ∃ k, 0 ≤ k ∧ k < p.m ∧ 0 < a2 k) :
    (lst p.m M2, plL s.n (fun _ => p.m) s.P s.C) = tRun m0 (s.h ++ [lst p.m a]) := by
  rw [tRun_snoc, ← hs]
  unfold tStep tM tA
  dsimp only
  rw [zip_lst, zip_lst, lst_congr (f := fun k => a k - min (a k) (s.M k)) (g := a2) fun k k0 k1 => (ha k k0 k1).symm, if_neg (fun h => hx (any_lst.1 h)), lst_congr (f := fun k => s.M k - min (a k) (s.M k)) (g := M2) fun k k0 k1 => (hM k k0 k1).symm]
def TrimR (p : Prob) (u : Int) (ln : Int → Int) (pt : Int → Int → Int) (cnt : Int → Int) (out : Us) (e : Int) : Prop :=
  (¬ PlanOk p u ln pt cnt ∧ out = [] ∧ e = 1) ∨ (PlanOk p u ln pt cnt ∧ ¬ (∀ j, 0 ≤ j → j < p.m → p.D j ≤ madeF u pt cnt j) ∧ out = [] ∧ e = 18) ∨
  (PlanOk p u ln pt cnt ∧ (∀ j, 0 ≤ j → j < p.m → p.D j ≤ madeF u pt cnt j) ∧ e = 0 ∧ ∃ N, NormR (plL u ln pt cnt) N ∧ NormR (tRun (lst p.m fun j => madeF u pt cnt j - p.D j) (brsU N)).2 out)
theorem norm_fits {p : Prob} {u n2 : Int} {ln cnt ln2 cnt2 : Int → Int} {pt pt2 : Int → Int → Int} (h : PlanOk p u ln pt cnt) (hN : NormR (plL u ln pt cnt) (plL n2 ln2 pt2 cnt2)) (hl2 : ∀ k, 0 ≤ k → k < n2 → 0 ≤ ln2 k) : ∀ k, 0 ≤ k → k < n2 → ln2 k = p.m ∧ ∀ j, 0 ≤ j → j < p.m → 0 ≤ pt2 k j ∧ pt2 k j ≤ 2000 := by
  intro k k0 k1
  have hm : (lst (ln2 k) (pt2 k), cnt2 k) ∈ plL n2 ln2 pt2 cnt2 := List.mem_iff_getElem?.2 ⟨k.toNat, by rw [plL_get, Int.toNat_of_nonneg k0, if_pos k1]⟩
  obtain ⟨y, hy, e1⟩ := hN.keys _ hm
  obtain ⟨i, hi⟩ := List.mem_iff_getElem?.1 hy
  rw [plL_get] at hi
  split at hi
  · rename_i hlt
    injection hi with hi
    obtain ⟨_, _, hf⟩ := h.2.2 i (by omega) hlt
    have hm1 := h.1.m1
    rw [← hi] at e1
    dsimp only at e1
    obtain ⟨q1, q2⟩ := (lst_eq (by have := hf.eq; omega) (hl2 k k0 k1)).1 e1
    refine ⟨by have := hf.eq; omega, fun j j0 j1 => ?_⟩
    rw [← q2 j j0 (by have := hf.eq; omega)]
    exact hf.all j j0 (by have := hf.eq; omega)
  · cases hi
theorem norm_bars {p : Prob} {u n2 : Int} {ln cnt ln2 cnt2 : Int → Int} {pt pt2 : Int → Int → Int} (u0 : 0 ≤ u) (n0 : 0 ≤ n2) (h : PlanOk p u ln pt cnt) (hN : NormR (plL u ln pt cnt) (plL n2 ln2 pt2 cnt2)) : psum (fun _ => 1) cnt2 n2.toNat ≤ 1000000 := by
  have h1 := hN.wsum fun _ => 1
  rw [wsum_plL' _ u0, wsum_plL' _ n0] at h1
  rw [h1]
  have key : ∀ t : Nat, (t : Int) ≤ u → psum (fun _ => 1) cnt t ≤ 1000 * t := by
    intro t
    induction t with
    | zero => intro _; simp [psum]
    | succ t ih => intro ht; have := ih (by omega); have := (h.2.2 t (by omega) (by omega)).2.1; simp only [psum]; push_cast; omega
  have h2 := key u.toNat (by omega)
  have h3 := h.2.1
  omega
theorem dnn9 {p : Prob} (hp : p.Ok) {k : Int} (k0 : 0 ≤ k) (k1 : k < p.m) : 0 ≤ p.D k ∧ p.D k ≤ 1000 := by
  have he := hp.all k k0 k1
  unfold Prob.each at he; omega
theorem snoc_ones {C : Int → Int} {n : Int} (h : ∀ k, 0 ≤ k → k < n → C k = 1) : ∀ k, 0 ≤ k → k < n + 1 → snoc C n 1 k = 1 := fun k k0 k1 => by
  by_cases e : k < n
  · rw [snoc_lt e]; exact h k k0 e
  · exact snoc_at e
theorem c_tpos {x : Int} (w0 : World) :
    Calls Try.prog 85 [.int .i64 x].toArray w0 fun e w => ∃ v, e = .returned v ∧ v = B (0 < x) ∧ Sat w0 w [] := by
  refine zenG Try.func85 Try.ntmps85 fun w hS => ?_
  refine zsr ?_
  refine zlv xas ?_
  refine zlz ?_
  refine zs3 ?_
  refine zlt <| zrt <| zf1 ⟨_, rfl, ?_⟩
  exact ⟨B_congr (by omega), hS⟩
set_option maxRecDepth 20000 in
theorem c_ixpos {v : Value} {n : Int} {f : Int → Int} (w0 : World) (hR : Row w0 v 1 n (ints f)) :
    Calls Try.prog 78 [v, .func (.func 85) #[] #[]].toArray w0 fun e w => ∃ v, e = .returned v ∧ ∃ r : Int, v = .int .i64 r ∧ ((r = -1 ∧ ∀ k, 0 ≤ k → k < n → ¬ (0 < f k)) ∨ (0 ≤ r ∧ r < n ∧ (0 < f r) ∧ ∀ k, 0 ≤ k → k < r → ¬ (0 < f k))) ∧ Sat w0 w [] := by
  have hn := hR.slh.n0; have hn1 := hR.slh.n1
  refine zenG Try.func78 Try.ntmps78 fun w hS => ?_
  refine zsr ?_
  refine zlv xas ?_
  refine zlt <| zsq <| zsr ?_
  refine zlv xmv ?_
  refine zlv (xln sl_22 hR.slh) ?_
  refine zlv xmv ?_
  refine zlt <| zbk <| zlp (fun mm M w => ∃ (i : Int), mm = ((n - i).toNat) ∧ (0 ≤ i) ∧ (i ≤ n) ∧ (∀ k, 0 ≤ k → k < i → ¬ (0 < f k)) ∧ M = [(0, v), (1, .func (.func 85) #[] #[]), (7, .int .i64 n), (8, .int .i64 i)] ∧ Sat w0 w []) ⟨0, rfl, (by omega), (by omega), ?_, rfl, hS⟩ ?_
  ·
   intro k h0 h1; omega
  clear hS w
  rintro mm M w ⟨i, rfl, h0, h1, hall, rfl, hS⟩
  refine zsr ?_
  refine zlv xlss ?_
  refine zlt <| zsq ?_
  refine zcif ?_ ?_ <;> intro hc
  ·
   refine zsk <| ztn <| zsq <| zbk <| zsr ?_
   refine zs2 ?_
   refine zlz ?_
   refine zs3 ?_
   refine zlv (xix (kk := i) sl_22 hR.slh) ?_
   refine zlv (xlr (u := .int .i64 (f i)) pl_3 (hR.below hS.below)) ?_
   refine zlc (xc0 cl_85) (c_tpos (x := (f i)) w) ?_; rintro _ w ⟨rfl, hS'⟩
   replace hS := hS.cmp hS'; clear hS'
   refine zlt ?_
   refine zcif ?_ ?_ <;> intro hc
   ·
    refine zsr ?_
    refine zs2 ?_
    refine zlt <| zrt <| zbr <| ztr <| ztr <| zbr <| ztr <| zf1 ⟨_, rfl, ?_⟩
    exact ⟨i, rfl, .inr ⟨by omega, by omega, ‹0 < f i›, hall⟩, hS⟩
   refine zsk <| zbn <| ztn <| zrg ?_
   refine zlv (xadd (r := i + 1)) ?_
   refine zlv xmv ?_
   refine zln <| zlq ⟨i + 1, rfl, (by omega), (by omega), ?_, rfl, hS⟩
   ·
    intro k h0' h1'; rcases Int.lt_or_eq_of_le (show k ≤ i by omega) with hk | hk; exact hall k h0' hk; rw [hk]; assumption
  refine zxt <| ztx <| ztx <| zbh <| ztn <| zsr ?_
  refine zlv xas ?_
  refine zlt <| zrt <| zf1 ⟨_, rfl, ?_⟩
  exact ⟨-1, rfl, .inl ⟨rfl, fun k h0 h1 => hall k h0 (by omega)⟩, hS⟩
set_option maxRecDepth 20000 in
theorem c_copos {v : Value} {n : Int} {f : Int → Int} (w0 : World) (hR : Row w0 v 1 n (ints f)) :
    Calls Try.prog 75 [v, .func (.func 85) #[] #[]].toArray w0 fun e w => ∃ v, e = .returned v ∧ v = B (∃ k, 0 ≤ k ∧ k < n ∧ 0 < f k) ∧ Sat w0 w [] := by
  refine zenG Try.func75 Try.ntmps75 fun w hS => ?_
  refine zsr ?_
  refine zlv xas ?_
  refine zlz ?_
  refine zs2 ?_
  refine zlc (xc0 cl_78) (c_ixpos (n := n) (f := f) w (hR.below hS.below)) ?_; rintro _ w ⟨r1, rfl, hr1, hS'⟩
  replace hS := hS.cmp hS'; clear hS'
  refine zs2 ?_
  refine zlt <| zrt <| zf1 ⟨_, rfl, ?_⟩
  exact ⟨B_congr (by
   rcases hr1 with ⟨h1, h2⟩ | ⟨h1, h2, h3, _⟩
   · exact ⟨fun h => by omega, fun ⟨k, h4, h5, h6⟩ => absurd h6 (h2 k h4 h5)⟩
   · exact ⟨fun _ => ⟨_, h1, h2, h3⟩, fun _ => h1⟩), hS⟩
set_option maxHeartbeats 4000000 in
set_option maxRecDepth 20000 in
theorem c_trim {vV : Value} {u : Int} {pv : Int → Value} {ln : Int → Int} {pt : Int → Int → Int} {cnt : Int → Int} {vL vD : Value} {p : Prob} (w0 : World) (hV : VAt w0 vV u pv ln pt cnt) (h : PAt w0 vL vD p) :
    Calls Try.prog 50 [.agg #[vL, vD, .int .i64 p.stock, .int .i64 p.kerf], vV].toArray w0 fun e w => ∃ v, e = .returned v ∧ ∃ r n2 pv2 ln2 pt2 cnt2 e, v = .tuple #[r, .int .i64 e] ∧ TrimR p u ln pt cnt (plL n2 ln2 pt2 cnt2) e ∧ (∀ k, 0 ≤ k → k < n2 → 1 ≤ cnt2 k ∧ cnt2 k ≤ 1000000000) ∧ n2 ≤ 1000000 ∧ Slh r n2 ∧ Sat w0 w [.own r 2 50 n2 (ucells pv2 cnt2), .sem (Frame.rows 3 n2 pv2 ln2 pt2)] := by
  have hm := h.L.slh.n0; have hm1 := h.L.slh.n1; have hd := h.D.slh.n0; have hd1 := h.D.slh.n1; have hs := h.is; have hk := h.ik
  have hu := hV.row.slh.n0; have hu1 := hV.row.slh.n1
  refine henM Try.func50 Try.ntmps50 fun w hS => ?_
  refine hsq <| hrz ?_
  refine zla (xbx (cs := [_, _, _, _]) hS) ?_; rintro _ w ⟨g1, rfl, hS⟩
  replace hS := hS.n1
  refine zs2 ?_
  refine zln <| zh <| htn <| hsq <| hrz ?_
  refine zlv (xls 0 st_39 hS) ?_
  refine zlv xmv ?_
  refine zlc (xc0 cl_49) (c_pmade (u := u) (pv := pv) (ln := ln) (pt := pt) (cnt := cnt) (p := p) w (hV.below hS.below) (h.below hS.below)) ?_; rintro _ w ⟨vdmd1, ndmd1, fdmd1, edmd1, rfl, hmdmd1, hvdmd1, hS'⟩
  replace hS : Sat w0 w [.blk g1 [vL, vD, .int .i64 p.stock, .int .i64 p.kerf], .own vdmd1 1 3 ndmd1 (ints fdmd1)] := hS.comp hS'; clear hS'
  refine zs3 ?_
  refine zla (xal (cs := [_]) el_22 hS) ?_; rintro _ w ⟨g2, rfl, hS⟩
  replace hS := hS.n3
  refine zle (xsb 2 pl_22 hS (hv := hvdmd1.one)) ?_; clear hS; rintro w hS
  replace hS := hS.n3
  refine zlv xas ?_
  refine zln <| zh <| htn <| hsq <| hsq <| hrz ?_
  refine zs2 ?_
  refine zln <| zh <| htn ?_
  refine hcif ?_ ?_ <;> intro hc
  ·
   refine hsq <| hrz ?_
   refine zs3 ?_
   refine zln <| zh <| htn <| hrt <| ztr <| hmk0 <| zf2 ⟨_, rfl, ?_⟩
   have hmd : ¬ PlanOk p u ln pt cnt ∧ edmd1 = 1 := by rcases hmdmd1 with ⟨g1, _, g3⟩ | ⟨_, _, _, g4⟩; exact ⟨g1, g3⟩; omega
   exact ⟨_, 0, fun _ => undef, fun _ => 0, fun _ _ => 0, fun _ => 0, _, rfl, .inl ⟨hmd.1, rfl, by omega⟩, fun k k0 k1 => by omega, by omega, slh_nil, ((hS.sub (.cons _ (.cons _ (.cons _ .slnil)))).addnil 2 50 (ucells (fun _ => undef) (fun _ => 0))).addrows 3 (fun _ => undef) (fun _ => 0) (fun _ _ => 0)⟩
  refine hsk <| htn <| hsq <| hsq <| hrz ?_
  refine zlv (xls 0 st_39 hS) ?_
  obtain ⟨hplo, hnd9, hfd9⟩ : PlanOk p u ln pt cnt ∧ ndmd1 = p.m ∧ fdmd1 = madeF u pt cnt := by rcases hmdmd1 with ⟨_, _, g3⟩ | ⟨g1, g2, g3, _⟩; omega; exact ⟨g1, g2, g3⟩
  have hpm1 := hplo.1.m1; have hpm2 := hplo.1.m2; have hpd := hplo.1.d; have hu3 := hplo.2.1
  refine zlv xmv ?_
  refine zlc (xc0 cl_83) (c_pmeets (u := u) (pv := pv) (ln := ln) (pt := pt) (cnt := cnt) (p := p) w (hV.below hS.below) (h.below hS.below)) ?_; rintro _ w ⟨rfl, hS'⟩
  replace hS := hS.cmp hS'; clear hS'
  refine zlv xnot ?_
  refine zln <| zh <| htn ?_
  refine hcif ?_ ?_ <;> intro hc
  ·
   refine hsq <| hrz ?_
   refine zs2 ?_
   refine zln <| zh <| htn <| hrt <| ztr <| hmk0 <| zf2 ⟨_, rfl, ?_⟩
   exact ⟨_, 0, fun _ => undef, fun _ => 0, fun _ _ => 0, fun _ => 0, _, rfl, .inr (.inl ⟨hplo, fun hh => ‹¬ (_ ∧ _)› ⟨hplo, hh⟩, rfl, rfl⟩), fun k k0 k1 => by omega, by omega, slh_nil, ((hS.sub (.cons _ (.cons _ (.cons _ .slnil)))).addnil 2 50 (ucells (fun _ => undef) (fun _ => 0))).addrows 3 (fun _ => undef) (fun _ => 0) (fun _ _ => 0)⟩
  refine hsk <| htn <| hsq <| hsq <| hrz ?_
  refine zlv (xlb 2 pl_22 hS) ?_
  have hmeet : ∀ j, 0 ≤ j → j < p.m → p.D j ≤ madeF u pt cnt j := (Classical.not_not.1 ‹¬ ¬ (_ ∧ _)›).2
  refine zlv (xln sl_22 hvdmd1) ?_
  refine zlv xmv ?_
  refine zln <| zh <| htn <| hbk <| hlp (fun mm M w => ∃ (fM : Int → Int) (i : Int), mm = ((ndmd1 - i).toNat) ∧ (0 ≤ i) ∧ (i ≤ ndmd1) ∧ (∀ k, 0 ≤ k → k < p.m → fM k = if k < i then madeF u pt cnt k - p.D k else madeF u pt cnt k) ∧ M = [(1, vV), (2, .pointer (some ⟨g1, 0, none⟩)), (4, .slice none 0 0), (5, .int .i64 0), (6, .pointer (some ⟨g2, 0, none⟩)), (27, .int .i64 ndmd1), (28, .int .i64 i)] ∧ Sat w0 w [.blk g1 [vL, vD, .int .i64 p.stock, .int .i64 p.kerf], .own vdmd1 1 3 ndmd1 (ints fM), .blk g2 [vdmd1]]) ⟨fdmd1, 0, rfl, (by omega), (by omega), ?_, rfl, hS⟩ ?_
  ·
   intro k k0 k1; rw [if_neg (by omega), hfd9]
  clear hS w
  rintro mm M w ⟨fM, i, rfl, h0, h1, hf, rfl, hS⟩
  refine hsq <| hrz ?_
  refine zlv xlss ?_
  refine zln <| zh <| htn <| hsq ?_
  refine hcif ?_ ?_ <;> intro hc
  ·
   refine hsk <| htn <| hsq <| hbk <| hsq <| hrz ?_
   refine zlv xmv ?_
   have hmi := madeF_rng hplo.2.2 hu (Int.le_refl _) (j := i) h0 (by omega)
   have hdi := dnn9 hplo.1 h0 (by omega : i < p.m)
   have hfi := hf i h0 (by omega)
   rw [if_neg (by omega)] at hfi
   refine zlv xas ?_
   refine zln <| zh <| htn ?_
   refine hdst [0, 1, 2] [0, 2] 11 mx_ hS ?_; clear hS; intro w hS
   refine zdla 0 (fun w hS => (xlb 1 pl_22 hS)) ?_
   refine zdv 1 (fun _ => xmv) ?_
   refine zdv 2 (fun _ => (xix (kk := i) sl_22 hvdmd1)) ?_
   refine zdl 3 (fun w hS => (xlr (u := .int .i64 (fM i)) pl_3 (hS.rowN 1 rfl))) ?_
   refine zdv 4 (fun _ => (xfb 1 fd_39_1)) ?_
   refine zdla 5 (fun w hS => (xlb 0 pl_22 hS)) ?_
   refine zdv 6 (fun _ => xmv) ?_
   refine zdv 7 (fun _ => (xix (kk := i) sl_22 h.D.slh)) ?_
   refine zdla 8 (fun w hS => (xlr (u := .int .i64 (p.D i)) pl_3 (h.D.below hS.below))) ?_
   have hbv := h.iD i
   refine zdv 9 (fun _ => (xsub (r := fM i - p.D i))) ?_
   refine zdv 10 (fun _ => (xix (kk := i) sl_22 hvdmd1)) ?_
   refine zde 11 (xso 1 pl_3 hS (upd_ints _ _ _)) ?_; clear hS; rintro w hS
   replace hS := hS.n3
   refine ⟨⟨fun h => absurd h (by decide), hS.pk [0, 2]⟩, ?_⟩
   refine zdd <| zh <| zbn <| htn <| hrz ?_
   refine zlv (xadd (r := i + 1)) ?_
   refine zlv xmv ?_
   refine zln <| zh <| hlq ⟨(upd fM i (fM i - p.D i)), i + 1, rfl, (by omega), (by omega), ?_, rfl, hS⟩
   ·
    intro k k0 k1; unfold upd; by_cases e : k = i
    · rw [if_pos e, if_pos (by omega), e]; omega
    · rw [if_neg e, hf k k0 k1]; by_cases e2 : k < i
      · rw [if_pos e2, if_pos (by omega)]
      · rw [if_neg e2, if_neg (by omega)]
  refine hxt <| ztx <| ztx <| zbh <| htn <| hsq <| hrz ?_
  refine zla (xal (cs := [_]) el_43 hS) ?_; rintro _ w ⟨g3, rfl, hS⟩
  replace hS := hS.n4
  refine zln <| zh <| htn <| hsq <| hsq <| hrz ?_
  refine zlv xmv ?_
  refine zlc (xc0 cl_80) (c_norm (u := u) (pv := pv) (ln := ln) (pt := pt) (cnt := cnt) w (hV.below hS.below) (by omega) (fun k k0 k1 => by have h9 := (hplo.2.2 k k0 k1).2.2.eq; omega) (fun k k0 k1 => by have h9 := hplo.2.2 k k0 k1; exact ⟨h9.1, h9.2.1⟩)) ?_; rintro vnn1 w ⟨_, nnn1, pnn1, lnn1, gnn1, cnn1, rfl, hnrn1, hn0n1, hn1n1, hncn1, hvnn1, hS'⟩
  replace hS : Sat w0 w [.blk g1 [vL, vD, .int .i64 p.stock, .int .i64 p.kerf], .own vdmd1 1 3 ndmd1 (ints fM), .blk g2 [vdmd1], .blk g3 [.slice none 0 0], .own vnn1 2 50 nnn1 (ucells pnn1 cnn1), .sem (Frame.rows 3 nnn1 pnn1 lnn1 gnn1)] := hS.comp hS'; clear hS'
  have hrnn1 := fun k (k0 : 0 ≤ k) (k1 : k < nnn1) => hS.slhIn 5 rfl k0 k1
  have hfM : ∀ k, 0 ≤ k → k < p.m → fM k = madeF u pt cnt k - p.D k := fun k k0 k1 => by rw [hf k k0 k1, if_pos (by omega)]
  have hln0 := fun k k0 k1 => (hrnn1 k k0 k1).n0
  have hfit := norm_fits hplo hnrn1 hln0
  have hbr9 := norm_bars hu hn0n1 hplo hnrn1
  refine zlc (xc0 cl_84) (c_pbarsq (u := nnn1) (pv := pnn1) (ln := lnn1) (pt := gnn1) (cnt := cnn1) w (⟨(hS.rowN 4 rfl), fun k k0 k1 => hS.rowIn 5 rfl k0 k1, fun k k0 k1 => hS.roomIn 5 rfl k0 k1⟩ : VAt _ vnn1 nnn1 pnn1 lnn1 gnn1 cnn1)) ?_; rintro _ w ⟨g4, rfl, hS'⟩
  replace hS : Sat w0 w [.blk g1 [vL, vD, .int .i64 p.stock, .int .i64 p.kerf], .own vdmd1 1 3 ndmd1 (ints fM), .blk g2 [vdmd1], .blk g3 [.slice none 0 0], .own vnn1 2 50 nnn1 (ucells pnn1 cnn1), .sem (Frame.rows 3 nnn1 pnn1 lnn1 gnn1), .blk g4 [vnn1]] := hS.comp hS'; clear hS'
  refine zln <| zh <| htn <| hbk ?_
  replace hS := hS.addnil 2 50 (ucells (fun _ => Value.slice none 0 0) (fun _ => 0))
  replace hS := hS.n8
  replace hS := hS.addrows 3 (fun _ => Value.slice none 0 0) (fun _ => p.m) (fun _ _ => 0)
  replace hS := hS.n9
  refine hrfG (St := TSt) (X := BX) (Tt := Unit) (fun s => [.blk g1 [vL, vD, .int .i64 p.stock, .int .i64 p.kerf], .blk g2 [vdmd1], .own vdmd1 1 3 ndmd1 (ints s.M), .blk g3 [s.vO], .own s.vO 2 50 s.n (ucells s.vv s.C), .sem (Frame.rows 3 s.n s.vv (fun _ => p.m) s.P)]) (fun t => []) (fun _ => .ret) (⟨[], fM, .slice none 0 0, 0, fun _ => .slice none 0 0, fun _ _ => 0, fun _ => 0⟩ : TSt) (fun x M es => M = [(1, vV), (2, .pointer (some ⟨g1, 0, none⟩)), (4, .slice none 0 0), (5, .int .i64 0), (6, .pointer (some ⟨g2, 0, none⟩)), (27, .int .i64 ndmd1), (28, .int .i64 i), (29, B (i < ndmd1)), (9, .pointer (some ⟨g3, 0, none⟩)), (43, vV), (44, vnn1), (45, .func (.func 106) #[] #[.pointer (some ⟨g4, 0, none⟩)]), (46, x.v), (10, x.v)] ∧ es = [.own x.v 1 3 x.n (ints x.f)]) (c_bars1 (gq := g4) (fun s => s.h) (TInv p (lst p.m fM)) (⟨[], fM, .slice none 0 0, 0, fun _ => .slice none 0 0, fun _ _ => 0, fun _ => 0⟩ : TSt) rfl ⟨rfl, slh_nil, fun k k0 k1 => by have h9 := hfM k k0 k1; have h8 := hmeet k k0 k1; have h7 := madeF_rng hplo.2.2 hu (Int.le_refl _) k0 k1; have h6 := (dnn9 hplo.1 k0 k1).1; have h5 := hplo.2.1; show 0 ≤ fM k ∧ fM k ≤ _; omega, by simp, fun k k0 k1 => by (have k1 : k < 0 := k1); omega⟩ w0 hvnn1 hrnn1 (fun k k0 k1 => by have := (hfit k k0 k1).1; omega) (fun k k0 k1 => by have := hncn1 k k0 k1; omega)) (hS.pk [0, 2, 1, 3, 7, 8, 6, 4, 5]) cl_106 (fun _ => rfl) (fun _ => .inl rfl) ?_ ?_ ?_ ?_
  ·
   intro lq s x rest w hpre rest1 hrr hS
   replace hS := hS.n11
   refine hrz ?_
   refine zlv xas ?_
   refine zln <| zh <| hasg ⟨rfl, rfl⟩ hS
  ·
   rintro lq s x _ _ rest w hpre ⟨rfl, rfl⟩ rest1 hrr hS
   replace hS := hS.n11
   obtain ⟨hIv, hxv, hlen, i, i0, i1, hxn, hxf⟩ := hpre
   obtain ⟨hIp, hlO, hMr, hnh, hC1⟩ := hIv
   have hrO := fun k (k0 : 0 ≤ k) (k1 : k < s.n) => hS.slhIn 5 rfl k0 k1
   obtain ⟨hfn, hfr⟩ := hfit i i0 i1
   rw [← hxn] at hfn
   rw [← hxf] at hfr
   have hsn := hlO.n0
   refine hbk <| hsq <| hsq <| hrz ?_
   refine zlv xmv ?_
   refine zlv (xln sl_22 hxv) ?_
   refine zlv xmv ?_
   refine zln <| zh <| htn <| hbk <| hlp (fun mm M w => ∃ (fa : Int → Int) (fm2 : Int → Int) (j : Int), mm = ((x.n - j).toNat) ∧ (0 ≤ j) ∧ (j ≤ x.n) ∧ (∀ k, 0 ≤ k → k < p.m → fa k = if k < j then x.f k - min (x.f k) (s.M k) else x.f k) ∧ (∀ k, 0 ≤ k → k < p.m → fm2 k = if k < j then s.M k - min (x.f k) (s.M k) else s.M k) ∧ M = [(4, .slice none 0 0), (5, .int .i64 0), (6, .pointer (some ⟨g2, 0, none⟩)), (9, .pointer (some ⟨g3, 0, none⟩)), (10, x.v), (48, .int .i64 x.n), (49, .int .i64 j)] ∧ Sat w0 w [.blk g1 [vL, vD, .int .i64 p.stock, .int .i64 p.kerf], .blk g2 [vdmd1], .own vdmd1 1 3 ndmd1 (ints fm2), .blk g3 [s.vO], .own s.vO 2 50 s.n (ucells s.vv s.C), .sem (Frame.rows 3 s.n s.vv (fun _ => p.m) s.P), .blk g4 [vnn1], .own vnn1 2 50 nnn1 (ucells pnn1 cnn1), .sem (Frame.rows 3 nnn1 pnn1 lnn1 gnn1), .sem rest1, .own x.v 1 3 x.n (ints fa)]) ⟨x.f, s.M, 0, rfl, (by omega), (by omega), ?_, ?_, rfl, hS⟩ ?_
   ·
    intro k k0 k1; rw [if_neg (by omega)]
   ·
    intro k k0 k1; rw [if_neg (by omega)]
   clear hS w
   rintro mm M w ⟨fa, fm2, j, rfl, j0, j1, hfa, hfm2, rfl, hS⟩
   refine hsq <| hrz ?_
   refine zlv xlss ?_
   refine zln <| zh <| htn <| hsq ?_
   refine hcif ?_ ?_ <;> intro hc
   ·
    refine hsk <| htn <| hsq <| hbk <| hsq <| hrz ?_
    refine zlv xmv ?_
    have hxj := hfr j j0 (by omega)
    have hMj := hMr j j0 (by omega)
    have hfaj := hfa j j0 (by omega)
    have hfmj := hfm2 j j0 (by omega)
    rw [if_neg (by omega)] at hfaj hfmj
    refine zlv xas ?_
    refine zln <| zh <| htn <| hsq ?_
    refine hdst [0, 1, 2, 3, 4, 5, 6, 7, 8, 9, 10] [0, 1, 2, 3, 4, 5, 6, 7, 8, 9, 10] 1000 mx_ hS ?_; clear hS; intro w hS
    refine zdv 0 (fun _ => xmv) ?_
    refine zdv 1 (fun _ => xmv) ?_
    refine zdv 2 (fun _ => (xix (kk := j) sl_22 hxv)) ?_
    refine zdla 3 (fun w hS => (xlr (u := .int .i64 (fa j)) pl_3 (hS.rowN 10 rfl))) ?_
    refine zdla 4 (fun w hS => (xlb 1 pl_22 hS)) ?_
    refine zdv 5 (fun _ => xmv) ?_
    refine zdv 6 (fun _ => (xix (kk := j) sl_22 hvdmd1)) ?_
    refine zdla 7 (fun w hS => (xlr (u := .int .i64 (fm2 j)) pl_3 (hS.rowN 2 rfl))) ?_
    refine zdv 8 (fun _ => (xmin (r := (min (fa j) (fm2 j))))) ?_
    refine zdv 9 (fun _ => xas) ?_
    refine zdd <| zh <| htn <| hsq <| hrz ?_
    refine zs2 ?_
    refine zlv (xix (kk := j) sl_22 hxv) ?_
    refine zlv (xlr (u := .int .i64 (fa j)) pl_3 (hS.rowN 10 rfl)) ?_
    refine zlv xmv ?_
    refine zlv (xsub (r := fa j - (min (fa j) (fm2 j)))) ?_
    refine zlv (xix (kk := j) sl_22 hxv) ?_
    refine zle (xso 10 pl_3 hS (upd_ints _ _ _)) ?_; clear hS; rintro w hS
    replace hS := hS.n11
    refine zln <| zh <| htn <| hrz ?_
    refine zlv (xlb 1 pl_22 hS) ?_
    refine zlv xmv ?_
    refine zlv (xix (kk := j) sl_22 hvdmd1) ?_
    refine zlv (xlr (u := .int .i64 (fm2 j)) pl_3 (hS.rowN 2 rfl)) ?_
    refine zlv xmv ?_
    refine zlv (xsub (r := fm2 j - (min (fa j) (fm2 j)))) ?_
    refine zlv (xix (kk := j) sl_22 hvdmd1) ?_
    refine zle (xso 2 pl_3 hS (upd_ints _ _ _)) ?_; clear hS; rintro w hS
    replace hS := hS.n11
    refine zln <| zh <| zbn <| htn <| hrz ?_
    refine zlv (xadd (r := j + 1)) ?_
    refine zlv xmv ?_
    refine zln <| zh <| hlq ⟨(upd fa j (fa j - (min (fa j) (fm2 j)))), (upd fm2 j (fm2 j - (min (fa j) (fm2 j)))), j + 1, rfl, (by omega), (by omega), ?_, ?_, rfl, hS⟩
    ·
     intro k k0 k1; unfold upd; by_cases e : k = j
     · rw [if_pos e, if_pos (by omega), e]; omega
     · rw [if_neg e, hfa k k0 k1]; by_cases e2 : k < j
       · rw [if_pos e2, if_pos (by omega)]
       · rw [if_neg e2, if_neg (by omega)]
    ·
     intro k k0 k1; unfold upd; by_cases e : k = j
     · rw [if_pos e, if_pos (by omega), e]; omega
     · rw [if_neg e, hfm2 k k0 k1]; by_cases e2 : k < j
       · rw [if_pos e2, if_pos (by omega)]
       · rw [if_neg e2, if_neg (by omega)]
   refine hxt <| ztx <| ztx <| zbh <| htn <| hsq <| hrz ?_
   refine zlv xmv ?_
   refine zlc (xc0 cl_75) (c_copos (n := x.n) (f := fa) w (hS.rowN 10 rfl)) ?_; rintro _ w ⟨rfl, hS'⟩
   replace hS := hS.cmp hS'; clear hS'
   refine zln <| zh <| htn ?_
   refine hcif ?_ ?_ <;> intro hc
   ·
    refine hrz ?_
    refine zlv (xlb 3 pl_43 hS) ?_
    refine zlv xmv ?_
    refine zlv (xany (v := .agg #[x.v, .int .i64 1]) (hr := by have hz := hxv; revert hz; generalize x.v = z; rintro ⟨_, _, _, _, rfl, _⟩; show _ = _; kernel_rfl)) ?_
    refine zla (xli (n := 1) (len := 1) (pv := [(0, .agg #[x.v, .int .i64 1])]) (cs := [x.v, .int .i64 1]) (c := ucells (fun _ => x.v) (fun _ => 1)) sl_43 el_50 hS (hf := by have hz := hxv; revert hz; generalize x.v = z; rintro ⟨_, _, _, _, rfl, _⟩; show _ = _; kernel_rfl)) ?_; rintro v1 w ⟨hS, hv1⟩
    replace hS := hS.n12
    refine zla (xap 4 (r := s.n + 1) sl_43 el_50 hS (hS.rowN 11 rfl) (cat_ucells _ _ _ _ _) (h1 := fun k _ _ => ucells_one (fun _ => hxv.one) k)) ?_; rintro v2 w ⟨hS, hv2⟩
    replace hS := hS.n12
    replace hS := Sat.merge (l1 := [_, _, _, _, _]) (l2 := [_, _, _, _]) (l3 := [_]) hS (by omega)
    have hrs1 := fun k (k0 : 0 ≤ k) (k1 : k < s.n + 1) => hS.slhIn 5 rfl k0 k1
    replace hS := hS.n11
    refine zle (xsb 3 pl_43 hS (hv := hv2.one)) ?_; clear hS; rintro w hS
    replace hS := hS.n11
    refine zln <| zh <| zbn ?_
    rw [hfn, gsn_const] at hS
    refine hrdN ⟨s.h ++ [lst x.n x.f], fm2, v2, s.n + 1, gsn s.vv s.n x.v, gsn s.P s.n fa, (snoc s.C s.n 1)⟩ ⟨rfl, (by rw [hfn]; exact TInv.yes (a2 := fa) hIp hsn (fun k k0 k1 => (hfa k k0 k1).trans (if_pos (by omega))) (fun k k0 k1 => (hfm2 k k0 k1).trans (if_pos (by omega))) (by obtain ⟨k, k0, k1, k2⟩ := hc; exact ⟨k, k0, by omega, k2⟩) (fun k k0 k1 => gsn_lt k1) (gsn_at (by omega)) (fun k k0 k1 => snoc_lt k1) (snoc_at (by omega))), hv2, (fun k k0 k1 => by have h9 := hMr k k0 k1; have h8 := hfr k k0 k1; have h7 := hfm2 k k0 k1; rw [if_pos (by omega)] at h7; show 0 ≤ fm2 k ∧ fm2 k ≤ _; omega), by (show s.n + 1 ≤ ((s.h ++ [lst x.n x.f]).length : Int)); rw [List.length_append]; simp; omega, (snoc_ones hC1)⟩ (hS.pk [0, 1, 2, 3, 4, 5, 6, 7, 8, 9])
   refine hsk <| zbn <| hrdN ⟨s.h ++ [lst x.n x.f], fm2, s.vO, s.n, s.vv, s.P, s.C⟩ ⟨rfl, (by rw [hfn]; exact TInv.no (a2 := fa) hIp (fun k k0 k1 => (hfa k k0 k1).trans (if_pos (by omega))) (fun k k0 k1 => (hfm2 k k0 k1).trans (if_pos (by omega))) (fun ⟨k, k0, k1, k2⟩ => hc ⟨k, k0, by omega, k2⟩)), hlO, (fun k k0 k1 => by have h9 := hMr k k0 k1; have h8 := hfr k k0 k1; have h7 := hfm2 k k0 k1; rw [if_pos (by omega)] at h7; show 0 ≤ fm2 k ∧ fm2 k ≤ _; omega), by (show s.n ≤ ((s.h ++ [lst x.n x.f]).length : Int)); rw [List.length_append]; simp; omega, hC1⟩ (hS.pk [0, 1, 2, 3, 4, 5, 6, 7, 8, 9])
  ·
   intro Dk s rest w hfin hS
   replace hS := hS.n11
   obtain ⟨⟨hIp, hlO, hMr, hnh, hC1⟩, hh⟩ := hfin
   have hrO := fun k (k0 : 0 ≤ k) (k1 : k < s.n) => hS.slhIn 5 rfl k0 k1
   have hsn := hlO.n0
   have hlen9 : s.n ≤ 1000000 := by
     have h9 := brs_len (ln := lnn1) (pt := gnn1) (u := nnn1) (cnt := cnn1) hn0n1 (fun k k0 k1 => by have := hncn1 k k0 k1; omega) (nnn1 - 1 - (-1)).toNat (by omega)
     rw [hh] at hnh
     unfold dwn at hnh
     rw [show (nnn1 - (nnn1 - 1 - (-1)).toNat).toNat = 0 by omega] at h9
     simp only [psum] at h9
     omega
   refine zbn <| htn <| hsq <| hrz ?_
   refine zlv (xlb 3 pl_43 hS) ?_
   refine zlc (xc0 cl_80) (c_norm (u := s.n) (pv := s.vv) (ln := (fun _ => p.m)) (pt := s.P) (cnt := s.C) w (⟨(hS.rowN 4 rfl), fun k k0 k1 => hS.rowIn 5 rfl k0 k1, fun k k0 k1 => hS.roomIn 5 rfl k0 k1⟩ : VAt _ s.vO s.n s.vv (fun _ => p.m) s.P s.C) (by omega) (fun k k0 k1 => by omega) (fun k k0 k1 => by have h9 := hC1 k k0 k1; omega)) ?_; rintro vnn2 w ⟨_, nnn2, pnn2, lnn2, gnn2, cnn2, rfl, hnrn2, hn0n2, hn1n2, hncn2, hvnn2, hS'⟩
   replace hS : Sat w0 w [.blk g1 [vL, vD, .int .i64 p.stock, .int .i64 p.kerf], .blk g2 [vdmd1], .own vdmd1 1 3 ndmd1 (ints s.M), .blk g3 [s.vO], .own s.vO 2 50 s.n (ucells s.vv s.C), .sem (Frame.rows 3 s.n s.vv (fun _ => p.m) s.P), .blk g4 [vnn1], .own vnn1 2 50 nnn1 (ucells pnn1 cnn1), .sem (Frame.rows 3 nnn1 pnn1 lnn1 gnn1), .sem rest, .sem (Frame.obj Dk (.deferred (some []))), .own vnn2 2 50 nnn2 (ucells pnn2 cnn2), .sem (Frame.rows 3 nnn2 pnn2 lnn2 gnn2)] := hS.comp hS'; clear hS'
   have hrnn2 := fun k (k0 : 0 ≤ k) (k1 : k < nnn2) => hS.slhIn 12 rfl k0 k1
   refine zs2 ?_
   refine zln <| zh <| htn <| hrt <| hmk1 10 hS fun w hS => zf2 ⟨_, rfl, ?_⟩
   have hmf : lst p.m fM = lst p.m (fun j => madeF u pt cnt j - p.D j) := lst_congr fun k k0 k1 => hfM k k0 k1
   have hTR : NormR (tRun (lst p.m fun j => madeF u pt cnt j - p.D j) (brsU (plL nnn1 lnn1 gnn1 cnn1))).2 (plL nnn2 lnn2 gnn2 cnn2) := by
     rw [← brsOf_plL _ _ _ hn0n1, ← hh, ← hmf, ← hIp]; exact hnrn2
   exact ⟨_, _, _, _, _, _, 0, rfl, .inr (.inr ⟨hplo, hmeet, rfl, _, hnrn1, hTR⟩), fun k k0 k1 => by have := hncn2 k k0 k1; omega, by omega, hvnn2, hS.pk [11, 12]⟩
  ·
   intro Dk t rest w hfin hS
   replace hS := hS.n5
   exact hfin.elim
def leftF (p : Prob) (f : Int → Int) : Int → Int := fun k => if 0 ≤ k ∧ k < p.m then max 0 (p.D k - f k) else 0
theorem leftF_bnd {p : Prob} (hp : p.Ok) {f : Int → Int} (hf : ∀ k, 0 ≤ k → k < p.m → 0 ≤ f k) : ∀ k, -9223372036854775808 ≤ leftF p f k ∧ leftF p f k ≤ 9223372036854775807 := fun k => by
  unfold leftF
  by_cases h : 0 ≤ k ∧ k < p.m
  · rw [if_pos h]; have := dnn9 hp h.1 h.2; have := hf k h.1 h.2; omega
  · rw [if_neg h]; omega
structure NUt (w : World) (v : Value) (n : Int) (vv : Int → Value) (ln : Int → Int) (pvs : Int → Int → Value) (cns : Int → Int → Int) : Prop where
  row : Row w v 1 n vv
  p : ∀ i, 0 ≤ i → i < n → Row w (vv i) 2 (ln i) (ucells (pvs i) (cns i))
  one : ∀ i, 0 ≤ i → i < n → ∀ k, 0 ≤ k → k < ln i → (pvs i k).oneCell' = true
theorem ucells_oneR {pv : Int → Value} {cnt : Int → Int} {n : Int} (h : ∀ k, 0 ≤ k → k < n → (pv k).oneCell' = true) : ∀ k, 0 ≤ k → k < n * 2 → (ucells pv cnt k).oneCell' = true := fun k k0 k1 => by
  unfold ucells
  split
  · exact h _ (by omega) (by omega)
  · rfl
theorem NUt.below {w w' : World} {v : Value} {n : Int} {vv : Int → Value} {ln : Int → Int} {pvs : Int → Int → Value} {cns : Int → Int → Int} (h : NUt w v n vv ln pvs cns) (hb : Below w.heap.size w w') : NUt w' v n vv ln pvs cns := ⟨h.row.below hb, fun i a b => (h.p i a b).below hb, h.one⟩
def catG (ln : Int → Int) (f : Int → Int → Value) : Nat → Int → Value
  | 0 => fun _ => undef
  | k + 1 => cat (tot ln k) (catG ln f k) (f k)
theorem catG_next (ln : Int → Int) (f : Int → Int → Value) {i : Int} (h : 0 ≤ i) : catG ln f (i + 1).toNat = cat (tot ln i.toNat) (catG ln f i.toNat) (f i) := by
  rw [show (i + 1).toNat = i.toNat + 1 by omega, catG, Int.toNat_of_nonneg h]
theorem nut2 {w : World} {v a b : Value} {n m : Int} {pa pb : Int → Value} {ca cb : Int → Int} (h : Row w v 1 2 (pair2 a b)) (ha : Row w a 2 n (ucells pa ca)) (hb : Row w b 2 m (ucells pb cb)) (ha1 : ∀ k, 0 ≤ k → k < n → (pa k).oneCell' = true) (hb1 : ∀ k, 0 ≤ k → k < m → (pb k).oneCell' = true) : NUt w v 2 (pair2 a b) (pair2 n m) (pair2 pa pb) (pair2 ca cb) :=
  ⟨h, fun i i0 i1 => by
    by_cases e : i = 0
    · subst e; exact ha
    · obtain rfl : i = 1 := by omega
      exact hb, fun i i0 i1 => by
    by_cases e : i = 0
    · subst e; exact ha1
    · obtain rfl : i = 1 := by omega
      exact hb1⟩
set_option maxHeartbeats 4000000 in
set_option maxRecDepth 20000 in
theorem c_left {vL vD : Value} {p : Prob} {vA : Value} {f : Int → Int} (w0 : World) (h : PAt w0 vL vD p) (hok : p.Ok) (hA : Row w0 vA 1 p.m (ints f)) (hfb : ∀ k, 0 ≤ k → k < p.m → 0 ≤ f k ∧ f k ≤ 2000000000) :
    Calls Try.prog 52 [.agg #[vL, vD, .int .i64 p.stock, .int .i64 p.kerf], vA].toArray w0 fun e w => ∃ v, e = .returned v ∧ ∃ vL2 vD2, v = .agg #[vL2, vD2, .int .i64 p.stock, .int .i64 p.kerf] ∧ Slh vL2 p.m ∧ Slh vD2 p.d ∧ Sat w0 w [.own vL2 1 3 p.m (ints p.L), .own vD2 1 3 p.d (ints (leftF p f))] := by
  have hm := h.L.slh.n0; have hm1 := h.L.slh.n1; have hd := h.D.slh.n0; have hd1 := h.D.slh.n1; have hs := h.is; have hk := h.ik
  have hpm1 := hok.m1; have hpm2 := hok.m2; have hpd := hok.d
  refine zenG Try.func52 Try.ntmps52 fun w hS => ?_
  refine zsr ?_
  refine zla (xbx (cs := [_, _, _, _]) hS) ?_; rintro _ w ⟨g1, rfl, hS⟩
  replace hS := hS.n1
  refine zla (xal (cs := [_, _, _, _]) el_39 hS) ?_; rintro _ w ⟨g2, rfl, hS⟩
  replace hS := hS.n2
  refine zlt <| zsq ?_
  refine zdst [0, 1] [1] 7 mx_ hS ?_; clear hS; intro w hS
  refine zdv 0 (fun _ => (xfb 0 fd_39_0)) ?_
  refine zdl 1 (fun w hS => (xlb 0 pl_22 hS)) ?_
  refine zdv 3 (fun _ => (xfb 1 fd_39_1)) ?_
  refine zdl 4 (fun w hS => (xlb 0 pl_22 hS)) ?_
  refine zdc 2 (xc0 cl_42) (c_clone (n := p.m) (f := p.L) w (h.L.below hS.below) (by omega)) ?_; rintro vq1 w ⟨_, rfl, hslq1, hS'⟩
  replace hS : Sat w0 w [.blk g1 [vL, vD, .int .i64 p.stock, .int .i64 p.kerf], .blk g2 [.slice none 0 0, .slice none 0 0, .int .i64 0, .int .i64 0], .own vq1 1 3 p.m (ints p.L)] := hS.comp hS'; clear hS'
  refine ⟨⟨fun _ => hS.pk [0, 1], hS.pk [1]⟩, ?_⟩
  refine zdv 6 (fun _ => (xfb 0 fd_39_0)) ?_
  refine zdc 5 (xc0 cl_42) (c_clone (n := p.d) (f := p.D) w (h.D.below hS.below) (by omega)) ?_; rintro vq2 w ⟨_, rfl, hslq2, hS'⟩
  replace hS : Sat w0 w [.blk g1 [vL, vD, .int .i64 p.stock, .int .i64 p.kerf], .blk g2 [.slice none 0 0, .slice none 0 0, .int .i64 0, .int .i64 0], .own vq1 1 3 p.m (ints p.L), .own vq2 1 3 p.d (ints p.D)] := hS.comp hS'; clear hS'
  refine ⟨⟨fun _ => hS.pk [0, 1], hS.pk [1]⟩, ?_⟩
  refine zde 7 (xsb 0 pl_22 hS (hv := hslq1.one)) ?_; clear hS; rintro w hS
  replace hS := hS.n4
  refine ⟨⟨fun h => absurd h (by decide), hS.pk [1]⟩, ?_⟩
  refine zdv 8 (fun _ => (xfb 1 fd_39_1)) ?_
  refine zde 9 (xsb 0 pl_22 hS (hv := hslq2.one)) ?_; clear hS; rintro w hS
  replace hS := hS.n4
  refine ⟨⟨fun h => absurd h (by decide), hS.pk [1]⟩, ?_⟩
  refine zdd <| ztn <| zsq <| zsr ?_
  refine zlv xmv ?_
  refine zlv (xln sl_22 hA.slh) ?_
  refine zlv xmv ?_
  refine zlt <| zbk <| zlp (fun mm M w => ∃ (g : Int → Int) (i : Int), mm = ((p.m - i).toNat) ∧ (0 ≤ i) ∧ (i ≤ p.m) ∧ (∀ k, 0 ≤ k → k < p.m → g k = if k < i then max 0 (p.D k - f k) else p.D k) ∧ M = [(2, .pointer (some ⟨g1, 0, none⟩)), (4, .pointer (some ⟨g2, 0, none⟩)), (15, vA), (16, .int .i64 p.m), (17, .int .i64 i)] ∧ Sat w0 w [.blk g1 [vq1, vq2, .int .i64 p.stock, .int .i64 p.kerf], .blk g2 [.slice none 0 0, .slice none 0 0, .int .i64 0, .int .i64 0], .own vq1 1 3 p.m (ints p.L), .own vq2 1 3 p.d (ints g)]) ⟨p.D, 0, rfl, (by omega), (by omega), ?_, rfl, hS⟩ ?_
  ·
   intro k k0 k1; rw [if_neg (by omega)]
  clear hS w
  rintro mm M w ⟨g, i, rfl, h0, h1, hg, rfl, hS⟩
  refine zsr ?_
  refine zlv xlss ?_
  refine zlt <| zsq ?_
  refine zcif ?_ ?_ <;> intro hc
  ·
   refine zsk <| ztn <| zsq <| zbk <| zsr ?_
   refine zlv xmv ?_
   refine zlv (xix (kk := i) sl_22 hA.slh) ?_
   refine zlv (xlr (u := .int .i64 (f i)) pl_3 (hA.below hS.below)) ?_
   have hdi := dnn9 hok h0 (by omega : i < p.m)
   have hfi := hfb i h0 (by omega)
   have hgi := hg i h0 (by omega)
   rw [if_neg (by omega)] at hgi
   refine zs2 ?_
   refine zlt ?_
   refine zdst [0, 1, 2, 3] [0, 1, 2] 12 mx_ hS ?_; clear hS; intro w hS
   refine zdv 0 (fun _ => (xfb 1 fd_39_1)) ?_
   refine zdla 1 (fun w hS => (xlb 0 pl_22 hS)) ?_
   refine zdv 2 (fun _ => xmv) ?_
   refine zdv 3 (fun _ => (xfb 1 fd_39_1)) ?_
   refine zdla 4 (fun w hS => (xlb 0 pl_22 hS)) ?_
   refine zdv 5 (fun _ => xmv) ?_
   refine zdv 6 (fun _ => (xix (kk := i) sl_22 hslq2)) ?_
   refine zdl 7 (fun w hS => (xlr (u := .int .i64 (g i)) pl_3 (hS.rowN 3 rfl))) ?_
   refine zdv 8 (fun _ => xmv) ?_
   refine zdv 9 (fun _ => (xsub (r := g i - (f i)))) ?_
   refine zdv 10 (fun _ => (xmax (r := (max 0 (g i - (f i)))))) ?_
   refine zdv 11 (fun _ => (xix (kk := i) sl_22 hslq2)) ?_
   refine zde 12 (xso 3 pl_3 hS (upd_ints _ _ _)) ?_; clear hS; rintro w hS
   replace hS := hS.n4
   refine ⟨⟨fun h => absurd h (by decide), hS.pk [0, 1, 2]⟩, ?_⟩
   refine zdd <| zbn <| ztn <| zrg ?_
   refine zlv (xadd (r := i + 1)) ?_
   refine zlv xmv ?_
   refine zln <| zlq ⟨(upd g i (max 0 (g i - (f i)))), i + 1, rfl, (by omega), (by omega), ?_, rfl, hS⟩
   ·
    intro k k0 k1; unfold upd; by_cases e : k = i
    · rw [if_pos e, if_pos (by omega), e]; omega
    · rw [if_neg e, hg k k0 k1]; by_cases e2 : k < i
      · rw [if_pos e2, if_pos (by omega)]
      · rw [if_neg e2, if_neg (by omega)]
  refine zxt <| ztx <| ztx <| zbh <| ztn <| zsr ?_
  refine zlv (xls 0 st_39 hS) ?_
  refine zle (xsw 1 st_39 hS (hd := (ones_cons hslq1.one (ones_cons hslq2.one (ones_cons rfl (ones_cons rfl ones_nil)))))) ?_; clear hS; rintro w hS
  replace hS := hS.n4
  refine zlt <| zrt <| zfc 1 st_39 hS ⟨_, rfl, ?_⟩
  have hin : i = p.m := by omega
  replace hS := hS.recont 3 rfl (d := ints (leftF p f)) (fun k k0 k1 => congrArg (Value.int .i64) (by rw [hg k k0 (by omega), if_pos (by omega)]; unfold leftF; rw [if_pos ⟨k0, by omega⟩]))
  exact ⟨_, _, rfl, hslq1, hslq2, hS.pk [2, 3]⟩
set_option maxRecDepth 20000 in
theorem c_growU {n : Int} (w0 : World) (h0 : 0 ≤ n) (h1 : n ≤ 100000000) :
    Calls Try.prog 86 [.slice none 0 0, .int .i64 n].toArray w0 fun e w => ∃ v, e = .returned v ∧ ∃ r, v = r ∧ Slh r 0 ∧ Sat w0 w [.own r 2 50 0 (ucells (fun _ => Value.slice none 0 0) (fun _ => 0))] := by
  refine zenG Try.func86 Try.ntmps86 fun w hS => ?_
  refine zsr ?_
  refine zlv xas ?_
  refine zlt <| zsq <| zsr ?_
  refine zlv xmv ?_
  refine zlv (xkf xlss) ?_
  refine zlt <| zcf <| zsk <| ztn <| zsq <| zsr ?_
  refine zs2 ?_
  refine zlvr rfl rfl rfl (ex_cap_nil rfl sl_43 rfl) ?_
  refine zlv xmv ?_
  refine zlv (xln sl_43 slh_nil) ?_
  refine zlv (xsub (r := 0)) ?_
  refine zlv (xsub (r := n)) ?_
  refine zlv xas ?_
  refine zlz ?_
  refine zs2 ?_
  refine zlt ?_
  refine zcif ?_ ?_ <;> intro hc
  ·
   refine zrg ?_
   refine zs2 ?_
   refine zlvr rfl rfl rfl (ex_cap_nil rfl sl_43 rfl) ?_
   refine zlv (xany (v := .slice none 0 0)) ?_
   refine zlv xmv ?_
   refine zlar rfl rfl rfl (ex_append_make2 rfl sl_43 Try.underlying3 el_50 rfl (by omega) rfl rfl (by omega) (by omega) hS) ?_; rintro v1 w ⟨hS, hv1⟩
   replace hS := hS.n1
   refine zlv xmv ?_
   refine zlv (xln sl_43 slh_nil) ?_
   refine zlvr rfl rfl rfl (ex_slice_cut rfl sl_43 rfl rfl hv1) ?_
   replace hS := hS.cut 0 rfl (ucells (fun _ => Value.slice none 0 0) (fun _ => 0))
   replace hS := hS.n1
   refine zlv xas ?_
   refine zlz ?_
   refine zs2 ?_
   refine zlt <| zrt <| zf1 ⟨_, rfl, ?_⟩
   exact ⟨_, rfl, (cut_slh hv1), hS⟩
  refine zsk <| ztn <| zsr ?_
  refine zs2 ?_
  refine zlt <| zrt <| zf1 ⟨_, rfl, ?_⟩
  exact ⟨_, rfl, slh_nil, (hS.sub .slnil).addnil 2 50 (ucells (fun _ => Value.slice none 0 0) (fun _ => 0))⟩
set_option maxRecDepth 20000 in
theorem c_concatU {v : Value} {n : Int} {vv : Int → Value} {ln : Int → Int} {pvs : Int → Int → Value} {cns : Int → Int → Int} (w0 : World) (hM : NUt w0 v n vv ln pvs cns) (ht : ∀ k, 0 ≤ k → k ≤ n → tot ln k.toNat ≤ 10000000) :
    Calls Try.prog 51 [v].toArray w0 fun e w => ∃ v, e = .returned v ∧ ∃ r, v = r ∧ Slh r (tot ln n.toNat) ∧ Sat w0 w [.own r 2 50 (tot ln n.toNat) (ucells (catG ln pvs n.toNat) (catN ln cns n.toNat))] := by
  have hn := hM.row.slh.n0; have hn1 := hM.row.slh.n1
  refine zenG Try.func51 Try.ntmps51 fun w hS => ?_
  refine zsr ?_
  refine zlv xas ?_
  refine zlz ?_
  refine zlv xas ?_
  refine zlt <| zsq <| zsr ?_
  refine zlv xmv ?_
  refine zlv (xln sl_129 hM.row.slh) ?_
  refine zlv xmv ?_
  refine zlt <| zbk <| zlp (fun mm M w => ∃ (s : Int) (i : Int), mm = ((n - i).toNat) ∧ (0 ≤ i) ∧ (i ≤ n) ∧ (s = tot ln i.toNat) ∧ (0 ≤ s) ∧ M = [(0, v), (2, .slice none 0 0), (3, .int .i64 s), (9, v), (10, .int .i64 n), (11, .int .i64 i)] ∧ Sat w0 w []) ⟨0, 0, rfl, (by omega), (by omega), ?_, (by omega), rfl, hS⟩ ?_
  ·
   rfl
  clear hS w
  rintro mm M w ⟨s, i, rfl, h0, h1, hs, hs0, rfl, hS⟩
  refine zsr ?_
  refine zlv xlss ?_
  refine zlt <| zsq ?_
  refine zcif ?_ ?_ <;> intro hc
  ·
   refine zsk <| ztn <| zsq <| zbk <| zsr ?_
   refine zlv (xix (kk := i) sl_129 hM.row.slh) ?_
   refine zlv (xlr (u := (vv i)) pl_43 (hM.row.below hS.below)) ?_
   have hl := (hM.p i h0 (by omega)).slh.n0; have ht1 := ht (i + 1) (by omega) (by omega); rw [tot_next ln h0] at ht1
   refine zlv xas ?_
   refine zlz ?_
   refine zs2 ?_
   refine zlv (xln sl_43 (hM.p i (by omega) (by omega)).slh) ?_
   refine zlv (xadd (r := s + (ln i))) ?_
   refine zlv xas ?_
   refine zlz ?_
   refine zlv xmv ?_
   refine zlv (xkf xlss) ?_
   refine zlt <| zcf <| zsk <| zbn <| ztn <| zrg ?_
   refine zlv (xadd (r := i + 1)) ?_
   refine zlv xmv ?_
   refine zln <| zlq ⟨s + (ln i), i + 1, rfl, (by omega), (by omega), ?_, (by omega), rfl, hS⟩
   ·
    rw [tot_next ln h0, hs]
  refine zxt <| ztx <| ztx <| zbh <| ztn <| zsr ?_
  refine zlv xmv ?_
  have hin : i = n := by omega
  have ht2 := ht n hn (Int.le_refl _); rw [← hin] at ht2
  refine zlc (xc0 cl_86) (c_growU (n := s) w (by omega) (by omega)) ?_; rintro vq1 w ⟨_, rfl, hslq1, hS'⟩
  replace hS : Sat w0 w [.own vq1 2 50 0 (ucells (fun _ => Value.slice none 0 0) (fun _ => 0))] := hS.comp hS'; clear hS'
  refine zlv xas ?_
  refine zlt <| zsq <| zsr ?_
  refine zlv xmv ?_
  refine zlv (xln sl_129 hM.row.slh) ?_
  refine zlv xmv ?_
  refine zlt <| zbk <| zlp (fun mm M w => ∃ (m : Int) (gq : Int → Value) (gc : Int → Int) (j : Int) (vb : Value), mm = ((n - j).toNat) ∧ (0 ≤ j) ∧ (j ≤ n) ∧ (m = tot ln j.toNat) ∧ (0 ≤ m) ∧ (∀ k, 0 ≤ k → k < m → gq k = catG ln pvs j.toNat k) ∧ (∀ k, 0 ≤ k → k < m → gc k = catN ln cns j.toNat k) ∧ (Slh vb m) ∧ M = [(2, .slice none 0 0), (6, vb), (25, v), (26, .int .i64 n), (27, .int .i64 j)] ∧ Sat w0 w [.own vb 2 50 m (ucells gq gc)]) ⟨0, (fun _ => Value.slice none 0 0), (fun _ => 0), 0, vq1, rfl, (by omega), (by omega), ?_, (by omega), ?_, ?_, ?_, rfl, hS⟩ ?_
  ·
   rfl
  ·
   intro k k0 k1; omega
  ·
   intro k k0 k1; omega
  ·
   exact hslq1
  clear hS w
  rintro mm M w ⟨m, gq, gc, j, vb, rfl, h0, h1, hm, hm0, hg, hc9, hvb, rfl, hS⟩
  refine zsr ?_
  refine zlv xlss ?_
  refine zlt <| zsq ?_
  refine zcif ?_ ?_ <;> intro hc
  ·
   refine zsk <| ztn <| zsq <| zbk <| zsr ?_
   refine zlv (xix (kk := j) sl_129 hM.row.slh) ?_
   refine zlv (xlr (u := (vv j)) pl_43 (hM.row.below hS.below)) ?_
   have hl := (hM.p j h0 (by omega)).slh.n0; have ht1 := ht (j + 1) (by omega) (by omega); rw [tot_next ln h0] at ht1
   refine zlv xas ?_
   refine zlt <| zrg ?_
   refine zs2 ?_
   refine zla (xap 0 (r := m + (ln j)) (f := ucells (cat m gq (pvs j)) (cat m gc (cns j))) sl_43 el_50 hS ((hM.p j (by omega) (by omega)).below hS.below) (by exact cat_ucells2 _ _ _ _ _) (h1 := (ucells_oneR (hM.one j (by omega) (by omega))))) ?_; rintro v1 w ⟨hS, hv1⟩
   replace hS := hS.n1
   refine zlv xas ?_
   refine zln <| zbn <| ztn <| zrg ?_
   refine zlv (xadd (r := j + 1)) ?_
   refine zlv xmv ?_
   refine zln <| zlq ⟨m + (ln j), (cat m gq (pvs j)), (cat m gc (cns j)), j + 1, v1, rfl, (by omega), (by omega), ?_, (by omega), ?_, ?_, ?_, rfl, hS⟩
   ·
    rw [tot_next ln h0, hm]
   ·
    intro k k0 k1; rw [catG_next ln pvs h0, ← hm]; unfold cat; by_cases e : k < m
    · rw [if_pos e, if_pos e]; exact hg k k0 e
    · rw [if_neg e, if_neg e]
   ·
    intro k k0 k1; rw [catN_next ln cns h0, ← hm]; unfold cat; by_cases e : k < m
    · rw [if_pos e, if_pos e]; exact hc9 k k0 e
    · rw [if_neg e, if_neg e]
   ·
    exact hv1
  refine zxt <| ztx <| ztx <| zbh <| ztn <| zsr ?_
  refine zs2 ?_
  refine zlt <| zrt <| zf1 ⟨_, rfl, ?_⟩
  obtain rfl : j = n := by omega
  subst hm
  replace hS := hS.recont 0 rfl (d := ucells (catG ln pvs j.toNat) (catN ln cns j.toNat)) (fun k k0 k1 => by unfold ucells; rw [hg _ (by omega) (by omega), hc9 _ (by omega) (by omega)])
  exact ⟨_, rfl, hvb, hS⟩
end Go.Proofs.Ytopmifmfecfaaaa
