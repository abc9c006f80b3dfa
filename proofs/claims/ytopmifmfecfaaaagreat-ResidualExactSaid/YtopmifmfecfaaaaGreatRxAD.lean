/- Part 4 of the texts that the proof needs. -/
import Derived.Test.YtopmifmfecfaaaaGreatRxAC
import Derived.RangeFuncBox
import Derived.RangeFuncLeaves
set_option linter.unusedVariables false
set_option linter.unusedSimpArgs false
namespace Go.Proofs.Gw
open Go Go.RowKit
section
variable {P : Program} {L : List (Nat × Value)} {w w0 : World} {o : Oper} {x y z : Operand} {T T' : TypeId} {l : List Ent} {E : TypeId}
theorem run_storesq (g q : Nat) (E : TypeId) : ∀ (vs : List Value) (k : Nat) (cur : List Value) (w : World), w.heap[g]? = some (.cells cur.toArray E (0, 0)) → q + k + vs.length ≤ cur.length → (∀ v ∈ vs, v.oneCell' = true) →
    ∃ w', (storeCells ⟨g, q, none⟩ vs k).run P w = .ok () w' ∧ w'.heap[g]? = some (.cells (cur.take (q + k) ++ vs ++ cur.drop (q + k + vs.length)).toArray E (0, 0)) ∧ (∀ j, j ≠ g → w'.heap[j]? = w.heap[j]?) ∧ w'.tape = w.tape ∧ w'.os = w.os ∧ w'.output = w.output ∧ w'.heap.size = w.heap.size
  | [], k, cur, w, hg, hk, _ => ⟨w, rfl, by simp [hg], fun _ _ => rfl, rfl, rfl, rfl, rfl⟩
  | v :: vs, k, cur, w, hg, hk, h1 => by
    simp only [List.length_cons] at hk
    have hv := h1 v (by simp)
    have hlt : q + k < cur.length := by omega
    have hc : w.cell? ⟨g, q + k, none⟩ = some cur[q + k] := by simp [World.cell?, hg, hlt]
    have hf : w.frozen? ⟨g, q + k, none⟩ = false := by simp [World.frozen?, hg]
    have hg' : (w.setCell ⟨g, q + k, none⟩ v).heap[g]? = some (.cells (cur.set (q + k) v).toArray E (0, 0)) := by simp [World.setCell, Array.getElem?_modify, hg]
    obtain ⟨w', h2, h3, h4, h5, h6, h7, h8⟩ := run_storesq g q E vs (k + 1) (cur.set (q + k) v) (w.setCell ⟨g, q + k, none⟩ v) hg' (by simp; omega) (fun u hu => h1 u (by simp [hu]))
    refine ⟨w', ?_, ?_, fun j hj => ?_, h5, h6, h7, ?_⟩
    · have e0 : (⟨g, q, none⟩ : Addr).add k = ⟨g, q + k, none⟩ := by rw [Addr.add_eq _ rfl]
      simp only [storeCells, Sem.run_bind, e0]
      rw [run_store P w _ v _ hv, hc]
      simp only [hf]
      exact h2
    · rw [h3]
      congr 3
      have e1 : (cur.set (q + k) v).take (q + (k + 1)) = cur.take (q + k) ++ [v] := by
        rw [show q + (k + 1) = q + k + 1 by omega, List.take_set, List.take_succ_eq_append_getElem hlt, List.set_append_right _ _ (by simp; omega)]
        simp [Nat.min_eq_left (Nat.le_of_lt hlt)]
      have e2 : (cur.set (q + k) v).drop (q + (k + 1) + vs.length) = cur.drop (q + k + (v :: vs).length) := by
        rw [List.drop_set_of_lt (by omega)]; congr 1; simp; omega
      rw [e1, e2]; simp
    · rw [h4 j hj]; exact Below.heap_setCell _ _ _ _ hj
    · rw [h8]; simp [World.setCell]
theorem xsp (i : Nat) {g q k : Nat} {cs ds es : List Value} (ht : structT P T = some k) (hS : Sat w0 w l) (ho : o.op = .store T x y := by exact rfl) (hi : l[i]? = some (.blk g cs) := by exact rfl) (hx : evL L x = some (.pointer (some ⟨g, q, none⟩)) := by exact rfl) (hy : evL L y = some (.agg ds.toArray) := by exact rfl)
    (hl : ds.length = k := by exact rfl) (hc : Nat.ble (q + ds.length) cs.length = true := by exact rfl) (he : cs.take q ++ ds ++ cs.drop (q + ds.length) = es := by exact rfl) (hd : ∀ v ∈ ds, v.oneCell' = true := by repeat' first | exact ones_nil | apply ones_cons rfl) : ∃ w', Runs P L w o .skip w' ∧ Sat w0 w' (l.set i (.blk g es)) := by
  obtain ⟨_, hsz⟩ := struct_of (w := w) ht
  obtain ⟨E, hg⟩ := hS.holds _ (List.mem_of_getElem? hi)
  obtain ⟨w', h3, h4, h5, h6, h7, h8, h9⟩ := run_storesq (P := P) g q E ds 0 cs w hg (by have := Nat.le_of_ble_eq_true hc; omega) hd
  refine ⟨w', fun ρ h => ?_, ?_⟩
  · simp [execOp, ho, h _ _ hx, h _ _ hy, Instr.storeAt, Instr.sureAddr, storeVar, Value.cells, hsz, hl, h3]
  · have hS' := hS
    rw [split_at hi] at hS'
    rw [set_at hi]
    refine hS'.turn (fun j _ hj => h5 j (fun e => hj (by rw [e]; rfl))) h6 h7 h8 (by omega) ⟨E, ?_⟩ (fun _ h => .inl h)
    rw [h4, Nat.add_zero, he]
theorem bun_pk {l : List Ent} (h : (Frame.bun l).holds w) (is : List Nat) (hn : is.Nodup := by decide) : (Frame.bun (pkL l is)).holds w := by
  refine ⟨fun e he => ?_, ?_⟩
  · obtain ⟨i, _, hi⟩ := pkL_mem he; exact h.1 e (List.mem_of_getElem? hi)
  · have hs := h.2
    induction is with
    | nil => exact List.Pairwise.nil
    | cons i is ih =>
      obtain ⟨hni, hn⟩ := List.nodup_cons.1 hn
      unfold pkL
      cases hi : l[i]? with
      | none => exact ih hn
      | some e =>
        refine List.pairwise_cons.2 ⟨fun e' he' => ?_, ih hn⟩
        obtain ⟨j, hj, hj'⟩ := pkL_mem he'
        have hil := (List.getElem?_eq_some_iff.1 hi)
        have hjl := (List.getElem?_eq_some_iff.1 hj')
        obtain ⟨hil1, hil2⟩ := hil
        obtain ⟨hjl1, hjl2⟩ := hjl
        have hij : i ≠ j := fun e => hni (e ▸ hj)
        rcases Nat.lt_or_gt_of_ne hij with h1 | h1
        · have := List.pairwise_iff_getElem.1 hs i j hil1 hjl1 h1
          rw [hil2, hjl2] at this; exact this
        · have := List.pairwise_iff_getElem.1 hs j i hjl1 hil1 h1
          rw [hil2, hjl2] at this; exact this.symm
theorem bun_pkh {l : List Ent} (is : List Nat) {g : Nat} (h : (Frame.bun (pkL l is)).has g) : (Frame.bun l).has g := by
  obtain ⟨e, he, hg⟩ := h
  obtain ⟨i, _, hi⟩ := pkL_mem he
  exact ⟨e, List.mem_of_getElem? hi, hg⟩
def Frame.gives (F : Frame) (l : List Ent) : Prop := (∀ w, F.holds w → (Frame.bun l).holds w) ∧ ∀ g, (Frame.bun l).has g → F.has g
theorem gives_pk {l m : List Ent} (is : List Nat) (e : pkL l is = m := by exact rfl) (hn : is.Nodup := by decide) : (Frame.bun l).gives m := by
  subst e; exact ⟨fun w h => bun_pk h is hn, fun g h => bun_pkh is h⟩
theorem Sat.given {l : List Ent} (h : Sat w0 w l) (i : Nat) {F : Frame} {m : List Ent} (hF : F.gives m) (hi : l[i]? = some (.sem F) := by exact rfl) : Sat w0 w (l.set i (.sem (Frame.bun m))) := by
  have h' := h
  rw [split_at hi] at h'
  rw [set_at hi]
  exact h'.turn (d := .sem F) (fun k _ _ => rfl) rfl rfl rfl (Nat.le_refl _) (hF.1 _ (h.holds _ (List.mem_of_getElem? hi))) (fun g hg => .inl (hF.2 g hg))
end
end Go.Proofs.Gw
namespace Go.Proofs.Gw
open Go Go.RowKit
def FZ (r : Option Nat) : Fence := { fn := fun _ => True, depth := none, alive := false, round := r }
theorem FZ_calls {P : Program} {f : FuncId} {args : Array Value} {w : World} {R : Ending → World → Prop} {r : Option Nat} {n : Nat} (h : Calls P f args w R) : CallsIn (FZ r) n P f args w R :=
  (callsIn_wide (n := n)).2 h
theorem FZ_calls' {P : Program} {f : FuncId} {args : Array Value} {w : World} {R : Ending → World → Prop} {r : Option Nat} {n : Nat} (h : CallsIn (FZ r) n P f args w R) : Calls P f args w R :=
  (callsIn_wide (n := n)).1 h
abbrev Frd (a : Act) (n : Nat) (ds : List Deferred) (L : List (Nat × Value)) : Prop := Fr a n ds L
def ndf (o : Oper) : Bool := match o.op with
  | .defer _ => false
  | _ => true
theorem ndf_sem {o : Oper} (h : ndf o = true) (r : Option Nat) (ρ : Operand → Value) : o.semAt r ρ = execOp ρ o :=
  Oper.semAt_eq _ _ _ (by intro c hc; unfold ndf at h; rw [hc] at h; cases h)
section
variable {P : Program} {l rest : List Oper} {Q Q' : Exit → Act → World → Prop} {w w' w0 : World} {o : Oper} {n d : Nat} {L M : List (Nat × Value)} {x y : Code} {c : Operand} {e : Exit} {p : Prop} {r : Option Nat} {ds : List Deferred}
def Hl (P : Program) (r : Option Nat) (n : Nat) (l : List Oper) (Q : Exit → Act → World → Prop) (rest : List Oper) (ds : List Deferred) (L : List (Nat × Value)) (w : World) : Prop := ∀ a, Frd a n ds L → wpListIn (FZ r) 0 P l.toArray Q rest a w
def Hc (P : Program) (r : Option Nat) (n : Nat) (Q : Exit → Act → World → Prop) (x : Code) (ds : List Deferred) (L : List (Nat × Value)) (w : World) : Prop := ∀ a, Frd a n ds L → x.wpIn (FZ r) 0 P Q a w
abbrev He (n : Nat) (Q : Exit → Act → World → Prop) (e : Exit) (ds : List Deferred) (L : List (Nat × Value)) (w : World) : Prop := Ge n ds Q e L w
theorem hwant {b : Bool} {a : Act} (hF : Frd a n ds L) (h : gdB l L o = some b) : Region.wanted o (yielded l.toArray a.tmps) = b := by
  exact (gdB_want h).wanted hF
theorem hlv {v : Value} (hr : Runs P L w o (.value v) w') (K : Hl P r n l Q rest ds ((d, v) :: L) w') (hg : gdB l L o = some true := by exact rfl) (hd : o.dst = some d := by exact rfl) (hdn : Nat.blt d n = true := by exact rfl) (hn : ndf o = true := by exact rfl) : Hl P r n l Q (o :: rest) ds L w := fun a hF => by
  unfold wpListIn
  rw [if_pos (hwant hF hg)]
  refine ⟨fun _ _ => trivial, ?_⟩
  rw [ndf_sem hn, hr _ hF.agr, Oper.uponIn_value, hd]
  exact K _ (hF.put (by simpa [Nat.blt_eq] using hdn) v)
theorem hlo (K : Hl P r n l Q rest ds ((d, undef) :: L) w) (hg : gdB l L o = some false := by exact rfl) (hd : o.dst = some d := by exact rfl) (hdn : Nat.blt d n = true := by exact rfl) : Hl P r n l Q (o :: rest) ds L w := fun a hF => by
  unfold wpListIn
  rw [if_neg (by rw [hwant hF hg]; simp)]
  refine ⟨fun _ _ => trivial, ?_⟩
  rw [hd]
  exact K _ (hF.put (by simpa [Nat.blt_eq] using hdn) undef)
theorem hle {R : World → Prop} (hr : ∃ w', Runs P L w o .skip w' ∧ R w') (K : ∀ w', R w' → Hl P r n l Q rest ds L w') (hg : gdB l L o = some true := by exact rfl) (hd : o.dst = none := by exact rfl) (hn : ndf o = true := by exact rfl) : Hl P r n l Q (o :: rest) ds L w := fun a hF => by
  obtain ⟨w', hr, hR⟩ := hr
  unfold wpListIn
  rw [if_pos (hwant hF hg)]
  refine ⟨fun _ _ => trivial, ?_⟩
  rw [ndf_sem hn, hr _ hF.agr, Oper.uponIn_skip, hd]
  exact K w' hR a hF
theorem hlc {f : FuncId} {args : Array Value} {R : Value → World → Prop} (hr : Runs P L w o (.enter f args) w) (hc : Calls P f args w fun e w' => ∃ v, e = .returned v ∧ R v w') (K : ∀ v w', R v w' → Hl P r n l Q rest ds ((d, v) :: L) w')
    (hg : gdB l L o = some true := by exact rfl) (hd : o.dst = some d := by exact rfl) (hdn : Nat.blt d n = true := by exact rfl) (hn : ndf o = true := by exact rfl) : Hl P r n l Q (o :: rest) ds L w := fun a hF => by
  unfold wpListIn
  rw [if_pos (hwant hF hg)]
  refine ⟨fun _ _ => trivial, ?_⟩
  rw [ndf_sem hn, hr _ hF.agr, Oper.uponIn_enter]
  refine ⟨fun h => (by cases h), FZ_calls (hc.mono fun e w' ⟨v, he, hR⟩ => ?_)⟩
  subst he
  rw [hd]
  exact K v w' hR _ (hF.put (by simpa [Nat.blt_eq] using hdn) v)
def Yld (P : Program) (l : Nat) (vs : List Value) (w : World) (R : Value → World → Prop) : Prop :=
  ∃ fn tmps assign body, (Instr.yield l vs.toArray).run P w = .ok (.round l fn tmps assign body) w ∧ RoundIn (FZ none) 0 P l fn tmps assign body w fun e w' => ∃ v, e = .returned v ∧ R v w'
theorem xyl {l0 : Nat} {xs : Array Operand} {ts : Array TypeId} {vs : List Value} {z : Operand} {N : Next} (hy : (Instr.yield l0 vs.toArray).run P w = .ok N w) (ho : o.op = .call { callee := .value z, args := xs, argTypes := ts }) (hx : evL L z = some (.func (.yield l0) #[] #[])) (ha : Args L xs vs) : Runs P L w o N w := fun ρ h => by
  have h1 := ha ρ h
  simp [execOp, ho, resolve, h _ _ hx, Deferred.ofValue, invoke, h1, hy]
theorem hly {l0 : Nat} {xs : Array Operand} {ts : Array TypeId} {vs : List Value} {z : Operand} {R : Value → World → Prop} (hY : Yld P l0 vs w R) (K : ∀ v w', R v w' → Hl P none n l Q rest ds ((d, v) :: L) w')
    (ho : o.op = .call { callee := .value z, args := xs, argTypes := ts } := by exact rfl) (hx : evL L z = some (.func (.yield l0) #[] #[]) := by exact rfl) (ha : Args L xs vs := by repeat' first | exact args0 | apply args_cons rfl)
    (hg : gdB l L o = some true := by exact rfl) (hd : o.dst = some d := by exact rfl) (hdn : Nat.blt d n = true := by exact rfl) : Hl P none n l Q (o :: rest) ds L w := fun a hF => by
  obtain ⟨fn, tmps, assign, body, hy, hR⟩ := hY
  have hr := xyl (P := P) (L := L) (o := o) hy ho hx ha
  unfold wpListIn
  rw [if_pos (hwant hF hg)]
  refine ⟨fun _ _ => trivial, ?_⟩
  rw [ndf_sem (by unfold ndf; rw [ho]), hr _ hF.agr, Oper.uponIn_round]
  refine ⟨fun h => (by cases h), hR.mono fun e w' ⟨v, he, hR⟩ => ?_⟩
  subst he
  rw [hd]
  exact K v w' hR _ (hF.put (by simpa [Nat.blt_eq] using hdn) v)
theorem hln (K : He n Q .normal ds L w) : Hl P r n l Q [] ds L w := K
theorem hlb (d : Nat) (ht : p → Hl P r n l Q rest ds ((d, .bool true) :: L) w) (hf : ¬ p → Hl P r n l Q rest ds ((d, .bool false) :: L) w) (hd : lk L d = some (B p) := by exact rfl) : Hl P r n l Q rest ds L w := fun a hF =>
  by_slot hF hd (fun hp h => ht hp _ h) (fun hp h => hf hp _ h)
theorem hsq (h : Hc P r n (Exit.then (y.wpIn (FZ r) 0 P Q) Q) x ds L w) : Hc P r n Q (.seq x y) ds L w := fun a hF => wpIn_seq (h a hF)
theorem hrg {id : Nat} (h : Hl P r n l Q l ds L w) : Hc P r n Q (.region id l.toArray false) ds L w := fun a hF => wpIn_region_lit (h a hF)
def onlyN (Q : Exit → Act → World → Prop) : Exit → Act → World → Prop := fun e a w => e = .normal ∧ Q .normal a w
theorem not_letsOut : ¬ LetsOut (onlyN Q) := fun ⟨_, _, h⟩ => by cases h.1
theorem rows_in {row : String} {args : Array Value} {R : Value → World → Prop} (h : Rows P row args w R) : RowsIn (FZ r) 0 P row args w R := fun c cs _ => by
  obtain ⟨v, w', h1, h2⟩ := h c cs
  exact ⟨v, w', h1, (stepsIn_wide (P := P)).2 h2⟩
theorem ops_in {ops : Array Oper} {Qn : Exit → Act → World → Prop} (q1 : ∀ a w, Qn .normal a w → Q .normal a w) (q2 : ∀ ch a w, ¬ Qn (.panic ch) a w) (q3 : ¬ LetsOut Qn) (hn : ops.toList.all ndf = true) : ∀ (is : List Nat) (a : Act) (w : World), wpOps P ops Qn is a w → wpOpsIn (FZ r) 0 P ops Q is a w
  | [], a, w, h => q1 _ _ h
  | i :: is, a, w, h => by
    unfold wpOps at h
    unfold wpOpsIn
    cases ho : ops[i]? with
    | none => simp only [ho] at h ⊢; exact ops_in q1 q2 q3 hn is a w h
    | some o =>
      simp only [ho] at h ⊢
      have hndf : ndf o = true := List.all_eq_true.1 hn o (by
        obtain ⟨hi, rfl⟩ := Array.getElem?_eq_some_iff.1 ho
        simp)
      by_cases hw : Region.wanted o (yielded ops a.tmps) = true
      · rw [if_pos hw] at h ⊢
        refine ⟨fun _ _ => trivial, ?_⟩
        rw [ndf_sem hndf]
        rcases h with h | h
        · unfold Oper.wp at h
          cases he : (execOp a.eval o).run P w with
          | ok N w1 =>
            rw [he] at h
            cases N with
            | value v => exact ops_in q1 q2 q3 hn is _ _ h
            | skip => exact ops_in q1 q2 q3 hn is _ _ h
            | defer d => exact ops_in q1 q2 q3 hn is _ _ h
            | enter f args =>
              refine ⟨fun h => (by cases h), FZ_calls (Calls.mono h fun e w' hh => ?_)⟩
              cases e with
              | returned v => exact ops_in q1 q2 q3 hn is _ _ hh
              | panicked ch => exact absurd hh (q2 _ _ _)
              | outgrown => exact absurd hh q3
            | row rw args => 
              refine ⟨fun h => (by cases h), rows_in (Rows.mono h fun v w' hh => ops_in q1 q2 q3 hn is _ _ hh)⟩
            | _ => exact h.elim
          | halt x w1 =>
            rw [he] at h
            cases x with
            | panic v => exact absurd h (q2 _ _ _)
            | _ => exact h.elim
        · exact absurd h.2 q3
      · rw [if_neg hw] at h ⊢
        exact ⟨fun _ _ => trivial, ops_in q1 q2 q3 hn is _ _ h⟩
theorem only1 : ∀ a w, onlyN Q .normal a w → Q .normal a w := fun _ _ h => h.2
theorem only2 : ∀ ch a w, ¬ onlyN Q (.panic ch) a w := fun _ _ _ h => by cases h.1
theorem zh (h : Ge n ds Q .normal L w) : Ge n ds (onlyN Q) .normal L w := fun a hF => ⟨rfl, h a hF⟩
theorem ops_of_list {ops : Array Oper} {a : Act} (h : wpList P ops Q ops.toList a w) : wpOps P ops Q (List.range ops.size) a w := by
  rw [List.range_eq_range', ← Array.length_toList, wpOps_eq_wpList ops.toList 0 (by simp)]; exact h
theorem hrz {id : Nat} (h : Gl P n ds l (onlyN Q) l L w) (hn : l.all ndf = true := by exact rfl) : Hc P r n Q (.region id l.toArray false) ds L w := fun a hF =>
  wpIn_region (ops_in only1 only2 not_letsOut (by simpa using hn) _ _ _ (ops_of_list (by have := h a hF; simpa using this)))
theorem hdst {w0 : World} {id : Nat} {m m0 m1 : List Ent} {fuel : Nat} (is js : List Nat) (brk : Nat) (hm : P.follows .mixedOrders = true) (hS : Sat w0 w m) (K : ∀ w', Sat w0 w' m → Gd P n ds l (onlyN Q) (fun w' => Sat w0 w' m0) (fun w' => Sat w0 w' m1) brk fuel (Array.replicate fuel false) L w')
    (h0 : pkL m is = m0 := by exact rfl) (h1 : pkL m js = m1 := by exact rfl) (hn0 : is.Nodup := by decide) (hn1 : js.Nodup := by decide) (hn : l.length = fuel := by exact rfl) (hnd : l.all ndf = true := by exact rfl) : Hc P r n Q (.region id l.toArray true) ds L w := fun a hF => by
  subst h0; subst h1; subst hn
  refine wpIn_region_draw fun t => ops_in (Qn := NoPanic (onlyN Q)) (fun _ _ h => h.2) (fun _ _ _ h => h.elim) (fun ⟨_, _, h⟩ => by cases h.1) (by simpa using hnd) _ _ _ ?_
  simp only [Region.schedule, hm, Bool.true_or, if_true]
  have hcl : Closed l.toArray (Array.replicate l.length false) := by have := Closed.start (ops := l.toArray); simpa using this
  have h2 := wpAny_of_B _ _ _ _ (K w.drew hS.draw hcl ⟨fun _ => hS.draw.pk is hn0, hS.draw.pk js hn1⟩ a hF)
  have h3 := wpAny_sound l.length t _ a _ h2
  have e : l.toArray.size = l.length := by simp
  first | exact h3 | (unfold Region.linearise; rw [e]; exact h3)
theorem hcif (ht : p → Hc P r n Q x ds L w) (hf : ¬ p → Hc P r n Q y ds L w) (hc : evL L c = some (B p) := by exact rfl) : Hc P r n Q (.cond c x y) ds L w := fun a hF => by
  have := hF.agr _ _ hc
  by_cases hp : p
  · exact wpIn_cond_true (by rw [this, B_true hp]) (ht hp a hF)
  · exact wpIn_cond_false (by rw [this, B_false hp]) (hf hp a hF)
theorem hct (h : Hc P r n Q x ds L w) (hc : evL L c = some (.bool true) := by exact rfl) : Hc P r n Q (.cond c x y) ds L w := fun a hF => wpIn_cond_true (hF.agr _ _ hc) (h a hF)
theorem hcf (h : Hc P r n Q y ds L w) (hc : evL L c = some (.bool false) := by exact rfl) : Hc P r n Q (.cond c x y) ds L w := fun a hF => wpIn_cond_false (hF.agr _ _ hc) (h a hF)
theorem hsk (h : He n Q .normal ds L w) : Hc P r n Q .skip ds L w := fun a hF => wpIn_skip (h a hF)
theorem hrt (h : He n Q .ret ds L w) : Hc P r n Q .ret ds L w := fun a hF => wpIn_ret (h a hF)
theorem hxt {id : Nat} (h : He n Q (.exit id) ds L w) : Hc P r n Q (.exit id) ds L w := fun a hF => wpIn_exit (h a hF)
theorem hbk {id : Nat} (h : Hc P r n (Exit.inBlock id Q) x ds L w) : Hc P r n Q (.block id x) ds L w := fun a hF => wpIn_block (h a hF)
theorem htn (h : Hc P r n Q y ds L w) : He n (Exit.then (y.wpIn (FZ r) 0 P Q) Q') .normal ds L w := h
theorem wpIn_loopJ {F : Fence} {nn : Nat} {body : Code} {a : Act} (I : Nat → Act → World → Prop) {m : Nat} (h0 : I m a w) (round : ∀ m a w, I m a w → body.wpIn F nn P (Exit.then (fun a' w' => ∃ m', m' < m ∧ I m' a' w') Q) a w) : (Code.loop body).wpIn F nn P Q a w := by
  intro b k cs hro hb hr
  have key : ∀ m a w, I m a w → ∃ e a' w', Q e a' w' ∧ ArrivesIn (Machine.fenced P F) P (lone (b.atR a (.code body :: .inLoop body :: k)) cs w) b k cs e a' w' := by
    intro m
    induction m using Nat.strongRecOn with
    | _ m ih =>
      intro a w hI
      obtain ⟨e, a₁, w₁, hq, harr⟩ := round m a w hI b (.inLoop body :: k) cs hro hb hr
      cases e with
      | normal =>
        obtain ⟨m', hlt, hI₁⟩ := hq
        obtain ⟨e₂, a₂, w₂, hq₂, harr₂⟩ := ih m' hlt a₁ w₁ hI₁
        exact ⟨e₂, a₂, w₂, hq₂, .of_steps (StepsIn.trans harr (.one (fenced_calm hb hr rfl) stepR_inLoop)) harr₂⟩
      | exit id => exact ⟨_, a₁, w₁, hq, .pass (x := .inLoop body) rfl (fun _ _ => .inl (by simp)) harr⟩
      | goto l => exact ⟨_, a₁, w₁, hq, .pass (x := .inLoop body) rfl (fun _ _ => .inl (by simp)) harr⟩
      | ret => exact ⟨_, a₁, w₁, hq, .pass (x := .inLoop body) rfl (fun _ _ => .inl (by simp)) harr⟩
      | panic ch => exact ⟨_, a₁, w₁, hq, .pass (x := .inLoop body) rfl (fun _ _ => .inl (by simp)) harr⟩
      | outgrown => exact ⟨_, a₁, w₁, hq, .pass (x := .inLoop body) rfl (fun _ _ => .inl (by simp)) harr⟩
  obtain ⟨e, a', w', hq, harr⟩ := key m a w h0
  exact ⟨e, a', w', hq, .of_steps (.one (fenced_calm hb hr rfl) stepR_loop) harr⟩
theorem hlp (J : Nat → List (Nat × Value) → World → Prop) {m : Nat} (h0 : J m M w) (round : ∀ m M w, J m M w → Hc P r n (Exit.then (fun a w => ∃ m', m' < m ∧ ∃ M', J m' M' w ∧ Frd a n ds M') Q) x ds M w)
    (hM : Sub L M := by repeat' first | exact zpk0 | refine zpk rfl ?_) : Hc P r n Q (.loop x) ds L w := fun a hF =>
  wpIn_loopJ (fun m a w => ∃ M, J m M w ∧ Frd a n ds M) ⟨M, h0, hF.sub hM⟩ fun m a w ⟨M', hJ, hF'⟩ => round m M' w hJ a hF'
theorem hlq {J : Nat → List (Nat × Value) → World → Prop} {m m' : Nat} (hJ : J m' M w) (hlt : m' < m := by omega) (hM : Sub L M := by repeat' first | exact zpk0 | refine zpk rfl ?_) : He n (Exit.then (fun a w => ∃ m', m' < m ∧ ∃ M', J m' M' w ∧ Frd a n ds M') Q) .normal ds L w :=
  fun a hF => ⟨m', hlt, M, hJ, hF.sub hM⟩
theorem henM {f : FuncId} {fn : Func} {vs : List Value} {R : Ending → World → Prop} (hf : P.funcs[f]? = some fn) (hn : fn.ntmps = n) (K : ∀ w, Sat w0 w [] → Hc P none n (bodyPostM (FZ none) 0 P fn R) x [] (num 0 vs) w) (hb : fn.body = some x := by exact rfl) (hv : Nat.ble vs.length n = true := by exact rfl) : Calls P f vs.toArray w0 R :=
  FZ_calls' (r := none) (n := 0) (callsIn_of_wp_marks hf hb trivial (by
    rw [hn]
    exact K _ (Sat.start w0) _ ((Fr.enter (vs := vs.toArray) (by simpa using Nat.le_of_ble_eq_true hv) fun t v ht => by have := (lk_num vs 0 t v ht).2; simpa using this))))
theorem henI {f : FuncId} {fn : Func} {vs : List Value} {R : Ending → World → Prop} (hf : P.funcs[f]? = some fn) (hn : fn.ntmps = n) (K : Hc P none n (bodyPost P fn R) x [] (num 0 vs) w) (hb : fn.body = some x := by exact rfl) (hv : Nat.ble vs.length n = true := by exact rfl) : Calls P f vs.toArray w R :=
  enter hf hb hn hv fun a hF => (wpIn_wide (n := 0)).1 (K a hF)
theorem hmk0 {fn : Func} {R : Ending → World → Prop} (h : Ge n [] (bodyPost P fn R) .ret L w) : He n (bodyPostM (FZ none) 0 P fn R) .ret [] L w := fun a hF => by
  obtain ⟨_, v, h1, h2⟩ := h a hF
  have e := hF.defers
  show LeavesInM _ _ _ _ _ _ a.defers _ _
  rw [e]
  exact ⟨v, h1, h2⟩
def Frame.obj (g : Nat) (o : Obj) : Frame where
  holds w := w.heap[g]? = some o
  has k := k = g
  keep h hk := (hk g rfl).trans h
  lt h hg := by rw [hg]; exact (Array.getElem?_eq_some_iff.1 h).1
abbrev dfE (D : Nat) (b : Bool) : Ent := .sem (Frame.obj D (.deferred (if b then some [] else none)))
def mrk (D : Nat) : Deferred := { target := .collected D, args := #[] }
theorem Sat.putObj {l1 l2 : List Ent} {g : Nat} {o o' : Obj} (h : Sat w0 w (l1 ++ .sem (Frame.obj g o) :: l2)) : Sat w0 (w.putObj g o') (l1 ++ .sem (Frame.obj g o') :: l2) := by
  have hg : w.heap[g]? = some o := h.get
  refine h.turn (d := .sem (Frame.obj g o)) (fun k _ hk => World.putObj_heap_other (fun e => hk e)) rfl rfl rfl (by simp) ?_ (fun _ h => .inl h)
  exact World.putObj_heap_same (Array.getElem?_eq_some_iff.1 hg).1
theorem hmk1 {fn : Func} {R : Ending → World → Prop} {E : List Ent} {D : Nat} (i : Nat) (hS : Sat w0 w E) (K : ∀ w', Sat w0 w' (E.set i (dfE D false)) → Ge n [] (bodyPost P fn R) .ret L w') (hi : E[i]? = some (dfE D true) := by exact rfl) : He n (bodyPostM (FZ none) 0 P fn R) .ret [mrk D] L w := fun a hF => by
  have e := hF.defers
  show LeavesInM _ _ _ _ _ _ a.defers _ _
  rw [e]
  have hD : w.heap[D]? = some (.deferred (some [])) := hS.holds _ (List.mem_of_getElem? hi)
  refine ⟨by simp, .inl ⟨D, _, rfl, run_takeDeferred hD, ?_⟩⟩
  have h1 : Sat w0 (w.putObj D (.deferred none)) (E.set i (dfE D false)) := by
    have h' := hS
    rw [split_at hi] at h'
    rw [set_at hi]
    exact h'.putObj
  obtain ⟨_, v, h2, h3⟩ := K _ h1 { a with defers := [] } ⟨hF.size, rfl, hF.get⟩
  exact ⟨v, h2, h3⟩
end
theorem hasg {J : List (Nat × Value) → List Ent → Prop} {F : List Ent → List Ent} {Q : Exit → Act → World → Prop} {w w0 : World} {n : Nat} {L M : List (Nat × Value)} {es : List Ent} (hJ : J M es) (hS : Sat w0 w (F es)) (hM : Sub L M := by repeat' first | exact zpk0 | refine zpk rfl ?_) :
    Ge n [] (Exit.then (fun a w' => ∃ M es, J M es ∧ Frd a n [] M ∧ Sat w0 w' (F es)) Q) .normal L w := fun a hF => ⟨M, es, hJ, hF.sub hM, hS⟩
theorem perm_of {l m : List Ent} (h : ∀ f : Ent → Nat, (l.map f).sum = (m.map f).sum) : l.Perm m := by
  classical
  rw [List.perm_iff_count]
  intro z
  have := h (fun x => if x = z then 1 else 0)
  have e : ∀ l : List Ent, (l.map fun x => if x = z then 1 else 0).sum = l.count z := fun l => by
    induction l with
    | nil => rfl
    | cons x l ih =>
      rw [List.map_cons, List.sum_cons, ih, List.count_cons]
      by_cases hx : x = z
      · subst hx; simp; omega
      · simp [hx]
  rw [e, e] at this
  exact this
section
variable {P : Program} {Q : Exit → Act → World → Prop} {w w' w0 : World} {n : Nat} {L : List (Nat × Value)} {ds : List Deferred}
def ItC {St X Tt : Type} (P : Program) (w0 : World) (gf : FuncId) (lb : List Value) (Sh : List Ent) (enc : X → List Value) (Pre : St → X → Frame → Prop) (Nx : St → X → St → Prop) (Sx : St → X → Tt → Prop) (s0 : St) (Fin : St → Frame → Prop) (FinX : Tt → Frame → Prop) : Prop :=
  ∀ (l : Nat) (C : St → Frame) (D : Tt → Frame) (w : World), Sat w0 w (.sem (C s0) :: Sh) →
    (∀ s x rest w, Pre s x rest → Sat w0 w (.sem (C s) :: (Sh ++ [.sem rest])) → Yld P l (enc x) w fun v w' =>
      (v = .bool true ∧ ∃ s', Nx s x s' ∧ Sat w0 w' (.sem (C s') :: (Sh ++ [.sem rest]))) ∨ (v = .bool false ∧ ∃ t, Sx s x t ∧ Sat w0 w' (.sem (D t) :: (Sh ++ [.sem rest])))) →
    Calls P gf (.func (.yield l) #[] #[] :: lb).toArray w fun e w' => ∃ v, e = .returned v ∧
      ((∃ s rest, Fin s rest ∧ Sat w0 w' (.sem (C s) :: (Sh ++ [.sem rest]))) ∨ (∃ t rest, FinX t rest ∧ Sat w0 w' (.sem (D t) :: (Sh ++ [.sem rest]))))
def zipL : List Nat → List Value → List (Nat × Value) → List (Nat × Value)
  | t :: ts, v :: vs, L => zipL ts vs ((t, v) :: L)
  | _, _, L => L
theorem zipL_fr {a : Act} : ∀ (ts : List Nat) (vs : List Value) (T : Array Value) {L : List (Nat × Value)}, Frd { tmps := T, defers := [] } n [] L → (ts.all fun t => Nat.blt t n) = true →
    Frd { tmps := (ts.zip vs).foldl (fun t (p : Nat × Value) => t.setIfInBounds p.1 p.2) T, defers := [] } n [] (zipL ts vs L)
  | [], vs, T, L, h, _ => by simpa [zipL] using h
  | t :: ts, [], T, L, h, _ => by simpa [zipL] using h
  | t :: ts, v :: vs, T, L, h, hb => by
    simp only [List.all_cons, Bool.and_eq_true] at hb
    have h1 := h.put (by simpa [Nat.blt_eq] using hb.1) v
    simp only [List.zip_cons_cons, List.foldl_cons, zipL]
    exact zipL_fr (a := a) ts vs _ h1 hb.2
def rdQ {St Tt : Type} (w0 : World) (C : St → List Ent) (D : Tt → List Ent) (jc : Tt → Code) (Sh : List Ent) (N : St → Prop) (S : Tt → Prop) (rest : Frame) : Exit → Act → World → Prop
  | .normal, _, w' => ∃ s', N s' ∧ Sat w0 w' (C s' ++ (Sh ++ [.sem rest]))
  | .ret, _, w' => ∃ t, S t ∧ jc t = .ret ∧ Sat w0 w' (D t ++ (Sh ++ [.sem rest]))
  | .exit id, _, w' => ∃ t, S t ∧ jc t = .exit id ∧ Sat w0 w' (D t ++ (Sh ++ [.sem rest]))
  | _, _, _ => False
theorem hrdN {St Tt : Type} {w0 w : World} {C : St → List Ent} {D : Tt → List Ent} {jc : Tt → Code} {Sh : List Ent} {N : St → Prop} {S : Tt → Prop} {rest : Frame} {n : Nat} {L : List (Nat × Value)} (s' : St) (hN : N s') (hS : Sat w0 w (C s' ++ (Sh ++ [.sem rest]))) : Ge n [] (rdQ w0 C D jc Sh N S rest) .normal L w := fun _ _ => ⟨s', hN, hS⟩
theorem hrdR {St Tt : Type} {w0 w : World} {C : St → List Ent} {D : Tt → List Ent} {jc : Tt → Code} {Sh : List Ent} {N : St → Prop} {S : Tt → Prop} {rest : Frame} {n : Nat} {L : List (Nat × Value)} (t : Tt) (hN : S t) (hj : jc t = .ret) (hS : Sat w0 w (D t ++ (Sh ++ [.sem rest]))) : Ge n [] (rdQ w0 C D jc Sh N S rest) .ret L w := fun _ _ => ⟨t, hN, hj, hS⟩
def exitOf : Code → Exit
  | .ret => .ret
  | .exit id => .exit id
  | _ => .normal
theorem Sat.unbun {l1 l2 l3 : List Ent} (h : Sat w0 w (l1 ++ .sem (Frame.bun l2) :: l3)) : Sat w0 w (l1 ++ (l2 ++ l3)) := h.unbundle
theorem hrf {St X Tt : Type} {gf : FuncId} {lb : List Value} {g : Operand} {ps : Array Tmp} {assign body : Code} {Sh : List Ent} {enc : X → List Value} {Pre : St → X → Frame → Prop} {Nx : St → X → St → Prop} {Sx : St → X → Tt → Prop} {Fin : St → Frame → Prop} {FinX : Tt → Frame → Prop}
    (C : St → List Ent) (D : Tt → List Ent) (jc : Tt → Code) (s0 : St) (J : X → List (Nat × Value) → List Ent → Prop) (hit : ItC P w0 gf lb Sh enc Pre Nx Sx s0 Fin FinX) (hS : Sat w0 w (C s0 ++ Sh)) (hcl : calledT P gf = true)
    (hpl : ∀ x, (enc x).length = ps.size) (hjc : ∀ t, jc t = .ret ∨ ∃ id, jc t = .exit id)
    (hassign : ∀ l s x rest w, Pre s x rest → ∀ rest', (∀ w, rest'.holds w → rest.holds w) → Sat w0 w (C s ++ (Sh ++ [.sem rest'])) → Hc P (some l) n (Exit.then (fun a w' => ∃ M es, J x M es ∧ Frd a n [] M ∧ Sat w0 w' (C s ++ (Sh ++ (.sem rest' :: es)))) (fun _ _ _ => False)) assign [] (zipL ps.toList (enc x) L) w)
    (hbody : ∀ l s x M es rest w, Pre s x rest → J x M es → ∀ rest', (∀ w, rest'.holds w → rest.holds w) → Sat w0 w (C s ++ (Sh ++ (.sem rest' :: es))) → Hc P (some l) n (rdQ w0 C D jc Sh (Nx s x) (Sx s x) rest') body [] M w)
    (hdone : ∀ Dk s rest w', Fin s rest → Sat w0 w' (C s ++ (Sh ++ [.sem rest, dfE Dk true])) → He n Q .normal (mrk Dk :: ds) L w')
    (hstop : ∀ Dk t rest w', FinX t rest → Sat w0 w' (D t ++ (Sh ++ [.sem rest, dfE Dk true])) → He n Q (exitOf (jc t)) (mrk Dk :: ds) L w')
    (hg : evL L g = some (.func (.func gf) #[] lb.toArray) := by exact rfl) (hpb : (ps.toList.all fun t => Nat.blt t n) = true := by exact rfl) : Hc P none n Q (.rangeFunc g ps assign body) ds L w := by
  intro a hF
  refine wpIn_rangeFunc ?_
  intro fn hfn
  obtain ⟨rec, hrec⟩ : ∃ rec : LoopState → Option Code → Loop, rec = fun st pe => { state := st, pending := pe, fn, tmps := a.tmps, params := ps, assign, body, defers := w.heap.size } := ⟨_, rfl⟩
  obtain ⟨W1, hW1⟩ : ∃ W1, (w.alloc (.deferred (some []))).alloc (.loop (rec .ready none)) = W1 := ⟨_, rfl⟩
  obtain ⟨l, hl⟩ : ∃ l, w.heap.size + 1 = l := ⟨_, rfl⟩
  obtain ⟨Dk, hDk⟩ : ∃ Dk, w.heap.size = Dk := ⟨_, rfl⟩
  have hS1 : Sat w0 W1 ((C s0 ++ Sh) ++ [dfE Dk true] ++ [.sem (Frame.obj l (.loop (rec .ready none)))]) := by
    rw [← hW1]
    refine (hS.alloc _ (e := dfE Dk true) ?_ ?_).alloc _ (e := .sem (Frame.obj l (.loop (rec .ready none)))) ?_ ?_
    · rw [← hDk]; exact heap_alloc_new w _
    · intro g hg; rw [← hDk] at hg; exact hg
    · have := heap_alloc_new (w.alloc (.deferred (some []))) (.loop (rec .ready none))
      rw [World.size_alloc, hl] at this; exact this
    · intro g hg; rw [World.size_alloc, hl]; exact hg
  have eval : a.eval g = .func (.func gf) #[] lb.toArray := hF.agr _ _ hg
  have hfun : ∃ fnn, P.funcs[gf]? = some fnn ∧ fnn.body.isSome = true ∧ (fnn.name == "runtime.NumGoroutine") = false := by
    unfold calledT at hcl
    cases hf : P.funcs[gf]? with
    | none => simp [hf] at hcl
    | some fnn =>
      simp only [hf, Bool.and_eq_true, Bool.not_eq_true'] at hcl
      exact ⟨fnn, rfl, hcl.1, hcl.2⟩
  obtain ⟨fnn, hf1, hf2, hf3⟩ := hfun
  have hf2' : fnn.body ≠ none := by intro e; rw [e] at hf2; simp at hf2
  have hf3' : fnn.name ≠ "runtime.NumGoroutine" := by simpa using hf3
  let C' : St → Frame := fun s => Frame.bun (C s ++ [.sem (Frame.obj l (.loop (rec .ready none))), dfE Dk true])
  let D' : Tt → Frame := fun t => Frame.bun (D t ++ [.sem (Frame.obj l (.loop (rec .done (some (jc t))))), dfE Dk true])
  have hS2 : Sat w0 W1 (.sem (C' s0) :: Sh) := by
    have h1 : Sat w0 W1 (Sh ++ (C s0 ++ [.sem (Frame.obj l (.loop (rec .ready none))), dfE Dk true])) := hS1.perm (perm_of fun f => by simp only [List.map_append, List.map_cons, List.map_nil, List.sum_append, List.sum_cons, List.sum_nil]; omega)
    have h2 := h1.bundle
    exact h2.perm List.perm_append_comm
  refine ⟨l, [mrk Dk], W1, { target := .fn (.func gf) lb.toArray, args := #[.func (.yield l) #[] #[]] }, W1, gf, #[.func (.yield l) #[] #[]] ++ lb.toArray, W1, ?_, ?_, ?_, ?_, fun h => (by cases h), ?_⟩
  · rw [← hW1, hrec, ← hl, ← hDk]; exact run_enterLoop_outer _ _ _ _ _
  · simp only [resolve, eval]
    simp [go_sem]
  · intro f' hf'; trivial
  · simp [invoke, go_sem, callFunc, hf1, hf2', hf3']
  have eargs : (#[.func (.yield l) #[] #[]] ++ lb.toArray : Array Value) = (.func (.yield l) #[] #[] :: lb).toArray := by simp
  rw [eargs]
  refine FZ_calls ((hit l C' D' W1 hS2 ?_).mono ?_)
  · 
    intro s x rest W hpre hSW
    have h1 : Sat w0 W (C s ++ (Sh ++ [.sem rest, .sem (Frame.obj l (.loop (rec .ready none))), dfE Dk true])) := by
      have := Sat.unbun (l1 := []) hSW
      exact this.perm (perm_of fun f => by simp only [List.map_append, List.map_cons, List.map_nil, List.sum_append, List.sum_cons, List.sum_nil]; omega)
    have hlr : W.heap[l]? = some (.loop (rec .ready none)) := h1.holds (.sem (Frame.obj l (.loop (rec .ready none)))) (by simp)
    have hy := run_yield (P := P) (args := (enc x).toArray) hlr (by rw [hrec]; simp [hpl x])
    rw [hrec] at hy
    refine ⟨fn, _, assign, body, hy, roundIn_of_wpIn trivial ?_⟩
    clear hy
    let r1 : Frame := Frame.bun [.sem rest, .sem (Frame.obj l (.loop (rec .ready none))), dfE Dk true]
    have h2 : Sat w0 W (C s ++ (Sh ++ [.sem r1])) := by
      rw [← List.append_assoc] at h1 ⊢
      exact h1.bundle
    have hfr : Frd { tmps := (ps.zip (enc x).toArray).foldl (fun t (p, v) => t.setIfInBounds p v) a.tmps, defers := [] } n [] (zipL ps.toList (enc x) L) := by
      have := zipL_fr (a := a) (n := n) ps.toList (enc x) a.tmps (L := L) ⟨hF.size, rfl, hF.get⟩ hpb
      have e : (ps.zip (enc x).toArray).foldl (fun t (p, v) => t.setIfInBounds p v) a.tmps = (ps.toList.zip (enc x)).foldl (fun t (p : Nat × Value) => t.setIfInBounds p.1 p.2) a.tmps := by
        rw [← Array.foldl_toList, Array.toList_zip]
      rw [e]; exact this
    refine Go.wpIn_mono (hassign l s x rest W hpre r1 (fun w h => h.1 (.sem rest) (by simp)) h2 _ hfr) ?_
    intro e a1 Wa hp
    cases e <;> try exact hp.elim
    obtain ⟨M, es, hJ, hFM, hSa⟩ := hp
    have h3 : Sat w0 Wa ((C s ++ (Sh ++ ([.sem rest] ++ es)) ++ [dfE Dk true]) ++ .sem (Frame.obj l (.loop (rec .ready none))) :: []) := by
      have := Sat.unbun (l1 := C s ++ Sh) (l3 := es) (by rw [List.append_assoc]; exact hSa)
      exact this.perm (perm_of fun f => by simp only [List.map_append, List.map_cons, List.map_nil, List.sum_append, List.sum_cons, List.sum_nil]; omega)
    have hlr : Wa.heap[l]? = some (.loop (rec .ready none)) := h3.get
    refine ⟨_, run_beginRound hlr (by rw [hrec]), ?_⟩
    have h4 := h3.putObj (o' := .loop { rec .ready none with state := .busy })
    let r2 : Frame := Frame.bun [.sem rest, .sem (Frame.obj l (.loop { rec .ready none with state := .busy })), dfE Dk true]
    have h5 : Sat w0 (Wa.putObj l (.loop { rec .ready none with state := .busy })) (C s ++ (Sh ++ (.sem r2 :: es))) := by
      have h : Sat w0 (Wa.putObj l (.loop { rec .ready none with state := .busy })) ((C s ++ (Sh ++ es)) ++ [.sem rest, .sem (Frame.obj l (.loop { rec .ready none with state := .busy })), dfE Dk true]) := by
        exact h4.perm (perm_of fun f => by simp only [List.map_append, List.map_cons, List.map_nil, List.sum_append, List.sum_cons, List.sum_nil]; omega)
      have hb : Sat w0 (Wa.putObj l (.loop { rec .ready none with state := .busy })) ((C s ++ (Sh ++ es)) ++ [.sem r2]) := h.bundle
      exact hb.perm (perm_of fun f => by simp only [List.map_append, List.map_cons, List.map_nil, List.sum_append, List.sum_cons, List.sum_nil]; omega)
    refine Go.wpIn_mono (hbody l s x M es rest _ hpre hJ r2 (fun w h => h.1 (.sem rest) (by simp)) h5 _ hFM) ?_
    have fin : ∀ (jump : Option Code) (A : List Ent) (W3 : World), Sat w0 W3 (A ++ (Sh ++ [.sem r2])) →
        (Instr.endRound l jump).run P W3 = .ok (.bool jump.isNone) (W3.putObj l (.loop (rec (if jump.isNone then .ready else .done) jump))) ∧
        Sat w0 (W3.putObj l (.loop (rec (if jump.isNone then .ready else .done) jump))) (.sem (Frame.bun (A ++ [.sem (Frame.obj l (.loop (rec (if jump.isNone then .ready else .done) jump))), dfE Dk true])) :: (Sh ++ [.sem rest])) := fun jump A W3 hA => by
      have h6 : Sat w0 W3 ((Sh ++ [.sem rest] ++ (A ++ [dfE Dk true])) ++ .sem (Frame.obj l (.loop { rec .ready none with state := .busy })) :: []) := by
        have := Sat.unbun (l1 := A ++ Sh) (l3 := []) (by rw [List.append_assoc]; exact hA)
        exact this.perm (perm_of fun f => by simp only [List.map_append, List.map_cons, List.map_nil, List.sum_append, List.sum_cons, List.sum_nil]; omega)
      have hlb : W3.heap[l]? = some (.loop { rec .ready none with state := .busy }) := h6.get
      have hr := run_endRound (P := P) jump hlb
      have h7 := h6.putObj (o' := .loop (rec (if jump.isNone then .ready else .done) jump))
      refine ⟨by rw [hrec] at hr ⊢; exact hr, ?_⟩
      have h8 : Sat w0 (W3.putObj l (.loop (rec (if jump.isNone then .ready else .done) jump))) ((Sh ++ [.sem rest]) ++ (A ++ [.sem (Frame.obj l (.loop (rec (if jump.isNone then .ready else .done) jump))), dfE Dk true])) := by
        exact h7.perm (perm_of fun f => by simp only [List.map_append, List.map_cons, List.map_nil, List.sum_append, List.sum_cons, List.sum_nil]; omega)
      exact h8.bundle.perm List.perm_append_comm
    intro e a3 W3 hp
    cases e with
    | normal =>
      obtain ⟨s', hn, hA⟩ := hp
      obtain ⟨hr, h6⟩ := fin none _ _ hA
      exact ⟨_, _, hr, _, rfl, .inl ⟨rfl, s', hn, h6⟩⟩
    | ret =>
      obtain ⟨t, hn, hj, hA⟩ := hp
      obtain ⟨hr, h6⟩ := fin (some .ret) _ _ hA
      refine ⟨_, _, hr, _, rfl, .inr ⟨rfl, t, hn, ?_⟩⟩
      simp only [D', hj]; exact h6
    | exit id =>
      obtain ⟨t, hn, hj, hA⟩ := hp
      obtain ⟨hr, h6⟩ := fin (some (.exit id)) _ _ hA
      refine ⟨_, _, hr, _, rfl, .inr ⟨rfl, t, hn, ?_⟩⟩
      simp only [D', hj]; exact h6
    | goto t => exact hp.elim
    | panic ch => exact hp.elim
    | outgrown => exact hp.elim
  · 
    have out : ∀ (st : LoopState) (pe : Option Code) (A : List Ent) (rest : Frame) (W2 : World), st ≠ .busy → Sat w0 W2 (.sem (Frame.bun (A ++ [.sem (Frame.obj l (.loop (rec st pe))), dfE Dk true])) :: (Sh ++ [.sem rest])) →
        (Instr.endLoop l).run P W2 = .ok pe (W2.putObj l (.loop { rec st pe with state := .exhausted })) ∧ Sat w0 (W2.putObj l (.loop { rec st pe with state := .exhausted })) (A ++ (Sh ++ [.sem rest, dfE Dk true])) := fun st pe A rest W2 hst h => by
      have h1 := Sat.unbun (l1 := []) h
      have h2 : Sat w0 W2 ((A ++ (Sh ++ [.sem rest, dfE Dk true])) ++ .sem (Frame.obj l (.loop (rec st pe))) :: []) := by
        exact h1.perm (perm_of fun f => by simp only [List.map_append, List.map_cons, List.map_nil, List.sum_append, List.sum_cons, List.sum_nil]; omega)
      have hl : W2.heap[l]? = some (.loop (rec st pe)) := h2.get
      have h3 := h2.putObj (o' := .loop { rec st pe with state := .exhausted })
      refine ⟨?_, h3.sub (List.sublist_append_left _ _)⟩
      have := run_endLoop (P := P) hl (by rw [hrec]; exact hst)
      rw [hrec] at this ⊢; exact this
    rintro e W2 ⟨v, rfl, h⟩
    have hF' : ∀ {L'}, Frd a n ds L' → Frd { a with defers := [mrk Dk] ++ a.defers } n (mrk Dk :: ds) L' := fun h => ⟨h.size, by rw [← h.defers]; rfl, h.get⟩
    rcases h with ⟨s, rest, hfin, h⟩ | ⟨t, rest, hfin, h⟩
    · obtain ⟨h1, h2⟩ := out .ready none _ rest W2 (by simp) h
      exact ⟨none, _, h1, hdone Dk s rest _ hfin h2 _ (hF' hF)⟩
    · obtain ⟨h1, h2⟩ := out .done (some (jc t)) _ rest W2 (by simp) h
      refine ⟨some (jc t), _, h1, ?_⟩
      have h3 := hstop Dk t rest _ hfin h2 _ (hF' hF)
      rcases hjc t with hj | ⟨id, hj⟩
      · rw [hj] at h3 ⊢; exact wpIn_ret h3
      · rw [hj] at h3 ⊢; exact wpIn_exit h3
end
end Go.Proofs.Gw
namespace Go.Proofs.YtopmifmfecfaaaaGreat
open Go Go.RowKit Go.Proofs.Gw
theorem cl_113 : calledT Tryz.prog 113 = true := by kernel_rfl
theorem cl_46 : calledT Tryz.prog 46 = true := by kernel_rfl
theorem cl_48 : calledT Tryz.prog 48 = true := by kernel_rfl
theorem cl_79 : calledT Tryz.prog 79 = true := by kernel_rfl
theorem cl_80 : calledT Tryz.prog 80 = true := by kernel_rfl
theorem cl_81 : calledT Tryz.prog 81 = true := by kernel_rfl
theorem cl_82 : calledT Tryz.prog 82 = true := by kernel_rfl
theorem cl_83 : calledT Tryz.prog 83 = true := by kernel_rfl
theorem cl_84 : calledT Tryz.prog 84 = true := by kernel_rfl
theorem el_31 : elemT Tryz.prog 31 = some (.agg #[.slice none 0 0, .slice none 0 0, .slice none 0 0, .int .i64 0, .int .i64 0], 5, 88) := by kernel_rfl
theorem el_85 : elemT Tryz.prog 85 = some (.agg #[.slice none 0 0, .slice none 0 0, .slice none 0 0, .int .i64 0, .int .i64 0, .int .i64 0], 6, 96) := by kernel_rfl
theorem fd_31_1 : fieldT Tryz.prog 31 1 = some 1 := by kernel_rfl
theorem fd_85_0 : fieldT Tryz.prog 85 0 = some 0 := by kernel_rfl
theorem fd_85_1 : fieldT Tryz.prog 85 1 = some 5 := by kernel_rfl
theorem pl_32 : plainT Tryz.prog 32 = true := by kernel_rfl
theorem st_31 : structT Tryz.prog 31 = some 5 := by kernel_rfl
theorem st_85 : structT Tryz.prog 85 = some 6 := by kernel_rfl
def outP (n : Int) : Prop := n < 0 ∨ 1073741824 < n
def PrcL (p : Prob) (n : Int) (y : Int → Int) : Prop := p.Ok ∧ n = p.m ∧ Priced p y
def itsOf (p : Prob) (y : Int → Int) : Its := ⟨p.m, fun i => p.L i + p.kerf, y, p.D⟩
theorem its_ok {p : Prob} {y : Int → Int} (hp : p.Ok) (hy : Priced p y) : (itsOf p y).Ok (p.stock + p.kerf) := by
  have h1 := hp.m2; have h2 := hp.s1; have h3 := hp.s2; have h4 := hp.k1; have h5 := hp.k2
  refine ⟨h1, by omega, by omega, fun i i0 i1 => ?_⟩
  have h6 := hp.all i i0 i1
  have h7 := hy i i0 i1
  unfold Prob.each at h6
  show eachI (p.L i + p.kerf) (y i) (p.D i)
  unfold eachI; omega
def WC (p : Prob) (y : Int → Int) : Int := KI (itsOf p y) 0 (p.stock + p.kerf)
noncomputable def aC (p : Prob) (y : Int → Int) : Int → Int := @dite _ (∃ x, KX (itsOf p y) (p.stock + p.kerf) x p.m) (Classical.propDecidable _) (fun h => Classical.choose h) fun _ _ => 0
theorem aC_eq {p : Prob} (hm : 0 ≤ p.m) {y x : Int → Int} (h : KX (itsOf p y) (p.stock + p.kerf) x p.m) : ∀ i, 0 ≤ i → i < p.m → x i = aC p y i := by
  have hex : ∃ x, KX (itsOf p y) (p.stock + p.kerf) x p.m := ⟨x, h⟩
  have h2 := Classical.choose_spec hex
  unfold aC
  rw [dif_pos hex]
  intro i i0 i1
  exact KX.same (n := p.m.toNat) (by rw [Int.toNat_of_nonneg hm]; exact h) (by rw [Int.toNat_of_nonneg hm]; exact h2) i i0 (by omega)
def PriceR (p : Prob) (n : Int) (y : Int → Int) (na : Int) (a : Int → Int) (worth e : Int) : Prop := (¬ PrcL p n y ∧ na = 0 ∧ worth = 0 ∧ e = 1) ∨ (PrcL p n y ∧ na = p.m ∧ a = aC p y ∧ (∃ x, KX (itsOf p y) (p.stock + p.kerf) x p.m) ∧ worth = WC p y ∧ e = 0)
set_option maxRecDepth 20000 in
theorem c_prc1 {x : Int} (w0 : World) :
    Calls Tryz.prog 113 [.int .i64 x].toArray w0 fun e w => ∃ v, e = .returned v ∧ v = B (outP x) ∧ Sat w0 w [] := by
  refine zenG Tryz.func113 Tryz.ntmps113 fun w hS => ?_
  refine zsr ?_
  refine zlv xas ?_
  refine zlz ?_
  refine zs3 ?_
  refine zlb 5 ?_ ?_ <;> intro hc
  ·
   iterate 2 refine zlo ?_
   refine zs2 ?_
   refine zlt <| zrt <| zf1 ⟨_, rfl, ?_⟩
   exact ⟨true_B (by unfold outP; omega), hS⟩
  refine zs4 ?_
  refine zlt <| zrt <| zf1 ⟨_, rfl, ?_⟩
  exact ⟨B_congr (by unfold outP; omega), hS⟩
theorem c_ixprc {v : Value} {n : Int} {f : Int → Int} (w0 : World) (hR : Row w0 v 1 n (ints f)) :
    Calls Tryz.prog 95 [v, .func (.func 113) #[] #[]].toArray w0 fun e w => ∃ v, e = .returned v ∧ ∃ r : Int, v = .int .i64 r ∧ ((r = -1 ∧ ∀ k, 0 ≤ k → k < n → ¬ (outP (f k))) ∨ (0 ≤ r ∧ r < n ∧ (outP (f r)))) ∧ Sat w0 w [] := by
  have hn := hR.slh.n0; have hn1 := hR.slh.n1
  refine zenG Tryz.func95 Tryz.ntmps95 fun w hS => ?_
  refine zsr ?_
  refine zlv xas ?_
  refine zlt <| zsq <| zsr ?_
  refine zlv xmv ?_
  refine zlv (xln sl_22 hR.slh) ?_
  refine zlv xmv ?_
  refine zlt <| zbk <| zlp (fun mm M w => ∃ (i : Int), mm = ((n - i).toNat) ∧ (0 ≤ i) ∧ (i ≤ n) ∧ (∀ k, 0 ≤ k → k < i → ¬ (outP (f k))) ∧ M = [(0, v), (1, .func (.func 113) #[] #[]), (7, .int .i64 n), (8, .int .i64 i)] ∧ Sat w0 w []) ⟨0, rfl, (by omega), (by omega), ?_, rfl, hS⟩ ?_
  ·
   intro k h0 h1; omega
  clear hS w
  rintro mm M w ⟨i, rfl, h0, h1, hall, rfl, hS⟩
  refine zsr ?_
  refine zlv xlss ?_
  refine zlt <| zsq ?_
  refine zcif ?_ ?_ <;> intro hc
  ·
   refine zsk <| ztn <| zsq <| zbk <| zsr ?_
   refine zs2 ?_
   refine zlz ?_
   refine zs3 ?_
   refine zlv (xix (kk := i) sl_22 hR.slh) ?_
   refine zlv (xlr (u := .int .i64 (f i)) pl_3 (hR.below hS.below)) ?_
   refine zlc (xc0 cl_113) (c_prc1 (x := (f i)) w) ?_; rintro _ w ⟨rfl, hS'⟩
   replace hS := hS.cmp hS'; clear hS'
   refine zlt ?_
   refine zcif ?_ ?_ <;> intro hc
   ·
    refine zsr ?_
    refine zs2 ?_
    refine zlt <| zrt <| zbr <| ztr <| ztr <| zbr <| ztr <| zf1 ⟨_, rfl, ?_⟩
    exact ⟨i, rfl, .inr ⟨by omega, by omega, ‹outP (f i)›⟩, hS⟩
   refine zsk <| zbn <| ztn <| zrg ?_
   refine zlv (xadd (r := i + 1)) ?_
   refine zlv xmv ?_
   refine zln <| zlq ⟨i + 1, rfl, (by omega), (by omega), ?_, rfl, hS⟩
   ·
    intro k h0' h1'; rcases Int.lt_or_eq_of_le (show k ≤ i by omega) with hk | hk; exact hall k h0' hk; rw [hk]; assumption
  refine zxt <| ztx <| ztx <| zbh <| ztn <| zsr ?_
  refine zlv xas ?_
  refine zlt <| zrt <| zf1 ⟨_, rfl, ?_⟩
  exact ⟨-1, rfl, .inl ⟨rfl, fun k h0 h1 => hall k h0 (by omega)⟩, hS⟩
theorem c_coprc {v : Value} {n : Int} {f : Int → Int} (w0 : World) (hR : Row w0 v 1 n (ints f)) :
    Calls Tryz.prog 104 [v, .func (.func 113) #[] #[]].toArray w0 fun e w => ∃ v, e = .returned v ∧ v = B (∃ k, 0 ≤ k ∧ k < n ∧ (outP (f k))) ∧ Sat w0 w [] := by
  refine zenG Tryz.func104 Tryz.ntmps104 fun w hS => ?_
  refine zsr ?_
  refine zlv xas ?_
  refine zlz ?_
  refine zs2 ?_
  refine zlc (xc0 cl_95) (c_ixprc w (hR.below hS.below)) ?_; rintro _ w ⟨r1, rfl, hr1, hS'⟩
  replace hS := hS.cmp hS'; clear hS'
  refine zs2 ?_
  refine zlt <| zrt <| zf1 ⟨_, rfl, ?_⟩
  exact ⟨B_congr (by
   rcases hr1 with ⟨h1, h2⟩ | ⟨h1, h2, h3⟩
   · exact ⟨fun h => by omega, fun ⟨k, h4, h5, h6⟩ => absurd h6 (h2 k h4 h5)⟩
   · exact ⟨fun _ => ⟨_, h1, h2, h3⟩, fun _ => h1⟩), hS⟩
set_option maxRecDepth 20000 in
theorem c_prices {vL vD : Value} {p : Prob} {vY : Value} {n : Int} {y : Int → Int} (w0 : World) (h : PAt w0 vL vD p) (hY : Row w0 vY 1 n (ints y)) :
    Calls Tryz.prog 79 [.agg #[vL, vD, .int .i64 p.stock, .int .i64 p.kerf], vY].toArray w0 fun e w => ∃ v, e = .returned v ∧ v = B (PrcL p n y) ∧ Sat w0 w [] := by
  have hm := h.L.slh.n0; have hm1 := h.L.slh.n1; have hd := h.D.slh.n0; have hd1 := h.D.slh.n1; have hs := h.is; have hk := h.ik
  have hn0 := hY.slh.n0; have hn1 := hY.slh.n1
  refine zenG Tryz.func79 Tryz.ntmps79 fun w hS => ?_
  refine zsr ?_
  refine zla (xbx (cs := [_, _, _, _]) hS) ?_; rintro _ w ⟨g1, rfl, hS⟩
  replace hS := hS.n1
  refine zlv xas ?_
  refine zlz ?_
  refine zlv (xls 0 st_35 hS) ?_
  refine zlc (xc0 cl_47) (c_pvalid (p := p) w (h.below hS.below)) ?_; rintro _ w ⟨rfl, hS'⟩
  replace hS := hS.cmp hS'; clear hS'
  refine zlv xmv ?_
  refine zlb 7 ?_ ?_ <;> intro hc
  ·
   refine zlv xmv ?_
   refine zlv (xln sl_22 hY.slh) ?_
   refine zlv (xfb 0 fd_35_0) ?_
   refine zlv (xlb 0 pl_22 hS) ?_
   refine zlv (xln sl_22 h.L.slh) ?_
   refine zs3 ?_
   refine zlb 15 ?_ ?_ <;> intro hc
   ·
    refine zlv xmv ?_
    refine zlc (xc0 cl_104) (c_coprc (n := n) (f := y) w (hY.below hS.below)) ?_; rintro _ w ⟨rfl, hS'⟩
    replace hS := hS.cmp hS'; clear hS'
    refine zs3 ?_
    refine zlt <| zrt <| zf1 ⟨_, rfl, ?_⟩
    exact ⟨B_congr (by exact ⟨fun hx => ⟨by assumption, by omega, fun k k0 k1 => by have : ¬ outP (y k) := fun hh => hx ⟨k, k0, by omega, hh⟩; unfold outP at this; omega⟩, fun ⟨h1, h2, h3⟩ ⟨k, k0, k1, hk⟩ => by have := h3 k k0 (by omega); unfold outP at hk; omega⟩), hS.nl⟩
   iterate 3 refine zlo ?_
   refine zs2 ?_
   refine zlt <| zrt <| zf1 ⟨_, rfl, ?_⟩
   exact ⟨false_B (by rintro ⟨h1, h2, h3⟩; first | exact absurd h1 ‹_› | omega), hS.nl⟩
  iterate 6 refine zlo ?_
  refine zs2 ?_
  iterate 3 refine zlo ?_
  refine zs2 ?_
  refine zlt <| zrt <| zf1 ⟨_, rfl, ?_⟩
  exact ⟨false_B (by rintro ⟨h1, h2, h3⟩; first | exact absurd h1 ‹_› | omega), hS.nl⟩
set_option maxRecDepth 20000 in
theorem c_price {vL vD : Value} {p : Prob} {vY : Value} {n : Int} {y : Int → Int} (w0 : World) (h : PAt w0 vL vD p) (hY : Row w0 vY 1 n (ints y)) :
    Calls Tryz.prog 46 [.agg #[vL, vD, .int .i64 p.stock, .int .i64 p.kerf], vY].toArray w0 fun e w => ∃ v, e = .returned v ∧ ∃ r na a worth e, v = .tuple #[r, .int .i64 worth, .int .i64 e] ∧ PriceR p n y na a worth e ∧ Slh r na ∧ Sat w0 w [.own r 1 3 na (ints a)] := by
  have hm := h.L.slh.n0; have hm1 := h.L.slh.n1; have hd := h.D.slh.n0; have hd1 := h.D.slh.n1; have hs := h.is; have hk := h.ik
  have hn0 := hY.slh.n0; have hn1 := hY.slh.n1
  refine zenG Tryz.func46 Tryz.ntmps46 fun w hS => ?_
  refine zsr ?_
  refine zla (xbx (cs := [_, _, _, _]) hS) ?_; rintro _ w ⟨g1, rfl, hS⟩
  replace hS := hS.n1
  refine zs3 ?_
  refine zlt <| zsq <| zsr ?_
  refine zlv (xls 0 st_35 hS) ?_
  refine zlv xmv ?_
  refine zlc (xc0 cl_79) (c_prices (p := p) (n := n) (y := y) w (h.below hS.below) (hY.below hS.below)) ?_; rintro _ w ⟨rfl, hS'⟩
  replace hS := hS.cmp hS'; clear hS'
  refine zlv xnot ?_
  refine zlt ?_
  refine zcif ?_ ?_ <;> intro hc
  ·
   refine zsr ?_
   refine zs3 ?_
   refine zlt <| zrt <| ztr <| zf3 ⟨_, rfl, ?_⟩
   exact ⟨_, 0, fun _ => 0, 0, 1, rfl, .inl ⟨‹¬ PrcL p n y›, rfl, rfl, rfl⟩, slh_nil, (hS.addnil 1 3 (ints fun _ => 0)).pk [1]⟩
  refine zsk <| ztn <| zsr ?_
  refine zlv xas ?_
  refine zlt <| zsq <| zsr ?_
  refine zlv (xfb 0 fd_35_0) ?_
  refine zlv (xlb 0 pl_22 hS) ?_
  refine zlv (xln sl_22 h.L.slh) ?_
  refine zlv xmv ?_
  refine zlt <| zbk ?_
  have hpr : PrcL p n y := by first | assumption | exact Classical.not_not.1 ‹_›
  obtain ⟨hok, hnm, hyp⟩ := id hpr
  have hs1 := hok.s1; have hs2 := hok.s2; have hk1 := hok.k1; have hk2 := hok.k2; have hm2 := hok.m2; have hmd := hok.d
  replace hS := hS.addnil 3 125 (dcells (fun _ => 0) (fun _ => 0) (fun _ => 0))
  replace hS := hS.n2
  refine zlp (fun mm M w => ∃ (nC : Int) (fS : Int → Int) (fV : Int → Int) (fM : Int → Int) (i : Int) (wC : Value), mm = ((p.m - i).toNat) ∧ (0 ≤ i) ∧ (i ≤ p.m) ∧ (nC = i) ∧ (∀ k, 0 ≤ k → k < i → fS k = (itsOf p y).S k ∧ fV k = (itsOf p y).V k ∧ fM k = (itsOf p y).M k) ∧ (Slh wC nC) ∧ M = [(1, vY), (2, .pointer (some ⟨g1, 0, none⟩)), (4, .slice none 0 0), (5, .int .i64 0), (6, .int .i64 0), (7, wC), (15, vL), (16, .int .i64 p.m), (17, .int .i64 i)] ∧ Sat w0 w [.blk g1 [vL, vD, .int .i64 p.stock, .int .i64 p.kerf], .own wC 3 125 nC (dcells fS fV fM)]) ⟨0, (fun _ => 0), (fun _ => 0), (fun _ => 0), 0, (.slice none 0 0), rfl, (by omega), (by omega), (by omega), ?_, ?_, rfl, hS⟩ ?_
  ·
   intro k k0 k1; omega
  ·
   exact slh_nil
  clear hS w
  rintro mm M w ⟨nC, fS, fV, fM, i, wC, rfl, h0, h1, hnC, hcc, hwC, rfl, hS⟩
  refine zsr ?_
  refine zlv xlss ?_
  refine zlt <| zsq ?_
  refine zcif ?_ ?_ <;> intro hc
  ·
   refine zsk <| ztn <| zsq <| zbk <| zsr ?_
   refine zlv xmv ?_
   refine zlv (xix (kk := i) sl_22 h.L.slh) ?_
   refine zlv (xlr (u := .int .i64 (p.L i)) pl_3 (h.L.below hS.below)) ?_
   have hbv := h.iL i
   have he := hok.all i h0 (by omega); unfold Prob.each at he
   refine zs2 ?_
   refine zlt ?_
   refine zdst [0] [0] 1000 mx_ hS ?_; clear hS; intro w hS
   refine zdv 0 (fun _ => xmv) ?_
   refine zdv 1 (fun _ => xmv) ?_
   refine zdv 2 (fun _ => (xfb 3 fd_35_3)) ?_
   refine zdla 3 (fun w hS => (xlb 0 pl_3 hS)) ?_
   refine zdv 4 (fun _ => (xadd (r := p.L i + p.kerf))) ?_
   refine zdv 5 (fun _ => xmv) ?_
   refine zdv 6 (fun _ => xmv) ?_
   refine zdv 7 (fun _ => (xix (kk := i) sl_22 hY.slh)) ?_
   refine zdla 8 (fun w hS => (xlr (u := .int .i64 (y i)) pl_3 (hY.below hS.below))) ?_
   refine zdv 9 (fun _ => (xfb 1 fd_35_1)) ?_
   refine zdla 10 (fun w hS => (xlb 0 pl_22 hS)) ?_
   refine zdv 11 (fun _ => xmv) ?_
   refine zdv 12 (fun _ => (xix (kk := i) sl_22 h.D.slh)) ?_
   refine zdla 13 (fun w hS => (xlr (u := .int .i64 (p.D i)) pl_3 (h.D.below hS.below))) ?_
   have hbv := h.iD i
   refine zdv 14 (fun _ => (xany (v := .agg #[.int .i64 (p.L i + p.kerf), .int .i64 (y i), .int .i64 (p.D i)]))) ?_
   refine zda 15 (xli (n := 1) (len := 1) (pv := [(0, .agg #[.int .i64 (p.L i + p.kerf), .int .i64 (y i), .int .i64 (p.D i)])]) (cs := [.int .i64 (p.L i + p.kerf), .int .i64 (y i), .int .i64 (p.D i)]) (c := dcells (fun _ => p.L i + p.kerf) (fun _ => (y i)) (fun _ => p.D i)) sl_123 el_125 hS) ?_; rintro v1 w ⟨hS, hv1⟩
   replace hS := hS.n3
   refine ⟨⟨fun _ => hS.pk [0], hS.pk [0]⟩, ?_⟩
   refine zda 16 (xap 1 (r := nC + 1) sl_123 el_125 hS (hS.rowN 2 rfl) (cat_demand ..) (h1 := (fun k _ _ => dcells_one _ _ _ k))) ?_; rintro v2 w ⟨hS, hv2⟩
   replace hS := hS.n3
   refine ⟨⟨fun _ => hS.pk [0], hS.pk [0]⟩, ?_⟩
   refine zdv 17 (fun _ => xas) ?_
   refine zdd <| zbn <| ztn <| zrg ?_
   refine zlv (xadd (r := i + 1)) ?_
   refine zlv xmv ?_
   refine zln <| zlq ⟨nC + 1, (snoc fS nC (p.L i + p.kerf)), (snoc fV nC (y i)), (snoc fM nC (p.D i)), i + 1, v2, rfl, (by omega), (by omega), (by omega), ?_, ?_, rfl, hS.pk [0, 1]⟩
   ·
    intro k k0 k1; by_cases e : k < i
    · rw [snoc_lt (by omega), snoc_lt (by omega), snoc_lt (by omega)]; exact hcc k k0 e
    · obtain rfl : k = i := by omega
      rw [snoc_at (by omega), snoc_at (by omega), snoc_at (by omega)]; exact ⟨rfl, rfl, rfl⟩
   ·
    exact hv2
  refine zxt <| ztx <| ztx <| zbh <| ztn <| zsr ?_
  refine zlv xmv ?_
  obtain rfl : i = p.m := by omega
  subst hnC
  replace hS := hS.recont 1 rfl (d := dcells (itsOf p y).S (itsOf p y).V (itsOf p y).M) (dcells_congr hcc)
  replace hS := hS.n2
  refine zlv (xfb 2 fd_35_2) ?_
  refine zlv (xlb 0 pl_3 hS) ?_
  refine zlv (xfb 3 fd_35_3) ?_
  refine zlv (xlb 0 pl_3 hS) ?_
  refine zlv (xadd (r := p.stock + p.kerf)) ?_
  refine zlc (xc0 cl_80) (c_ksolve (t := (itsOf p y)) (cap := (p.stock + p.kerf)) w (hS.rowN 1 rfl)) ?_; rintro _ w ⟨vkks1, nkks1, xkks1, wkks1, ekks1, rfl, hksks1, hvkks1, hS'⟩
  replace hS : Sat w0 w [.blk g1 [vL, vD, .int .i64 p.stock, .int .i64 p.kerf], .own wC 3 125 p.m (dcells (itsOf p y).S (itsOf p y).V (itsOf p y).M), .own vkks1 1 3 nkks1 (ints xkks1)] := hS.comp hS'; clear hS'
  refine zs6 ?_
  refine zlt <| zrt <| zf3 ⟨_, rfl, ?_⟩
  have hio := its_ok hok hyp
  obtain ⟨_, q2, q3, q4, q5⟩ := hksks1.resolve_left (fun hh => hh.1 hio)
  replace q2 : nkks1 = p.m := q2
  subst q2
  replace hS := hS.recont 2 rfl (d := ints (aC p y)) (fun k k0 k1 => by unfold ints; rw [aC_eq (by omega) q3 k k0 (by omega)])
  exact ⟨_, _, _, _, _, rfl, .inr ⟨hpr, rfl, rfl, ⟨_, q3⟩, q4, q5⟩, hvkks1, hS.pk [2]⟩
def BoundR (p : Prob) (n : Int) (y : Int → Int) (num den e : Int) : Prop := (¬ PrcL p n y ∧ num = 0 ∧ den = 0 ∧ e = 1) ∨ (PrcL p n y ∧ WC p y = 0 ∧ num = 0 ∧ den = 1 ∧ e = 0) ∨
  (PrcL p n y ∧ WC p y ≠ 0 ∧ num = (Tot p.D y p.m.toNat).tdiv (Int.gcd (Tot p.D y p.m.toNat) (WC p y)) ∧ den = (WC p y).tdiv (Int.gcd (Tot p.D y p.m.toNat) (WC p y)) ∧ e = 0)
theorem BoundR.same {p : Prob} {n : Int} {y : Int → Int} {a b e a2 b2 e2 : Int} (h : BoundR p n y a b e) (h' : BoundR p n y a2 b2 e2) : a = a2 ∧ b = b2 ∧ e = e2 := by
  rcases h with ⟨h1, h2, h3, h4⟩ | ⟨h1, h2, h3, h4, h5⟩ | ⟨h1, h2, h3, h4, h5⟩ <;> rcases h' with ⟨g1, g2, g3, g4⟩ | ⟨g1, g2, g3, g4, g5⟩ | ⟨g1, g2, g3, g4, g5⟩ <;>
    first
    | exact absurd ‹PrcL p n y› ‹¬ PrcL p n y›
    | exact absurd ‹WC p y = 0› ‹WC p y ≠ 0›
    | (subst_vars; exact ⟨rfl, rfl, rfl⟩)
structure CX where
  u : Int
  vP : Value
  vv : Int → Value
  ml : Int → Int
  mf : Int → Int → Int
  vX : Value
  vY : Value
  s : So
  e : Int
inductive CRn (p : Prob) : Int → (Int → Int) → (Int → Int → Int) → Int → Prop
  | start {u e : Int} {ml : Int → Int} {mf : Int → Int → Int} (h : MStartR p u ml mf e) : CRn p u ml mf e
  | go {u na worth f : Int} {ml : Int → Int} {mf : Int → Int → Int} {a : Int → Int} {s : So} (h : CRn p u ml mf 0) (hs : MSolveR p u ml mf s 0) (hp : PriceR p s.m s.Y na a worth f) (hn : ¬ (f = 0 ∧ worth ≤ s.den)) : CRn p (u + 1) (gsn ml u na) (gsn mf u a) f
def CLast (p : Prob) (s : So) : Prop := ∃ na a worth, PriceR p s.m s.Y na a worth 0 ∧ worth ≤ s.den
def CMem (x : CX) : List Ent := [.own x.vP 1 22 x.u x.vv, .sem (Frame.rows 3 x.u x.vv x.ml x.mf), .own x.vX 1 3 x.s.n (ints x.s.X), .own x.vY 1 3 x.s.m (ints x.s.Y)]
def CPre (p : Prob) (s : List CX) (x : CX) (rest : Gw.Frame) : Prop := (∀ y ∈ s, y.e = 0) ∧ Slh x.vP x.u ∧ Slh x.vX x.s.n ∧ Slh x.vY x.s.m ∧ (x.e = 0 → Frame.gives rest (CMem x)) ∧
  ∃ e, CRn p x.u x.ml x.mf e ∧ ((e ≠ 0 ∧ x.e = e ∧ x.s = So.zero) ∨ (e = 0 ∧ MSolveR p x.u x.ml x.mf x.s x.e))
def CFin (p : Prob) (s : List CX) (rest : Gw.Frame) : Prop := ∃ s' x, s = s' ++ [x] ∧ CPre p s' x rest ∧ (x.e = 0 → CLast p x.s)
theorem MSolveR.few {p : Prob} {u : Int} {ml : Int → Int} {mf : Int → Int → Int} {s : So} (h : MSolveR p u ml mf s 0) : p.Ok ∧ u ≤ 60 ∧ s.m = p.m := by
  rcases h with ⟨_, _, h⟩ | ⟨_, _, _, h⟩ | ⟨_, _, _, _, _, _, h⟩ | ⟨h1, h2, h3, h4, h5, h6, h7⟩ | ⟨h1, h2, h3, h4, h5⟩
  · omega
  · omega
  · omega
  · exact ⟨h1.1, h3, by rw [h6]; rfl⟩
  · refine ⟨h1.1, h3, ?_⟩
    have := (SolveR.chk (p := lpOf p u mf) (by have := h1.1.m1; show 0 ≤ p.m; omega) h5 rfl).m
    exact this
theorem MSolveR.zero {p : Prob} {u e : Int} {ml : Int → Int} {mf : Int → Int → Int} {s : So} (h : MSolveR p u ml mf s e) (he : e ≠ 0) : s = So.zero := by
  rcases h with ⟨_, h, _⟩ | ⟨_, _, h, _⟩ | ⟨_, _, _, _, _, h, _⟩ | ⟨_, _, _, _, _, _, h⟩ | ⟨_, _, _, _, h⟩
  · exact h
  · exact h
  · exact h
  · exact absurd h he
  · exact h.zero he
theorem c_clone2 {v : Value} {n : Int} {vv : Int → Value} (w0 : World) (ho : (Ent.own v 1 22 n vv).holds w0) (h1 : ∀ k, 0 ≤ k → k < n → (vv k).oneCell' = true) (hn : n ≤ 1000000) : Calls Tryz.prog 83 [v].toArray w0 fun e w => ∃ u, e = .returned u ∧ ∃ r, u = r ∧ Slh r n ∧ Sat w0 w [.own r 1 22 n vv] := by
  have hrow := ho.row
  obtain ⟨hn0, hn1, ⟨rfl, rfl⟩ | ⟨g, cap, cur, rfl, hg, h2, h3, h4, h5⟩⟩ := ho
  · refine (slices_Clone_nil_f83 0 0 w0).mono fun e w ⟨he, hw⟩ => ⟨_, he, _, rfl, slh_nil, ?_⟩
    rw [hw]
    exact (Sat.start w0).addnil 1 22 vv
  · obtain ⟨i, hi, hz, hs, hb⟩ := elem_of el_22
    refine (slices_Clone_f83 i (.slice none 0 0) 1 24 hi hz hs hb rfl (by decide) (fun w => by simp [sizeOf, typeInfo, hi, hs]) g 0 n.toNat cap (cellsOf vv n.toNat) w0 (by rw [cellsOf_length]; omega) (by unfold maxLen; omega) (by omega) (fun j u hj => ?_) (fun u hu => ?_)).mono fun e w ⟨r, he, hr, _, hB⟩ => ⟨r, he, r, rfl, ?_⟩
    · rw [cellsOf_get] at hj
      split at hj
      · rename_i hlt
        cases hj
        have := hrow.2 j (by omega)
        rw [← this]; simp [cad]
      · cases hj
    · obtain ⟨j, hj⟩ := List.getElem?_of_mem hu
      rw [cellsOf_get] at hj
      split at hj
      · cases hj; exact h1 j (by omega) (by omega)
      · cases hj
    · have hE : (Ent.own r 1 22 n vv).holds w := Ent.holds.of_owns hn0 (by omega) (by rw [Nat.mul_one]; exact hr)
      exact ⟨hE.row.slh, hB, fun e he => by obtain rfl := List.mem_singleton.1 he; exact hE, fun e he g hg => by obtain rfl := List.mem_singleton.1 he; exact (hr.lt g hg).1, List.pairwise_singleton _ _⟩
set_option maxHeartbeats 4000000 in
set_option maxRecDepth 20000 in
theorem c_rounds31 {vL vD : Value} {p : Prob} {gp : Nat} (w0 : World) (h : PAt w0 vL vD p) : ItC (St := List CX) (X := CX) (Tt := CX) Tryz.prog w0 81 [.pointer (some ⟨gp, 0, none⟩)] [.blk gp [vL, vD, .int .i64 p.stock, .int .i64 p.kerf]] (fun x => [.agg #[x.vP, x.vX, x.vY, .int .i64 x.s.val, .int .i64 x.s.den, .int .i64 x.e]]) (CPre p) (fun s x s1 => s1 = s ++ [x]) (fun _ _ _ => False) ([]) (CFin p) (fun _ _ => False) := by
  intro l C D w hS hY
  have hm := h.L.slh.n0; have hm1 := h.L.slh.n1; have hd := h.D.slh.n0; have hd1 := h.D.slh.n1; have hs := h.is; have hk := h.ik
  refine henI Tryz.func81 Tryz.ntmps81 ?_
  refine hsq <| hrz ?_
  refine zlv (xls 1 st_35 hS) ?_
  refine zlc (xc0 cl_82) (c_mstart (p := p) w (h.below hS.below)) ?_; rintro _ w ⟨srm91, snm91, svm91, slm91, sgm91, em91, rfl, hmsm91, hsrm91, hS'⟩
  replace hS : Sat w0 w [.sem (C []), .blk gp [vL, vD, .int .i64 p.stock, .int .i64 p.kerf], .own srm91 1 22 snm91 svm91, .sem (Frame.rows 3 snm91 svm91 slm91 sgm91)] := hS.comp hS'; clear hS'
  have hswm91 := fun k (k0 : 0 ≤ k) (k1 : k < snm91) => hS.slhIn 3 rfl k0 k1
  refine zs5 ?_
  refine zln <| zh <| htn <| hbk <| hlp (fun mm M w => ∃ (s : List CX) (u : Int) (wP : Value) (vv : Int → Value) (ml : Int → Int) (mf : Int → Int → Int) (e : Int), mm = ((62 - u).toNat) ∧ (CRn p u ml mf e) ∧ (∀ y ∈ s, y.e = 0) ∧ (Slh wP u) ∧ (u ≤ 61) ∧ M = [(0, .func (.yield l) #[] #[]), (1, .pointer (some ⟨gp, 0, none⟩)), (3, wP), (4, .int .i64 e)] ∧ Sat w0 w [.sem (C s), .blk gp [vL, vD, .int .i64 p.stock, .int .i64 p.kerf], .own wP 1 22 u vv, .sem (Frame.rows 3 u vv ml mf)]) ⟨[], snm91, srm91, svm91, slm91, sgm91, em91, rfl, ?_, ?_, ?_, ?_, rfl, hS⟩ ?_
  ·
   exact .start hmsm91
  ·
   intro y hy; cases hy
  ·
   exact hsrm91
  ·
   rcases hmsm91 with ⟨_, h9, _⟩ | ⟨h9, h8, _⟩
   · omega
   · have := stN_rng p p.m.toNat; have := h9.m2; have := h9.m1; omega
  clear hS w
  rintro mm M w ⟨s, u, wP, vv, ml, mf, e, rfl, hRn, hok9, hsP, hu61, rfl, hS⟩
  have hrs := fun k (k0 : 0 ≤ k) (k1 : k < u) => hS.slhIn 3 rfl k0 k1
  have hu0 := hsP.n0
  refine hbk <| hsq <| hrz ?_
  refine zlv xmv ?_
  refine zlc (xc0 cl_83) (c_clone2 w (hS.holds _ (List.mem_of_getElem? (i := 2) rfl)) (fun k k0 k1 => (hS.slhIn 3 rfl k0 k1).one) (by omega)) ?_; rintro vcc21 w ⟨_, rfl, hvcc21, hS'⟩
  replace hS : Sat w0 w [.sem (C s), .blk gp [vL, vD, .int .i64 p.stock, .int .i64 p.kerf], .own wP 1 22 u vv, .sem (Frame.rows 3 u vv ml mf), .own vcc21 1 22 u vv] := hS.comp hS'; clear hS'
  refine zlv (xany (v := .agg #[vcc21, .slice none 0 0, .slice none 0 0, .int .i64 0, .int .i64 0]) (hr := by obtain ⟨_, _, _, _, rfl, _⟩ := hvcc21; kernel_rfl)) ?_
  refine zlv xmv ?_
  refine zlv (xany (v := .agg #[vcc21, .slice none 0 0, .slice none 0 0, .int .i64 0, .int .i64 0, .int .i64 e]) (hr := by obtain ⟨_, _, _, _, rfl, _⟩ := hvcc21; kernel_rfl)) ?_
  refine zla (xal (cs := [_, _, _, _, _, _]) el_85 hS) ?_; rintro _ w ⟨g1, rfl, hS⟩
  replace hS := hS.n6
  refine zle (xsw 5 st_85 hS (hd := (ones_cons hvcc21.one (ones_cons rfl (ones_cons rfl (ones_cons rfl (ones_cons rfl (ones_cons rfl ones_nil)))))))) ?_; clear hS; rintro w hS
  replace hS := hS.n6
  refine zln <| zh <| htn <| hsq <| hsq <| hrz ?_
  refine zs2 ?_
  refine zln <| zh <| htn ?_
  refine hcif ?_ ?_ <;> intro hc
  ·
   refine hrz ?_
   refine zlv (xls 1 st_35 hS) ?_
   refine zlv xmv ?_
   refine zlc (xc0 cl_84) (c_msolve (p := p) (u := u) (ml := ml) (mf := mf) w (h.below hS.below) (⟨(hS.rowN 2 rfl), fun k k0 k1 => hS.rowIn 3 rfl k0 k1, fun k k0 k1 => hS.roomIn 3 rfl k0 k1⟩ : MAt _ wP u vv ml mf)) ?_; rintro _ w ⟨vXm81, vYm81, sm81, em81, rfl, hmom81, hvXm81, hvYm81, hS'⟩
   replace hS : Sat w0 w [.sem (C s), .blk gp [vL, vD, .int .i64 p.stock, .int .i64 p.kerf], .own wP 1 22 u vv, .sem (Frame.rows 3 u vv ml mf), .own vcc21 1 22 u vv, .blk g1 [vcc21, .slice none 0 0, .slice none 0 0, .int .i64 0, .int .i64 0, .int .i64 e], .own vXm81 1 3 sm81.n (ints sm81.X), .own vYm81 1 3 sm81.m (ints sm81.Y)] := hS.comp hS'; clear hS'
   refine zs3 ?_
   refine zlv (xfb 0 fd_85_0) ?_
   refine zlv (xfb 1 fd_31_1) ?_
   refine zle (xsp 5 st_29 hS (hd := (ones_cons hvXm81.one (ones_cons hvYm81.one (ones_cons rfl (ones_cons rfl ones_nil)))))) ?_; clear hS; rintro w hS
   replace hS := hS.n8
   refine zlv (xfb 5 fd_85_1) ?_
   refine zle (xsb 5 pl_32 hS) ?_; clear hS; rintro w hS
   replace hS := hS.n8
   refine zln <| zh <| htn <| hsq <| hsq <| hrg ?_
   refine hlv xmv ?_
   refine hlv (xls 5 st_85 hS) ?_
   have hprey1 : CPre p s ⟨u, vcc21, vv, ml, mf, vXm81, vYm81, sm81, em81⟩ (Frame.bun [.own wP 1 22 u vv, .sem (Frame.rows 3 u vv ml mf), .own vcc21 1 22 u vv, .blk g1 [vcc21, vXm81, vYm81, .int .i64 sm81.val, .int .i64 sm81.den, .int .i64 em81], .own vXm81 1 3 sm81.n (ints sm81.X), .own vYm81 1 3 sm81.m (ints sm81.Y)]) := ⟨hok9, hvcc21, hvXm81, hvYm81, fun _ => gives_pk [2, 1, 4, 5], e, hRn, .inr ⟨by assumption, hmom81⟩⟩
   refine hly (hY s _ _ w hprey1 (Sat.bundle (l1 := [_, _]) hS)) ?_; rintro _ w (⟨rfl, sy1, hny1, hS⟩ | ⟨rfl, ty1, hdy1, hS⟩)
   ·
    replace hS := Sat.unbundle (l1 := [_, _]) (l3 := []) hS
    replace hS := hS.n8
    refine hlv xnt ?_
    refine hlv xmv ?_
    refine hlv (xfb 5 fd_85_1) ?_
    refine hlv (xlb 5 pl_32 hS) ?_
    refine hlv xneq ?_
    refine hlv xpf ?_
    refine hln <| htn ?_
    refine hcif ?_ ?_ <;> intro hc
    ·
     refine hrt <| ztr <| zbr <| ztr <| zbr <| zf0 ⟨_, rfl, ?_⟩
     subst hny1
     exact .inl ⟨_, _, ⟨s, _, rfl, ⟨hprey1.1, hprey1.2.1, hprey1.2.2.1, hprey1.2.2.2.1, fun _ => gives_pk [2, 1, 4, 5], hprey1.2.2.2.2.2⟩, by first | exact fun hh => absurd hh (by assumption) | exact fun _ => ⟨_, _, _, (by rw [show (0 : Int) = eapz1 by omega]; exact hpzpz1z), by show wapz1 ≤ sm81.den; omega⟩⟩, Sat.bundle (l1 := [_, _]) hS⟩
    refine hsk <| htn <| hsq <| hrz ?_
    refine zlv (xls 1 st_35 hS) ?_
    refine zlv (xfb 0 fd_85_0) ?_
    refine zlv (xfb 1 fd_31_1) ?_
    refine zlv (xfb 2 fd_29_1) ?_
    refine zlv (xlb 5 pl_22 hS) ?_
    refine zlc (xc0 cl_46) (c_price (p := p) (n := sm81.m) (y := sm81.Y) w (h.below hS.below) (hS.rowN 7 rfl)) ?_; rintro _ w ⟨vapz1, napz1, xapz1, wapz1, eapz1, rfl, hpzpz1, hvapz1, hS'⟩
    replace hS : Sat w0 w [.sem (C sy1), .blk gp [vL, vD, .int .i64 p.stock, .int .i64 p.kerf], .own wP 1 22 u vv, .sem (Frame.rows 3 u vv ml mf), .own vcc21 1 22 u vv, .blk g1 [vcc21, vXm81, vYm81, .int .i64 sm81.val, .int .i64 sm81.den, .int .i64 em81], .own vXm81 1 3 sm81.n (ints sm81.X), .own vYm81 1 3 sm81.m (ints sm81.Y), .own vapz1 1 3 napz1 (ints xapz1)] := hS.comp hS'; clear hS'
    refine zs2 ?_
    have hfe := hmom81; rw [show em81 = 0 by omega] at hfe
    obtain ⟨hok, hu60, hsm⟩ := hfe.few
    refine zs5 ?_
    refine zln <| zh <| htn <| hsq <| hsq <| hrz ?_
    refine zs3 ?_
    refine zlb 51 ?_ ?_ <;> intro hc
    ·
     refine zlv xmv ?_
     refine zlv (xfb 0 fd_85_0) ?_
     refine zlv (xfb 1 fd_31_1) ?_
     refine zlv (xfb 4 fd_29_3) ?_
     refine zlv (xlb 5 pl_3 hS) ?_
     refine zs2 ?_
     have hpzpz1z := hpzpz1
     refine zln <| zh <| htn ?_
     refine hcif ?_ ?_ <;> intro hc
     ·
      refine hrt <| ztr <| zbr <| ztr <| zbr <| zf0 ⟨_, rfl, ?_⟩
      subst hny1
      exact .inl ⟨_, _, ⟨s, _, rfl, ⟨hprey1.1, hprey1.2.1, hprey1.2.2.1, hprey1.2.2.2.1, fun _ => gives_pk [2, 1, 4, 5], hprey1.2.2.2.2.2⟩, by first | exact fun hh => absurd hh (by assumption) | exact fun _ => ⟨_, _, _, (by rw [show (0 : Int) = eapz1 by omega]; exact hpzpz1z), by show wapz1 ≤ sm81.den; omega⟩⟩, Sat.bundle (l1 := [_, _]) hS⟩
     refine hsk <| htn <| hrz ?_
     refine zs2 ?_
     refine zla (xli (n := 1) (len := 1) (pv := [(0, vapz1)]) (cs := [vapz1]) (c := (fun _ => vapz1)) sl_27 el_22 hS (hf := by obtain ⟨_, _, _, _, rfl, _⟩ := hvapz1; kernel_rfl)) ?_; rintro v1 w ⟨hS, hv1⟩
     replace hS := hS.n10
     refine zla (xap 2 (r := u + 1) sl_27 el_22 hS (hS.rowN 9 rfl) (cat_gsn _ _ _) (h1 := fun _ _ _ => hvapz1.one)) ?_; rintro v2 w ⟨hS, hv2⟩
     replace hS := hS.n10
     replace hS := Sat.merge (l1 := [_, _, _]) (l2 := [_, _, _, _]) (l3 := [_]) hS (by omega)
     have hrs1 := fun k (k0 : 0 ≤ k) (k1 : k < u + 1) => hS.slhIn 3 rfl k0 k1
     replace hS := hS.n9
     refine zs3 ?_
     refine zln <| zh <| zbn <| hlq ⟨sy1, u + 1, v2, gsn vv u vapz1, gsn ml u napz1, gsn mf u xapz1, eapz1, rfl, ?_, ?_, ?_, ?_, rfl, hS.pk [0, 1, 2, 3]⟩
     ·
      exact .go (by rw [show (0 : Int) = e by omega]; exact hRn) hfe hpzpz1 (by omega)
     ·
      rw [hny1]; intro y hy; rcases List.mem_append.1 hy with hy | hy
      · exact hok9 y hy
      · obtain rfl := List.mem_singleton.1 hy; show em81 = 0; omega
     ·
      exact hv2
     ·
      omega
    iterate 6 refine zlo ?_
    refine zlv xpf ?_
    have hpzpz1z := hpzpz1
    refine zln <| zh <| htn <| hcf <| hsk <| htn <| hrz ?_
    refine zs2 ?_
    refine zla (xli (n := 1) (len := 1) (pv := [(0, vapz1)]) (cs := [vapz1]) (c := (fun _ => vapz1)) sl_27 el_22 hS (hf := by obtain ⟨_, _, _, _, rfl, _⟩ := hvapz1; kernel_rfl)) ?_; rintro v3 w ⟨hS, hv3⟩
    replace hS := hS.n10
    refine zla (xap 2 (r := u + 1) sl_27 el_22 hS (hS.rowN 9 rfl) (cat_gsn _ _ _) (h1 := fun _ _ _ => hvapz1.one)) ?_; rintro v4 w ⟨hS, hv4⟩
    replace hS := hS.n10
    replace hS := Sat.merge (l1 := [_, _, _]) (l2 := [_, _, _, _]) (l3 := [_]) hS (by omega)
    have hrs2 := fun k (k0 : 0 ≤ k) (k1 : k < u + 1) => hS.slhIn 3 rfl k0 k1
    replace hS := hS.n9
    refine zs3 ?_
    refine zln <| zh <| zbn <| hlq ⟨sy1, u + 1, v4, gsn vv u vapz1, gsn ml u napz1, gsn mf u xapz1, eapz1, rfl, ?_, ?_, ?_, ?_, rfl, hS.pk [0, 1, 2, 3]⟩
    ·
     exact .go (by rw [show (0 : Int) = e by omega]; exact hRn) hfe hpzpz1 (by omega)
    ·
     rw [hny1]; intro y hy; rcases List.mem_append.1 hy with hy | hy
     · exact hok9 y hy
     · obtain rfl := List.mem_singleton.1 hy; show em81 = 0; omega
    ·
     exact hv4
    ·
     omega
   ·
    replace hS := Sat.unbundle (l1 := [_, _]) (l3 := []) hS
    replace hS := hS.n8
    refine hlv xnf ?_
    refine hlv xmv ?_
    iterate 3 refine hlo ?_
    refine hlv xpt ?_
    refine hln <| htn <| hct <| hrt <| ztr <| zbr <| ztr <| zbr <| zf0 ⟨_, rfl, ?_⟩
    exact hdy1.elim
  refine hsk <| htn <| hsq <| hsq <| hrg ?_
  refine hlv xmv ?_
  refine hlv (xls 5 st_85 hS) ?_
  have hprey2 : CPre p s ⟨u, vcc21, vv, ml, mf, .slice none 0 0, .slice none 0 0, So.zero, e⟩ (Frame.bun [.own wP 1 22 u vv, .sem (Frame.rows 3 u vv ml mf), .own vcc21 1 22 u vv, .blk g1 [vcc21, .slice none 0 0, .slice none 0 0, .int .i64 0, .int .i64 0, .int .i64 e]]) := ⟨hok9, hvcc21, slh_nil, slh_nil, fun hh => absurd hh (by assumption), e, hRn, .inl ⟨by assumption, rfl, rfl⟩⟩
  refine hly (hY s _ _ w hprey2 (Sat.bundle (l1 := [_, _]) hS)) ?_; rintro _ w (⟨rfl, sy2, hny2, hS⟩ | ⟨rfl, ty2, hdy2, hS⟩)
  ·
   replace hS := Sat.unbundle (l1 := [_, _]) (l3 := []) hS
   replace hS := hS.n6
   refine hlv xnt ?_
   refine hlv xmv ?_
   refine hlv (xfb 5 fd_85_1) ?_
   refine hlv (xlb 5 pl_32 hS) ?_
   refine hlv xneq ?_
   refine hlv xpf ?_
   refine hln <| htn ?_
   refine hcif ?_ ?_ <;> intro hc
   ·
    refine hrt <| ztr <| zbr <| ztr <| zbr <| zf0 ⟨_, rfl, ?_⟩
    subst hny2
    exact .inl ⟨_, _, ⟨s, _, rfl, ⟨hprey2.1, hprey2.2.1, hprey2.2.2.1, hprey2.2.2.2.1, fun hh => absurd hh (by assumption), hprey2.2.2.2.2.2⟩, by first | exact fun hh => absurd hh (by assumption) | exact fun _ => ⟨_, _, _, (by rw [show (0 : Int) = eapz1 by omega]; exact hpzpz1z), by show wapz1 ≤ sm81.den; omega⟩⟩, Sat.bundle (l1 := [_, _]) hS⟩
   exfalso; omega
  ·
   replace hS := Sat.unbundle (l1 := [_, _]) (l3 := []) hS
   replace hS := hS.n6
   refine hlv xnf ?_
   refine hlv xmv ?_
   iterate 3 refine hlo ?_
   refine hlv xpt ?_
   refine hln <| htn <| hct <| hrt <| ztr <| zbr <| ztr <| zbr <| zf0 ⟨_, rfl, ?_⟩
   exact hdy2.elim
theorem c_crounds {vL vD : Value} {p : Prob} (w0 : World) (h : PAt w0 vL vD p) :
    Calls Tryz.prog 48 [.agg #[vL, vD, .int .i64 p.stock, .int .i64 p.kerf]].toArray w0 fun e w => ∃ v, e = .returned v ∧ ∃ g, v = .func (.func 81) #[] #[.pointer (some ⟨g, 0, none⟩)] ∧ Sat w0 w [.blk g [vL, vD, .int .i64 p.stock, .int .i64 p.kerf]] := by
  refine zenG Tryz.func48 Tryz.ntmps48 fun w hS => ?_
  refine zsr ?_
  refine zla (xbx (cs := [_, _, _, _]) hS) ?_; rintro _ w ⟨g1, rfl, hS⟩
  replace hS := hS.n1
  refine zlv xas ?_
  refine zlz ?_
  refine zlv xmf ?_
  refine zlv xas ?_
  refine zlt <| zrt <| zf1 ⟨_, rfl, ?_⟩
  exact ⟨_, rfl, hS⟩
def CX.zer : CX := ⟨0, .slice none 0 0, fun _ => undef, fun _ => 0, fun _ _ => 0, .slice none 0 0, .slice none 0 0, So.zero, 0⟩
def lastC (s : List CX) : CX := s.getLast?.getD CX.zer
theorem lastC_snoc (s : List CX) (x : CX) : lastC (s ++ [x]) = x := by simp [lastC]
def ColR (p : Prob) (u : Int) (ml : Int → Int) (mf : Int → Int → Int) (s : So) (e : Int) : Prop := (¬ p.Ok ∧ u = 0 ∧ s = So.zero ∧ e = 1) ∨
  (p.Ok ∧ e ≠ 0 ∧ u = 0 ∧ s = So.zero ∧ ∃ u1 ml1 mf1 e1, CRn p u1 ml1 mf1 e1 ∧ ((e1 ≠ 0 ∧ e = e1) ∨ (e1 = 0 ∧ ∃ s1, MSolveR p u1 ml1 mf1 s1 e))) ∨ (p.Ok ∧ e = 0 ∧ CRn p u ml mf 0 ∧ MSolveR p u ml mf s 0 ∧ CLast p s)
set_option maxHeartbeats 4000000 in
set_option maxRecDepth 20000 in
theorem c_csolve {vL vD : Value} {p : Prob} (w0 : World) (h : PAt w0 vL vD p) :
    Calls Tryz.prog 11 [.agg #[vL, vD, .int .i64 p.stock, .int .i64 p.kerf]].toArray w0 fun e w => ∃ v, e = .returned v ∧ ∃ vP vv vX vY u ml mf s e, v = .tuple #[.agg #[vP, vX, vY, .int .i64 s.val, .int .i64 s.den], .int .i64 e] ∧ ColR p u ml mf s e ∧ Slh vP u ∧ Slh vX s.n ∧ Slh vY s.m ∧ Sat w0 w [.own vP 1 22 u vv, .sem (Frame.rows 3 u vv ml mf), .own vX 1 3 s.n (ints s.X), .own vY 1 3 s.m (ints s.Y)] := by
  have hm := h.L.slh.n0; have hm1 := h.L.slh.n1; have hd := h.D.slh.n0; have hd1 := h.D.slh.n1; have hs := h.is; have hk := h.ik
  refine henM Tryz.func11 Tryz.ntmps11 fun w hS => ?_
  refine hsq <| hrz ?_
  refine zla (xbx (cs := [_, _, _, _]) hS) ?_; rintro _ w ⟨g1, rfl, hS⟩
  replace hS := hS.n1
  refine zla (xal (cs := [_, _, _, _, _]) el_31 hS) ?_; rintro _ w ⟨g2, rfl, hS⟩
  replace hS := hS.n2
  refine zlv xas ?_
  refine zln <| zh <| htn <| hsq <| hsq <| hrz ?_
  refine zlv (xls 0 st_35 hS) ?_
  refine zlc (xc0 cl_47) (c_pvalid (p := p) w (h.below hS.below)) ?_; rintro _ w ⟨rfl, hS'⟩
  replace hS := hS.cmp hS'; clear hS'
  refine zlv xnot ?_
  refine zln <| zh <| htn ?_
  refine hcif ?_ ?_ <;> intro hc
  ·
   refine hsq <| hrz ?_
   refine zlv (xany (v := .agg #[.slice none 0 0, .slice none 0 0, .slice none 0 0, .int .i64 0, .int .i64 0])) ?_
   refine zle (xsw 1 st_31 hS) ?_; clear hS; rintro w hS
   replace hS := hS.n2
   refine zlv xas ?_
   refine zln <| zh <| htn <| hrt <| ztr <| hmk0 <| zfct 1 st_31 hS ⟨_, rfl, ?_⟩
   exact ⟨_, fun _ => undef, _, _, 0, fun _ => 0, fun _ _ => 0, So.zero, 1, rfl, .inl ⟨‹¬ p.Ok›, rfl, rfl, rfl⟩, slh_nil, slh_nil, slh_nil, ((((hS.sub (.cons _ (.cons _ .slnil))).addnil 1 22 (fun _ => undef)).addrows 3 (fun _ => undef) (fun _ => 0) (fun _ _ => 0)).addnil 1 3 (ints So.zero.X)).addnil 1 3 (ints So.zero.Y)⟩
  refine hsk <| htn <| hsq <| hrz ?_
  refine zla (xal (cs := [_, _, _, _, _, _]) el_85 hS) ?_; rintro _ w ⟨g3, rfl, hS⟩
  replace hS := hS.n3
  refine zln <| zh <| htn <| hsq <| hsq <| hrz ?_
  refine zlv (xls 0 st_35 hS) ?_
  have hok : p.Ok := by first | assumption | exact Classical.not_not.1 ‹_›
  refine zlc (xc0 cl_48) (c_crounds (p := p) w (h.below hS.below)) ?_; rintro _ w ⟨g4, rfl, hS'⟩
  replace hS : Sat w0 w [.blk g1 [vL, vD, .int .i64 p.stock, .int .i64 p.kerf], .blk g2 [.slice none 0 0, .slice none 0 0, .slice none 0 0, .int .i64 0, .int .i64 0], .blk g3 [.slice none 0 0, .slice none 0 0, .slice none 0 0, .int .i64 0, .int .i64 0, .int .i64 0], .blk g4 [vL, vD, .int .i64 p.stock, .int .i64 p.kerf]] := hS.comp hS'; clear hS'
  refine zln <| zh <| htn <| hbk <| ?_
  refine hrf (St := List CX) (X := CX) (Tt := CX) (fun s => [.blk g1 [vL, vD, .int .i64 p.stock, .int .i64 p.kerf], .blk g2 [.slice none 0 0, .slice none 0 0, .slice none 0 0, .int .i64 0, .int .i64 0], .blk g3 [(lastC s).vP, (lastC s).vX, (lastC s).vY, .int .i64 ((lastC s).s.val), .int .i64 ((lastC s).s.den), .int .i64 ((lastC s).e)]]) (fun t => []) (fun _ => .ret) [] (fun x M es => ∃ (g5 : Nat), M = [(0, .agg #[vL, vD, .int .i64 p.stock, .int .i64 p.kerf]), (1, .pointer (some ⟨g1, 0, none⟩)), (2, .pointer (some ⟨g2, 0, none⟩)), (3, .int .i64 0), (6, .agg #[vL, vD, .int .i64 p.stock, .int .i64 p.kerf]), (7, B (p.Ok)), (8, B (¬ (p.Ok))), (4, .pointer (some ⟨g3, 0, none⟩)), (10, .agg #[vL, vD, .int .i64 p.stock, .int .i64 p.kerf]), (11, .func (.func 81) #[] #[.pointer (some ⟨g4, 0, none⟩)]), (12, .agg #[x.vP, x.vX, x.vY, .int .i64 x.s.val, .int .i64 x.s.den, .int .i64 x.e]), (5, .pointer (some ⟨g5, 0, none⟩))] ∧ es = [.blk g5 [x.vP, x.vX, x.vY, .int .i64 x.s.val, .int .i64 x.s.den, .int .i64 x.e]]) (c_rounds31 (gp := g4) w0 h) (hS) cl_81 (fun _ => rfl) (fun _ => .inl rfl) ?_ ?_ ?_ ?_
  ·
   intro lq s x rest w hpre rest1 hrr hS
   have hxP := hpre.2.1; have hxX := hpre.2.2.1; have hxY := hpre.2.2.2.1
   replace hS := hS.n5
   refine hrz ?_
   refine zla (xal (cs := [_, _, _, _, _, _]) el_85 hS) ?_; rintro _ w ⟨g5, rfl, hS⟩
   replace hS := hS.n6
   refine zle (xsw 5 st_85 hS (hd := (ones_cons hxP.one (ones_cons hxX.one (ones_cons hxY.one (ones_cons rfl (ones_cons rfl (ones_cons rfl ones_nil)))))))) ?_; clear hS; rintro w hS
   replace hS := hS.n6
   refine zln <| zh <| hasg ⟨g5, rfl, rfl⟩ hS
  ·
   rintro lq s x _ _ rest w hpre ⟨g5, rfl, rfl⟩ rest1 hrr hS
   have hxP := hpre.2.1; have hxX := hpre.2.2.1; have hxY := hpre.2.2.2.1
   replace hS := hS.n6
   refine hbk <| hrz ?_
   refine zlv (xls 5 st_85 hS) ?_
   refine zle (xsw 2 st_85 hS (hd := (ones_cons hxP.one (ones_cons hxX.one (ones_cons hxY.one (ones_cons rfl (ones_cons rfl (ones_cons rfl ones_nil)))))))) ?_; clear hS; rintro w hS
   replace hS := hS.n6
   refine zln <| zh <| zbn ?_
   obtain ⟨s1, hs1⟩ : ∃ s1, s1 = s ++ [x] := ⟨_, rfl⟩
   have e1 : lastC s1 = x := by rw [hs1, lastC_snoc]
   rw [← e1] at hS
   refine hrdN s1 hs1 (hS.pk [0, 1, 2, 3, 4])
  ·
   intro Dk s rest w hfin hS
   replace hS := hS.n6
   obtain ⟨s9, x, rfl, hpre, hlast⟩ := hfin
   have hxP := hpre.2.1; have hxX := hpre.2.2.1; have hxY := hpre.2.2.2.1
   rw [lastC_snoc] at hS
   replace hS := hS.n6
   refine zbn <| htn <| hsq <| hsq <| hrz ?_
   refine zlv (xfb 5 fd_85_1) ?_
   refine zlv (xlb 2 pl_32 hS) ?_
   refine zlv xneq ?_
   refine zln <| zh <| htn ?_
   refine hcif ?_ ?_ <;> intro hc
   ·
    refine hsq ?_
    refine hdst [0, 1, 2, 3, 4, 5] [0, 2, 3, 4, 5] 3 mx_ hS ?_; clear hS; intro w hS
    refine zdv 0 (fun _ => (xany (v := .agg #[.slice none 0 0, .slice none 0 0, .slice none 0 0, .int .i64 0, .int .i64 0]))) ?_
    refine zdv 1 (fun _ => (xfb 5 fd_85_1)) ?_
    refine zdla 2 (fun w hS => (xlb 1 pl_32 hS)) ?_
    refine zde 3 (xsw 1 st_31 hS) ?_; clear hS; rintro w hS
    replace hS := hS.n6
    refine ⟨⟨fun h => absurd h (by decide), hS.pk [0, 2, 3, 4, 5]⟩, ?_⟩
    refine zdv 4 (fun _ => xas) ?_
    refine zdd <| zh <| htn <| hrt <| ztr <| hmk1 5 hS fun w hS => zfct 1 st_31 hS ⟨_, rfl, ?_⟩
    obtain ⟨e1, hc1, hc2⟩ := hpre.2.2.2.2.2
    exact ⟨_, fun _ => undef, _, _, 0, fun _ => 0, fun _ _ => 0, So.zero, x.e, rfl, .inr (.inl ⟨hok, by assumption, rfl, rfl, _, _, _, e1, hc1, by rcases hc2 with ⟨q1, q2, _⟩ | ⟨q1, q2⟩; exact .inl ⟨q1, q2⟩; exact .inr ⟨q1, _, q2⟩⟩), slh_nil, slh_nil, slh_nil, ((((hS.sub (.cons _ (.cons _ (.cons _ (.cons _ (.cons _ (.cons _ .slnil))))))).addnil 1 22 (fun _ => undef)).addrows 3 (fun _ => undef) (fun _ => 0) (fun _ _ => 0)).addnil 1 3 (ints So.zero.X)).addnil 1 3 (ints So.zero.Y)⟩
   refine hsk <| htn <| hsq <| hrz ?_
   refine zlv (xfb 0 fd_85_0) ?_
   refine zlv (xlp 2 (ds := [x.vP, x.vX, x.vY, .int .i64 x.s.val, .int .i64 x.s.den]) st_31 hS) ?_
   refine zle (xsw 1 st_31 hS (hd := (ones_cons hxP.one (ones_cons hxX.one (ones_cons hxY.one (ones_cons rfl (ones_cons rfl ones_nil))))))) ?_; clear hS; rintro w hS
   replace hS := hS.n6
   refine zlv xas ?_
   refine zln <| zh <| htn <| hrt <| hmk1 5 hS fun w hS => zfct 1 st_31 hS ⟨_, rfl, ?_⟩
   have hx0 : x.e = 0 := by omega
   obtain ⟨e1, hc1, hc2⟩ := hpre.2.2.2.2.2
   obtain ⟨q1, q2⟩ : e1 = 0 ∧ MSolveR p x.u x.ml x.mf x.s 0 := by rcases hc2 with ⟨q1, q2, _⟩ | ⟨q1, q2⟩; exact absurd (by omega) q1; exact ⟨q1, hx0 ▸ q2⟩
   subst q1
   replace hS := hS.given 4 (hpre.2.2.2.2.1 hx0)
   replace hS := Sat.unbundle (l1 := [_, _, _, _]) (l3 := [_]) hS
   exact ⟨_, x.vv, _, _, _, _, _, x.s, 0, rfl, .inr (.inr ⟨hok, rfl, hc1, q2, hlast hx0⟩), hxP, hxX, hxY, hS.pk [4, 5, 6, 7]⟩
  ·
   intro Dk t rest w hfin hS
   replace hS := hS.n3
   exact hfin.elim
end Go.Proofs.YtopmifmfecfaaaaGreat
namespace Go.Proofs.Gw
open Go Go.RowKit
def skp (i k : Int) : Int := if k < i then k else k + 1
def bck (i r : Int) : Int := if r < i then r else r - 1
theorem skp_bck {i r : Int} (e : i ≠ r) : skp i (bck i r) = r := by
  unfold skp bck
  by_cases h : r < i
  · rw [if_pos h, if_pos h]
  · rw [if_neg h, if_neg (by omega)]; omega
theorem skp_bck1 {i r : Int} (e : i ≠ r) (e1 : i ≠ r + 1) : skp i (bck i r + 1) = r + 1 := by
  unfold skp bck
  by_cases h : r < i
  · rw [if_pos h, if_pos (by omega)]
  · rw [if_neg h, if_neg (by omega)]; omega
theorem skp_ne {i r k : Int} (e : i ≠ r) (h : k ≠ bck i r) : skp i k ≠ r := by
  unfold bck at h; unfold skp
  split
  · split at h <;> omega
  · split at h <;> omega
theorem bck_rng {i r n : Int} (e : i ≠ r) (r0 : 0 ≤ r) (r1 : r ≤ n) (i0 : 0 ≤ i) (i1 : i ≤ n) : 0 ≤ bck i r ∧ bck i r < n := by
  unfold bck; split <;> omega
def alt (i : Int) : Int := if i % 2 = 0 then 1 else -1
def det : Nat → (Int → Int → Int) → Int
  | 0, _ => 1
  | n + 1, A => sumTo (fun i => alt i * A i 0 * det n (fun k m => A (skp i k) (m + 1))) (n + 1)
theorem det_congr : ∀ {n : Nat} {A B : Int → Int → Int}, (∀ k m, 0 ≤ k → k < (n : Int) → 0 ≤ m → m < (n : Int) → A k m = B k m) → det n A = det n B
  | 0, _, _, _ => rfl
  | n + 1, A, B, h => by
    simp only [det]
    refine sumTo_congr fun i i0 i1 => ?_
    rw [h i 0 i0 i1 (by omega) (by omega), det_congr (n := n) (fun k m k0 k1 m0 m1 => h (skp i k) (m + 1) (by unfold skp; split <;> omega) (by unfold skp; split <;> omega) (by omega) (by omega))]
theorem det_lin : ∀ {n : Nat} {A U V : Int → Int → Int} {r a b : Int}, 0 ≤ r → r < (n : Int) → (∀ m, 0 ≤ m → m < (n : Int) → A r m = a * U r m + b * V r m) →
    (∀ k m, 0 ≤ k → k < (n : Int) → 0 ≤ m → m < (n : Int) → k ≠ r → U k m = A k m) → (∀ k m, 0 ≤ k → k < (n : Int) → 0 ≤ m → m < (n : Int) → k ≠ r → V k m = A k m) → det n A = a * det n U + b * det n V
  | 0, _, _, _, _, _, _, h0, h1, _, _, _ => by omega
  | n + 1, A, U, V, r, a, b, r0, r1, h, hU, hV => by
    simp only [det]
    have key := sumTo_lin (n := n + 1) (D := 1) (A := a) (B := -b) (h := fun i => alt i * A i 0 * det n (fun k m => A (skp i k) (m + 1))) (f := fun i => alt i * U i 0 * det n (fun k m => U (skp i k) (m + 1))) (g := fun i => alt i * V i 0 * det n (fun k m => V (skp i k) (m + 1))) (fun i i0 i1 => ?_)
    · grind
    · by_cases e : i = r
      · subst e
        have e1 : det n (fun k m => U (skp i k) (m + 1)) = det n (fun k m => A (skp i k) (m + 1)) := det_congr fun k m k0 k1 m0 m1 => hU _ _ (by unfold skp; split <;> omega) (by unfold skp; split <;> omega) (by omega) (by omega) (by unfold skp; split <;> omega)
        have e2 : det n (fun k m => V (skp i k) (m + 1)) = det n (fun k m => A (skp i k) (m + 1)) := det_congr fun k m k0 k1 m0 m1 => hV _ _ (by unfold skp; split <;> omega) (by unfold skp; split <;> omega) (by omega) (by omega) (by unfold skp; split <;> omega)
        rw [e1, e2, h 0 (by omega) (by omega)]
        grind
      · have hr := skp_bck e
        have hb := bck_rng (n := n) e r0 (by omega) i0 (by omega)
        have ih := det_lin (n := n) (A := fun k m => A (skp i k) (m + 1)) (U := fun k m => U (skp i k) (m + 1)) (V := fun k m => V (skp i k) (m + 1)) (r := bck i r) (a := a) (b := b) hb.1 hb.2
          (fun m m0 m1 => by show A (skp i (bck i r)) _ = _ * U (skp i (bck i r)) _ + _ * V (skp i (bck i r)) _; rw [hr]; exact h (m + 1) (by omega) (by omega))
          (fun k m k0 k1 m0 m1 hk => hU _ _ (by unfold skp; split <;> omega) (by unfold skp; split <;> omega) (by omega) (by omega) (skp_ne e hk))
          (fun k m k0 k1 m0 m1 hk => hV _ _ (by unfold skp; split <;> omega) (by unfold skp; split <;> omega) (by omega) (by omega) (skp_ne e hk))
        rw [ih, hU i 0 i0 i1 (by omega) (by omega) e, hV i 0 i0 i1 (by omega) (by omega) e]
        grind
theorem sumTo_two {f : Int → Int} {n : Nat} {r : Int} (r0 : 0 ≤ r) (r1 : r + 1 < (n : Int)) (h : ∀ i, 0 ≤ i → i < (n : Int) → i ≠ r → i ≠ r + 1 → f i = 0) (hs : f r + f (r + 1) = 0) : sumTo f n = 0 := by
  rw [sumTo_split (s := r) r0 (by omega), sumTo_split (s := r + 1) (by omega) r1]
  have : sumTo (fun j => if j = r + 1 then 0 else if j = r then 0 else f j) n = sumTo (fun _ => 0) n := sumTo_congr fun i i0 i1 => by
    by_cases e : i = r + 1
    · rw [if_pos e]
    · rw [if_neg e]
      by_cases e2 : i = r
      · rw [if_pos e2]
      · rw [if_neg e2]; exact h i i0 i1 e2 e
  rw [this, sumTo_zero, if_neg (by omega)]; omega
theorem det_adj : ∀ {n : Nat} {A : Int → Int → Int} {r : Int}, 0 ≤ r → r + 1 < (n : Int) → (∀ m, 0 ≤ m → m < (n : Int) → A r m = A (r + 1) m) → det n A = 0
  | 0, _, _, h0, h1, _ => by omega
  | n + 1, A, r, r0, r1, h => by
    simp only [det]
    refine sumTo_two r0 r1 (fun i i0 i1 e1 e2 => ?_) ?_
    · have hb := bck_rng (n := n) e1 r0 (by omega) i0 (by omega)
      have hb1 := bck_rng (n := n) e2 (by omega) (by omega) i0 (by omega)
      have hbb : bck i (r + 1) = bck i r + 1 := by unfold bck; split <;> (split <;> omega)
      have ih := det_adj (n := n) (A := fun k m => A (skp i k) (m + 1)) (r := bck i r) hb.1 (by omega) (fun m m0 m1 => by
        show A (skp i (bck i r)) _ = A (skp i (bck i r + 1)) _
        rw [skp_bck e1, skp_bck1 e1 e2]; exact h _ (by omega) (by omega))
      rw [ih]; simp
    · have e : det n (fun k m => A (skp r k) (m + 1)) = det n (fun k m => A (skp (r + 1) k) (m + 1)) := det_congr fun k m k0 k1 m0 m1 => by
        by_cases hk : k = r
        · have e1 : skp r k = r + 1 := by unfold skp; rw [if_neg (by omega)]; omega
          have e2 : skp (r + 1) k = r := by unfold skp; rw [if_pos (by omega)]; omega
          rw [e1, e2]; exact (h _ (by omega) (by omega)).symm
        · have e1 : skp r k = skp (r + 1) k := by unfold skp; split <;> (split <;> omega)
          rw [e1]
      have ea : alt (r + 1) = -alt r := by unfold alt; split <;> (split <;> omega)
      rw [e, ← h 0 (by omega) (by omega), ea]
      grind
def set2 (A : Int → Int → Int) (a b : Int) (u v : Int → Int) : Int → Int → Int := fun k => if k = a then u else if k = b then v else A k
theorem set2_a (A : Int → Int → Int) (a b : Int) (u v : Int → Int) : set2 A a b u v a = u := if_pos rfl
theorem set2_b (A : Int → Int → Int) {a b : Int} (u v : Int → Int) (h : a ≠ b) : set2 A a b u v b = v := by unfold set2; rw [if_neg (fun e => h e.symm), if_pos rfl]
theorem set2_o (A : Int → Int → Int) {a b k : Int} (u v : Int → Int) (ha : k ≠ a) (hb : k ≠ b) : set2 A a b u v k = A k := by unfold set2; rw [if_neg ha, if_neg hb]
theorem det_skew {n : Nat} {A : Int → Int → Int} {a b : Int} (a0 : 0 ≤ a) (a1 : a < (n : Int)) (b0 : 0 ≤ b) (b1 : b < (n : Int)) (hab : a ≠ b) (hz : ∀ w : Int → Int, det n (set2 A a b w w) = 0) (u v : Int → Int) : det n (set2 A a b u v) = -det n (set2 A a b v u) := by
  have s1 : ∀ x y z : Int → Int, det n (set2 A a b (fun m => x m + y m) z) = det n (set2 A a b x z) + det n (set2 A a b y z) := fun x y z => by
    have := det_lin (n := n) (A := set2 A a b (fun m => x m + y m) z) (U := set2 A a b x z) (V := set2 A a b y z) (r := a) (a := 1) (b := 1) a0 a1 (fun m _ _ => by rw [set2_a, set2_a, set2_a]; omega)
      (fun k m _ _ _ _ hk => by unfold set2; rw [if_neg hk, if_neg hk]) (fun k m _ _ _ _ hk => by unfold set2; rw [if_neg hk, if_neg hk])
    omega
  have s2 : ∀ x y z : Int → Int, det n (set2 A a b z (fun m => x m + y m)) = det n (set2 A a b z x) + det n (set2 A a b z y) := fun x y z => by
    have := det_lin (n := n) (A := set2 A a b z (fun m => x m + y m)) (U := set2 A a b z x) (V := set2 A a b z y) (r := b) (a := 1) (b := 1) b0 b1 (fun m _ _ => by rw [set2_b _ _ _ hab, set2_b _ _ _ hab, set2_b _ _ _ hab]; omega)
      (fun k m _ _ _ _ hk => by unfold set2; rw [if_neg hk, if_neg hk]) (fun k m _ _ _ _ hk => by unfold set2; rw [if_neg hk, if_neg hk])
    omega
  have h := hz (fun m => u m + v m)
  rw [s1, s2, s2, hz u, hz v] at h
  omega
theorem set2_self (A : Int → Int → Int) (a b : Int) : set2 A a b (A a) (A b) = A := by
  funext k; unfold set2
  by_cases h : k = a
  · rw [if_pos h, h]
  · rw [if_neg h]
    by_cases h2 : k = b
    · rw [if_pos h2, h2]
    · rw [if_neg h2]
theorem det_eqr : ∀ (d : Nat) {n : Nat} {A : Int → Int → Int} {a b : Int}, 0 ≤ a → b = a + 1 + d → b < (n : Int) → (∀ m, 0 ≤ m → m < (n : Int) → A a m = A b m) → det n A = 0
  | 0, n, A, a, b, a0, hb, b1, h => det_adj a0 (by omega) (fun m m0 m1 => by rw [h m m0 m1, show b = a + 1 by omega])
  | d + 1, n, A, a, b, a0, hb, b1, h => by
    have hsw := det_skew (n := n) (A := A) (a := b - 1) (b := b) (by omega) (by omega) (by omega) b1 (by omega) (fun w => det_adj (r := b - 1) (by omega) (by omega) (fun m _ _ => by rw [set2_a, show b - 1 + 1 = b by omega, set2_b _ _ _ (by omega)])) (A (b - 1)) (A b)
    rw [set2_self] at hsw
    have := det_eqr d (n := n) (A := set2 A (b - 1) b (A b) (A (b - 1))) (a := a) (b := b - 1) a0 (by omega) (by omega) (fun m m0 m1 => by rw [set2_a, set2_o _ _ _ (by omega) (by omega)]; exact h m m0 m1)
    omega
theorem det_eq0 {n : Nat} {A : Int → Int → Int} {a b : Int} (a0 : 0 ≤ a) (a1 : a < (n : Int)) (b0 : 0 ≤ b) (b1 : b < (n : Int)) (hab : a ≠ b) (h : ∀ m, 0 ≤ m → m < (n : Int) → A a m = A b m) : det n A = 0 := by
  rcases Int.lt_or_gt_of_ne hab with e | e
  · exact det_eqr (b - a - 1).toNat a0 (by omega) b1 h
  · exact det_eqr (a - b - 1).toNat b0 (by omega) a1 (fun m m0 m1 => (h m m0 m1).symm)
theorem det_turn {n : Nat} (A : Int → Int → Int) {a b : Int} (a0 : 0 ≤ a) (a1 : a < (n : Int)) (b0 : 0 ≤ b) (b1 : b < (n : Int)) (hab : a ≠ b) (u v : Int → Int) : det n (set2 A a b u v) = -det n (set2 A a b v u) :=
  det_skew a0 a1 b0 b1 hab (fun w => det_eq0 a0 a1 b0 b1 hab fun m _ _ => by rw [set2_a, set2_b _ _ _ hab]) u v
theorem det_sum {n : Nat} (A : Int → Int → Int) {s : Int} (s0 : 0 ≤ s) (s1 : s < (n : Int)) (c : Int → Int) (G : Int → Int → Int) : ∀ K : Nat, det n (upd A s (fun m => sumTo (fun k => c k * G k m) K)) = sumTo (fun k => c k * det n (upd A s (G k))) K
  | 0 => by
    have := det_lin (n := n) (A := upd A s (fun m => sumTo (fun k => c k * G k m) 0)) (U := A) (V := A) (r := s) (a := 0) (b := 0) s0 s1 (fun m _ _ => by rw [gu_self]; simp [sumTo]) (fun k m _ _ _ _ hk => by rw [gu_ne hk]) (fun k m _ _ _ _ hk => by rw [gu_ne hk])
    simp only [sumTo] at *; omega
  | K + 1 => by
    have ih := det_sum A s0 s1 c G K
    have := det_lin (n := n) (A := upd A s (fun m => sumTo (fun k => c k * G k m) (K + 1))) (U := upd A s (fun m => sumTo (fun k => c k * G k m) K)) (V := upd A s (G K)) (r := s) (a := 1) (b := c K) s0 s1
      (fun m _ _ => by rw [gu_self, gu_self, gu_self]; simp [sumTo]) (fun k m _ _ _ _ hk => by rw [gu_ne hk, gu_ne hk]) (fun k m _ _ _ _ hk => by rw [gu_ne hk, gu_ne hk])
    rw [this, ih]; simp only [sumTo]; omega
def idm (k m : Int) : Int := if k = m then 1 else 0
theorem det_id : ∀ n : Nat, det n idm = 1
  | 0 => rfl
  | n + 1 => by
    simp only [det]
    have e : sumTo (fun i => alt i * idm i 0 * det n (fun k m => idm (skp i k) (m + 1))) (n + 1) = alt 0 * idm 0 0 * det n (fun k m => idm (skp 0 k) (m + 1)) := by
      rw [sumTo_split (s := 0) (by omega) (by omega)]
      have : sumTo (fun j => if j = 0 then 0 else alt j * idm j 0 * det n (fun k m => idm (skp j k) (m + 1))) (n + 1) = sumTo (fun _ => 0) (n + 1) := sumTo_congr fun i i0 i1 => by
        by_cases e : i = 0
        · rw [if_pos e]
        · rw [if_neg e]; unfold idm; rw [if_neg e]; simp
      rw [this, sumTo_zero]; omega
    rw [e]
    have e2 : det n (fun k m => idm (skp 0 k) (m + 1)) = det n idm := det_congr fun k m k0 k1 m0 m1 => by
      have h1 : skp 0 k = k + 1 := by unfold skp; rw [if_neg (by omega)]
      rw [h1]; unfold idm
      by_cases h : k = m
      · rw [if_pos h, if_pos (by omega)]
      · rw [if_neg h, if_neg (by omega)]
    rw [e2, det_id n]; rfl
end Go.Proofs.Gw
namespace Go.Proofs.Gw
open Go Go.RowKit
theorem sumTo_first (f : Int → Int) : ∀ n : Nat, sumTo f (n + 1) = f 0 + sumTo (fun j => f (j + 1)) n
  | 0 => by simp [sumTo]
  | n + 1 => by
    have := sumTo_first f n
    simp only [sumTo] at *
    rw [this, show ((n + 1 : Nat) : Int) = (n : Int) + 1 by omega]; omega
theorem sumTo_pick {f : Int → Int} {n : Nat} {s : Int} (s0 : 0 ≤ s) (s1 : s < (n : Int)) (h : ∀ k, 0 ≤ k → k < (n : Int) → k ≠ s → f k = 0) : sumTo f n = f s := by
  rw [sumTo_split s0 s1]
  have : sumTo (fun j => if j = s then 0 else f j) n = sumTo (fun _ => 0) n := sumTo_congr fun i i0 i1 => by
    by_cases e : i = s
    · rw [if_pos e]
    · rw [if_neg e]; exact h i i0 i1 e
  rw [this, sumTo_zero]; omega
theorem sumTo_pick2 {f : Int → Int} {n : Nat} {s j : Int} (s0 : 0 ≤ s) (s1 : s < (n : Int)) (j0 : 0 ≤ j) (j1 : j < (n : Int)) (hsj : s ≠ j) (h : ∀ k, 0 ≤ k → k < (n : Int) → k ≠ s → k ≠ j → f k = 0) : sumTo f n = f s + f j := by
  rw [sumTo_split s0 s1, sumTo_pick (s := j) j0 j1 (fun k k0 k1 hk => by
    by_cases e : k = s
    · rw [if_pos e]
    · rw [if_neg e]; exact h k k0 k1 e hk), if_neg (fun e => hsj e.symm)]
def frm (p : Lp) (q m : Int) : Int := if q < p.n then (if m = q + 1 then 1 else 0) else if m = 0 then -p.b (q - p.n) else p.A (q - p.n) (m - 1)
def cst (p : Lp) (m : Int) : Int := if m = 0 then 0 else p.c (m - 1)
def slt (p : Lp) (t : Tb) (k m : Int) : Int := if k = 0 then (if m = 0 then 1 else 0) else frm p (t.F (k - 1)) m
def lft (p : Lp) (t : Tb) (i m : Int) : Int := if i = 0 then cst p m else frm p (t.B (i - 1)) m
structure DInv (p : Lp) (t : Tb) (eps : Int) : Prop where
  e : eps = 1 ∨ eps = -1
  nf : t.nf = p.n
  n1 : 1 ≤ p.n
  den : eps * t.den = det (p.n.toNat + 1) (slt p t)
  cell : ∀ i j, 0 ≤ i → i ≤ t.nb → 0 ≤ j → j ≤ t.nf → eps * t.C i j = det (p.n.toNat + 1) (upd (slt p t) j (lft p t i))
  idt : ∀ m, 0 ≤ m → m ≤ p.n → Idt t (if m = 0 then 1 else 0) (cst p m) (fun q => frm p q m)
theorem upd_comm {α : Type} (f : Int → α) {a b : Int} (x y : α) (h : a ≠ b) : upd (upd f a x) b y = upd (upd f b y) a x := by
  funext k; unfold upd
  by_cases e : k = a
  · rw [if_pos e, if_neg (by omega), if_pos e]
  · rw [if_neg e, if_neg e]
theorem upd_twice {α : Type} (f : Int → α) (a : Int) (x y : α) : upd (upd f a x) a y = upd f a y := by
  funext k; unfold upd
  by_cases e : k = a
  · rw [if_pos e, if_pos e]
  · rw [if_neg e, if_neg e, if_neg e]
theorem upd_same {α : Type} (f : Int → α) (a : Int) : upd f a (f a) = f := by
  funext k; unfold upd
  by_cases e : k = a
  · rw [if_pos e, e]
  · rw [if_neg e]
theorem upd_set2 (A : Int → Int → Int) {a b : Int} (u v : Int → Int) (h : a ≠ b) : upd (upd A a u) b v = set2 A a b u v := by
  funext k; unfold upd set2
  by_cases e : k = a
  · rw [if_pos e, if_neg (by omega), if_pos e]
  · rw [if_neg e, if_neg e]
theorem DInv.row {p : Lp} {t : Tb} {eps : Int} (h : DInv p t eps) {i : Int} (i0 : 0 ≤ i) (i1 : i ≤ t.nb) {m : Int} (m0 : 0 ≤ m) (m1 : m ≤ p.n) : t.den * lft p t i m = sumTo (fun k => t.C i k * slt p t k m) (p.n.toNat + 1) := by
  have := h.idt m m0 m1 i i0 i1
  have hn := h.nf
  have e : lhsv t (cst p m) (fun q => frm p q m) i = lft p t i m := rfl
  rw [e] at this
  rw [this, sumTo_first]
  unfold rowv
  rw [hn]
  have : sumTo (fun j => t.C i (j + 1) * frm p (t.F j) m) p.n.toNat = sumTo (fun j => t.C i (j + 1) * slt p t (j + 1) m) p.n.toNat := sumTo_congr fun j j0 j1 => by
    unfold slt; rw [if_neg (by omega), show j + 1 - 1 = j by omega]
  rw [this]; unfold slt; rw [if_pos rfl]
theorem DInv.key {p : Lp} {t : Tb} {eps : Int} (h : DInv p t eps) {r s i j : Int} (r0 : 0 ≤ r) (r1 : r ≤ t.nb) (s0 : 0 ≤ s) (s1 : s ≤ t.nf) (i0 : 0 ≤ i) (i1 : i ≤ t.nb) (j0 : 0 ≤ j) (j1 : j ≤ t.nf) (hj : j ≠ s) :
    t.den * (eps * det (p.n.toNat + 1) (upd (upd (slt p t) j (lft p t i)) s (lft p t r))) = t.C r s * t.C i j - t.C i s * t.C r j := by
  have hnf := h.nf; have hn1 := h.n1
  have hN : ((p.n.toNat + 1 : Nat) : Int) = p.n + 1 := by omega
  have hl := det_lin (n := p.n.toNat + 1) (A := upd (upd (slt p t) j (lft p t i)) s (fun m => sumTo (fun k => t.C r k * slt p t k m) (p.n.toNat + 1))) (U := upd (upd (slt p t) j (lft p t i)) s (lft p t r)) (V := upd (upd (slt p t) j (lft p t i)) s (lft p t r)) (r := s) (a := t.den) (b := 0) s0 (by omega)
    (fun m m0 m1 => by rw [gu_self, gu_self, ← h.row r0 r1 m0 (by omega)]; omega) (fun k m _ _ _ _ hk => by rw [gu_ne hk, gu_ne hk]) (fun k m _ _ _ _ hk => by rw [gu_ne hk, gu_ne hk])
  rw [det_sum _ s0 (by omega)] at hl
  have hp := sumTo_pick2 (f := fun k => t.C r k * det (p.n.toNat + 1) (upd (upd (slt p t) j (lft p t i)) s (slt p t k))) (n := p.n.toNat + 1) (s := s) (j := j) s0 (by omega) j0 (by omega) (fun e => hj e.symm) (fun k k0 k1 e1 e2 => by
    have := det_eq0 (n := p.n.toNat + 1) (A := upd (upd (slt p t) j (lft p t i)) s (slt p t k)) (a := k) (b := s) k0 k1 s0 (by omega) e1 (fun m _ _ => by rw [gu_self, gu_ne e1, gu_ne e2])
    rw [this, Int.mul_zero])
  have e1 : upd (upd (slt p t) j (lft p t i)) s (slt p t s) = upd (slt p t) j (lft p t i) := by rw [upd_comm _ _ _ hj, upd_same]
  have e2 : det (p.n.toNat + 1) (upd (upd (slt p t) j (lft p t i)) s (slt p t j)) = -det (p.n.toNat + 1) (upd (slt p t) s (lft p t i)) := by
    rw [upd_set2 _ _ _ hj, det_turn _ j0 (by omega) s0 (by omega) hj, ← upd_set2 _ _ _ hj, upd_same]
  rw [e1, e2, ← h.cell i j i0 i1 j0 j1, ← h.cell i s i0 i1 s0 s1] at hp
  rw [hp] at hl
  rcases h.e with he | he <;> subst he <;> grind
theorem dinv_pdiv {p : Lp} {t : Tb} {eps : Int} (h : DInv p t eps) {row col : Int} (ha : pargs t row col) : pdiv t row col := by
  obtain ⟨hp, r0, r1, c0, c1, hne⟩ := ha
  intro i j i0 i1 j0 j1 hi hj
  have := h.key (r := row + 1) (s := col + 1) (i := i) (j := j) (by omega) (by omega) (by omega) (by omega) i0 i1 j0 j1 hj
  exact Int.tmod_eq_zero_of_dvd ⟨_, this.symm⟩
theorem slt_piv (p : Lp) (t : Tb) {row col : Int} (c0 : 0 ≤ col) (r0 : 0 ≤ row) : slt p (piv t row col) = upd (slt p t) (col + 1) (lft p t (row + 1)) := by
  funext k m
  by_cases e : k = col + 1
  · subst e
    rw [gu_self]; unfold slt lft
    rw [if_neg (by omega), if_neg (by omega), show col + 1 - 1 = col by omega, show row + 1 - 1 = row by omega]
    show frm p (upd t.F col (t.B row) col) m = _
    rw [gu_self]
  · rw [gu_ne e]; unfold slt
    by_cases e0 : k = 0
    · rw [if_pos e0, if_pos e0]
    · rw [if_neg e0, if_neg e0]
      show frm p (upd t.F col (t.B row) (k - 1)) m = _
      rw [gu_ne (by omega)]
theorem lft_piv (p : Lp) (t : Tb) {row col : Int} (c0 : 0 ≤ col) (r0 : 0 ≤ row) : lft p (piv t row col) = upd (lft p t) (row + 1) (slt p t (col + 1)) := by
  funext k m
  by_cases e : k = row + 1
  · subst e
    rw [gu_self]; unfold slt lft
    rw [if_neg (by omega), if_neg (by omega), show col + 1 - 1 = col by omega, show row + 1 - 1 = row by omega]
    show frm p (upd t.B row (t.F col) row) m = _
    rw [gu_self]
  · rw [gu_ne e]; unfold lft
    by_cases e0 : k = 0
    · rw [if_pos e0, if_pos e0]
    · rw [if_neg e0, if_neg e0]
      show frm p (upd t.B row (t.F col) (k - 1)) m = _
      rw [gu_ne (by omega)]
theorem dinv_piv {p : Lp} {t : Tb} {eps : Int} (h : DInv p t eps) {row col : Int} (ha : pargs t row col) : DInv p (piv t row col) (eps * sg (t.C (row + 1) (col + 1))) := by
  have hd := dinv_pdiv h ha
  have hidt := fun m m0 m1 => (idt_piv ha hd _ _ _).1 (h.idt m m0 m1)
  obtain ⟨hp, r0, r1, c0, c1, hne⟩ := ha
  have hnf := h.nf; have hn1 := h.n1; have hd1 := hp.d1
  have hss : sg (t.C (row + 1) (col + 1)) * sg (t.C (row + 1) (col + 1)) = 1 := by rcases sg_cases (t.C (row + 1) (col + 1)) with e | e <;> rw [e] <;> rfl
  refine ⟨?_, hnf, hn1, ?_, ?_, hidt⟩
  · rcases h.e with e | e <;> rcases sg_cases (t.C (row + 1) (col + 1)) with e2 | e2 <;> rw [e, e2] <;> simp
  · rw [piv_den, slt_piv p t c0 r0, ← h.cell (row + 1) (col + 1) (by omega) (by omega) (by omega) (by omega)]
    grind
  · intro i j i0 i1 j0 j1
    have i2 : i ≤ t.nb := i1
    have j2 : j ≤ t.nf := j1
    rw [piv_C, slt_piv p t c0 r0, lft_piv p t c0 r0]
    have e0 : eps * sg (t.C (row + 1) (col + 1)) * (sg (t.C (row + 1) (col + 1)) * pcell t (row + 1) (col + 1) i j) = eps * pcell t (row + 1) (col + 1) i j := by grind
    rw [e0]
    unfold pcell
    by_cases hi : i = row + 1
    · subst hi
      rw [gu_self]
      by_cases hj : j = col + 1
      · subst hj
        rw [if_pos ⟨rfl, rfl⟩, upd_twice, upd_same]; exact h.den
      · rw [if_neg (by omega), if_pos rfl, upd_set2 _ _ _ (fun e => hj e.symm), det_turn _ (by omega) (by omega) j0 (by omega) (fun e => hj e.symm), ← upd_set2 _ _ _ (fun e => hj e.symm), upd_same, ← h.cell _ _ (by omega) (by omega) j0 (by omega)]
        grind
    · rw [gu_ne hi]
      by_cases hj : j = col + 1
      · subst hj
        rw [if_neg (by omega), if_neg hi, if_pos rfl, upd_twice]; exact h.cell _ _ i0 i2 (by omega) (by omega)
      · rw [if_neg (by omega), if_neg hi, if_neg hj]
        have hk := h.key (r := row + 1) (s := col + 1) (i := i) (j := j) (by omega) (by omega) (by omega) (by omega) i0 i2 j0 j2 hj
        rw [← hk, Int.mul_tdiv_cancel_left _ (by omega), upd_comm _ _ _ (fun e => hj e.symm)]
        rcases h.e with e | e <;> rw [e] <;> grind
theorem dinv_start {p : Lp} (hl : LOk p) (hm : 0 ≤ p.m) : DInv p (startT p) 1 := by
  have hn := hl.n1
  have hN : ((p.n.toNat + 1 : Nat) : Int) = p.n + 1 := by omega
  have hs : ∀ k m, 0 ≤ k → k < ((p.n.toNat + 1 : Nat) : Int) → 0 ≤ m → m < ((p.n.toNat + 1 : Nat) : Int) → slt p (startT p) k m = idm k m := fun k m k0 k1 m0 m1 => by
    unfold slt idm
    by_cases e : k = 0
    · subst e; rw [if_pos rfl]
      by_cases e2 : m = 0
      · rw [if_pos e2, if_pos e2.symm]
      · rw [if_neg e2, if_neg (fun h => e2 h.symm)]
    · rw [if_neg e]
      show frm p (k - 1) m = _
      unfold frm
      rw [if_pos (by omega)]
      by_cases e2 : k = m
      · rw [if_pos (by omega), if_pos e2]
      · rw [if_neg (by omega), if_neg e2]
  refine ⟨.inl rfl, rfl, hn, ?_, ?_, ?_⟩
  · rw [det_congr hs, det_id]; rfl
  · intro i j i0 i1 j0 j1
    have i2 : i ≤ p.m := i1
    have j2 : j ≤ p.n := j1
    have e1 : det (p.n.toNat + 1) (upd (slt p (startT p)) j (lft p (startT p) i)) = det (p.n.toNat + 1) (upd idm j (fun m => sumTo (fun k => lft p (startT p) i k * idm k m) (p.n.toNat + 1))) := det_congr fun k m k0 k1 m0 m1 => by
      by_cases e : k = j
      · subst e
        rw [gu_self, gu_self, sumTo_pick (s := m) m0 m1 (fun q q0 q1 hq => by unfold idm; rw [if_neg hq]; omega)]
        unfold idm; rw [if_pos rfl]; omega
      · rw [gu_ne e, gu_ne e]; exact hs k m k0 k1 m0 m1
    have e2 : lft p (startT p) i j = (startT p).C i j := by
      unfold lft
      show _ = (if i = 0 then (if j = 0 then 0 else p.c (j - 1)) else if j = 0 then -p.b (i - 1) else p.A (i - 1) (j - 1))
      by_cases e : i = 0
      · rw [if_pos e, if_pos e]; rfl
      · rw [if_neg e, if_neg e]
        show frm p (p.n + (i - 1)) j = _
        unfold frm
        rw [if_neg (by omega), show p.n + (i - 1) - p.n = i - 1 by omega]
    rw [e1, det_sum _ j0 (by omega), sumTo_pick (s := j) j0 (by omega) (fun q q0 q1 hq => by
      have := det_eq0 (n := p.n.toNat + 1) (A := upd idm j (idm q)) (a := q) (b := j) q0 q1 j0 (by omega) hq (fun m _ _ => by rw [gu_self, gu_ne hq])
      rw [this, Int.mul_zero]), upd_same, det_id, e2]; omega
  · intro m m0 m1
    refine (idt_start hl hm _ _ _).2 ⟨?_, fun i i0 i1 => ?_⟩
    · unfold cst
      by_cases e : m = 0
      · rw [if_pos e]
        have : dotp p.c (fun q => frm p q m) p.n.toNat = sumTo (fun _ => 0) p.n.toNat := sumTo_congr fun q q0 q1 => by
          dsimp only; unfold frm; rw [if_pos (by omega), if_neg (by omega)]; omega
        rw [this, sumTo_zero]
      · rw [if_neg e]
        have : dotp p.c (fun q => frm p q m) p.n.toNat = _ := sumTo_pick (s := m - 1) (by omega) (by omega) (fun q q0 q1 hq => by
          dsimp only; unfold frm; rw [if_pos (by omega), if_neg (by omega)]; omega)
        rw [this]; dsimp only; unfold frm; rw [if_pos (by omega), if_pos (by omega)]; omega
    · have e1 : frm p (p.n + i) m = if m = 0 then -p.b i else p.A i (m - 1) := by
        unfold frm; rw [if_neg (by omega), show p.n + i - p.n = i by omega]
      rw [e1]
      by_cases e : m = 0
      · rw [if_pos e, if_pos e]
        have : dotp (p.A i) (fun q => frm p q m) p.n.toNat = sumTo (fun _ => 0) p.n.toNat := sumTo_congr fun q q0 q1 => by
          dsimp only; unfold frm; rw [if_pos (by omega), if_neg (by omega)]; omega
        rw [this, sumTo_zero]; omega
      · rw [if_neg e, if_neg e]
        have : dotp (p.A i) (fun q => frm p q m) p.n.toNat = _ := sumTo_pick (s := m - 1) (by omega) (by omega) (fun q q0 q1 hq => by
          dsimp only; unfold frm; rw [if_pos (by omega), if_neg (by omega)]; omega)
        rw [this]; dsimp only; unfold frm; rw [if_pos (by omega), if_pos (by omega)]; omega
end Go.Proofs.Gw
namespace Go.Proofs.Gw
open Go Go.RowKit
theorem entr_min (t : Tb) (r : Int) : ∀ K : Nat, 0 ≤ entr t r K → 0 < t.C (r + 1) (entr t r K + 1) ∧ ∀ j : Int, 0 ≤ j → j < K → 0 < t.C (r + 1) (j + 1) → t.C 0 (entr t r K + 1) * t.C (r + 1) (j + 1) ≤ t.C 0 (j + 1) * t.C (r + 1) (entr t r K + 1)
  | 0, h => by unfold entr at h; omega
  | k + 1, h => by
    have ih := entr_min t r k
    have hneg := entr_neg t r k
    unfold entr at h ⊢
    by_cases h1 : t.C (r + 1) (k + 1) ≤ 0
    · rw [if_pos h1] at h ⊢
      obtain ⟨a1, a2⟩ := ih h
      refine ⟨a1, fun j j0 j1 hj => ?_⟩
      by_cases e : j = k
      · subst e; omega
      · exact a2 j j0 (by omega) hj
    · rw [if_neg h1] at h ⊢
      by_cases h2 : entr t r k < 0
      · rw [if_pos h2]
        refine ⟨by omega, fun j j0 j1 hj => ?_⟩
        by_cases e : j = k
        · subst e; exact Int.le_refl _
        · have := hneg h2 j j0 (by omega); omega
      · rw [if_neg h2] at h ⊢
        obtain ⟨a1, a2⟩ := ih (by omega)
        by_cases h3 : t.C 0 (k + 1) * t.C (r + 1) (entr t r k + 1) < t.C 0 (entr t r k + 1) * t.C (r + 1) (k + 1) ∨ (t.C 0 (k + 1) * t.C (r + 1) (entr t r k + 1) = t.C 0 (entr t r k + 1) * t.C (r + 1) (k + 1) ∧ t.F k < t.F (entr t r k))
        · rw [if_pos h3]
          refine ⟨by omega, fun j j0 j1 hj => ?_⟩
          by_cases e : j = k
          · subst e; exact Int.le_refl _
          · have b1 := a2 j j0 (by omega) hj
            have b2 : t.C 0 (k + 1) * t.C (r + 1) (entr t r k + 1) ≤ t.C 0 (entr t r k + 1) * t.C (r + 1) (k + 1) := by omega
            have b3 := Int.mul_le_mul_of_nonneg_right b2 (Int.le_of_lt hj)
            have b4 := Int.mul_le_mul_of_nonneg_right b1 (show 0 ≤ t.C (r + 1) (k + 1) by omega)
            refine Int.le_of_mul_le_mul_left ?_ a1
            grind
        · rw [if_neg h3]
          refine ⟨a1, fun j j0 j1 hj => ?_⟩
          by_cases e : j = k
          · subst e; omega
          · exact a2 j j0 (by omega) hj
theorem costs_piv {t : Tb} (hp : TPrp t) (hc : t.costs) {r : Int} (r0 : 0 ≤ r) (h : 0 ≤ entr t r t.nf.toNat) : (piv t r (entr t r t.nf.toNat)).costs := by
  obtain ⟨a1, a2⟩ := entr_min t r _ h
  intro j j1 j2
  have j3 : j ≤ t.nf := j2
  rw [piv_C]
  have hs : sg (t.C (r + 1) (entr t r t.nf.toNat + 1)) = 1 := by unfold sg; rw [if_neg (by omega)]
  rw [hs, Int.one_mul]
  unfold pcell
  rw [if_neg (by omega), if_neg (by omega)]
  have hr := entr_rng t r t.nf.toNat
  split
  · exact hc j j1 j3
  · refine Int.tdiv_nonneg ?_ (by have := hp.d1; omega)
    have c1 := hc j j1 j3
    have c2 := hc (entr t r t.nf.toNat + 1) (by omega) (by omega)
    rcases Int.lt_or_le 0 (t.C (r + 1) j) with h1 | h1
    · have := a2 (j - 1) (by omega) (by omega) (by rw [show j - 1 + 1 = j by omega]; exact h1)
      rw [show j - 1 + 1 = j by omega] at this
      grind
    · have m1 := Int.mul_nonneg (Int.le_of_lt a1) c1
      have m2 := Int.mul_nonneg c2 (show 0 ≤ -t.C (r + 1) j by omega)
      rw [Int.mul_neg] at m2
      omega
theorem run_errs {p : Lp} {k : Nat} {t u : Tb} {e : Int} (h : Run k t u e) : TPrp t → t.costs → (∃ eps, DInv p t eps) → e = 0 ∨ e = 2 ∨ e = 9 ∨ e = 19 := by
  induction h with
  | stop h hd =>
    intro hp hc _
    rcases h with ⟨h1, _⟩ | ⟨_, _, _, _, _, _, h⟩ | ⟨_, _, _, _, _, _, _, h⟩ | ⟨_, _, _, _, _, _, _, h⟩
    · exact absurd ⟨hp, hc⟩ h1
    · exact .inl h
    · exact .inr (.inr (.inr h))
    · exact .inl h
  | lim => intro _ _ _; exact .inr (.inr (.inl rfl))
  | @bad k t t' r c e h hpv he =>
    rintro hp hc ⟨eps, hi⟩
    have ha : pargs t r c := by
      rcases h with ⟨h1, _⟩ | ⟨_, _, _, _, _, h, _⟩ | ⟨_, _, _, _, _, _, _, h⟩ | ⟨_, _, h1, h2, h3, h4, _⟩
      · exact absurd ⟨hp, hc⟩ h1
      · cases h
      · omega
      · have b1 := leav_rng t t.nb.toNat
        have b2 := entr_rng t (leav t t.nb.toNat) t.nf.toNat
        have b3 := (entr_min t _ _ h2).1
        subst h3; subst h4
        exact ⟨hp, h1, by omega, h2, by omega, by omega⟩
    have hd := dinv_pdiv hi ha
    rcases hpv with ⟨h1, _⟩ | ⟨_, h1, _⟩ | ⟨_, _, _, _, h1⟩ | ⟨_, _, _, _, h1⟩
    · exact absurd ha h1
    · exact absurd hd h1
    · exact .inr (.inl h1)
    · exact absurd h1 he
  | @go k t t' u r c e h hpv hr ih =>
    rintro hp hc ⟨eps, hi⟩
    rcases hpv with ⟨_, _, h1⟩ | ⟨_, _, _, h1⟩ | ⟨_, _, _, _, h1⟩ | ⟨ha, _, hp', rfl, _⟩
    · omega
    · omega
    · omega
    · refine ih hp' ?_ ⟨_, dinv_piv hi ha⟩
      rcases h with ⟨h1, _⟩ | ⟨_, _, _, _, _, h, _⟩ | ⟨_, _, _, _, _, _, _, h⟩ | ⟨_, _, h1, h2, h3, h4, _⟩
      · exact absurd ⟨hp, hc⟩ h1
      · cases h
      · omega
      · subst h3; subst h4
        exact costs_piv hp hc h1 h2
theorem prp_start {p : Lp} (hl : LOk p) (hm : 0 ≤ p.m) : TPrp (startT p) ∧ (startT p).costs := by
  have hn := hl.n1; have hn2 := hl.n2; have hm2 := hl.m2
  refine ⟨⟨hn, hn2, hm2, rfl, by show (1 : Int) ≤ 1; decide, by show (1 : Int) ≤ 1073741824; decide, rfl, ?_, ?_⟩, ?_⟩
  · refine PermF.congr (c := fun k => k) ⟨fun i i0 i1 => ⟨i0, i1⟩, fun i j _ _ _ _ e => e⟩ fun k k0 k1 => ?_
    show k = cat p.n (fun j => j) (fun i => p.n + i) k
    unfold cat
    by_cases e : k < p.n
    · rw [if_pos e]
    · rw [if_neg e]; show k = p.n + (k - p.n); omega
  · intro i i0 i1
    refine ⟨rfl, fun j j0 j1 => ?_⟩
    have j2 : j < p.n + 1 := j1
    have i2 : i < p.m + 1 := i1
    show -1073741824 ≤ (if i = 0 then (if j = 0 then 0 else p.c (j - 1)) else if j = 0 then -p.b (i - 1) else p.A (i - 1) (j - 1)) ∧ (if i = 0 then (if j = 0 then 0 else p.c (j - 1)) else if j = 0 then -p.b (i - 1) else p.A (i - 1) (j - 1)) ≤ 1073741824
    by_cases e : i = 0
    · rw [if_pos e]
      by_cases e2 : j = 0
      · rw [if_pos e2]; omega
      · rw [if_neg e2]; have := hl.c (j - 1) (by omega) (by omega); omega
    · rw [if_neg e]
      by_cases e2 : j = 0
      · rw [if_pos e2]; have := hl.b (i - 1) (by omega) (by omega); omega
      · rw [if_neg e2]; have := (hl.rows (i - 1) (by omega) (by omega)).2 (j - 1) (by omega) (by omega); omega
  · intro j j0 j1
    have j2 : j ≤ p.n := j1
    show 0 ≤ (if (0 : Int) = 0 then (if j = 0 then 0 else p.c (j - 1)) else if j = 0 then -p.b (0 - 1) else p.A (0 - 1) (j - 1))
    rw [if_pos rfl, if_neg (by omega)]; exact (hl.c (j - 1) (by omega) (by omega)).1
theorem SolveR.errs {p : Lp} (hl : LOk p) (hm : 0 ≤ p.m) {s : So} {e : Int} (h : SolveR p s e) : e = 0 ∨ e = 2 ∨ e = 9 ∨ e = 19 := by
  rcases h with ⟨h1, _⟩ | ⟨_, u, hr, _⟩
  · exact absurd hl h1
  · exact run_errs hr (prp_start hl hm).1 (prp_start hl hm).2 ⟨_, dinv_start hl hm⟩
end Go.Proofs.Gw
namespace Go.Proofs.YtopmifmfecfaaaaGreat
open Go Go.RowKit Go.Proofs.Gw
theorem cl_11 : calledT Tryz.prog 11 = true := by kernel_rfl
theorem el_35 : elemT Tryz.prog 35 = some (.agg #[.slice none 0 0, .slice none 0 0, .int .i64 0, .int .i64 0], 4, 64) := by kernel_rfl
theorem wc_top {p : Prob} (hp : p.Ok) {y x : Int → Int} (hx : ∀ i, 0 ≤ i → i < p.m → 0 ≤ x i ∧ x i ≤ p.D i) (hu : Used p x p.m.toNat ≤ p.stock + p.kerf) : sumTo (fun i => x i * y i) p.m.toNat ≤ WC p y := by
  have hm := hp.m1; have hk := hp.k1
  refine KI_top (t := itsOf p y) (by show 0 ≤ p.m; omega) (fun i i0 i1 => ?_) hx hu
  have := hp.all i i0 i1
  unfold Prob.each at this
  show 1 ≤ p.L i + p.kerf
  omega
theorem dem_nn {p : Prob} (hp : p.Ok) {i : Int} (i0 : 0 ≤ i) (i1 : i < p.m) : 0 ≤ p.D i ∧ p.D i ≤ 1000 ∧ 1 ≤ p.L i ∧ p.L i ≤ p.stock := by
  have h2 := hp.all i i0 i1
  unfold Prob.each at h2; omega
theorem parts_weak {p : Prob} (hp : p.Ok) {y : Int → Int} (hy : ∀ i, 0 ≤ i → i < p.m → 0 ≤ y i) {W q : Int} {u : Nat} {x : Int → Int} {f : Int → Int → Int} {D : Int → Int} (hx : ∀ j, 0 ≤ j → j < (u : Int) → 0 ≤ x j) (hW : ∀ j, 0 ≤ j → j < (u : Int) → sumTo (fun k => f j k * y k) p.m.toNat ≤ W)
    (hb : ∀ k, 0 ≤ k → k < p.m → D k * q ≤ sumTo (fun j => f j k * x j) u) : sumTo (fun k => D k * y k) p.m.toNat * q ≤ sumTo x u * W := by
  have hm := hp.m1
  have e1 : sumTo (fun k => D k * y k) p.m.toNat * q = sumTo (fun k => D k * q * y k) p.m.toNat := by
    rw [← sumTo_mul]; exact sumTo_congr fun k _ _ => by grind
  have e2 : sumTo (fun k => D k * q * y k) p.m.toNat ≤ sumTo (fun k => sumTo (fun j => f j k * x j) u * y k) p.m.toNat := sumTo_le fun k k0 k1 => Int.mul_le_mul_of_nonneg_right (hb k k0 (by omega)) (hy k k0 (by omega))
  have e3 : sumTo (fun k => sumTo (fun j => f j k * x j) u * y k) p.m.toNat = sumTo (fun k => sumTo (fun j => f j k * x j * y k) u) p.m.toNat := sumTo_congr fun k _ _ => (sumTo_mul _ _ _).symm
  have e4 : sumTo (fun k => sumTo (fun j => f j k * x j * y k) u) p.m.toNat = sumTo (fun j => sumTo (fun k => f j k * x j * y k) p.m.toNat) u := sumTo_comm (fun j k => f j k * x j * y k) u p.m.toNat
  have e5 : sumTo (fun j => sumTo (fun k => f j k * x j * y k) p.m.toNat) u ≤ sumTo (fun j => x j * W) u := sumTo_le fun j j0 j1 => by
    have : sumTo (fun k => f j k * x j * y k) p.m.toNat = sumTo (fun k => f j k * y k) p.m.toNat * x j := by
      rw [← sumTo_mul]; exact sumTo_congr fun k _ _ => by grind
    rw [this, Int.mul_comm (x j)]
    exact Int.mul_le_mul_of_nonneg_right (hW j j0 j1) (hx j j0 j1)
  rw [sumTo_mul] at e5
  omega
structure MOk (p : Prob) (u : Int) (ml : Int → Int) (mf : Int → Int → Int) (s : So) : Prop where
  pats : PropL p u ml mf
  u0 : 0 ≤ u
  n : s.n = u
  m : s.m = p.m
  d1 : 1 ≤ s.den
  d2 : s.den ≤ 1073741824
  v : 0 ≤ s.val ∧ s.val ≤ 1073741824
  X : ∀ j, 0 ≤ j → j < u → 0 ≤ s.X j ∧ s.X j ≤ 1073741824
  Y : ∀ i, 0 ≤ i → i < p.m → 0 ≤ s.Y i ∧ s.Y i ≤ 1073741824
  rows : ∀ k, 0 ≤ k → k < p.m → p.D k * s.den ≤ sumTo (fun j => mf j k * s.X j) u.toNat
  cols : ∀ j, 0 ≤ j → j < u → sumTo (fun k => mf j k * s.Y k) p.m.toNat ≤ s.den
  cX : sumTo s.X u.toNat = s.val
  bY : sumTo (fun k => p.D k * s.Y k) p.m.toNat = s.val
theorem MSolveR.ok {p : Prob} {u : Int} {ml : Int → Int} {mf : Int → Int → Int} {s : So} (hu : 0 ≤ u) (h : MSolveR p u ml mf s 0) : MOk p u ml mf s := by
  rcases h with ⟨_, _, h⟩ | ⟨_, _, _, h⟩ | ⟨_, _, _, _, _, _, h⟩ | ⟨h1, h2, h3, h4, h5, h6, h7⟩ | ⟨h1, h2, h3, h4, h5⟩
  · omega
  · omega
  · omega
  · have hm := h1.1.m1; have hd := h1.1.d
    subst h6; subst h4
    have z : ∀ f : Int → Int, sumTo (fun k => f k * 0) p.m.toNat = 0 := fun f => by rw [sumTo_mul, Int.mul_zero]
    refine ⟨h1, by omega, rfl, rfl, by show (1 : Int) ≤ 1; decide, by show (1 : Int) ≤ 1073741824; decide, ⟨Int.le_refl _, by show (0 : Int) ≤ 1073741824; decide⟩, fun j a b => by omega, fun i _ _ => ⟨Int.le_refl _, by show (0 : Int) ≤ 1073741824; decide⟩, fun k k0 k1 => ?_, fun j a b => by omega, rfl, z p.D⟩
    have := h5 k k0 (by omega)
    show p.D k * 1 ≤ 0
    omega
  · have hm := h1.1.m1
    have hc := SolveR.chk (p := lpOf p u mf) (by show 0 ≤ p.m; omega) h5 rfl
    have hv : s.val = sumTo s.X u.toNat := by
      have := hc.cX
      rw [← this]; exact sumTo_congr fun k _ _ => by show 1 * s.X k = _; omega
    refine ⟨h1, by omega, hc.n, hc.m, hc.d1, hc.d2, ⟨?_, hc.v.2⟩, hc.X, hc.Y, fun k k0 k1 => ?_, fun j j0 j1 => ?_, hv.symm, hc.bY⟩
    · rw [hv]; exact sumTo_nonneg fun j j0 j1 => (hc.X j j0 (by show j < u; omega)).1
    · exact hc.rows k k0 k1
    · have := hc.cols j j0 j1
      have e : (lpOf p u mf).c j * s.den = s.den := by show 1 * s.den = _; omega
      rw [e] at this; exact this
theorem prop_used {p : Prob} {n : Int} {a : Int → Int} (h : ProperP p n a) : (∀ i, 0 ≤ i → i < p.m → 0 ≤ a i ∧ a i ≤ p.D i) ∧ Used p a p.m.toNat ≤ p.stock + p.kerf :=
  ⟨fun i i0 i1 => ⟨(h.1.all i i0 i1).1, h.2 i i0 (by rw [h.1.eq]; exact i1)⟩, h.1.used⟩
theorem MOk.bound {p : Prob} {u : Int} {ml : Int → Int} {mf : Int → Int → Int} {s : So} (h : MOk p u ml mf s) {y : Int → Int} (hy : ∀ i, 0 ≤ i → i < p.m → 0 ≤ y i) : sumTo (fun k => p.D k * y k) p.m.toNat * s.den ≤ s.val * WC p y := by
  have hp := h.pats.1
  have hu := h.u0
  rw [← h.cX]
  refine parts_weak hp hy (fun j j0 j1 => (h.X j j0 (by omega)).1) (fun j j0 j1 => ?_) h.rows
  obtain ⟨h1, h2⟩ := prop_used (h.pats.2 j j0 (by omega))
  exact wc_top hp h1 h2
theorem clast_wc {p : Prob} {s : So} (h : CLast p s) : WC p s.Y ≤ s.den := by
  obtain ⟨na, a, worth, h1, h2⟩ := h
  rcases h1 with ⟨_, _, _, h1⟩ | ⟨_, _, _, _, h1, _⟩
  · omega
  · omega
theorem MOk.own {p : Prob} {u : Int} {ml : Int → Int} {mf : Int → Int → Int} {s : So} (h : MOk p u ml mf s) (hc : WC p s.Y ≤ s.den) : s.val * s.den = s.val * WC p s.Y := by
  have h1 := h.bound (y := s.Y) fun i i0 i1 => (h.Y i i0 i1).1
  rw [h.bY] at h1
  have := Int.mul_le_mul_of_nonneg_left hc h.v.1
  omega
theorem MOk.prc {p : Prob} {u : Int} {ml : Int → Int} {mf : Int → Int → Int} {s : So} (h : MOk p u ml mf s) : PrcL p s.m s.Y := ⟨h.pats.1, h.m, fun k k0 k1 => h.Y k k0 k1⟩
theorem ColR.okS {p : Prob} {u e : Int} {ml : Int → Int} {mf : Int → Int → Int} {s : So} (hu : 0 ≤ u) (h : ColR p u ml mf s e) (he : e = 0) : MOk p u ml mf s ∧ WC p s.Y ≤ s.den := by
  rcases h with ⟨_, _, _, h⟩ | ⟨_, h, _⟩ | ⟨_, _, _, h1, h2⟩
  · omega
  · exact absurd he h
  · exact ⟨h1.ok hu, clast_wc h2⟩
theorem one_sum {x : Int → Int} {n : Nat} {k : Int} (k0 : 0 ≤ k) (k1 : k < (n : Int)) (h : ∀ j, 0 ≤ j → j < (n : Int) → j ≠ k → x j = 0) : sumTo x n = x k := by
  rw [sumTo_split (s := k) k0 k1]
  have : sumTo (fun j => if j = k then 0 else x j) n = sumTo (fun _ => 0) n := sumTo_congr fun j j0 j1 => by
    by_cases e : j = k
    · rw [if_pos e]
    · rw [if_neg e, h j j0 j1 e]
  rw [this, sumTo_zero]; omega
theorem one_prop {p : Prob} (hp : p.Ok) {i : Int} (i0 : 0 ≤ i) (i1 : i < p.m) : ProperP p p.m (oneP p i) ∧ (0 < p.D i → 1 ≤ oneP p i i) := by
  have hm := hp.m1; have hk := hp.k1; have hs := hp.s1
  have hd := dem_nn hp i0 i1
  have hq := quo_facts (a := p.stock + p.kerf) (b := p.L i + p.kerf) (by omega) (by omega)
  have h0 : 0 ≤ (p.stock + p.kerf).tdiv (p.L i + p.kerf) := Int.tdiv_nonneg (by omega) (by omega)
  have h1 : 1 ≤ (p.stock + p.kerf).tdiv (p.L i + p.kerf) := by
    rw [Int.tdiv_eq_ediv_of_nonneg (by omega)]
    exact (Int.le_ediv_iff_mul_le (by omega)).2 (by omega)
  have hv : oneP p i i = min (p.D i) ((p.stock + p.kerf).tdiv (p.L i + p.kerf)) := if_pos rfl
  have hz : ∀ j, j ≠ i → oneP p i j = 0 := fun j e => if_neg e
  refine ⟨⟨⟨hp, rfl, fun j j0 j1 => ?_, ?_⟩, fun j j0 j1 => ?_⟩, fun h => by rw [hv]; omega⟩
  · by_cases e : j = i
    · rw [e, hv]; omega
    · rw [hz j e]; omega
  · have e : Used p (oneP p i) p.m.toNat = oneP p i i * (p.L i + p.kerf) := one_sum (x := fun j => oneP p i j * (p.L j + p.kerf)) i0 (by omega) fun j _ _ e => by show oneP p i j * _ = 0; rw [hz j e, Int.zero_mul]
    rw [e, hv]
    have h2 := Int.mul_le_mul_of_nonneg_right (show min (p.D i) ((p.stock + p.kerf).tdiv (p.L i + p.kerf)) ≤ (p.stock + p.kerf).tdiv (p.L i + p.kerf) by omega) (show 0 ≤ p.L i + p.kerf by omega)
    have h3 : (p.stock + p.kerf).tdiv (p.L i + p.kerf) * (p.L i + p.kerf) ≤ p.stock + p.kerf := by
      rw [Int.tdiv_eq_ediv_of_nonneg (by omega)]
      exact Int.ediv_mul_le _ (by omega)
    omega
  · by_cases e : j = i
    · rw [e, hv]; omega
    · rw [hz j e]; exact (dem_nn hp j0 j1).1
theorem st_inv {p : Prob} (hp : p.Ok) : ∀ k : Nat, (k : Int) ≤ p.m → (∀ j, 0 ≤ j → j < stN p k → ProperP p (stL p k j) (stG p k j)) ∧ ∀ i, 0 ≤ i → i < (k : Int) → 0 < p.D i → ∃ j, 0 ≤ j ∧ j < stN p k ∧ 1 ≤ stG p k j i
  | 0, _ => ⟨fun j a b => by simp only [stN] at b; omega, fun i a b => by omega⟩
  | k + 1, hk => by
    obtain ⟨h1, h2⟩ := st_inv hp k (by omega)
    have hr := (stN_rng p k).1
    simp only [stN, stL, stG]
    by_cases e : 0 < p.D k
    · rw [if_pos e, if_pos e, if_pos e]
      obtain ⟨q1, q2⟩ := one_prop hp (i := (k : Int)) (by omega) (by omega)
      constructor
      · intro j j0 j1
        by_cases e2 : j < stN p k
        · rw [gsn_lt e2, gsn_lt e2]; exact h1 j j0 e2
        · rw [gsn_at e2, gsn_at e2]; exact q1
      · intro i i0 i1 hi
        by_cases e2 : i = k
        · subst e2
          refine ⟨stN p k, hr, by omega, ?_⟩
          rw [gsn_at (by omega)]; exact q2 e
        · obtain ⟨j, j0, j1, hj⟩ := h2 i i0 (by omega) hi
          refine ⟨j, j0, by omega, ?_⟩
          rw [gsn_lt j1]; exact hj
    · rw [if_neg e, if_neg e, if_neg e]
      refine ⟨h1, fun i i0 i1 hi => h2 i i0 ?_ hi⟩
      by_cases e2 : i = k
      · subst e2; omega
      · omega
theorem price_prop {p : Prob} {n na worth e : Int} {y a : Int → Int} (h : PriceR p n y na a worth e) (he : e = 0) : ProperP p na a := by
  rcases h with ⟨_, _, _, h⟩ | ⟨⟨hp, hn, hy⟩, rfl, rfl, ⟨x, hx⟩, _, _⟩
  · omega
  · have hm := hp.m1; have hk := hp.k1; have hs := hp.s1
    have hq := aC_eq (by omega) hx
    have hu := (hx.worth (by omega) (by show 0 ≤ p.m; omega)).1
    have hb : ∀ i, 0 ≤ i → i < p.m → 0 ≤ aC p y i ∧ aC p y i ≤ p.D i := fun i i0 i1 => by
      have h1 := hx i i0 i1
      rw [← hq i i0 i1]; exact ⟨h1.1, h1.2.1⟩
    refine ⟨⟨hp, rfl, fun i i0 i1 => ?_, ?_⟩, fun i i0 i1 => (hb i i0 i1).2⟩
    · have := hb i i0 i1; have := dem_nn hp i0 i1; omega
    · refine Int.le_trans (Int.le_of_eq ?_) hu
      show sumTo (fun i => aC p y i * (p.L i + p.kerf)) p.m.toNat = sumTo (fun i => x i * (p.L i + p.kerf)) p.m.toNat
      exact sumTo_congr fun i i0 i1 => by rw [hq i i0 (by omega)]
theorem crn_inv {p : Prob} (hok : p.Ok) {u e : Int} {ml : Int → Int} {mf : Int → Int → Int} (h : CRn p u ml mf e) : e = 0 ∧ PropL p u ml mf ∧ 0 ≤ u ∧ ∀ i, 0 ≤ i → i < p.m → 0 < p.D i → ∃ j, 0 ≤ j ∧ j < u ∧ 1 ≤ mf j i := by
  have hm := hok.m1
  induction h with
  | start h =>
    rcases h with ⟨h, _⟩ | ⟨_, h1, h2, h3, h4⟩
    · exact absurd hok h
    · subst h1; subst h2; subst h3
      obtain ⟨q1, q2⟩ := st_inv hok p.m.toNat (by omega)
      exact ⟨h4, ⟨hok, q1⟩, (stN_rng p _).1, fun i i0 i1 => q2 i i0 (by omega)⟩
  | go h hs hp hn ih =>
    rename_i u1 na1 w1 f1 ml1 mf1 a1 s1
    obtain ⟨_, h2, h3, h4⟩ := ih
    have hpr := (hs.ok h3).prc
    have hf : f1 = 0 := by
      rcases hp with ⟨q, _⟩ | ⟨_, _, _, _, _, q⟩
      · exact absurd hpr q
      · exact q
    refine ⟨hf, ⟨hok, fun k k0 k1 => ?_⟩, by omega, fun i i0 i1 hi => ?_⟩
    · by_cases e : k < u1
      · rw [gsn_lt e, gsn_lt e]; exact h2.2 k k0 e
      · rw [gsn_at e, gsn_at e]; exact price_prop hp hf
    · obtain ⟨j, j0, j1, hj⟩ := h4 i i0 i1 hi
      exact ⟨j, j0, by omega, by rw [gsn_lt j1]; exact hj⟩
theorem lp_ok {p : Prob} {u : Int} {ml : Int → Int} {mf : Int → Int → Int} (h : PropL p u ml mf) (hu : 1 ≤ u) (hu2 : u ≤ 60) (hm : p.m ≤ 16) : LOk (lpOf p u mf) := by
  have hp := h.1
  refine ⟨hu, hu2, hm, hp.d, fun j _ _ => by show (0 : Int) ≤ 1 ∧ (1 : Int) ≤ 1000000; omega, fun i i0 i1 => ?_, fun i i0 i1 => ⟨rfl, fun j j0 j1 => ?_⟩⟩
  · have := dem_nn hp i0 i1
    show -1000000 ≤ p.D i ∧ p.D i ≤ 1000000; omega
  · have h1 := (prop_used (h.2 j j0 j1)).1 i i0 i1
    have := dem_nn hp i0 i1
    show -1000000 ≤ mf j i ∧ mf j i ≤ 1000000; omega
theorem ms_errs {p : Prob} {u e : Int} {ml : Int → Int} {mf : Int → Int → Int} {s : So} (hP : PropL p u ml mf) (hu : 0 ≤ u) (hc : ∀ i, 0 ≤ i → i < p.m → 0 < p.D i → ∃ j, 0 ≤ j ∧ j < u ∧ 1 ≤ mf j i) (h : MSolveR p u ml mf s e) : e = 0 ∨ e = 2 ∨ e = 9 := by
  have hp := hP.1
  have hm := hp.m1; have hd := hp.d
  rcases h with ⟨h, _⟩ | ⟨_, _, _, h⟩ | ⟨_, _, _, h1, ⟨k, k0, k1, hk⟩, _, _⟩ | ⟨_, _, _, _, _, _, h⟩ | ⟨_, h2, h3, h4, h5⟩
  · exact absurd hP h
  · omega
  · obtain ⟨j, j0, j1, _⟩ := hc k k0 (by omega) hk; omega
  · omega
  · rcases h5.errs (lp_ok hP h4 h3 h2) (by show 0 ≤ p.m; omega) with h | h | h | h
    · omega
    · omega
    · omega
    · exfalso
      obtain ⟨y, hy⟩ := h5.none (by show 0 ≤ p.m; omega) h
      have := ref_none hy (show 0 ≤ u by omega) (show 0 ≤ p.m by omega) (x := fun _ => 1000) (a := 1) (by omega) (fun j _ _ => by omega) fun i i0 i1 => by
        have hd := dem_nn hp i0 i1
        have hnn : ∀ j, 0 ≤ j → j < (u.toNat : Int) → 0 ≤ mf j i * 1000 := fun j j0 j1 => by
          have := ((prop_used (hP.2 j j0 (by omega))).1 i i0 i1).1; omega
        show p.D i * 1 ≤ sumTo (fun j => mf j i * 1000) u.toNat
        rcases Int.lt_or_le 0 (p.D i) with e | e
        · obtain ⟨j, j0, j1, hj⟩ := hc i i0 i1 e
          have := sumTo_one (f := fun j => mf j i * 1000) (n := u.toNat) j0 (by omega) hnn
          have h9 : mf j i * 1000 ≤ sumTo (fun j => mf j i * 1000) u.toNat := this
          omega
        · have := sumTo_nonneg hnn; omega
      omega
theorem ColR.errs {p : Prob} {u e : Int} {ml : Int → Int} {mf : Int → Int → Int} {s : So} (hok : p.Ok) (h : ColR p u ml mf s e) : (e ≠ 0 ∧ u = 0 ∧ (e = 9 ∨ e = 2)) ∨ e = 0 := by
  rcases h with ⟨h, _⟩ | ⟨_, he, hu, _, u1, ml1, mf1, e1, h1, h2⟩ | ⟨_, h, _⟩
  · exact absurd hok h
  · obtain ⟨q1, q2, q3, q4⟩ := crn_inv hok h1
    rcases h2 with ⟨h2, _⟩ | ⟨_, s1, h2⟩
    · exact absurd q1 h2
    · have := ms_errs q2 q3 q4 h2
      exact .inl ⟨he, hu, by omega⟩
  · exact .inr h
theorem ColR.few {p : Prob} {u e : Int} {ml : Int → Int} {mf : Int → Int → Int} {s : So} (h : ColR p u ml mf s e) (he : e = 0) : u ≤ 60 := by
  rcases h with ⟨_, _, _, h⟩ | ⟨_, h, _⟩ | ⟨_, _, _, h1, _⟩
  · omega
  · exact absurd he h
  · exact h1.few.2.1
def SkI (t : Its) (i c k n : Int) : Prop := (n = 0 ∧ ∀ j, 0 ≤ j → j < k → KI t (i + 1) (c - j * t.S i) + j * t.V i ≠ KI t i c) ∨
  (0 ≤ n ∧ n < k ∧ n ≤ t.M i ∧ n * t.S i ≤ c ∧ KI t (i + 1) (c - n * t.S i) + n * t.V i = KI t i c ∧ ∀ j, n < j → j < k → KI t (i + 1) (c - j * t.S i) + j * t.V i ≠ KI t i c)
theorem SkI.start (t : Its) (i c : Int) : SkI t i c 0 0 := .inl ⟨rfl, fun j a b => by omega⟩
theorem SkI.yes {t : Its} {i c k : Int} (k0 : 0 ≤ k) (hM : k ≤ t.M i) (hks : k * t.S i ≤ c) (he : k * t.V i + KI t (i + 1) (c - k * t.S i) = KI t i c) : SkI t i c (k + 1) k := .inr ⟨k0, by omega, hM, hks, by omega, fun j a b => by omega⟩
theorem SkI.no {t : Its} {i c k n : Int} (h : SkI t i c k n) (he : k * t.V i + KI t (i + 1) (c - k * t.S i) ≠ KI t i c) : SkI t i c (k + 1) n := by
  rcases h with ⟨h1, h2⟩ | ⟨h1, h2, h3, h4, h5, h6⟩
  · refine .inl ⟨h1, fun j a b => ?_⟩
    by_cases e : j = k
    · subst e; omega
    · exact h2 j a (by omega)
  · refine .inr ⟨h1, by omega, h3, h4, h5, fun j a b => ?_⟩
    by_cases e : j = k
    · subst e; omega
    · exact h6 j a (by omega)
theorem SkI.fin {t : Its} {cap i c k n : Int} (hk : t.Ok cap) (i0 : 0 ≤ i) (i1 : i < t.n) (c0 : 0 ≤ c) (h : SkI t i c k n) (hend : ¬ (k ≤ t.M i ∧ k * t.S i ≤ c)) :
    0 ≤ n ∧ n ≤ t.M i ∧ n * t.S i ≤ c ∧ KI t (i + 1) (c - n * t.S i) + n * t.V i = KI t i c ∧ ∀ j, n < j → j ≤ t.M i → j * t.S i ≤ c → KI t (i + 1) (c - j * t.S i) + j * t.V i ≠ KI t i c := by
  have he := hk.all i i0 i1
  unfold Its.each eachI at he
  have hlt : ∀ j, j ≤ t.M i → j * t.S i ≤ c → j < k := fun j j1 j2 => by
    rcases Int.lt_or_le j k with h1 | h1
    · exact h1
    · exfalso
      have := Int.mul_le_mul_of_nonneg_right h1 (show 0 ≤ t.S i by omega)
      exact hend ⟨by omega, by omega⟩
  rcases h with ⟨h1, h2⟩ | ⟨h1, h2, h3, h4, h5, h6⟩
  · obtain ⟨j, j0, j1, j2, j3⟩ := KI_ex hk i0 i1 c0
    exact absurd j3 (h2 j j0 (hlt j j1 j2))
  · exact ⟨h1, h3, h4, h5, fun j a b d => h6 j a (hlt j b d)⟩
theorem PriceR.same {p : Prob} {n : Int} {y a b : Int → Int} {na nb w1 w2 e1 e2 : Int} (h : PriceR p n y na a w1 e1) (h' : PriceR p n y nb b w2 e2) : na = nb ∧ (∀ k, 0 ≤ k → k < na → a k = b k) ∧ w1 = w2 ∧ e1 = e2 := by
  rcases h with ⟨h1, h2, h3, h4⟩ | ⟨h1, h2, h3, _, h4, h5⟩ <;> rcases h' with ⟨g1, g2, g3, g4⟩ | ⟨g1, g2, g3, _, g4, g5⟩
  · exact ⟨by omega, fun k k0 k1 => by omega, by omega, by omega⟩
  · exact absurd g1 h1
  · exact absurd h1 g1
  · exact ⟨by omega, fun k k0 k1 => by rw [h3, g3], by omega, by omega⟩
end Go.Proofs.YtopmifmfecfaaaaGreat
namespace Go.Proofs.YtopmifmfecfaaaaGreat
open Go Go.RowKit Go.Proofs.Gw
theorem cl_10 : calledT Tryz.prog 10 = true := by kernel_rfl
theorem fd_31_0 : fieldT Tryz.prog 31 0 = some 0 := by kernel_rfl
theorem fd_38_0 : fieldT Tryz.prog 38 0 = some 0 := by kernel_rfl
theorem fd_38_1 : fieldT Tryz.prog 38 1 = some 1 := by kernel_rfl
theorem st_38 : structT Tryz.prog 38 = some 5 := by kernel_rfl
theorem MSolveR.same {p : Prob} {u : Int} {ml : Int → Int} {mf : Int → Int → Int} {s s2 : So} {e e2 : Int} (h : MSolveR p u ml mf s e) (h' : MSolveR p u ml mf s2 e2) : s = s2 ∧ e = e2 := by
  rcases h with ⟨h1, h2, h3⟩ | ⟨h1, h2, h3, h4⟩ | ⟨h1, h2, h3, h4, ⟨k, k0, k1, h5⟩, h6, h7⟩ | ⟨h1, h2, h3, h4, h5, h6, h7⟩ | ⟨h1, h2, h3, h4, h5⟩ <;> rcases h' with ⟨g1, g2, g3⟩ | ⟨g1, g2, g3, g4⟩ | ⟨g1, g2, g3, g4, ⟨k', k0', k1', g5⟩, g6, g7⟩ | ⟨g1, g2, g3, g4, g5, g6, g7⟩ | ⟨g1, g2, g3, g4, g5⟩ <;>
    first
    | exact absurd ‹PropL p u ml mf› ‹¬ PropL p u ml mf›
    | (exfalso; omega)
    | exact SolveR.same h5 g5
    | (exfalso; have := g5 k k0 k1; omega)
    | (exfalso; have := h5 k' k0' k1'; omega)
    | (subst_vars; exact ⟨rfl, rfl⟩)
theorem crn_ge {p : Prob} (hok : p.Ok) {u e : Int} {ml : Int → Int} {mf : Int → Int → Int} (h : CRn p u ml mf e) : stN p p.m.toNat ≤ u := by
  induction h with
  | start h =>
    rcases h with ⟨h, _⟩ | ⟨_, h, _⟩
    · exact absurd hok h
    · omega
  | go _ _ _ _ ih => omega
theorem crn_det {p : Prob} (hok : p.Ok) {u e : Int} {ml : Int → Int} {mf : Int → Int → Int} (h : CRn p u ml mf e) : ∀ {u2 e2 : Int} {ml2 : Int → Int} {mf2 : Int → Int → Int}, CRn p u2 ml2 mf2 e2 → u = u2 → ml = ml2 ∧ mf = mf2 ∧ e = e2 := by
  induction h with
  | start h =>
    intro u2 e2 ml2 mf2 k hu
    cases k with
    | start k =>
      rcases h with ⟨h, _⟩ | ⟨_, h1, h2, h3, h4⟩
      · exact absurd hok h
      · rcases k with ⟨k, _⟩ | ⟨_, k1, k2, k3, k4⟩
        · exact absurd hok k
        · exact ⟨by rw [h2, k2], by rw [h3, k3], by omega⟩
    | go k _ _ _ =>
      have h0 := crn_ge hok k
      rcases h with ⟨h, _⟩ | ⟨_, h, _⟩
      · exact absurd hok h
      · omega
  | @go u na worth f ml mf a s h hs hp hn ih =>
    intro u2 e2 ml2 mf2 k hu
    cases k with
    | start k =>
      have h0 := crn_ge hok h
      rcases k with ⟨k, _⟩ | ⟨_, k, _⟩
      · exact absurd hok k
      · omega
    | @go u' na' worth' f' ml' mf' a' s' k ks kp kn =>
      have hu' : u = u' := by omega
      obtain ⟨rfl, rfl, _⟩ := ih k hu'
      subst hu'
      obtain ⟨rfl, _⟩ := MSolveR.same hs ks
      have hf := (crn_inv hok (.go h hs hp hn)).1
      have kf := (crn_inv hok (.go k ks kp kn)).1
      rcases hp with ⟨_, _, _, h1⟩ | ⟨_, h1, h2, _⟩
      · omega
      · rcases kp with ⟨_, _, _, k1⟩ | ⟨_, k1, k2, _⟩
        · omega
        · subst h1 h2 k1 k2
          exact ⟨rfl, rfl, by omega⟩
theorem crn_step {p : Prob} (hok : p.Ok) {u2 e2 : Int} {ml2 : Int → Int} {mf2 : Int → Int → Int} (h : CRn p u2 ml2 mf2 e2) : ∀ {u : Int}, stN p p.m.toNat ≤ u → u < u2 → ∃ ml mf s na a worth f, CRn p u ml mf 0 ∧ MSolveR p u ml mf s 0 ∧ PriceR p s.m s.Y na a worth f ∧ ¬ (f = 0 ∧ worth ≤ s.den) := by
  induction h with
  | start h =>
    intro u h1 h2
    rcases h with ⟨h, _⟩ | ⟨_, h, _⟩
    · exact absurd hok h
    · omega
  | @go u' na worth f ml mf a s h hs hp hn ih =>
    intro u h1 h2
    by_cases hu : u = u'
    · subst hu; exact ⟨ml, mf, s, na, a, worth, f, h, hs, hp, hn⟩
    · exact ih h1 (by omega)
theorem crn_err {p : Prob} (hok : p.Ok) {u u2 e : Int} {ml ml2 : Int → Int} {mf mf2 : Int → Int → Int} {s : So} (h : CRn p u ml mf 0) (hs : MSolveR p u ml mf s e) (he : e ≠ 0) {e2 : Int} (k : CRn p u2 ml2 mf2 e2) : u2 ≤ u := by
  by_cases hu : u < u2
  · obtain ⟨ml', mf', s', _, _, _, _, h1, h2, _⟩ := crn_step hok k (crn_ge hok h) hu
    obtain ⟨rfl, rfl, _⟩ := crn_det hok h h1 rfl
    exact absurd (MSolveR.same hs h2).2 he
  · omega
theorem crn_last {p : Prob} (hok : p.Ok) {u u2 : Int} {ml ml2 : Int → Int} {mf mf2 : Int → Int → Int} {s : So} (h : CRn p u ml mf 0) (hs : MSolveR p u ml mf s 0) (hl : CLast p s) {e2 : Int} (k : CRn p u2 ml2 mf2 e2) : u2 ≤ u := by
  by_cases hu : u < u2
  · obtain ⟨ml', mf', s', _, _, _, _, h1, h2, h3, h4⟩ := crn_step hok k (crn_ge hok h) hu
    obtain ⟨rfl, rfl, _⟩ := crn_det hok h h1 rfl
    obtain ⟨rfl, _⟩ := MSolveR.same hs h2
    obtain ⟨na, a, worth, q1, q2⟩ := hl
    obtain ⟨_, _, q3, q4⟩ := PriceR.same q1 h3
    exact absurd ⟨q4.symm, by omega⟩ h4
  · omega
theorem ColR.same {p : Prob} {u u2 e e2 : Int} {ml ml2 : Int → Int} {mf mf2 : Int → Int → Int} {s s2 : So} (h : ColR p u ml mf s e) (k : ColR p u2 ml2 mf2 s2 e2) : SameL u u2 ml ml2 mf mf2 ∧ s = s2 ∧ e = e2 := by
  have triv : u = 0 → u2 = 0 → SameL u u2 ml ml2 mf mf2 := fun h1 h2 => ⟨by omega, fun k k0 k1 => by omega⟩
  have errs : ∀ {e : Int}, p.Ok → e ≠ 0 → (∃ u1 ml1 mf1 e1, CRn p u1 ml1 mf1 e1 ∧ ((e1 ≠ 0 ∧ e = e1) ∨ (e1 = 0 ∧ ∃ s1, MSolveR p u1 ml1 mf1 s1 e))) → ∃ u1 ml1 mf1 s1, CRn p u1 ml1 mf1 0 ∧ MSolveR p u1 ml1 mf1 s1 e := by
    rintro e hok he ⟨u1, ml1, mf1, e1, h1, h2⟩
    have h0 := (crn_inv hok h1).1
    rcases h2 with ⟨h2, _⟩ | ⟨h2, s1, h3⟩
    · exact absurd h0 h2
    · subst h2; exact ⟨u1, ml1, mf1, s1, h1, h3⟩
  rcases h with ⟨h1, h2, h3, h4⟩ | ⟨hok, h1, h2, h3, h4⟩ | ⟨hok, h1, h2, h3, h4⟩ <;> rcases k with ⟨k1, k2, k3, k4⟩ | ⟨kok, k1, k2, k3, k4⟩ | ⟨kok, k1, k2, k3, k4⟩
  · exact ⟨triv h2 k2, by rw [h3, k3], by omega⟩
  · exact absurd kok h1
  · exact absurd kok h1
  · exact absurd hok k1
  · obtain ⟨a1, b1, c1, d1, q1, q2⟩ := errs hok h1 h4
    obtain ⟨a2, b2, c2, d2, r1, r2⟩ := errs hok k1 k4
    have g1 := crn_err hok q1 q2 h1 r1
    have g2 := crn_err hok r1 r2 k1 q1
    obtain rfl : a1 = a2 := by omega
    obtain ⟨rfl, rfl, _⟩ := crn_det hok q1 r1 rfl
    exact ⟨triv h2 k2, by rw [h3, k3], (MSolveR.same q2 r2).2⟩
  · obtain ⟨a1, b1, c1, d1, q1, q2⟩ := errs hok h1 h4
    have g1 := crn_err hok q1 q2 h1 k2
    have g2 := crn_last hok k2 k3 k4 q1
    obtain rfl : a1 = u2 := by omega
    obtain ⟨rfl, rfl, _⟩ := crn_det hok q1 k2 rfl
    exact absurd (MSolveR.same q2 k3).2 h1
  · exact absurd hok k1
  · obtain ⟨a1, b1, c1, d1, q1, q2⟩ := errs hok k1 k4
    have g1 := crn_err hok q1 q2 k1 h2
    have g2 := crn_last hok h2 h3 h4 q1
    obtain rfl : a1 = u := by omega
    obtain ⟨rfl, rfl, _⟩ := crn_det hok q1 h2 rfl
    exact absurd (MSolveR.same q2 h3).2 k1
  · have g1 := crn_last hok h2 h3 h4 k2
    have g2 := crn_last hok k2 k3 k4 h2
    obtain rfl : u = u2 := by omega
    obtain ⟨rfl, rfl, _⟩ := crn_det hok h2 k2 rfl
    exact ⟨⟨rfl, fun _ _ _ => ⟨rfl, fun _ _ _ => rfl⟩⟩, (MSolveR.same h3 k3).1, by omega⟩
end Go.Proofs.YtopmifmfecfaaaaGreat
namespace Go.Proofs.Gw
def PermOn (lo hi : Int) (a b : Int → Int) : Prop := ∃ p q : Int → Int, (∀ k, p (q k) = k ∧ q (p k) = k) ∧ (∀ k, ¬ (lo ≤ k ∧ k < hi) → p k = k) ∧ ∀ k, b k = a (p k)
theorem PermOn.refl (lo hi : Int) (a : Int → Int) : PermOn lo hi a a := ⟨id, id, fun _ => ⟨rfl, rfl⟩, fun _ _ => rfl, fun _ => rfl⟩
theorem PermOn.trans {lo hi : Int} {a b c : Int → Int} (h : PermOn lo hi a b) (k : PermOn lo hi b c) : PermOn lo hi a c := by
  obtain ⟨p, q, h1, h2, h3⟩ := h
  obtain ⟨p', q', k1, k2, k3⟩ := k
  refine ⟨fun x => p (p' x), fun x => q' (q x), fun x => ⟨?_, ?_⟩, fun x hx => ?_, fun x => ?_⟩
  · show p (p' (q' (q x))) = x
    rw [(k1 _).1, (h1 _).1]
  · show q' (q (p (p' x))) = x
    rw [(h1 _).2, (k1 _).2]
  · show p (p' x) = x
    rw [k2 x hx, h2 x hx]
  · rw [k3, h3]
theorem PermOn.mono {lo hi lo' hi' : Int} {a b : Int → Int} (h : PermOn lo hi a b) (h0 : lo' ≤ lo) (h1 : hi ≤ hi') : PermOn lo' hi' a b := by
  obtain ⟨p, q, h2, h3, h4⟩ := h
  exact ⟨p, q, h2, fun k hk => h3 k (by omega), h4⟩
theorem PermOn.out {lo hi : Int} {a b : Int → Int} (h : PermOn lo hi a b) {k : Int} (hk : ¬ (lo ≤ k ∧ k < hi)) : b k = a k := by
  obtain ⟨p, q, h2, h3, h4⟩ := h
  rw [h4, h3 k hk]
theorem PermOn.fr {lo hi : Int} {a b : Int → Int} (h : PermOn lo hi a b) {k : Int} (k0 : lo ≤ k) (k1 : k < hi) : ∃ j, lo ≤ j ∧ j < hi ∧ b k = a j := by
  obtain ⟨p, q, h2, h3, h4⟩ := h
  by_cases hj : lo ≤ p k ∧ p k < hi
  · exact ⟨p k, hj.1, hj.2, h4 k⟩
  · have h5 := h3 (p k) hj
    have h6 : p k = k := by
      have := congrArg q h5
      rw [(h2 _).2, (h2 _).2] at this; exact this
    rw [h6] at hj
    exact absurd ⟨k0, k1⟩ hj
theorem PermOn.symm {lo hi : Int} {a b : Int → Int} (h : PermOn lo hi a b) : PermOn lo hi b a := by
  obtain ⟨p, q, h2, h3, h4⟩ := h
  refine ⟨q, p, fun k => ⟨(h2 k).2, (h2 k).1⟩, fun k hk => ?_, fun k => ?_⟩
  · have := congrArg q (h3 k hk)
    rw [(h2 k).2] at this; exact this.symm
  · rw [h4, (h2 k).1]
def swp (a : Int → Int) (i j : Int) : Int → Int := fun k => if k = i then a j else if k = j then a i else a k
theorem swp_perm {a : Int → Int} {i j lo hi : Int} (i0 : lo ≤ i) (i1 : i < hi) (j0 : lo ≤ j) (j1 : j < hi) : PermOn lo hi a (swp a i j) := by
  have e : ∀ k, (fun k => if k = i then j else if k = j then i else k : Int → Int) ((fun k => if k = i then j else if k = j then i else k : Int → Int) k) = k := fun k => by
    dsimp only; split <;> (try split) <;> (try split) <;> (try split) <;> omega
  refine ⟨fun k => if k = i then j else if k = j then i else k, fun k => if k = i then j else if k = j then i else k, fun k => ⟨e k, e k⟩, fun k hk => ?_, fun k => ?_⟩
  · dsimp only; rw [if_neg (by omega), if_neg (by omega)]
  · unfold swp; dsimp only; split
    · rfl
    · split <;> rfl
def Srt (R : Int → Int → Prop) (lo hi : Int) (a : Int → Int) : Prop := ∀ i j, lo ≤ i → i < j → j < hi → R (a i) (a j)
theorem Srt.mono {R : Int → Int → Prop} {lo hi lo' hi' : Int} {a : Int → Int} (h : Srt R lo hi a) (h0 : lo ≤ lo') (h1 : hi' ≤ hi) : Srt R lo' hi' a := fun i j i0 ij j1 => h i j (by omega) ij (by omega)
theorem Srt.congr {R : Int → Int → Prop} {lo hi : Int} {a b : Int → Int} (h : Srt R lo hi a) (e : ∀ k, lo ≤ k → k < hi → b k = a k) : Srt R lo hi b := fun i j i0 ij j1 => by
  rw [e i i0 (by omega), e j (by omega) j1]; exact h i j i0 ij j1
def Tie (lt : Int → Int → Prop) : Int → Int → Prop := fun x y => lt x y ∨ (¬ lt y x ∧ x < y)
structure Swo (lt : Int → Int → Prop) : Prop where
  asym : ∀ x y, lt x y → ¬ lt y x
  trans : ∀ x y z, lt x y → lt y z → lt x z
  inc : ∀ x y z, ¬ lt x y → ¬ lt y z → ¬ lt x z
theorem Tie.trans {lt : Int → Int → Prop} (h : Swo lt) {x y z : Int} (a : Tie lt x y) (b : Tie lt y z) : Tie lt x z := by
  rcases a with a | ⟨a1, a2⟩ <;> rcases b with b | ⟨b1, b2⟩
  · exact .inl (h.trans _ _ _ a b)
  · left; exact Classical.byContradiction fun hn => h.inc _ _ _ hn b1 a
  · left; exact Classical.byContradiction fun hn => h.inc _ _ _ a1 hn b
  · exact .inr ⟨h.inc _ _ _ b1 a1, by omega⟩
theorem Tie.asym {lt : Int → Int → Prop} (h : Swo lt) {x y : Int} (a : Tie lt x y) : ¬ Tie lt y x := by
  rintro (b | ⟨b1, b2⟩)
  · rcases a with a | ⟨a1, a2⟩
    · exact h.asym _ _ a b
    · exact a1 b
  · rcases a with a | ⟨a1, a2⟩
    · exact b1 a
    · omega
theorem Tie.of {lt : Int → Int → Prop} (h : Swo lt) {x y : Int} (hxy : x < y) (hn : ¬ lt y x) : Tie lt x y := by
  by_cases hl : lt x y
  · exact .inl hl
  · exact .inr ⟨hn, hxy⟩
def Parted (lo c hi : Int) (a : Int → Int) : Prop := ∀ i j, lo ≤ i → i < c → c ≤ j → j < hi → a i < a j
theorem Parted.perm {lo c hi : Int} {a b : Int → Int} (h : Parted lo c hi a) (hp : ∃ m, PermOn lo c a m ∧ PermOn c hi m b) : Parted lo c hi b := fun i j i0 i1 j0 j1 => by
  obtain ⟨m, h1, h2⟩ := hp
  obtain ⟨i', g0, g1, g2⟩ := h1.fr i0 i1
  obtain ⟨j', f0, f1, f2⟩ := h2.fr j0 j1
  rw [h2.out (by omega), g2, f2, h1.out (by omega)]
  exact h i' j' g0 g1 f0 f1
def Incr (lo hi : Int) (a : Int → Int) : Prop := ∀ i j, lo ≤ i → i < j → j < hi → a i < a j
structure Ins (lt : Int → Int → Prop) (lo i j : Int) (a b : Int → Int) : Prop where
  perm : PermOn lo (i + 1) a b
  rest : ∀ p q, lo ≤ p → p < q → q ≤ i → p ≠ j → q ≠ j → Tie lt (b p) (b q)
  less : ∀ q, j < q → q ≤ i → Tie lt (b j) (b q)
  big : ∀ p, lo ≤ p → p < j → b p < b j
theorem Ins.start {lt : Int → Int → Prop} {lo i : Int} {a : Int → Int} (i0 : lo ≤ i) (hs : Srt (Tie lt) lo i a) (hb : ∀ p, lo ≤ p → p < i → a p < a i) : Ins lt lo i i a a :=
  ⟨.refl _ _ _, fun p q p0 pq q1 pi qi => hs p q p0 pq (by omega), fun q q0 q1 => by omega, hb⟩
theorem Ins.step {lt : Int → Int → Prop} {lo i j : Int} {a b : Int → Int} (j0 : lo < j) (j1 : j ≤ i) (h : Ins lt lo i j a b) (hl : lt (b j) (b (j - 1))) : Ins lt lo i (j - 1) a (swp b j (j - 1)) := by
  have e0 : swp b j (j - 1) j = b (j - 1) := by unfold swp; rw [if_pos rfl]
  have e1 : swp b j (j - 1) (j - 1) = b j := by unfold swp; rw [if_neg (by omega), if_pos rfl]
  have e2 : ∀ k, k ≠ j → k ≠ j - 1 → swp b j (j - 1) k = b k := fun k h1 h2 => by unfold swp; rw [if_neg h1, if_neg h2]
  refine ⟨h.perm.trans (swp_perm (by omega) (by omega) (by omega) (by omega)), fun p q p0 pq q1 pj qj => ?_, fun q q0 q1 => ?_, fun p p0 p1 => ?_⟩
  · by_cases hp : p = j
    · rw [hp, e0, e2 q (by omega) qj]; exact h.rest (j - 1) q (by omega) (by omega) q1 (by omega) (by omega)
    · rw [e2 p hp pj]
      by_cases hq : q = j
      · rw [hq, e0]; exact h.rest p (j - 1) p0 (by omega) (by omega) hp (by omega)
      · rw [e2 q hq qj]; exact h.rest p q p0 pq q1 hp hq
  · rw [e1]
    by_cases hq : q = j
    · rw [hq, e0]; exact .inl hl
    · rw [e2 q hq (by omega)]; exact h.less q (by omega) q1
  · rw [e1, e2 p (by omega) (by omega)]; exact h.big p p0 (by omega)
theorem Ins.fin {lt : Int → Int → Prop} (hw : Swo lt) {lo i j : Int} {a b : Int → Int} (j0 : lo ≤ j) (j1 : j ≤ i) (h : Ins lt lo i j a b) (hl : j = lo ∨ ¬ lt (b j) (b (j - 1))) : Srt (Tie lt) lo (i + 1) b := fun p q p0 pq q1 => by
  have hle : ∀ p, lo ≤ p → p < j → Tie lt (b p) (b j) := fun p p0 p1 => by
    rcases hl with hl | hl
    · omega
    · have h1 : Tie lt (b (j - 1)) (b j) := Tie.of hw (h.big (j - 1) (by omega) (by omega)) hl
      by_cases hp : p = j - 1
      · rw [hp]; exact h1
      · exact (h.rest p (j - 1) p0 (by omega) (by omega) (by omega) (by omega)).trans hw h1
  by_cases hp : p = j
  · rw [hp]; exact h.less q (by omega) (by omega)
  · by_cases hq : q = j
    · rw [hq]; exact hle p p0 (by omega)
    · exact h.rest p q p0 pq (by omega) hp hq
def swr (a : Int → Int) (x y n : Int) : Int → Int := fun k => if x ≤ k ∧ k < x + n then a (k - x + y) else if y ≤ k ∧ k < y + n then a (k - y + x) else a k
theorem swr_zero (a : Int → Int) (x y : Int) : swr a x y 0 = a := by
  funext k; unfold swr; rw [if_neg (by omega), if_neg (by omega)]
theorem swr_next {a : Int → Int} {x y i : Int} (h0 : 0 ≤ i) (h : x + i < y ∨ y + i < x) (hd : x + i < y ∨ y + i < x) (hx : x ≤ y) : swp (swr a x y i) (x + i) (y + i) = swr a x y (i + 1) := by
  funext k; unfold swp swr
  by_cases h1 : k = x + i
  · subst h1
    rw [if_pos rfl, if_neg (by omega), if_neg (by omega), if_pos (by omega)]; congr 1 <;> omega
  · rw [if_neg h1]
    by_cases h2 : k = y + i
    · subst h2
      rw [if_pos rfl, if_neg (by omega), if_neg (by omega), if_neg (by omega), if_pos (by omega)]; congr 1 <;> omega
    · rw [if_neg h2]
      by_cases h3 : x ≤ k ∧ k < x + i
      · rw [if_pos h3, if_pos (by omega)]
      · rw [if_neg h3]
        by_cases h4 : y ≤ k ∧ k < y + i
        · rw [if_pos h4, if_neg (by omega), if_pos (by omega)]
        · rw [if_neg h4, if_neg (by omega), if_neg (by omega)]
def rot (a : Int → Int) (lo c hi : Int) : Int → Int := fun k => if lo ≤ k ∧ k < lo + (hi - c) then a (k + (c - lo)) else if lo + (hi - c) ≤ k ∧ k < hi then a (k - (hi - c)) else a k
theorem rot_left {a : Int → Int} {c i j : Int} (h0 : 1 ≤ j) (h : j < i) : rot (swr a (c - i) c j) (c - i + j) c (c + j) = rot a (c - i) c (c + j) := by
  funext k; unfold rot swr
  by_cases h1 : c - i ≤ k ∧ k < c - i + j
  · rw [if_neg (by omega), if_neg (by omega), if_pos h1, if_pos (by omega)]; congr 1 <;> omega
  · by_cases h2 : c - i + j ≤ k ∧ k < c - i + j + j
    · rw [if_pos (by omega), if_neg (show ¬ (c - i ≤ k ∧ k < c - i + (c + j - c)) by omega), if_pos (show c - i + (c + j - c) ≤ k ∧ k < c + j by omega)]
      by_cases h3 : c - i ≤ k + (c - (c - i + j)) ∧ k + (c - (c - i + j)) < c - i + j
      · exfalso; omega
      · rw [if_neg h3]
        by_cases h4 : c ≤ k + (c - (c - i + j)) ∧ k + (c - (c - i + j)) < c + j
        · rw [if_pos h4]; congr 1 <;> omega
        · exfalso; omega
    · by_cases h3 : c - i + j + j ≤ k ∧ k < c + j
      · rw [if_neg (by (try omega)), if_pos (by (try omega)), if_neg (by (try omega)), if_neg (by (try omega)), if_neg (by (try omega)), if_pos (by (try omega))]
      · rw [if_neg (by omega), if_neg (by omega), if_neg (by omega), if_neg (by omega), if_neg (by omega), if_neg (by omega)]
theorem rot_right {a : Int → Int} {c i j : Int} (h0 : 1 ≤ i) (h : i < j) : rot (swr a (c - i) (c + j - i) i) (c - i) c (c + j - i) = rot a (c - i) c (c + j) := by
  funext k; unfold rot swr
  by_cases h1 : c - i ≤ k ∧ k < c + j - i - i
  · rw [if_pos (by omega), if_neg (by omega), if_neg (by omega), if_pos (by omega)]
  · by_cases h2 : c + j - i - i ≤ k ∧ k < c + j - i
    · by_cases h5 : k < c - i
      · exfalso; omega
      · rw [if_neg (by omega), if_pos (by omega), if_pos (by omega), if_pos (by omega)]; congr 1 <;> omega
    · by_cases h3 : c + j - i ≤ k ∧ k < c + j
      · rw [if_neg (by omega), if_neg (by omega), if_neg (by omega), if_pos (by omega), if_neg (by omega), if_pos (by omega)]; congr 1 <;> omega
      · rw [if_neg (by omega), if_neg (by omega), if_neg (by omega), if_neg (by omega), if_neg (by omega), if_neg (by omega)]
theorem rot_even {a : Int → Int} {c i : Int} (h0 : 0 ≤ i) : swr a (c - i) c i = rot a (c - i) c (c + i) := by
  funext k; unfold rot swr
  by_cases h1 : c - i ≤ k ∧ k < c
  · rw [if_pos (by omega), if_pos (by omega)]; congr 1 <;> omega
  · by_cases h2 : c ≤ k ∧ k < c + i
    · rw [if_neg (by omega), if_pos (by omega), if_neg (by omega), if_pos (by omega)]; congr 1 <;> omega
    · rw [if_neg (by omega), if_neg (by omega), if_neg (by omega), if_neg (by omega)]
theorem rot_perm {a : Int → Int} {lo c hi : Int} (h0 : lo ≤ c) (h1 : c ≤ hi) : PermOn lo hi a (rot a lo c hi) := by
  refine ⟨fun k => if lo ≤ k ∧ k < lo + (hi - c) then k + (c - lo) else if lo + (hi - c) ≤ k ∧ k < hi then k - (hi - c) else k, fun k => if lo ≤ k ∧ k < c then k + (hi - c) else if c ≤ k ∧ k < hi then k - (c - lo) else k, fun k => ⟨?_, ?_⟩, fun k hk => ?_, fun k => ?_⟩
  · dsimp only
    by_cases g1 : lo ≤ k ∧ k < c
    · rw [if_pos g1, if_neg (by omega), if_pos (by omega)]; omega
    · rw [if_neg g1]
      by_cases g2 : c ≤ k ∧ k < hi
      · rw [if_pos g2, if_pos (by omega)]; omega
      · rw [if_neg g2, if_neg (by omega), if_neg (by omega)]
  · dsimp only
    by_cases g1 : lo ≤ k ∧ k < lo + (hi - c)
    · rw [if_pos g1, if_neg (by omega), if_pos (by omega)]; omega
    · rw [if_neg g1]
      by_cases g2 : lo + (hi - c) ≤ k ∧ k < hi
      · rw [if_pos g2, if_pos (by omega)]; omega
      · rw [if_neg g2, if_neg (by omega), if_neg (by omega)]
  · dsimp only; rw [if_neg (by omega), if_neg (by omega)]
  · unfold rot; dsimp only; split
    · rfl
    · split <;> rfl
theorem shl_zero (a : Int → Int) (lo : Int) : rot a lo (lo + 1) (lo + 1) = a := by
  funext k; unfold rot
  by_cases h : lo ≤ k ∧ k < lo + 1
  · rw [if_neg (by omega), if_pos (by omega)]; congr 1 <;> omega
  · rw [if_neg (by omega), if_neg (by omega)]
theorem shl_next {a : Int → Int} {lo k : Int} (h : lo ≤ k) : swp (rot a lo (lo + 1) (k + 1)) k (k + 1) = rot a lo (lo + 1) (k + 1 + 1) := by
  funext j; unfold swp rot
  by_cases h1 : j = k
  · subst h1
    rw [if_pos rfl, if_neg (by omega), if_neg (by omega), if_pos (by omega)]; congr 1 <;> omega
  · rw [if_neg h1]
    by_cases h2 : j = k + 1
    · subst h2
      rw [if_pos rfl, if_neg (by omega), if_pos (by omega), if_neg (by omega), if_pos (by omega)]; congr 1 <;> omega
    · rw [if_neg h2]
      by_cases h3 : lo ≤ j ∧ j < k
      · rw [if_pos (by omega), if_pos (by omega)]
      · rw [if_neg (by omega), if_neg (by omega), if_neg (by omega), if_neg (by omega)]
theorem shr_zero (a : Int → Int) (c : Int) : rot a c c (c + 1) = a := by
  funext k; unfold rot
  by_cases h : c ≤ k ∧ k < c + 1
  · rw [if_pos (by omega)]; congr 1 <;> omega
  · rw [if_neg (by omega), if_neg (by omega)]
theorem shr_next {a : Int → Int} {c k : Int} (h : k ≤ c) : swp (rot a k c (c + 1)) k (k - 1) = rot a (k - 1) c (c + 1) := by
  funext j; unfold swp rot
  by_cases h1 : j = k
  · subst h1
    rw [if_pos rfl, if_neg (by omega), if_neg (by omega), if_neg (by omega), if_pos (by omega)]; congr 1 <;> omega
  · rw [if_neg h1]
    by_cases h2 : j = k - 1
    · subst h2
      rw [if_pos rfl, if_pos (by omega), if_pos (by omega)]; congr 1 <;> omega
    · rw [if_neg h2]
      by_cases h3 : k + 1 ≤ j ∧ j < c + 1
      · rw [if_neg (by omega), if_pos (by omega), if_neg (by omega), if_pos (by omega)]
      · rw [if_neg (by omega), if_neg (by omega), if_neg (by omega), if_neg (by omega)]
theorem merge_one {lt : Int → Int → Prop} (hw : Swo lt) {a b e : Int} {s : Int → Int} (hs : Srt (Tie lt) (a + 1) b s) (hb : ∀ j, a + 1 ≤ j → j < b → s a < s j) (e0 : a + 1 ≤ e) (e1 : e ≤ b)
    (h1 : e = a + 1 ∨ lt (s (e - 1)) (s a)) (h2 : e = b ∨ ¬ lt (s e) (s a)) : Srt (Tie lt) a b (rot s a (a + 1) e) := fun i j i0 ij j1 => by
  have r1 : ∀ k, a ≤ k → k < e - 1 → rot s a (a + 1) e k = s (k + 1) := fun k k0 k1 => by unfold rot; rw [if_pos (by omega)]; congr 1 <;> omega
  have r2 : rot s a (a + 1) e (e - 1) = s a := by unfold rot; rw [if_neg (by omega), if_pos (by omega)]; congr 1 <;> omega
  have r3 : ∀ k, e ≤ k → rot s a (a + 1) e k = s k := fun k k0 => by unfold rot; rw [if_neg (by omega), if_neg (by omega)]
  by_cases hi : i < e - 1
  · rw [r1 i i0 hi]
    by_cases hj : j < e - 1
    · rw [r1 j (by omega) hj]; exact hs _ _ (by omega) (by omega) (by omega)
    · by_cases hj2 : j = e - 1
      · rw [hj2, r2]
        rcases h1 with h1 | h1
        · omega
        · by_cases hie : i + 1 = e - 1
          · rw [hie]; exact .inl h1
          · exact (hs (i + 1) (e - 1) (by omega) (by omega) (by omega)).trans hw (.inl h1)
      · rw [r3 j (by omega)]; exact hs _ _ (by omega) (by omega) j1
  · by_cases hi2 : i = e - 1
    · rw [hi2, r2, r3 j (by omega)]
      rcases h2 with h2 | h2
      · omega
      · have h3 : Tie lt (s a) (s e) := Tie.of hw (hb e e0 (by omega)) h2
        by_cases hje : j = e
        · rw [hje]; exact h3
        · exact h3.trans hw (hs e j e0 (by omega) j1)
    · rw [r3 i (by omega), r3 j (by omega)]; exact hs i j (by omega) ij j1
theorem merge_last {lt : Int → Int → Prop} (hw : Swo lt) {a m e : Int} {s : Int → Int} (hs : Srt (Tie lt) a m s) (hb : ∀ i, a ≤ i → i < m → s i < s m) (e0 : a ≤ e) (e1 : e ≤ m)
    (h1 : e = a ∨ ¬ lt (s m) (s (e - 1))) (h2 : e = m ∨ lt (s m) (s e)) : Srt (Tie lt) a (m + 1) (rot s e m (m + 1)) := fun i j i0 ij j1 => by
  have r1 : ∀ k, k < e → rot s e m (m + 1) k = s k := fun k k0 => by unfold rot; rw [if_neg (by omega), if_neg (by omega)]
  have r2 : rot s e m (m + 1) e = s m := by unfold rot; rw [if_pos (by omega)]; congr 1 <;> omega
  have r3 : ∀ k, e < k → k < m + 1 → rot s e m (m + 1) k = s (k - 1) := fun k k0 k1 => by unfold rot; rw [if_neg (by omega), if_pos (by omega)]; congr 1 <;> omega
  have hlo : ∀ i, a ≤ i → i < e → Tie lt (s i) (s m) := fun i i0 i1 => by
    rcases h1 with h1 | h1
    · omega
    · have h3 : Tie lt (s (e - 1)) (s m) := Tie.of hw (hb (e - 1) (by omega) (by omega)) h1
      by_cases hie : i = e - 1
      · rw [hie]; exact h3
      · exact (hs i (e - 1) i0 (by omega) (by omega)).trans hw h3
  by_cases hi : i < e
  · rw [r1 i hi]
    by_cases hj : j < e
    · rw [r1 j hj]; exact hs i j i0 ij (by omega)
    · by_cases hj2 : j = e
      · rw [hj2, r2]; exact hlo i i0 hi
      · rw [r3 j (by omega) j1]; exact hs i (j - 1) i0 (by omega) (by omega)
  · by_cases hi2 : i = e
    · rw [hi2, r2, r3 j (by omega) j1]
      rcases h2 with h2 | h2
      · omega
      · by_cases hje : j - 1 = e
        · rw [hje]; exact .inl h2
        · exact Tie.trans hw (.inl h2) (hs e (j - 1) e0 (by omega) (by omega))
    · rw [r3 i (by omega) (by omega), r3 j (by omega) j1]; exact hs (i - 1) (j - 1) (by omega) (by omega) (by omega)
structure Halves (lt : Int → Int → Prop) (a s mid e b : Int) (t : Int → Int) : Prop where
  l1 : Srt (Tie lt) a s t
  l2 : Srt (Tie lt) s mid t
  r1 : Srt (Tie lt) mid e t
  r2 : Srt (Tie lt) e b t
  pl : Parted a s mid t
  pr : Parted mid e b t
  cross : ∀ i j, a ≤ i → i < mid → mid ≤ j → j < b → Tie lt (t i) (t j)
theorem merge_halves {lt : Int → Int → Prop} (hw : Swo lt) {a m b s mid e : Int} {t : Int → Int} (h1 : Srt (Tie lt) a m t) (h2 : Srt (Tie lt) m b t) (hp : Parted a m b t) (he : s + e = mid + m) (s0 : a ≤ s) (s1 : s ≤ m) (e0 : m ≤ e) (e1 : e ≤ b)
    (g1 : s = a ∨ e = b ∨ ¬ lt (t e) (t (s - 1))) (g2 : s = m ∨ e = m ∨ lt (t (e - 1)) (t s)) : Halves lt a s mid e b (rot t s m e) := by
  have r0 : ∀ k, k < s → rot t s m e k = t k := fun k k0 => by unfold rot; rw [if_neg (by omega), if_neg (by omega)]
  have r1 : ∀ k, s ≤ k → k < mid → rot t s m e k = t (k + (m - s)) := fun k k0 k1 => by unfold rot; rw [if_pos (by omega)]
  have r2 : ∀ k, mid ≤ k → k < e → rot t s m e k = t (k - (e - m)) := fun k k0 k1 => by unfold rot; rw [if_neg (by omega), if_pos (by omega)]
  have r3 : ∀ k, e ≤ k → rot t s m e k = t k := fun k k0 => by unfold rot; rw [if_neg (by omega), if_neg (by omega)]
  have c1 : ∀ i j, a ≤ i → i < s → e ≤ j → j < b → Tie lt (t i) (t j) := fun i j i0 i1 j0 j1 => by
    rcases g1 with g1 | g1 | g1
    · omega
    · omega
    · have h3 : Tie lt (t (s - 1)) (t e) := Tie.of hw (hp (s - 1) e (by omega) (by omega) e0 (by omega)) g1
      have h4 : Tie lt (t i) (t e) := by
        by_cases hi : i = s - 1
        · rw [hi]; exact h3
        · exact (h1 i (s - 1) i0 (by omega) (by omega)).trans hw h3
      by_cases hj : j = e
      · rw [hj]; exact h4
      · exact h4.trans hw (h2 e j e0 (by omega) j1)
  have c2 : ∀ i j, m ≤ i → i < e → s ≤ j → j < m → Tie lt (t i) (t j) := fun i j i0 i1 j0 j1 => by
    rcases g2 with g2 | g2 | g2
    · omega
    · omega
    · have h4 : Tie lt (t i) (t s) := by
        by_cases hi : i = e - 1
        · rw [hi]; exact .inl g2
        · exact (h2 i (e - 1) i0 (by omega) (by omega)).trans hw (.inl g2)
      by_cases hj : j = s
      · rw [hj]; exact h4
      · exact h4.trans hw (h1 s j (by omega) (by omega) j1)
  refine ⟨fun i j i0 ij j1 => ?_, fun i j i0 ij j1 => ?_, fun i j i0 ij j1 => ?_, fun i j i0 ij j1 => ?_, fun i j i0 i1 j0 j1 => ?_, fun i j i0 i1 j0 j1 => ?_, fun i j i0 i1 j0 j1 => ?_⟩
  · rw [r0 i (by omega), r0 j j1]; exact h1 i j i0 ij (by omega)
  · rw [r1 i i0 (by omega), r1 j (by omega) j1]; exact h2 _ _ (by omega) (by omega) (by omega)
  · rw [r2 i i0 (by omega), r2 j (by omega) j1]; exact h1 _ _ (by omega) (by omega) (by omega)
  · rw [r3 i i0, r3 j (by omega)]; exact h2 _ _ (by omega) (by omega) (by omega)
  · rw [r0 i i1, r1 j j0 j1]; exact hp _ _ i0 (by omega) (by omega) (by omega)
  · rw [r2 i i0 i1, r3 j j0]; exact hp _ _ (by omega) (by omega) (by omega) (by omega)
  · by_cases hi : i < s
    · rw [r0 i hi]
      by_cases hj : j < e
      · rw [r2 j j0 hj]; exact h1 _ _ (by omega) (by omega) (by omega)
      · rw [r3 j (by omega)]; exact c1 i j i0 hi (by omega) j1
    · rw [r1 i (by omega) i1]
      by_cases hj : j < e
      · rw [r2 j j0 hj]; exact c2 _ _ (by omega) (by omega) (by omega) (by omega)
      · rw [r3 j (by omega)]; exact h2 _ _ (by omega) (by omega) (by omega)
theorem Halves.left {lt : Int → Int → Prop} {a s mid e b : Int} {t : Int → Int} (h : Halves lt a s mid e b t) (hn : ¬ (a < s ∧ s < mid)) (s0 : a ≤ s) (s1 : s ≤ mid) : Srt (Tie lt) a mid t := by
  by_cases h1 : a < s
  · obtain rfl : s = mid := by omega
    exact h.l1
  · obtain rfl : a = s := by omega
    exact h.l2
theorem Halves.right {lt : Int → Int → Prop} {a s mid e b : Int} {t : Int → Int} (h : Halves lt a s mid e b t) (hn : ¬ (mid < e ∧ e < b)) (s0 : mid ≤ e) (s1 : e ≤ b) : Srt (Tie lt) mid b t := by
  by_cases h1 : mid < e
  · obtain rfl : e = b := by omega
    exact h.r1
  · obtain rfl : mid = e := by omega
    exact h.r2
theorem Halves.keep {lt : Int → Int → Prop} {a s mid e b : Int} {t u : Int → Int} (h : Halves lt a s mid e b t) (hp : PermOn a mid t u) : Srt (Tie lt) mid e u ∧ Srt (Tie lt) e b u ∧ Parted mid e b u ∨ e < mid := by
  by_cases he : mid ≤ e
  · refine .inl ⟨h.r1.congr fun k k0 k1 => hp.out (by omega), h.r2.congr fun k k0 k1 => hp.out (by omega), fun i j i0 i1 j0 j1 => ?_⟩
    rw [hp.out (by omega), hp.out (by omega)]; exact h.pr i j i0 i1 j0 j1
  · exact .inr (by omega)
theorem Halves.join {lt : Int → Int → Prop} (hw : Swo lt) {a s mid e b : Int} {t u v : Int → Int} (h : Halves lt a s mid e b t) (a0 : a ≤ mid) (b0 : mid ≤ b) (h1 : PermOn a mid t u) (h2 : Srt (Tie lt) a mid u) (h3 : PermOn mid b u v) (h4 : Srt (Tie lt) mid b v) : Srt (Tie lt) a b v := fun i j i0 ij j1 => by
  by_cases hj : j < mid
  · rw [h3.out (by omega), h3.out (by omega)]; exact h2 i j i0 ij hj
  · by_cases hi : i < mid
    · rw [h3.out (by omega)]
      obtain ⟨i', g0, g1, g2⟩ := h1.fr i0 hi
      obtain ⟨j', f0, f1, f2⟩ := h3.fr (show mid ≤ j by omega) j1
      rw [g2, f2, h1.out (by omega)]
      exact h.cross i' j' g0 g1 f0 f1
    · exact h4 i j (by omega) ij j1
theorem Parted.keep {lo c hi x y : Int} {a b : Int → Int} (h : Parted lo c hi a) (hp : PermOn x y a b) (x0 : lo ≤ x) (y0 : y ≤ hi) (hc : y ≤ c ∨ c ≤ x) : Parted lo c hi b := fun i j i0 i1 j0 j1 => by
  have gi : ∃ i', lo ≤ i' ∧ i' < c ∧ b i = a i' := by
    by_cases hx : x ≤ i ∧ i < y
    · obtain ⟨i', g0, g1, g2⟩ := hp.fr hx.1 hx.2
      exact ⟨i', by omega, by omega, g2⟩
    · exact ⟨i, i0, i1, hp.out hx⟩
  have gj : ∃ j', c ≤ j' ∧ j' < hi ∧ b j = a j' := by
    by_cases hx : x ≤ j ∧ j < y
    · obtain ⟨j', g0, g1, g2⟩ := hp.fr hx.1 hx.2
      exact ⟨j', by omega, by omega, g2⟩
    · exact ⟨j, j0, j1, hp.out hx⟩
  obtain ⟨i', a1, a2, a3⟩ := gi
  obtain ⟨j', b1, b2, b3⟩ := gj
  rw [a3, b3]; exact h i' j' a1 a2 b1 b2
def Runs_ (lt : Int → Int → Prop) (s n x y : Int) (t : Int → Int) : Prop := ∀ c, x ≤ c → c < y → s ∣ c → Srt (Tie lt) c (min (c + s) n) t ∧ Parted 0 c n t
theorem Runs_.keep {lt : Int → Int → Prop} {s n x y p q : Int} {t u : Int → Int} (h : Runs_ lt s n x y t) (hp : PermOn p q t u) (p0 : 0 ≤ p) (q0 : q ≤ n) (hc : ∀ c, x ≤ c → c < y → s ∣ c → min (c + s) n ≤ p ∧ c ≤ p ∨ q ≤ c) : Runs_ lt s n x y u := fun c c0 c1 cd => by
  have h1 := h c c0 c1 cd
  have h2 := hc c c0 c1 cd
  exact ⟨h1.1.congr fun k k0 k1 => hp.out (by omega), h1.2.keep hp p0 q0 (by omega)⟩
theorem dvd_gap {s c a : Int} (hs : 0 < s) (h1 : s ∣ c) (h2 : s ∣ a) (h : c < a) : c + s ≤ a := by
  have := Int.le_of_dvd (show 0 < a - c by omega) (Int.dvd_sub h2 h1)
  omega
theorem PermOn.dom {lo hi n N : Int} {a b : Int → Int} (h : PermOn lo hi a b) (h0 : 0 ≤ lo) (h1 : hi ≤ n ∨ n ≤ lo) (hd : ∀ k, 0 ≤ k → k < n → 0 ≤ a k ∧ a k < N) : ∀ k, 0 ≤ k → k < n → 0 ≤ b k ∧ b k < N := fun k k0 k1 => by
  by_cases hk : lo ≤ k ∧ k < hi
  · obtain ⟨j, j0, j1, j2⟩ := h.fr hk.1 hk.2
    rw [j2]; exact hd j (by omega) (by omega)
  · rw [h.out hk]; exact hd k k0 k1
theorem ins_big {a b i : Int} {s t : Int → Int} (hp : PermOn a i s t) (hinc : Incr a b s) (hi : i < b) : ∀ p, a ≤ p → p < i → t p < t i := fun p p0 p1 => by
  obtain ⟨j, j0, j1, j2⟩ := hp.fr p0 p1
  rw [j2, hp.out (by omega)]; exact hinc j i j0 j1 hi
theorem rot_triv {a : Int → Int} {x m e : Int} (h0 : x ≤ m) (h1 : m ≤ e) (h : ¬ (x < m ∧ m < e)) : rot a x m e = a := by
  funext k; unfold rot
  by_cases g1 : x ≤ k ∧ k < x + (e - m)
  · rw [if_pos g1]; congr 1; omega
  · rw [if_neg g1]
    by_cases g2 : x + (e - m) ≤ k ∧ k < e
    · rw [if_pos g2]; congr 1; omega
    · rw [if_neg g2]
theorem runs_first {lt : Int → Int → Prop} {z n a b : Int} {s t u : Int → Int} (hz : 0 < z) (hinc : Incr 0 n s) (hr : Runs_ lt z n 0 a t) (a0 : 0 ≤ a) (hd : z ∣ a) (hp : PermOn 0 a s t) (hq : PermOn a b t u) (hs : Srt (Tie lt) a b u) (hb : b = a + z ∧ b ≤ n ∨ b = n ∧ n < a + z) (ab : a ≤ b) : Runs_ lt z n 0 b u := fun c c0 c1 cd => by
  by_cases hc : c < a
  · exact (hr.keep hq a0 (by omega) (fun c c0 c1 cd => .inl (by have := dvd_gap hz cd hd c1; omega))) c c0 hc cd
  · have hca : c = a := by
      by_cases h : a < c
      · have := dvd_gap hz hd cd h; omega
      · omega
    subst hca
    refine ⟨hs.mono (by omega) (by omega), fun i j i0 i1 j0 j1 => ?_⟩
    obtain ⟨i', g0, g1, g2⟩ := hp.fr i0 i1
    rw [hq.out (by omega), g2]
    by_cases hj : j < b
    · obtain ⟨j', f0, f1, f2⟩ := hq.fr j0 hj
      rw [f2, hp.out (by omega)]; exact hinc i' j' g0 (by omega) (by omega)
    · rw [hq.out (by omega), hp.out (by omega)]; exact hinc i' j g0 (by omega) j1
theorem runs_pre {lt : Int → Int → Prop} {z n a b : Int} {t : Int → Int} (hz : 0 < z) (a0 : 0 ≤ a) (hd : z ∣ a) (h : Runs_ lt z n a n t) (hm : a + z < b) (hb : b ≤ a + 2 * z) (hn : b ≤ n) : Srt (Tie lt) a (a + z) t ∧ Srt (Tie lt) (a + z) b t ∧ Parted a (a + z) b t := by
  have h1 := h a (Int.le_refl _) (by omega) hd
  have h2 := h (a + z) (by omega) (by omega) (Int.dvd_add hd (Int.dvd_refl z))
  exact ⟨h1.1.mono (by omega) (by omega), h2.1.mono (by omega) (by omega), fun i j i0 i1 j0 j1 => h2.2 i j (by omega) i1 j0 (by omega)⟩
theorem runs_merge {lt : Int → Int → Prop} {z n a b : Int} {t u : Int → Int} (hz : 0 < z) (a0 : 0 ≤ a) (hd : 2 * z ∣ a) (h2 : Runs_ lt (2 * z) n 0 a t) (h1 : Runs_ lt z n a n t) (hq : PermOn a b t u) (hs : Srt (Tie lt) a b u) (hb : b = a + 2 * z ∧ b ≤ n ∨ b = n ∧ n < a + 2 * z) (ab : a < b) : Runs_ lt (2 * z) n 0 b u ∧ Runs_ lt z n b n u := by
  refine ⟨fun c c0 c1 cd => ?_, fun c c0 c1 cd => ?_⟩
  · by_cases hc : c < a
    · exact (h2.keep hq a0 (by omega) (fun c c0 c1 cd => .inl (by have := dvd_gap (by omega) cd hd c1; omega))) c c0 hc cd
    · have hca : c = a := by
        by_cases h : a < c
        · have := dvd_gap (by omega) hd cd h; omega
        · omega
      subst hca
      exact ⟨hs.mono (by omega) (by omega), (h1 c (by omega) (by omega) (Int.dvd_trans (Int.dvd_mul_left 2 z) cd)).2.keep hq a0 (by omega) (.inr (Int.le_refl _))⟩
  · have h3 := h1 c (by omega) c1 cd
    exact ⟨h3.1.congr fun k k0 k1 => hq.out (by omega), h3.2.keep hq a0 (by omega) (.inl (by omega))⟩
theorem runs_all {lt : Int → Int → Prop} {z n : Int} {t : Int → Int} (h : Runs_ lt z n 0 n t) (hz : n ≤ z) : Srt (Tie lt) 0 n t := fun i j i0 ij j1 => by
  exact (h 0 (Int.le_refl _) (by omega) (Int.dvd_zero z)).1 i j i0 ij (by omega)
theorem Halves.after {lt : Int → Int → Prop} {a s mid e b : Int} {t u : Int → Int} (h : Halves lt a s mid e b t) (hp : PermOn a mid t u) (hs : Srt (Tie lt) a mid u) (e0 : mid ≤ e) (e1 : e ≤ b) : Halves lt a a mid e b u := by
  refine ⟨fun i j i0 ij j1 => by omega, hs, h.r1.congr fun k k0 k1 => hp.out (by omega), h.r2.congr fun k k0 k1 => hp.out (by omega), fun i j i0 i1 j0 j1 => by omega, fun i j i0 i1 j0 j1 => ?_, fun i j i0 i1 j0 j1 => ?_⟩
  · rw [hp.out (by omega), hp.out (by omega)]; exact h.pr i j i0 i1 j0 j1
  · obtain ⟨i', g0, g1, g2⟩ := hp.fr i0 i1
    rw [g2, hp.out (k := j) (by omega)]; exact h.cross i' j g0 g1 j0 j1
theorem incr_keep {a n lo hi : Int} {s t : Int → Int} (hp : PermOn 0 a s t) (h : Incr 0 n s) (a0 : 0 ≤ a) (h0 : a ≤ lo) (h1 : hi ≤ n) : Incr lo hi t := fun i j i0 ij j1 => by
  rw [hp.out (by omega), hp.out (by omega)]; exact h i j (by omega) ij (by omega)
theorem runs_end {lt : Int → Int → Prop} {z n a : Int} {t : Int → Int} (hz : 0 < z) (a0 : 0 ≤ a) (hd : 2 * z ∣ a) (h2 : Runs_ lt (2 * z) n 0 a t) (h1 : Runs_ lt z n a n t) (ha : a ≤ n) (hm : n ≤ a + z) : Runs_ lt (2 * z) n 0 n t := by
  by_cases h : a < n
  · exact (runs_merge hz a0 hd h2 h1 (.refl _ _ _) ((h1 a (Int.le_refl _) h (Int.dvd_trans (Int.dvd_mul_left 2 z) hd)).1.mono (Int.le_refl _) (by omega)) (.inr ⟨rfl, by omega⟩) h).1
  · obtain rfl : a = n := by omega
    exact h2
end Go.Proofs.Gw
namespace Go.Proofs.Gw
def lst (n : Int) (f : Int → Int) : List Int := (List.range n.toNat).map fun (k : Nat) => f (k : Int)
theorem lst_len (n : Int) (f : Int → Int) : (lst n f).length = n.toNat := by simp [lst]
theorem lst_get (n : Int) (f : Int → Int) (k : Nat) : (lst n f)[k]? = if (k : Int) < n then some (f k) else none := by
  unfold lst
  by_cases h : (k : Int) < n
  · rw [if_pos h, List.getElem?_map, List.getElem?_range (by omega)]; rfl
  · rw [if_neg h]; simp; omega
theorem lst_eq {n m : Int} {f g : Int → Int} (n0 : 0 ≤ n) (m0 : 0 ≤ m) : lst n f = lst m g ↔ n = m ∧ ∀ k, 0 ≤ k → k < n → f k = g k := by
  constructor
  · intro h
    have hl := congrArg List.length h
    rw [lst_len, lst_len] at hl
    refine ⟨by omega, fun k k0 k1 => ?_⟩
    have h1 := congrArg (fun l => l[k.toNat]?) h
    simp only [lst_get] at h1
    rw [Int.toNat_of_nonneg k0, if_pos k1, if_pos (by omega)] at h1
    injection h1
  · rintro ⟨rfl, h⟩
    apply List.ext_getElem?
    intro k
    rw [lst_get, lst_get]
    by_cases hk : (k : Int) < n
    · rw [if_pos hk, if_pos hk, h k (by omega) hk]
    · rw [if_neg hk, if_neg hk]
theorem lst_congr {n : Int} {f g : Int → Int} (h : ∀ k, 0 ≤ k → k < n → f k = g k) : lst n f = lst n g := by
  apply List.ext_getElem?
  intro k
  rw [lst_get, lst_get]
  by_cases hk : (k : Int) < n
  · rw [if_pos hk, if_pos hk, h k (by omega) hk]
  · rw [if_neg hk, if_neg hk]
def olt : Option Int → Option Int → Prop
  | none, some _ => True
  | some x, some y => x < y
  | _, _ => False
theorem olt_irr : ∀ a, ¬ olt a a
  | none => id
  | some x => by simp [olt]
theorem olt_trans : ∀ {a b c}, olt a b → olt b c → olt a c
  | none, some _, some _, _, _ => trivial
  | some x, some y, some z, h, k => by simp only [olt] at *; omega
theorem olt_tri : ∀ {a b : Option Int}, a ≠ b → olt a b ∨ olt b a
  | none, none, h => absurd rfl h
  | none, some _, _ => .inl trivial
  | some _, none, _ => .inr trivial
  | some x, some y, h => by simp only [olt]; have : x ≠ y := fun e => h (by rw [e]); omega
def ahd (a b : List Int) : Prop := ∃ j : Nat, (∀ k < j, a[k]? = b[k]?) ∧ olt b[j]? a[j]?
theorem ahd_asym {a b : List Int} (h : ahd a b) : ¬ ahd b a := by
  rintro ⟨j, h1, h2⟩
  obtain ⟨i, g1, g2⟩ := h
  rcases Nat.lt_trichotomy i j with h | h | h
  · rw [h1 i h] at g2; exact olt_irr _ g2
  · subst h; exact olt_irr _ (olt_trans g2 h2)
  · rw [g1 j h] at h2; exact olt_irr _ h2
theorem ahd_trans {a b c : List Int} (h : ahd a b) (k : ahd b c) : ahd a c := by
  obtain ⟨i, g1, g2⟩ := h
  obtain ⟨j, h1, h2⟩ := k
  rcases Nat.lt_trichotomy i j with h | h | h
  · exact ⟨i, fun k hk => (g1 k hk).trans (h1 k (by omega)), by rw [← h1 i h]; exact g2⟩
  · subst h; exact ⟨i, fun k hk => (g1 k hk).trans (h1 k hk), olt_trans h2 g2⟩
  · exact ⟨j, fun k hk => (g1 k (by omega)).trans (h1 k hk), by rw [g1 j h]; exact h2⟩
theorem ahd_tri {a b : List Int} (h : a ≠ b) : ahd a b ∨ ahd b a := by
  have hex : ∃ k : Nat, a[k]? ≠ b[k]? := Classical.byContradiction fun hn => h (List.ext_getElem? fun k => Classical.byContradiction fun hk => hn ⟨k, hk⟩)
  have hmin : ∃ k : Nat, a[k]? ≠ b[k]? ∧ ∀ j < k, a[j]? = b[j]? := by
    obtain ⟨k, hk⟩ := hex
    induction k using Nat.strongRecOn with
    | ind k ih =>
      by_cases hb : ∃ j, j < k ∧ a[j]? ≠ b[j]?
      · obtain ⟨j, hj, hne⟩ := hb; exact ih j hj hne
      · exact ⟨k, hk, fun j hj => Classical.byContradiction fun hne => hb ⟨j, hj, hne⟩⟩
  obtain ⟨k, hk, hlt⟩ := hmin
  rcases olt_tri hk with h1 | h1
  · exact .inr ⟨k, fun j hj => (hlt j hj).symm, h1⟩
  · exact .inl ⟨k, hlt, h1⟩
theorem ahd_irr (a : List Int) : ¬ ahd a a := fun h => ahd_asym h h
theorem ahd_gt {n m : Int} {f g : Int → Int} {j : Int} (j0 : 0 ≤ j) (jn : j < n) (jm : j < m) (he : ∀ k, 0 ≤ k → k < j → f k = g k) (h : g j < f j) : ahd (lst n f) (lst m g) := by
  refine ⟨j.toNat, fun k hk => ?_, ?_⟩
  · rw [lst_get, lst_get, if_pos (by omega), if_pos (by omega), he k (by omega) (by omega)]
  · rw [lst_get, lst_get, Int.toNat_of_nonneg j0, if_pos jn, if_pos jm]; exact h
theorem ahd_long {n m : Int} {f g : Int → Int} (m0 : 0 ≤ m) (h : m < n) (he : ∀ k, 0 ≤ k → k < m → f k = g k) : ahd (lst n f) (lst m g) := by
  refine ⟨m.toNat, fun k hk => ?_, ?_⟩
  · rw [lst_get, lst_get, if_pos (by omega), if_pos (by omega), he k (by omega) (by omega)]
  · rw [lst_get, lst_get, Int.toNat_of_nonneg m0, if_neg (by omega), if_pos h]; trivial
theorem ahd_same {n : Int} {f g : Int → Int} (he : ∀ k, 0 ≤ k → k < n → f k = g k) : ¬ ahd (lst n f) (lst n g) := by
  rw [lst_congr he]; exact ahd_irr _
abbrev Us := List (List Int × Int)
def plL (n : Int) (ln : Int → Int) (pt : Int → Int → Int) (cnt : Int → Int) : Us := (List.range n.toNat).map fun (i : Nat) => (lst (ln (i : Int)) (pt (i : Int)), cnt (i : Int))
theorem plL_len (n : Int) (ln : Int → Int) (pt : Int → Int → Int) (cnt : Int → Int) : (plL n ln pt cnt).length = n.toNat := by simp [plL]
theorem plL_get (n : Int) (ln : Int → Int) (pt : Int → Int → Int) (cnt : Int → Int) (k : Nat) : (plL n ln pt cnt)[k]? = if (k : Int) < n then some (lst (ln k) (pt k), cnt k) else none := by
  unfold plL
  by_cases h : (k : Int) < n
  · rw [if_pos h, List.getElem?_map, List.getElem?_range (by omega)]; rfl
  · rw [if_neg h]; simp; omega
theorem plL_congr {n : Int} {ln ln' : Int → Int} {pt pt' : Int → Int → Int} {cnt cnt' : Int → Int} (h : ∀ k, 0 ≤ k → k < n → ln k = ln' k ∧ cnt k = cnt' k ∧ ∀ j, 0 ≤ j → j < ln k → pt k j = pt' k j) : plL n ln pt cnt = plL n ln' pt' cnt' := by
  apply List.ext_getElem?
  intro k
  rw [plL_get, plL_get]
  by_cases hk : (k : Int) < n
  · obtain ⟨h1, h2, h3⟩ := h k (by omega) hk
    rw [if_pos hk, if_pos hk, h2, ← h1, lst_congr h3]
  · rw [if_neg hk, if_neg hk]
theorem plL_next {ln : Int → Int} {pt : Int → Int → Int} {cnt : Int → Int} {i : Int} (i0 : 0 ≤ i) : plL (i + 1) ln pt cnt = plL i ln pt cnt ++ [(lst (ln i) (pt i), cnt i)] := by
  unfold plL
  rw [show (i + 1).toNat = i.toNat + 1 by omega, List.range_succ, List.map_append, List.map_singleton, Int.toNat_of_nonneg i0]
theorem plL_snoc {n : Int} {ln ln' : Int → Int} {pt pt' : Int → Int → Int} {cnt cnt' : Int → Int} (n0 : 0 ≤ n) (h : ∀ k, 0 ≤ k → k < n → ln' k = ln k ∧ cnt' k = cnt k ∧ pt' k = pt k) {l c : Int} {p : Int → Int} (h1 : ln' n = l) (h2 : cnt' n = c) (h3 : pt' n = p) : plL (n + 1) ln' pt' cnt' = plL n ln pt cnt ++ [(lst l p, c)] := by
  rw [plL_next n0, h1, h2, h3]
  congr 1
  exact plL_congr fun k k0 k1 => ⟨(h k k0 k1).1, (h k k0 k1).2.1, fun j _ _ => by rw [(h k k0 k1).2.2]⟩
def addU : Us → List Int × Int → Us
  | [], u => [u]
  | v :: r, u => if v.1 = u.1 then (v.1, v.2 + u.2) :: r else v :: addU r u
def sums (l : Us) : Us := l.foldl addU []
theorem addU_new : ∀ {a : Us} {u : List Int × Int}, (∀ v ∈ a, v.1 ≠ u.1) → addU a u = a ++ [u]
  | [], _, _ => rfl
  | v :: r, u, h => by
    rw [addU, if_neg (h v (by simp)), addU_new fun w hw => h w (by simp [hw])]; rfl
theorem addU_at : ∀ {a : Us} {u : List Int × Int} {j : Nat} {v : List Int × Int}, a[j]? = some v → v.1 = u.1 → (∀ k < j, ∀ w, a[k]? = some w → w.1 ≠ u.1) → addU a u = a.set j (v.1, v.2 + u.2)
  | [], _, _, _, h, _, _ => by simp at h
  | w :: r, u, 0, v, h, e, _ => by
    simp at h; subst h
    rw [addU, if_pos e]; rfl
  | w :: r, u, j + 1, v, h, e, hk => by
    simp at h
    rw [addU, if_neg (hk 0 (by omega) w (by simp)), addU_at h e fun k hk' x hx => hk (k + 1) (by omega) x (by simpa using hx)]; rfl
theorem addU_keys : ∀ {a : Us} {u : List Int × Int}, ∀ x ∈ addU a u, x.1 = u.1 ∨ ∃ y ∈ a, y.1 = x.1
  | [], u, x, h => by simp [addU] at h; exact .inl (by rw [h])
  | v :: r, u, x, h => by
    rw [addU] at h
    split at h
    · rcases List.mem_cons.1 h with h | h
      · right; exact ⟨v, by simp, by rw [h]⟩
      · right; exact ⟨x, by simp [h], rfl⟩
    · rcases List.mem_cons.1 h with h | h
      · right; exact ⟨v, by simp, by rw [h]⟩
      · rcases addU_keys x h with h | ⟨y, hy, e⟩
        · exact .inl h
        · exact .inr ⟨y, by simp [hy], e⟩
theorem addU_dist : ∀ {a : Us} {u : List Int × Int}, a.Pairwise (fun x y => x.1 ≠ y.1) → (addU a u).Pairwise (fun x y => x.1 ≠ y.1)
  | [], u, _ => by simp [addU]
  | v :: r, u, h => by
    have h1 := List.pairwise_cons.1 h
    rw [addU]
    split
    · exact List.pairwise_cons.2 ⟨h1.1, h1.2⟩
    · rename_i hne
      refine List.pairwise_cons.2 ⟨fun x hx => ?_, addU_dist h1.2⟩
      rcases addU_keys x hx with e | ⟨y, hy, e⟩
      · rw [e]; exact hne
      · rw [← e]; exact h1.1 y hy
theorem foldl_dist : ∀ (l a : Us), a.Pairwise (fun x y => x.1 ≠ y.1) → (l.foldl addU a).Pairwise (fun x y => x.1 ≠ y.1)
  | [], _, h => h
  | u :: l, a, h => foldl_dist l _ (addU_dist h)
theorem sums_dist (l : Us) : (sums l).Pairwise (fun x y => x.1 ≠ y.1) := foldl_dist l [] .nil
theorem sums_snoc (l : Us) (u : List Int × Int) : sums (l ++ [u]) = addU (sums l) u := by simp [sums]
theorem addU_pos : ∀ {a : Us} {u : List Int × Int}, (∀ x ∈ a, 1 ≤ x.2) → 1 ≤ u.2 → ∀ x ∈ addU a u, 1 ≤ x.2
  | [], u, _, hu, x, h => by simp [addU] at h; rw [h]; exact hu
  | v :: r, u, ha, hu, x, h => by
    have hv := ha v (by simp)
    rw [addU] at h
    split at h
    · rcases List.mem_cons.1 h with h | h
      · rw [h]; dsimp only; omega
      · exact ha x (by simp [h])
    · rcases List.mem_cons.1 h with h | h
      · rw [h]; exact hv
      · exact addU_pos (fun y hy => ha y (by simp [hy])) hu x h
theorem foldl_pos : ∀ (l a : Us), (∀ x ∈ a, 1 ≤ x.2) → (∀ x ∈ l, 1 ≤ x.2) → ∀ x ∈ l.foldl addU a, 1 ≤ x.2
  | [], _, h, _ => h
  | u :: l, a, h, hl => foldl_pos l _ (addU_pos h (hl u (by simp))) fun x hx => hl x (by simp [hx])
theorem sums_pos {l : Us} (h : ∀ x ∈ l, 1 ≤ x.2) : ∀ x ∈ sums l, 1 ≤ x.2 := foldl_pos l [] (by simp) h
def wsum (f : List Int → Int) : Us → Int
  | [] => 0
  | u :: l => f u.1 * u.2 + wsum f l
theorem wsum_append (f : List Int → Int) : ∀ a b : Us, wsum f (a ++ b) = wsum f a + wsum f b
  | [], b => by simp [wsum]
  | u :: a, b => by simp only [List.cons_append, wsum, wsum_append f a b]; omega
theorem wsum_addU (f : List Int → Int) : ∀ (a : Us) (u : List Int × Int), wsum f (addU a u) = wsum f a + f u.1 * u.2
  | [], u => by simp [addU, wsum]
  | v :: r, u => by
    rw [addU]
    split
    · rename_i e
      simp only [wsum, e, Int.mul_add]; omega
    · simp only [wsum, wsum_addU f r u]; omega
theorem wsum_foldl (f : List Int → Int) : ∀ (l a : Us), wsum f (l.foldl addU a) = wsum f a + wsum f l
  | [], a => by simp [wsum]
  | u :: l, a => by rw [List.foldl_cons, wsum_foldl f l, wsum_addU, wsum]; omega
theorem wsum_sums (f : List Int → Int) (l : Us) : wsum f (sums l) = wsum f l := by rw [sums, wsum_foldl]; simp [wsum]
theorem wsum_perm (f : List Int → Int) {a b : Us} (h : a.Perm b) : wsum f a = wsum f b := by
  induction h with
  | nil => rfl
  | cons x _ ih => simp only [wsum, ih]
  | swap x y l => simp only [wsum]; omega
  | trans _ _ i1 i2 => rw [i1, i2]
def NormR (l out : Us) : Prop := out.Perm (sums l) ∧ out.Pairwise (fun u v => ahd u.1 v.1)
theorem NormR.same {l a b : Us} (h : NormR l a) (k : NormR l b) : a = b :=
  (h.1.trans k.1.symm).eq_of_pairwise (le := fun u v => ahd u.1 v.1) (fun x y _ _ h1 h2 => absurd h2 (ahd_asym h1)) h.2 k.2
theorem NormR.wsum {l a : Us} (h : NormR l a) (f : List Int → Int) : wsum f a = wsum f l := (wsum_perm f h.1).trans (wsum_sums f l)
theorem NormR.pos {l a : Us} (h : NormR l a) (hp : ∀ x ∈ l, 1 ≤ x.2) : ∀ x ∈ a, 1 ≤ x.2 := fun x hx => sums_pos hp x (h.1.mem_iff.1 hx)
theorem sums_keys : ∀ (l a : Us), ∀ x ∈ l.foldl addU a, (∃ y ∈ a, y.1 = x.1) ∨ ∃ y ∈ l, y.1 = x.1
  | [], a, x, h => .inl ⟨x, h, rfl⟩
  | u :: l, a, x, h => by
    rcases sums_keys l _ x h with ⟨y, hy, e⟩ | ⟨y, hy, e⟩
    · rcases addU_keys y hy with e2 | ⟨z, hz, e2⟩
      · exact .inr ⟨u, by simp, by rw [← e2, e]⟩
      · exact .inl ⟨z, hz, by rw [e2, e]⟩
    · exact .inr ⟨y, by simp [hy], e⟩
theorem NormR.keys {l a : Us} (h : NormR l a) : ∀ x ∈ a, ∃ y ∈ l, y.1 = x.1 := fun x hx => by
  rcases sums_keys l [] x (h.1.mem_iff.1 hx) with ⟨y, hy, _⟩ | h
  · simp at hy
  · exact h
theorem names_perm {α : Type} {n : Int} {t : Int → Int} (n0 : 0 ≤ n) (h : PermOn 0 n (fun k => k) t) (G : Int → α) : ((List.range n.toNat).map fun (i : Nat) => G (t (i : Int))).Perm ((List.range n.toNat).map fun (i : Nat) => G (i : Int)) := by
  have h1 : ((List.range n.toNat).map fun (i : Nat) => t (i : Int)).Perm ((List.range n.toNat).map fun (i : Nat) => (i : Int)) := by
    obtain ⟨p, q, e1, e2, e3⟩ := h
    refine (List.perm_ext_iff_of_nodup ?_ ?_).2 fun x => ?_
    · refine List.pairwise_map.2 (List.Pairwise.imp (R := fun a b => a ≠ b) (fun {a b} hab hh => ?_) List.nodup_range)
      rw [e3, e3] at hh
      have := congrArg q hh
      simp only [(e1 _).2] at this
      omega
    · exact List.pairwise_map.2 (List.Pairwise.imp (R := fun a b => a ≠ b) (fun {a b} hab hh => by omega) List.nodup_range)
    · simp only [List.mem_map, List.mem_range]
      constructor
      · rintro ⟨a, ha, rfl⟩
        obtain ⟨j, j0, j1, j2⟩ := PermOn.fr (a := fun k => k) (b := t) ⟨p, q, e1, e2, e3⟩ (show (0 : Int) ≤ (a : Int) by omega) (show (a : Int) < n by omega)
        exact ⟨j.toNat, by omega, by rw [j2]; omega⟩
      · rintro ⟨a, ha, rfl⟩
        obtain ⟨j, j0, j1, j2⟩ := PermOn.fr (PermOn.symm (a := fun k => k) (b := t) ⟨p, q, e1, e2, e3⟩) (show (0 : Int) ≤ (a : Int) by omega) (show (a : Int) < n by omega)
        exact ⟨j.toNat, by omega, by rw [Int.toNat_of_nonneg j0, ← j2]⟩
  have h2 := h1.map G
  simpa [List.map_map, Function.comp_def] using h2
theorem swo_ahd (f : Int → List Int) : Swo (fun x y => ahd (f x) (f y)) :=
  ⟨fun x y h => ahd_asym h, fun x y z h k => ahd_trans h k, fun x y z h k hh => by
    by_cases e : f x = f y
    · rw [e] at hh; exact k hh
    · rcases ahd_tri e with h1 | h1
      · exact h h1
      · exact k (ahd_trans h1 hh)⟩
theorem NormR.of_names {l : Us} {n : Int} {ln : Int → Int} {pt : Int → Int → Int} {cnt t : Int → Int} (n0 : 0 ≤ n) (hs : plL n ln pt cnt = sums l) (hp : PermOn 0 n (fun k => k) t) (ho : Srt (Tie (fun x y => ahd (lst (ln x) (pt x)) (lst (ln y) (pt y)))) 0 n t) :
    NormR l (plL n (fun k => ln (t k)) (fun k => pt (t k)) (fun k => cnt (t k))) := by
  refine ⟨?_, ?_⟩
  · rw [← hs]
    exact names_perm n0 hp fun x => (lst (ln x) (pt x), cnt x)
  · rw [List.pairwise_iff_getElem]
    intro i j hi hj hij
    rw [plL_len] at hi hj
    have g : ∀ (k : Nat) (hk : k < (plL n (fun k => ln (t k)) (fun k => pt (t k)) (fun k => cnt (t k))).length), (plL n (fun k => ln (t k)) (fun k => pt (t k)) (fun k => cnt (t k)))[k] = (lst (ln (t k)) (pt (t k)), cnt (t k)) := fun k hk => by
      have h1 := plL_get n (fun k => ln (t k)) (fun k => pt (t k)) (fun k => cnt (t k)) k
      rw [plL_len] at hk
      rw [if_pos (by omega), List.getElem?_eq_getElem (by rw [plL_len]; exact hk)] at h1
      injection h1
    rw [g, g]
    have h1 := ho i j (by omega) (by omega) (by omega)
    rcases h1 with h1 | ⟨h1, h2⟩
    · exact h1
    · obtain ⟨a, a0, a1, a2⟩ := hp.fr (show (0 : Int) ≤ (i : Int) by omega) (show (i : Int) < n by omega)
      obtain ⟨b, b0, b1, b2⟩ := hp.fr (show (0 : Int) ≤ (j : Int) by omega) (show (j : Int) < n by omega)
      have hd := sums_dist l
      rw [← hs, List.pairwise_iff_getElem] at hd
      have gg : ∀ (k : Int) (k0 : 0 ≤ k) (hk : k < n), ∃ h : k.toNat < (plL n ln pt cnt).length, (plL n ln pt cnt)[k.toNat] = (lst (ln k) (pt k), cnt k) := fun k k0 hk => by
        have h1 := plL_get n ln pt cnt k.toNat
        have h3 : k.toNat < (plL n ln pt cnt).length := by rw [plL_len]; omega
        rw [Int.toNat_of_nonneg k0, if_pos hk, List.getElem?_eq_getElem h3] at h1
        exact ⟨h3, by injection h1⟩
      have hab : a ≠ b := fun e => by rw [← a2, ← b2] at *; omega
      obtain ⟨ha, ea⟩ := gg a a0 a1
      obtain ⟨hb, eb⟩ := gg b b0 b1
      have hne : lst (ln a) (pt a) ≠ lst (ln b) (pt b) := by
        rcases Int.lt_or_gt_of_ne hab with h3 | h3
        · have := hd a.toNat b.toNat ha hb (by omega); rw [ea, eb] at this; exact this
        · have := hd b.toNat a.toNat hb ha (by omega); rw [ea, eb] at this; exact fun e => this e.symm
      rcases ahd_tri hne with h3 | h3
      · dsimp only at a2 b2 ⊢; rw [a2, b2]; exact h3
      · exact absurd (by dsimp only at a2 b2 ⊢; rw [a2, b2]; exact h3) h1
end Go.Proofs.Gw
namespace Go.Proofs.Gw
open Go Go.RowKit
section
variable {P : Program} {L : List (Nat × Value)} {w w0 : World} {o : Oper} {x y : Operand} {T T' : TypeId} {l : List Ent}
theorem xshr1 {m r : Int} (ho : o.op = .binOp .shr T x y T' := by exact rfl) (hx : evL L x = some (.int .u64 m) := by exact rfl) (hy : evL L y = some (.int .u64 1) := by exact rfl) (e : r = m / 2 := by exact rfl) : Runs P L w o (.value (.int .u64 r)) w := fun ρ h => by
  subst e
  simp [execOp, ho, h _ _ hx, h _ _ hy, go_sem]
theorem cad_addx (v : Value) (k : Int) (h0 : 0 ≤ k) : (cad v k).add 1 = cad v (k + 1) ∨ ∀ a len cap, v ≠ .slice (some a) len cap := by
  cases v with
  | slice a len cap => cases a with
    | none => right; intro a len cap h; cases h
    | some a =>
      left
      have : (k + 1).toNat = k.toNat + 1 := by omega
      simp [cad, Addr.add, this, Nat.add_assoc]
  | _ => right; intro a len cap h; cases h
theorem xso2 (j : Nat) {v u0 u1 : Value} {E : TypeId} {n k : Int} {c d : Int → Value} (ht : structT P T = some 2) (hS : Sat w0 w l) (e : upd (upd c k u0) (k + 1) u1 = d) (ho : o.op = .store T x y := by exact rfl) (hi : l[j]? = some (.own v 2 E n c) := by exact rfl) (hx : evL L x = some (.pointer (some (cad v k))) := by exact rfl) (hy : evL L y = some (.agg #[u0, u1]) := by exact rfl)
    (hv : u0.oneCell' = true := by exact rfl) (hu : u1.oneCell' = true := by exact rfl) (h0 : 0 ≤ k := by omega) (h1 : k + 1 < n * 2 := by omega) : ∃ w', Runs P L w o .skip w' ∧ Sat w0 w' (l.set j (.own v 2 E n d)) := by
  subst e
  obtain ⟨_, hsz⟩ := struct_of (w := w) ht
  have hS' := hS
  rw [split_at hi] at hS'
  have hr0 := hS'.get.row
  have hadd : (cad v k).add 1 = cad v (k + 1) := by
    rcases cad_addx v k h0 with h | h
    · exact h
    · exfalso
      obtain ⟨q0, q1, a, cap, rfl, hz⟩ := hr0.slh
      rcases hz with hz | ⟨b, off, rfl⟩
      · omega
      · exact h _ _ _ rfl
  have hadd0 : (cad v k).add 0 = cad v k := by simp [Addr.add]
  have c0 := hr0.cell h0 (by omega)
  have f0 : w.frozen? (cad v k) = false := by
    rcases hS'.get.freeRow k with h | h
    · exact absurd h (by
        obtain ⟨q0, q1, a, cap, rfl, hz⟩ := hr0.slh
        rcases hz with hz | ⟨b, off, rfl⟩
        · omega
        · intro hh; cases hh)
    · exact h
  have hS1 := hS'.setOwn k h0 (by omega) u0
  have hr1 := hS1.get.row
  have c1 := hr1.cell (k := k + 1) (by omega) (by omega)
  have f1 : (w.setCell (cad v k) u0).frozen? (cad v (k + 1)) = false := by
    rcases hS1.get.freeRow (k + 1) with h | h
    · exact absurd h (by
        obtain ⟨q0, q1, a, cap, rfl, hz⟩ := hr0.slh
        rcases hz with hz | ⟨b, off, rfl⟩
        · omega
        · intro hh; cases hh)
    · exact h
  have hS2 := hS1.setOwn (k + 1) (by omega) (by omega) u1
  rw [set_at hi]
  refine ⟨_, fun ρ h => ?_, hS2⟩
  simp [execOp, ho, h _ _ hx, h _ _ hy, Instr.storeAt, Instr.sureAddr, storeVar, Value.cells, hsz, storeCells, hadd0, hadd, run_store P w _ u0 _ hv, c0, f0, run_store P _ _ u1 _ hu, c1, f1]
end
theorem upd_use (pv : Int → Value) (cnt : Int → Int) {i k : Int} (s : Value) (x : Int) (h : k = 2 * i) : upd (upd (ucells pv cnt) k s) (k + 1) (.int .i64 x) = ucells (fun q => if q = i then s else pv q) (fun q => if q = i then x else cnt q) := by
  subst h
  funext q
  unfold upd ucells
  by_cases h1 : q = 2 * i + 1
  · subst h1; rw [if_pos rfl, if_neg (by omega)]; dsimp only; rw [if_pos (by omega)]
  · rw [if_neg h1]
    by_cases h2 : q = 2 * i
    · subst h2; rw [if_pos rfl, if_pos (by omega)]; dsimp only; rw [if_pos (by omega)]
    · rw [if_neg h2]
      by_cases h3 : q % 2 = 0
      · rw [if_pos h3, if_pos h3]; dsimp only; rw [if_neg (by omega)]
      · rw [if_neg h3, if_neg h3]; dsimp only; rw [if_neg (by omega)]
theorem ucells_swp (pv : Int → Value) (cnt s : Int → Int) (i j : Int) : ucells (fun q => if q = j then pv (s i) else (fun q => if q = i then pv (s j) else (fun k => pv (s k)) q) q) (fun q => if q = j then cnt (s i) else (fun q => if q = i then cnt (s j) else (fun k => cnt (s k)) q) q) = ucells (fun k => pv (swp s i j k)) (fun k => cnt (swp s i j k)) := by
  congr 1
  · funext q; unfold swp; dsimp only
    by_cases h1 : q = j
    · rw [if_pos h1]
      by_cases h2 : q = i
      · rw [if_pos h2]; congr 2; omega
      · rw [if_neg h2, if_pos h1]
    · rw [if_neg h1]
      by_cases h2 : q = i
      · rw [if_pos h2, if_pos h2]
      · rw [if_neg h2, if_neg h2, if_neg h1]
  · funext q; unfold swp; dsimp only
    by_cases h1 : q = j
    · rw [if_pos h1]
      by_cases h2 : q = i
      · rw [if_pos h2]; congr 2; omega
      · rw [if_neg h2, if_pos h1]
    · rw [if_neg h1]
      by_cases h2 : q = i
      · rw [if_pos h2, if_pos h2]
      · rw [if_neg h2, if_neg h2, if_neg h1]
theorem ints_swp (s : Int → Int) (i j : Int) : upd (upd (ints s) i (.int .i64 (s j))) j (.int .i64 (s i)) = ints (swp s i j) := by
  funext q; unfold upd ints swp
  by_cases h1 : q = j
  · rw [if_pos h1]
    by_cases h2 : q = i
    · rw [if_pos h2]; congr 2; omega
    · rw [if_neg h2, if_pos h1]
  · rw [if_neg h1]
    by_cases h2 : q = i
    · rw [if_pos h2, if_pos h2]
    · rw [if_neg h2, if_neg h2, if_neg h1]
theorem PermOn.inj {lo hi : Int} {t : Int → Int} (h : PermOn lo hi (fun k => k) t) {i j : Int} (e : t i = t j) : i = j := by
  obtain ⟨p, q, e1, e2, e3⟩ := h
  rw [e3, e3] at e
  have := congrArg q e
  rwa [(e1 _).2, (e1 _).2] at this
theorem Sat.pmrows {w0 w : World} {l : List Ent} (h : Sat w0 w l) (i : Nat) {E : TypeId} {n : Int} {vv : Int → Value} {ln : Int → Int} {f : Int → Int → Int} {t : Int → Int} (hp : PermOn 0 n (fun k => k) t) (hi : l[i]? = some (.sem (Frame.rows E n vv ln f)) := by exact rfl) :
    Sat w0 w (l.set i (.sem (Frame.rows E n (fun k => vv (t k)) (fun k => ln (t k)) (fun k => f (t k))))) :=
  h.resem i hi (fun ⟨h1, h2⟩ => ⟨fun k k0 k1 => by
      obtain ⟨j, j0, j1, j2⟩ := hp.fr k0 k1
      have e : t k = j := j2
      show (Ent.own (vv (t k)) 1 E (ln (t k)) (ints (f (t k)))).holds w
      rw [e]; exact h1 j j0 j1, fun a b a0 a1 b0 b1 hab g hg hg' => by
      obtain ⟨j, j0, j1, j2⟩ := hp.fr a0 a1
      obtain ⟨k, k0, k1, k2⟩ := hp.fr b0 b1
      exact h2 (t a) (t b) (by rw [j2]; exact j0) (by rw [j2]; exact j1) (by rw [k2]; exact k0) (by rw [k2]; exact k1) (fun e => hab (hp.inj e)) g hg hg'⟩)
    (fun g ⟨a, a0, a1, hg⟩ => by
      obtain ⟨j, j0, j1, j2⟩ := hp.fr a0 a1
      exact ⟨t a, by rw [j2]; exact j0, by rw [j2]; exact j1, hg⟩)
theorem gsn_one {f : Int → Value} {n : Int} {x : Value} (h : ∀ k, (f k).oneCell' = true) (hx : x.oneCell' = true) : ∀ k, (gsn f n x k).oneCell' = true := fun k => by
  unfold gsn; split
  · exact h k
  · exact hx
end Go.Proofs.Gw
namespace Go.Proofs.YtopmifmfecfaaaaGreat
open Go Go.RowKit Go.Proofs.Gw
theorem cl_133 : calledT Tryz.prog 133 = true := by kernel_rfl
theorem cl_134 : calledT Tryz.prog 134 = true := by kernel_rfl
theorem cl_135 : calledT Tryz.prog 135 = true := by kernel_rfl
theorem cl_136 : calledT Tryz.prog 136 = true := by kernel_rfl
theorem cl_137 : calledT Tryz.prog 137 = true := by kernel_rfl
theorem cl_138 : calledT Tryz.prog 138 = true := by kernel_rfl
theorem cl_139 : calledT Tryz.prog 139 = true := by kernel_rfl
theorem cl_140 : calledT Tryz.prog 140 = true := by kernel_rfl
theorem cl_161 : calledT Tryz.prog 161 = true := by kernel_rfl
theorem cl_162 : calledT Tryz.prog 162 = true := by kernel_rfl
theorem cl_179 : calledT Tryz.prog 179 = true := by kernel_rfl
theorem cl_180 : calledT Tryz.prog 180 = true := by kernel_rfl
theorem cl_181 : calledT Tryz.prog 181 = true := by kernel_rfl
theorem cl_189 : calledT Tryz.prog 189 = true := by kernel_rfl
theorem cl_195 : calledT Tryz.prog 195 = true := by kernel_rfl
theorem fd_111_0 : fieldT Tryz.prog 111 0 = some 0 := by kernel_rfl
theorem fd_111_1 : fieldT Tryz.prog 111 1 = some 1 := by kernel_rfl
theorem sl_59 : sliceT Tryz.prog 59 = some (111, 2) := by kernel_rfl
set_option maxRecDepth 20000 in
theorem c_swrU {vd : Value} {n : Int} {s : Int → Int} {pv : Int → Value} {cnt : Int → Int} {F : Go.Proofs.Gw.Frame} {a b m : Int} (w0 w : World) (hS : Sat w0 w [.own vd 2 111 n (ucells (fun z9 => pv (s z9)) (fun z9 => cnt (s z9))), .sem F]) (hsl : Slh vd n) (hn8 : n ≤ 100000000) (hone : ∀ x, (pv x).oneCell' = true) (a0 : 0 ≤ a) (m0 : 0 ≤ m) (ab : a + m ≤ b) (bn : b + m ≤ n) :
    Calls Tryz.prog 195 [vd, .int .i64 a, .int .i64 b, .int .i64 m, .func (.func 139) #[] #[]].toArray w fun e w => ∃ v, e = .returned v ∧ v = .tuple #[] ∧ Sat w0 w [.own vd 2 111 n (ucells (fun z9 => pv ((swr s a b m) z9)) (fun z9 => cnt ((swr s a b m) z9))), .sem F] := by
  refine zenF Tryz.func195 Tryz.ntmps195 ?_
  refine zsr ?_
  refine zlv xas ?_
  refine zlt <| zbk <| zlp (fun mm M w => ∃ (t : Int → Int) (i : Int), mm = ((m - i).toNat) ∧ (0 ≤ i) ∧ (i ≤ m) ∧ (t = swr s a b i) ∧ M = [(0, vd), (1, .int .i64 a), (2, .int .i64 b), (3, .int .i64 m), (10, .int .i64 i)] ∧ Sat w0 w [.own vd 2 111 n (ucells (fun z9 => pv (t z9)) (fun z9 => cnt (t z9))), .sem F]) ⟨s, 0, rfl, (by omega), (by omega), ?_, rfl, hS⟩ ?_
  ·
   exact (swr_zero s a b).symm
  clear hS w
  rintro mm M w ⟨t, i, rfl, i0, i1, ht, rfl, hS⟩
  refine zsq <| zsr ?_
  refine zs3 ?_
  refine zlt ?_
  refine zcif ?_ ?_ <;> intro hc
  ·
   refine zsk <| ztn <| zsq <| zbk ?_
   refine zdst [0, 1] [1] 21 mx_ hS ?_; clear hS; intro w hS
   refine zdv 0 (fun _ => xmv) ?_
   refine zdv 1 (fun _ => xmv) ?_
   refine zdv 2 (fun _ => xmv) ?_
   refine zdv 3 (fun _ => (xadd (r := a + i))) ?_
   refine zdv 4 (fun _ => xmv) ?_
   refine zdv 5 (fun _ => xmv) ?_
   refine zdv 6 (fun _ => xmv) ?_
   refine zdv 7 (fun _ => (xadd (r := b + i))) ?_
   refine zdv 8 (fun _ => xmv) ?_
   refine zdv 9 (fun _ => xmv) ?_
   refine zdv 10 (fun _ => xmv) ?_
   refine zdv 11 (fun _ => (xadd (r := b + i))) ?_
   refine zdv 12 (fun _ => (xix (kk := 2 * b + 2 * i) sl_59 hsl)) ?_
   refine zdl 13 (fun w hS => (xlw (cs := [(pv (t (b + i))), .int .i64 (cnt (t (b + i)))]) st_111 (hS.rowN 0 rfl) (ucells_at (k := 2 * b + 2 * i) (i := b + i) (fun z9 => pv (t z9)) (fun z9 => cnt (t z9)) (by omega)))) ?_
   refine zdv 14 (fun _ => xmv) ?_
   refine zdv 15 (fun _ => xmv) ?_
   refine zdv 16 (fun _ => xmv) ?_
   refine zdv 17 (fun _ => (xadd (r := a + i))) ?_
   refine zdv 18 (fun _ => (xix (kk := 2 * a + 2 * i) sl_59 hsl)) ?_
   refine zdl 19 (fun w hS => (xlw (cs := [(pv (t (a + i))), .int .i64 (cnt (t (a + i)))]) st_111 (hS.rowN 0 rfl) (ucells_at (k := 2 * a + 2 * i) (i := a + i) (fun z9 => pv (t z9)) (fun z9 => cnt (t z9)) (by omega)))) ?_
   refine zdv 20 (fun _ => (xix (kk := 2 * a + 2 * i) sl_59 hsl)) ?_
   refine zde 21 (xso2 0 st_111 hS (upd_use (i := a + i) (k := 2 * a + 2 * i) _ _ _ _ (by omega)) (hv := hone _)) ?_; clear hS; rintro w hS
   replace hS := hS.n2
   refine ⟨⟨fun h => absurd h (by decide), hS.pk [1]⟩, ?_⟩
   refine zdv 22 (fun _ => (xix (kk := 2 * b + 2 * i) sl_59 hsl)) ?_
   refine zde 23 (xso2 0 st_111 hS (Eq.trans (upd_use (i := b + i) (k := 2 * b + 2 * i) _ _ _ _ (by omega)) (ucells_swp pv cnt t (a + i) (b + i))) (hv := hone _)) ?_; clear hS; rintro w hS
   replace hS := hS.n2
   refine ⟨⟨fun h => absurd h (by decide), hS.pk [1]⟩, ?_⟩
   refine zdd <| zbn <| ztn <| zrg ?_
   refine zlv xmv ?_
   refine zlv (xadd (r := i + 1)) ?_
   refine zlv xas ?_
   refine zln <| zlq ⟨swp t (a + i) (b + i), i + 1, rfl, (by omega), (by omega), ?_, rfl, hS⟩
   ·
    rw [ht]; exact swr_next i0 (by omega) (by omega) (by omega)
  refine zxt <| ztx <| ztx <| zbh <| zfn0 ⟨_, rfl, ?_⟩
  obtain rfl : i = m := by omega
  subst ht
  exact ⟨rfl, hS⟩
set_option maxRecDepth 20000 in
theorem c_rotU {vd : Value} {n : Int} {s : Int → Int} {pv : Int → Value} {cnt : Int → Int} {F : Go.Proofs.Gw.Frame} {a m b : Int} (w0 w : World) (hS : Sat w0 w [.own vd 2 111 n (ucells (fun z9 => pv (s z9)) (fun z9 => cnt (s z9))), .sem F]) (hsl : Slh vd n) (hn8 : n ≤ 100000000) (hone : ∀ x, (pv x).oneCell' = true) (a0 : 0 ≤ a) (am : a < m) (mb : m < b) (bn : b ≤ n) :
    Calls Tryz.prog 189 [vd, .int .i64 a, .int .i64 m, .int .i64 b, .func (.func 139) #[] #[]].toArray w fun e w => ∃ v, e = .returned v ∧ v = .tuple #[] ∧ Sat w0 w [.own vd 2 111 n (ucells (fun z9 => pv ((rot s a m b) z9)) (fun z9 => cnt ((rot s a m b) z9))), .sem F] := by
  refine zenF Tryz.func189 Tryz.ntmps189 ?_
  refine zsr ?_
  refine zs2 ?_
  refine zlv (xsub (r := m - a)) ?_
  refine zlv xas ?_
  refine zlz ?_
  refine zs2 ?_
  refine zlv (xsub (r := b - m)) ?_
  refine zlv xas ?_
  refine zlt <| zsq <| zbk <| zlp (fun mm M w => ∃ (t : Int → Int) (i : Int) (j : Int), mm = ((i + j).toNat) ∧ (1 ≤ i) ∧ (1 ≤ j) ∧ (a ≤ m - i) ∧ (m + j ≤ b) ∧ (rot t (m - i) m (m + j) = rot s a m b) ∧ M = [(0, vd), (2, .int .i64 m), (4, .func (.func 139) #[] #[]), (10, .int .i64 i), (11, .int .i64 j)] ∧ Sat w0 w [.own vd 2 111 n (ucells (fun z9 => pv (t z9)) (fun z9 => cnt (t z9))), .sem F]) ⟨s, m - a, b - m, rfl, (by omega), (by omega), (by omega), (by omega), ?_, rfl, hS⟩ ?_
  ·
   rw [show m - (m - a) = a by omega, show m + (b - m) = b by omega]
  clear hS w
  rintro mm M w ⟨t, i, j, rfl, i0, j0, ia, jb, hr, rfl, hS⟩
  refine zsq <| zsr ?_
  refine zs3 ?_
  refine zlt ?_
  refine zcif ?_ ?_ <;> intro hc
  ·
   refine zsk <| ztn <| zbk <| zsr ?_
   refine zs3 ?_
   refine zlt ?_
   refine zcif ?_ ?_ <;> intro hc
   ·
    refine zsr ?_
    refine zs3 ?_
    refine zlv (xsub (r := m - i)) ?_
    refine zs3 ?_
    refine zlc (xc0 cl_195) (c_swrU (s := t) (a := m - i) (b := m) (m := j) w0 w hS hsl hn8 hone (by omega) (by omega) (by omega) (by omega)) ?_; rintro _ w ⟨rfl, hS⟩
    replace hS := hS.n2
    refine zlt <| zrg ?_
    refine zs2 ?_
    refine zlv (xsub (r := i - j)) ?_
    refine zlv xas ?_
    refine zln <| zbn <| zlq ⟨(swr t (m - i) m j), i - j, j, rfl, (by omega), (by omega), (by omega), (by omega), ?_, rfl, hS⟩
    ·
     first | (rw [← hr, show m - (i - j) = m - i + j by omega]; exact rot_left (by omega) (by omega)) | (rw [← hr, show m + (j - i) = m + j - i by omega]; exact rot_right (by omega) (by omega))
   refine zsr ?_
   refine zs3 ?_
   refine zlv (xsub (r := m - i)) ?_
   refine zs2 ?_
   refine zlv (xadd (r := m + j)) ?_
   refine zlv xmv ?_
   refine zlv (xsub (r := m + j - i)) ?_
   refine zs2 ?_
   refine zlc (xc0 cl_195) (c_swrU (s := t) (a := m - i) (b := m + j - i) (m := i) w0 w hS hsl hn8 hone (by omega) (by omega) (by omega) (by omega)) ?_; rintro _ w ⟨rfl, hS⟩
   replace hS := hS.n2
   refine zlt <| zrg ?_
   refine zs2 ?_
   refine zlv (xsub (r := j - i)) ?_
   refine zlv xas ?_
   refine zln <| zbn <| zlq ⟨(swr t (m - i) (m + j - i) i), i, j - i, rfl, (by omega), (by omega), (by omega), (by omega), ?_, rfl, hS⟩
   ·
    first | (rw [← hr, show m - (i - j) = m - i + j by omega]; exact rot_left (by omega) (by omega)) | (rw [← hr, show m + (j - i) = m + j - i by omega]; exact rot_right (by omega) (by omega))
  refine zxt <| ztx <| ztx <| zbh <| ztn <| zrg ?_
  refine zs3 ?_
  refine zlv (xsub (r := m - i)) ?_
  refine zs3 ?_
  refine zlc (xc0 cl_195) (c_swrU (s := t) (a := m - i) (b := m) (m := i) w0 w hS hsl hn8 hone (by omega) (by omega) (by omega) (by omega)) ?_; rintro _ w ⟨rfl, hS⟩
  replace hS := hS.n2
  refine zln <| zfn0 ⟨_, rfl, ?_⟩
  have hz : (swr t (m - i) m i) = rot s a m b := by
    rw [← hr, show j = i by omega]; exact rot_even (by omega)
  rw [hz] at hS
  exact ⟨rfl, hS⟩
set_option maxRecDepth 20000 in
theorem c_insU {vd : Value} {n nm : Int} {s : Int → Int} {pv : Int → Value} {cnt : Int → Int} {lt : Int → Int → Prop} {F : Go.Proofs.Gw.Frame} {a b : Int} (w0 w : World) (hS : Sat w0 w [.own vd 2 111 n (ucells (fun z9 => pv (s z9)) (fun z9 => cnt (s z9))), .sem F]) (hsl : Slh vd n) (hn8 : n ≤ 100000000) (hone : ∀ x, (pv x).oneCell' = true) (hcmp : ∀ (w : World) (x y : Int), 0 ≤ x → x < nm → 0 ≤ y → y < nm → Below w0.heap.size w0 w → F.holds w → Calls Tryz.prog 139 [.agg #[pv x, .int .i64 (cnt x)], .agg #[pv y, .int .i64 (cnt y)]].toArray w fun e w' => ∃ v, e = .returned v ∧ ∃ c : Int, v = .int .i64 c ∧ (c < 0 ↔ lt x y) ∧ Sat w w' []) (hd : ∀ k, 0 ≤ k → k < n → 0 ≤ s k ∧ s k < nm) (hw : Swo lt) (a0 : 0 ≤ a) (ab : a ≤ b) (bn : b ≤ n) (hinc : Incr a b s) :
    Calls Tryz.prog 179 [vd, .int .i64 a, .int .i64 b, .func (.func 139) #[] #[]].toArray w fun e w => ∃ v, e = .returned v ∧ v = .tuple #[] ∧ ∃ t : Int → Int, PermOn a b s t ∧ Srt (Tie lt) a b t ∧ Sat w0 w [.own vd 2 111 n (ucells (fun z9 => pv (t z9)) (fun z9 => cnt (t z9))), .sem F] := by
  refine zenF Tryz.func179 Tryz.ntmps179 ?_
  refine zsr ?_
  refine zlv xmv ?_
  refine zlv (xadd (r := a + 1)) ?_
  refine zlv xas ?_
  refine zlt <| zbk <| zlp (fun mm M w => ∃ (t : Int → Int) (i : Int), mm = ((b - i).toNat) ∧ (a + 1 ≤ i) ∧ (i ≤ b ∨ i = a + 1) ∧ (PermOn a i s t) ∧ (Srt (Tie lt) a i t) ∧ (∀ k, 0 ≤ k → k < n → 0 ≤ t k ∧ t k < nm) ∧ M = [(0, vd), (1, .int .i64 a), (2, .int .i64 b), (3, .func (.func 139) #[] #[]), (8, .int .i64 i)] ∧ Sat w0 w [.own vd 2 111 n (ucells (fun z9 => pv (t z9)) (fun z9 => cnt (t z9))), .sem F]) ⟨s, a + 1, rfl, (by omega), (by omega), ?_, ?_, ?_, rfl, hS⟩ ?_
  ·
   exact .refl _ _ _
  ·
   intro p q p0 pq q1; omega
  ·
   exact hd
  clear hS w
  rintro mm M w ⟨t, i, rfl, i0, i1, hp, hs, hd1, rfl, hS⟩
  refine zsq <| zsr ?_
  refine zs3 ?_
  refine zlt ?_
  refine zcif ?_ ?_ <;> intro hc
  ·
   refine zsk <| ztn <| zsq <| zbk <| zsr ?_
   refine zs2 ?_
   refine zlt <| zbk <| zlp (fun mm M w => ∃ (t2 : Int → Int) (j : Int), mm = ((j - a).toNat) ∧ (a ≤ j) ∧ (j ≤ i) ∧ (Ins lt a i j t t2) ∧ (∀ k, 0 ≤ k → k < n → 0 ≤ t2 k ∧ t2 k < nm) ∧ M = [(0, vd), (1, .int .i64 a), (2, .int .i64 b), (3, .func (.func 139) #[] #[]), (8, .int .i64 i), (9, .int .i64 j)] ∧ Sat w0 w [.own vd 2 111 n (ucells (fun z9 => pv (t2 z9)) (fun z9 => cnt (t2 z9))), .sem F]) ⟨t, i, rfl, (by omega), (by omega), ?_, ?_, rfl, hS⟩ ?_
   ·
    exact Ins.start (by omega) hs (ins_big hp hinc (by omega))
   ·
    exact hd1
   clear hS w
   rintro mm M w ⟨t2, j, rfl, j0, j1, hI, hd2, rfl, hS⟩
   refine zsq <| zsq ?_
   refine zdst [0, 1] [0, 1] 1000 mx_ hS ?_; clear hS; intro w hS
   refine zdv 0 (fun _ => xmv) ?_
   refine zdv 1 (fun _ => xmv) ?_
   refine zdv 2 (fun _ => xgtr) ?_
   refine zdv 3 (fun _ => xmv) ?_
   refine zdb 21 ?_ ?_ <;> intro hc
   ·
    refine zdv 4 (fun _ => xmv) ?_
    refine zdv 5 (fun _ => xmv) ?_
    refine zdv 6 (fun _ => xmv) ?_
    refine zdv 7 (fun _ => (xix (kk := 2 * j) sl_59 hsl)) ?_
    refine zdla 8 (fun w hS => (xlw (cs := [(pv (t2 j)), .int .i64 (cnt (t2 j))]) st_111 (hS.rowN 0 rfl) (ucells_at (k := 2 * j) (i := j) (fun z9 => pv (t2 z9)) (fun z9 => cnt (t2 z9)) (by omega)))) ?_
    refine zdv 9 (fun _ => xmv) ?_
    refine zdv 10 (fun _ => xmv) ?_
    refine zdv 11 (fun _ => (xsub (r := j - 1))) ?_
    refine zdv 12 (fun _ => (xix (kk := 2 * j - 2) sl_59 hsl)) ?_
    refine zdla 13 (fun w hS => (xlw (cs := [(pv (t2 (j - 1))), .int .i64 (cnt (t2 (j - 1)))]) st_111 (hS.rowN 0 rfl) (ucells_at (k := 2 * j - 2) (i := j - 1) (fun z9 => pv (t2 z9)) (fun z9 => cnt (t2 z9)) (by omega)))) ?_
    refine zdc 14 (xc0 cl_139) (hcmp w (t2 j) (t2 (j - 1)) (hd2 j (by omega) (by omega)).1 (hd2 j (by omega) (by omega)).2 (hd2 (j - 1) (by omega) (by omega)).1 (hd2 (j - 1) (by omega) (by omega)).2 hS.below (hS.holds _ (List.mem_of_getElem? (i := 1) rfl))) ?_; rintro _ w ⟨c1, rfl, hc1, hS'⟩
    replace hS := hS.cmp hS'; clear hS'
    refine ⟨⟨fun _ => hS, hS⟩, ?_⟩
    refine zdv 15 (fun _ => xlss) ?_
    refine zdv 16 (fun _ => xpt) ?_
    refine zdd <| ztn ?_
    refine zcif ?_ ?_ <;> intro hc
    ·
     refine zsk <| ztn <| zsq <| zbk ?_
     refine zdst [0, 1] [1] 15 mx_ hS ?_; clear hS; intro w hS
     refine zdv 0 (fun _ => xmv) ?_
     refine zdv 1 (fun _ => xmv) ?_
     refine zdv 2 (fun _ => xmv) ?_
     refine zdv 3 (fun _ => xmv) ?_
     refine zdv 4 (fun _ => (xsub (r := j - 1))) ?_
     refine zdv 5 (fun _ => xmv) ?_
     refine zdv 6 (fun _ => xmv) ?_
     refine zdv 7 (fun _ => (xsub (r := j - 1))) ?_
     refine zdv 8 (fun _ => (xix (kk := 2 * j - 2) sl_59 hsl)) ?_
     refine zdl 9 (fun w hS => (xlw (cs := [(pv (t2 (j - 1))), .int .i64 (cnt (t2 (j - 1)))]) st_111 (hS.rowN 0 rfl) (ucells_at (k := 2 * j - 2) (i := j - 1) (fun z9 => pv (t2 z9)) (fun z9 => cnt (t2 z9)) (by omega)))) ?_
     refine zdv 10 (fun _ => xmv) ?_
     refine zdv 11 (fun _ => xmv) ?_
     refine zdv 12 (fun _ => (xix (kk := 2 * j) sl_59 hsl)) ?_
     refine zdl 13 (fun w hS => (xlw (cs := [(pv (t2 j)), .int .i64 (cnt (t2 j))]) st_111 (hS.rowN 0 rfl) (ucells_at (k := 2 * j) (i := j) (fun z9 => pv (t2 z9)) (fun z9 => cnt (t2 z9)) (by omega)))) ?_
     refine zdv 14 (fun _ => (xix (kk := 2 * j) sl_59 hsl)) ?_
     refine zde 15 (xso2 0 st_111 hS (upd_use (i := j) (k := 2 * j) _ _ _ _ (by omega)) (hv := hone _)) ?_; clear hS; rintro w hS
     replace hS := hS.n2
     refine ⟨⟨fun h => absurd h (by decide), hS.pk [1]⟩, ?_⟩
     refine zdv 16 (fun _ => (xix (kk := 2 * j - 2) sl_59 hsl)) ?_
     refine zde 17 (xso2 0 st_111 hS (Eq.trans (upd_use (i := j - 1) (k := 2 * j - 2) _ _ _ _ (by omega)) (ucells_swp pv cnt t2 j (j - 1))) (hv := hone _)) ?_; clear hS; rintro w hS
     replace hS := hS.n2
     refine ⟨⟨fun h => absurd h (by decide), hS.pk [1]⟩, ?_⟩
     refine zdd <| zbn <| ztn <| zrg ?_
     refine zlv xmv ?_
     refine zlv (xsub (r := j - 1)) ?_
     refine zlv xas ?_
     refine zln <| zlq ⟨swp t2 j (j - 1), j - 1, rfl, (by omega), (by omega), ?_, ?_, rfl, hS⟩
     ·
      exact hI.step (by omega) (by omega) (hc1.1 ‹c1 < 0›)
     ·
      exact (swp_perm (lo := a) (hi := n) (by omega) (by omega) (by omega) (by omega)).dom a0 (.inl (by omega)) hd2
    refine zxt <| ztx <| ztx <| zbh <| zbn <| ztn <| zrg ?_
    refine zlv xmv ?_
    refine zlv (xadd (r := i + 1)) ?_
    refine zlv xas ?_
    refine zln <| zlq ⟨t2, i + 1, rfl, (by omega), (by omega), ?_, ?_, ?_, rfl, hS⟩
    ·
     exact (hp.mono (by omega) (by omega)).trans hI.perm
    ·
     exact hI.fin hw (by omega) (by omega) (by first | exact .inl (by omega) | exact .inr fun h => absurd (hc1.2 h) ‹¬ c1 < 0›)
    ·
     exact hd2
   refine zdof 4 ?_
   refine zdof 5 ?_
   refine zdof 6 ?_
   refine zdof 7 ?_
   refine zdof 8 ?_
   refine zdof 9 ?_
   refine zdof 10 ?_
   refine zdof 11 ?_
   refine zdof 12 ?_
   refine zdof 13 ?_
   refine zdof 14 ?_
   refine zdof 15 ?_
   refine zdv 16 (fun _ => xpf) ?_
   refine zdd <| ztn <| zcf <| zxt <| ztx <| ztx <| zbh <| zbn <| ztn <| zrg ?_
   refine zlv xmv ?_
   refine zlv (xadd (r := i + 1)) ?_
   refine zlv xas ?_
   refine zln <| zlq ⟨t2, i + 1, rfl, (by omega), (by omega), ?_, ?_, ?_, rfl, hS⟩
   ·
    exact (hp.mono (by omega) (by omega)).trans hI.perm
   ·
    exact hI.fin hw (by omega) (by omega) (by first | exact .inl (by omega) | exact .inr fun h => absurd (hc1.2 h) ‹¬ c1 < 0›)
   ·
    exact hd2
  refine zxt <| ztx <| ztx <| zbh <| zfn0 ⟨_, rfl, ?_⟩
  refine ⟨rfl, t, ?_, ?_, hS⟩
  · by_cases hab : i ≤ b
    · exact hp.mono (by omega) (by omega)
    · obtain ⟨p_, q_, e1, e2, e3⟩ := hp
      exact ⟨p_, q_, e1, fun k hk => by
        by_cases hka : k = a
        · subst hka
          apply Classical.byContradiction; intro hne
          have h5 := e2 (p_ k) (by omega)
          have h6 := congrArg q_ h5
          rw [(e1 _).2, (e1 _).2] at h6; exact hne h6
        · exact e2 k (by omega), e3⟩
  · exact hs.mono (by omega) (by omega)
set_option maxHeartbeats 4000000 in
set_option maxRecDepth 20000 in
theorem c_symU {vd : Value} {n nm : Int} {pv : Int → Value} {cnt : Int → Int} {lt : Int → Int → Prop} {F : Go.Proofs.Gw.Frame} (hsl : Slh vd n) (hn8 : n ≤ 100000000) (hone : ∀ x, (pv x).oneCell' = true) (hw : Swo lt) (N : Nat) : ∀ {s : Int → Int} {a m b : Int} (w0 w : World) (hS : Sat w0 w [.own vd 2 111 n (ucells (fun z9 => pv (s z9)) (fun z9 => cnt (s z9))), .sem F]) (hcmp : ∀ (w : World) (x y : Int), 0 ≤ x → x < nm → 0 ≤ y → y < nm → Below w0.heap.size w0 w → F.holds w → Calls Tryz.prog 139 [.agg #[pv x, .int .i64 (cnt x)], .agg #[pv y, .int .i64 (cnt y)]].toArray w fun e w' => ∃ v, e = .returned v ∧ ∃ c : Int, v = .int .i64 c ∧ (c < 0 ↔ lt x y) ∧ Sat w w' []) (hd : ∀ k, 0 ≤ k → k < n → 0 ≤ s k ∧ s k < nm) (a0 : 0 ≤ a) (am : a < m) (mb : m < b) (bn : b ≤ n) (h1 : Srt (Tie lt) a m s) (h2 : Srt (Tie lt) m b s) (hp : Parted a m b s) (hN : (b - a).toNat < N),
    Calls Tryz.prog 180 [vd, .int .i64 a, .int .i64 m, .int .i64 b, .func (.func 139) #[] #[]].toArray w fun e w => ∃ v, e = .returned v ∧ v = .tuple #[] ∧ ∃ t : Int → Int, PermOn a b s t ∧ Srt (Tie lt) a b t ∧ Sat w0 w [.own vd 2 111 n (ucells (fun z9 => pv (t z9)) (fun z9 => cnt (t z9))), .sem F] := by
  induction N with
  | zero => intros; omega
  | succ N ih =>
    intro s a m b w0 w hS hcmp hd a0 am mb bn h1 h2 hp hN
    refine zenF Tryz.func180 Tryz.ntmps180 ?_
    refine zsq <| zsr ?_
    refine zs2 ?_
    refine zlv (xsub (r := m - a)) ?_
    refine zlv xeql ?_
    refine zlt ?_
    refine zcif ?_ ?_ <;> intro hc
    ·
     refine zsr ?_
     refine zs2 ?_
     refine zlz ?_
     refine zs2 ?_
     refine zlt <| zsq <| zbk <| zlp (fun mm M w => ∃ (i : Int) (j : Int), mm = ((j - i).toNat) ∧ (m ≤ i) ∧ (i ≤ j) ∧ (j ≤ b) ∧ (i = a + 1 ∨ lt (s (i - 1)) (s a)) ∧ (j = b ∨ ¬ lt (s j) (s a)) ∧ M = [(0, vd), (1, .int .i64 a), (2, .int .i64 m), (3, .int .i64 b), (4, .func (.func 139) #[] #[]), (10, .int .i64 i), (11, .int .i64 j)] ∧ Sat w0 w [.own vd 2 111 n (ucells (fun z9 => pv (s z9)) (fun z9 => cnt (s z9))), .sem F]) ⟨m, b, rfl, (by omega), (by omega), (by omega), ?_, ?_, rfl, hS⟩ ?_
     ·
      exact .inl (by omega)
     ·
      exact .inl rfl
     clear hS w
     rintro mm M w ⟨i, j, rfl, i0, ij, j1, hi, hj, rfl, hS⟩
     refine zsq <| zsr ?_
     refine zs3 ?_
     refine zlt ?_
     refine zcif ?_ ?_ <;> intro hc
     ·
      refine zsk <| ztn <| zbk <| zsr ?_
      refine zs2 ?_
      refine zlv (xadd (r := i + j)) ?_
      refine zlv (xcv so_3 it_208) ?_
      refine zlv (xshr1 (r := ((i + j) / 2))) ?_
      refine zlv (xcv so_208 it_3) ?_
      refine zlv xas ?_
      refine zlt <| zsq ?_
      refine zdst [0, 1] [0, 1] 1000 mx_ hS ?_; clear hS; intro w hS
      refine zdv 0 (fun _ => xmv) ?_
      refine zdv 1 (fun _ => xmv) ?_
      refine zdv 2 (fun _ => xmv) ?_
      refine zdv 3 (fun _ => (xix (kk := 2 * ((i + j) / 2)) sl_59 hsl)) ?_
      refine zdla 4 (fun w hS => (xlw (cs := [(pv (s ((i + j) / 2))), .int .i64 (cnt (s ((i + j) / 2)))]) st_111 (hS.rowN 0 rfl) (ucells_at (k := 2 * ((i + j) / 2)) (i := ((i + j) / 2)) (fun z9 => pv (s z9)) (fun z9 => cnt (s z9)) (by omega)))) ?_
      refine zdv 5 (fun _ => xmv) ?_
      refine zdv 6 (fun _ => xmv) ?_
      refine zdv 7 (fun _ => (xix (kk := 2 * a) sl_59 hsl)) ?_
      refine zdla 8 (fun w hS => (xlw (cs := [(pv (s a)), .int .i64 (cnt (s a))]) st_111 (hS.rowN 0 rfl) (ucells_at (k := 2 * a) (i := a) (fun z9 => pv (s z9)) (fun z9 => cnt (s z9)) (by omega)))) ?_
      refine zdc 9 (xc0 cl_139) (hcmp w (s ((i + j) / 2)) (s a) (hd ((i + j) / 2) (by omega) (by omega)).1 (hd ((i + j) / 2) (by omega) (by omega)).2 (hd a (by omega) (by omega)).1 (hd a (by omega) (by omega)).2 hS.below (hS.holds _ (List.mem_of_getElem? (i := 1) rfl))) ?_; rintro _ w ⟨c1, rfl, hc1, hS'⟩
      replace hS := hS.cmp hS'; clear hS'
      refine ⟨⟨fun _ => hS, hS⟩, ?_⟩
      refine zdv 10 (fun _ => xlss) ?_
      refine zdd <| ztn ?_
      refine zcif ?_ ?_ <;> intro hc
      ·
       refine zrg ?_
       refine zlv xmv ?_
       refine zlv (xadd (r := ((i + j) / 2) + 1)) ?_
       refine zlv xas ?_
       refine zln <| zbn <| zlq ⟨((i + j) / 2) + 1, j, rfl, (by omega), (by omega), (by omega), ?_, ?_, rfl, hS⟩
       ·
        first | exact hi | (right; rw [show (i + j) / 2 + 1 - 1 = (i + j) / 2 by omega]; exact hc1.1 ‹c1 < 0›)
       ·
        first | exact hj | exact .inr fun h => absurd (hc1.2 h) ‹¬ c1 < 0›
      refine zrg ?_
      refine zs2 ?_
      refine zln <| zbn <| zlq ⟨i, ((i + j) / 2), rfl, (by omega), (by omega), (by omega), ?_, ?_, rfl, hS⟩
      ·
       first | exact hi | (right; rw [show (i + j) / 2 + 1 - 1 = (i + j) / 2 by omega]; exact hc1.1 ‹c1 < 0›)
      ·
       first | exact hj | exact .inr fun h => absurd (hc1.2 h) ‹¬ c1 < 0›
     refine zxt <| ztx <| ztx <| zbh <| ztn <| zsq <| zsr ?_
     refine zs2 ?_
     refine zlt <| zbk <| zlp (fun mm M w => ∃ (t : Int → Int) (k : Int), mm = ((i - 1 - k).toNat) ∧ (a ≤ k) ∧ (k ≤ i - 1) ∧ (t = rot s a (a + 1) (k + 1)) ∧ M = [(0, vd), (1, .int .i64 a), (2, .int .i64 m), (3, .int .i64 b), (4, .func (.func 139) #[] #[]), (10, .int .i64 i), (13, .int .i64 k)] ∧ Sat w0 w [.own vd 2 111 n (ucells (fun z9 => pv (t z9)) (fun z9 => cnt (t z9))), .sem F]) ⟨s, a, rfl, (by omega), (by omega), ?_, rfl, hS⟩ ?_
     ·
      exact (shl_zero s a).symm
     clear hS w
     rintro mm M w ⟨t, k, rfl, k0, k1, ht, rfl, hS⟩
     refine zsq <| zsr ?_
     refine zs2 ?_
     refine zlv (xsub (r := i - 1)) ?_
     refine zlv xlss ?_
     refine zlt ?_
     refine zcif ?_ ?_ <;> intro hc
     ·
      refine zsk <| ztn <| zsq <| zbk ?_
      refine zdst [0, 1] [1] 15 mx_ hS ?_; clear hS; intro w hS
      refine zdv 0 (fun _ => xmv) ?_
      refine zdv 1 (fun _ => xmv) ?_
      refine zdv 2 (fun _ => xmv) ?_
      refine zdv 3 (fun _ => xmv) ?_
      refine zdv 4 (fun _ => (xadd (r := k + 1))) ?_
      refine zdv 5 (fun _ => xmv) ?_
      refine zdv 6 (fun _ => xmv) ?_
      refine zdv 7 (fun _ => (xadd (r := k + 1))) ?_
      refine zdv 8 (fun _ => (xix (kk := 2 * k + 2) sl_59 hsl)) ?_
      refine zdl 9 (fun w hS => (xlw (cs := [(pv (t (k + 1))), .int .i64 (cnt (t (k + 1)))]) st_111 (hS.rowN 0 rfl) (ucells_at (k := 2 * k + 2) (i := k + 1) (fun z9 => pv (t z9)) (fun z9 => cnt (t z9)) (by omega)))) ?_
      refine zdv 10 (fun _ => xmv) ?_
      refine zdv 11 (fun _ => xmv) ?_
      refine zdv 12 (fun _ => (xix (kk := 2 * k) sl_59 hsl)) ?_
      refine zdl 13 (fun w hS => (xlw (cs := [(pv (t k)), .int .i64 (cnt (t k))]) st_111 (hS.rowN 0 rfl) (ucells_at (k := 2 * k) (i := k) (fun z9 => pv (t z9)) (fun z9 => cnt (t z9)) (by omega)))) ?_
      refine zdv 14 (fun _ => (xix (kk := 2 * k) sl_59 hsl)) ?_
      refine zde 15 (xso2 0 st_111 hS (upd_use (i := k) (k := 2 * k) _ _ _ _ (by omega)) (hv := hone _)) ?_; clear hS; rintro w hS
      replace hS := hS.n2
      refine ⟨⟨fun h => absurd h (by decide), hS.pk [1]⟩, ?_⟩
      refine zdv 16 (fun _ => (xix (kk := 2 * k + 2) sl_59 hsl)) ?_
      refine zde 17 (xso2 0 st_111 hS (Eq.trans (upd_use (i := k + 1) (k := 2 * k + 2) _ _ _ _ (by omega)) (ucells_swp pv cnt t k (k + 1))) (hv := hone _)) ?_; clear hS; rintro w hS
      replace hS := hS.n2
      refine ⟨⟨fun h => absurd h (by decide), hS.pk [1]⟩, ?_⟩
      refine zdd <| zbn <| ztn <| zrg ?_
      refine zlv xmv ?_
      refine zlv (xadd (r := k + 1)) ?_
      refine zlv xas ?_
      refine zln <| zlq ⟨swp t k (k + 1), k + 1, rfl, (by omega), (by omega), ?_, rfl, hS⟩
      ·
       rw [ht]; exact shl_next (by omega)
     refine zxt <| ztx <| ztx <| zbh <| ztn <| zrt <| ztr <| zf0 ⟨_, rfl, ?_⟩
     have hki : k + 1 = i := by omega
     rw [hki] at ht
     refine ⟨rfl, t, ?_, ?_, hS⟩
     · rw [ht]; exact (rot_perm (by omega) (by omega)).mono (by omega) (by omega)
     · rw [ht]; obtain rfl : m = a + 1 := by omega
       exact merge_one hw h2 (fun j j0 j1 => hp a j (by omega) (by omega) j0 j1) (by omega) (by omega) hi (by rw [show i = j by omega]; exact hj)
    refine zsk <| ztn <| zsq <| zsr ?_
    refine zs2 ?_
    refine zlv (xsub (r := b - m)) ?_
    refine zlv xeql ?_
    refine zlt ?_
    refine zcif ?_ ?_ <;> intro hc
    ·
     refine zsr ?_
     refine zs2 ?_
     refine zlz ?_
     refine zs2 ?_
     refine zlt <| zsq <| zbk <| zlp (fun mm M w => ∃ (i : Int) (j : Int), mm = ((j - i).toNat) ∧ (a ≤ i) ∧ (i ≤ j) ∧ (j ≤ m) ∧ (i = a ∨ ¬ lt (s m) (s (i - 1))) ∧ (j = m ∨ lt (s m) (s j)) ∧ M = [(0, vd), (1, .int .i64 a), (2, .int .i64 m), (3, .int .i64 b), (4, .func (.func 139) #[] #[]), (14, .int .i64 i), (15, .int .i64 j)] ∧ Sat w0 w [.own vd 2 111 n (ucells (fun z9 => pv (s z9)) (fun z9 => cnt (s z9))), .sem F]) ⟨a, m, rfl, (by omega), (by omega), (by omega), ?_, ?_, rfl, hS⟩ ?_
     ·
      exact .inl rfl
     ·
      exact .inl rfl
     clear hS w
     rintro mm M w ⟨i, j, rfl, i0, ij, j1, hi, hj, rfl, hS⟩
     refine zsq <| zsr ?_
     refine zs3 ?_
     refine zlt ?_
     refine zcif ?_ ?_ <;> intro hc
     ·
      refine zsk <| ztn <| zbk <| zsr ?_
      refine zs2 ?_
      refine zlv (xadd (r := i + j)) ?_
      refine zlv (xcv so_3 it_208) ?_
      refine zlv (xshr1 (r := ((i + j) / 2))) ?_
      refine zlv (xcv so_208 it_3) ?_
      refine zlv xas ?_
      refine zlt <| zsq ?_
      refine zdst [0, 1] [0, 1] 1000 mx_ hS ?_; clear hS; intro w hS
      refine zdv 0 (fun _ => xmv) ?_
      refine zdv 1 (fun _ => xmv) ?_
      refine zdv 2 (fun _ => xmv) ?_
      refine zdv 3 (fun _ => (xix (kk := 2 * m) sl_59 hsl)) ?_
      refine zdla 4 (fun w hS => (xlw (cs := [(pv (s m)), .int .i64 (cnt (s m))]) st_111 (hS.rowN 0 rfl) (ucells_at (k := 2 * m) (i := m) (fun z9 => pv (s z9)) (fun z9 => cnt (s z9)) (by omega)))) ?_
      refine zdv 5 (fun _ => xmv) ?_
      refine zdv 6 (fun _ => xmv) ?_
      refine zdv 7 (fun _ => (xix (kk := 2 * ((i + j) / 2)) sl_59 hsl)) ?_
      refine zdla 8 (fun w hS => (xlw (cs := [(pv (s ((i + j) / 2))), .int .i64 (cnt (s ((i + j) / 2)))]) st_111 (hS.rowN 0 rfl) (ucells_at (k := 2 * ((i + j) / 2)) (i := ((i + j) / 2)) (fun z9 => pv (s z9)) (fun z9 => cnt (s z9)) (by omega)))) ?_
      refine zdc 9 (xc0 cl_139) (hcmp w (s m) (s ((i + j) / 2)) (hd m (by omega) (by omega)).1 (hd m (by omega) (by omega)).2 (hd ((i + j) / 2) (by omega) (by omega)).1 (hd ((i + j) / 2) (by omega) (by omega)).2 hS.below (hS.holds _ (List.mem_of_getElem? (i := 1) rfl))) ?_; rintro _ w ⟨c1, rfl, hc1, hS'⟩
      replace hS := hS.cmp hS'; clear hS'
      refine ⟨⟨fun _ => hS, hS⟩, ?_⟩
      refine zdv 10 (fun _ => xlss) ?_
      refine zdv 11 (fun _ => xnot) ?_
      refine zdd <| ztn ?_
      refine zcif ?_ ?_ <;> intro hc
      ·
       refine zrg ?_
       refine zlv xmv ?_
       refine zlv (xadd (r := ((i + j) / 2) + 1)) ?_
       refine zlv xas ?_
       refine zln <| zbn <| zlq ⟨((i + j) / 2) + 1, j, rfl, (by omega), (by omega), (by omega), ?_, ?_, rfl, hS⟩
       ·
        first | exact hi | (right; rw [show (i + j) / 2 + 1 - 1 = (i + j) / 2 by omega]; exact fun h => absurd (hc1.2 h) ‹¬ c1 < 0›)
       ·
        first | exact hj | exact .inr (hc1.1 (Classical.not_not.1 ‹_›))
      refine zrg ?_
      refine zs2 ?_
      refine zln <| zbn <| zlq ⟨i, ((i + j) / 2), rfl, (by omega), (by omega), (by omega), ?_, ?_, rfl, hS⟩
      ·
       first | exact hi | (right; rw [show (i + j) / 2 + 1 - 1 = (i + j) / 2 by omega]; exact fun h => absurd (hc1.2 h) ‹¬ c1 < 0›)
      ·
       first | exact hj | exact .inr (hc1.1 (Classical.not_not.1 ‹_›))
     refine zxt <| ztx <| ztx <| zbh <| ztn <| zsq <| zsr ?_
     refine zs2 ?_
     refine zlt <| zbk <| zlp (fun mm M w => ∃ (t : Int → Int) (k : Int), mm = ((k - i).toNat) ∧ (i ≤ k) ∧ (k ≤ m) ∧ (t = rot s k m (m + 1)) ∧ M = [(0, vd), (1, .int .i64 a), (2, .int .i64 m), (3, .int .i64 b), (4, .func (.func 139) #[] #[]), (14, .int .i64 i), (17, .int .i64 k)] ∧ Sat w0 w [.own vd 2 111 n (ucells (fun z9 => pv (t z9)) (fun z9 => cnt (t z9))), .sem F]) ⟨s, m, rfl, (by omega), (by omega), ?_, rfl, hS⟩ ?_
     ·
      exact (shr_zero s m).symm
     clear hS w
     rintro mm M w ⟨t, k, rfl, k0, k1, ht, rfl, hS⟩
     refine zsq <| zsr ?_
     refine zs3 ?_
     refine zlt ?_
     refine zcif ?_ ?_ <;> intro hc
     ·
      refine zsk <| ztn <| zsq <| zbk ?_
      refine zdst [0, 1] [1] 15 mx_ hS ?_; clear hS; intro w hS
      refine zdv 0 (fun _ => xmv) ?_
      refine zdv 1 (fun _ => xmv) ?_
      refine zdv 2 (fun _ => xmv) ?_
      refine zdv 3 (fun _ => xmv) ?_
      refine zdv 4 (fun _ => (xsub (r := k - 1))) ?_
      refine zdv 5 (fun _ => xmv) ?_
      refine zdv 6 (fun _ => xmv) ?_
      refine zdv 7 (fun _ => (xsub (r := k - 1))) ?_
      refine zdv 8 (fun _ => (xix (kk := 2 * k - 2) sl_59 hsl)) ?_
      refine zdl 9 (fun w hS => (xlw (cs := [(pv (t (k - 1))), .int .i64 (cnt (t (k - 1)))]) st_111 (hS.rowN 0 rfl) (ucells_at (k := 2 * k - 2) (i := k - 1) (fun z9 => pv (t z9)) (fun z9 => cnt (t z9)) (by omega)))) ?_
      refine zdv 10 (fun _ => xmv) ?_
      refine zdv 11 (fun _ => xmv) ?_
      refine zdv 12 (fun _ => (xix (kk := 2 * k) sl_59 hsl)) ?_
      refine zdl 13 (fun w hS => (xlw (cs := [(pv (t k)), .int .i64 (cnt (t k))]) st_111 (hS.rowN 0 rfl) (ucells_at (k := 2 * k) (i := k) (fun z9 => pv (t z9)) (fun z9 => cnt (t z9)) (by omega)))) ?_
      refine zdv 14 (fun _ => (xix (kk := 2 * k) sl_59 hsl)) ?_
      refine zde 15 (xso2 0 st_111 hS (upd_use (i := k) (k := 2 * k) _ _ _ _ (by omega)) (hv := hone _)) ?_; clear hS; rintro w hS
      replace hS := hS.n2
      refine ⟨⟨fun h => absurd h (by decide), hS.pk [1]⟩, ?_⟩
      refine zdv 16 (fun _ => (xix (kk := 2 * k - 2) sl_59 hsl)) ?_
      refine zde 17 (xso2 0 st_111 hS (Eq.trans (upd_use (i := k - 1) (k := 2 * k - 2) _ _ _ _ (by omega)) (ucells_swp pv cnt t k (k - 1))) (hv := hone _)) ?_; clear hS; rintro w hS
      replace hS := hS.n2
      refine ⟨⟨fun h => absurd h (by decide), hS.pk [1]⟩, ?_⟩
      refine zdd <| zbn <| ztn <| zrg ?_
      refine zlv xmv ?_
      refine zlv (xsub (r := k - 1)) ?_
      refine zlv xas ?_
      refine zln <| zlq ⟨swp t k (k - 1), k - 1, rfl, (by omega), (by omega), ?_, rfl, hS⟩
      ·
       rw [ht]; exact shr_next (by omega)
     refine zxt <| ztx <| ztx <| zbh <| ztn <| zrt <| ztr <| zf0 ⟨_, rfl, ?_⟩
     have hki : k = i := by omega
     rw [hki] at ht
     refine ⟨rfl, t, ?_, ?_, hS⟩
     · rw [ht]; exact (rot_perm (by omega) (by omega)).mono (by omega) (by omega)
     · rw [ht]; obtain rfl : b = m + 1 := by omega
       exact merge_last hw h1 (fun i i0 i1 => hp i m i0 i1 (by omega) (by omega)) (by omega) (by omega) hi (by rw [show i = j by omega]; exact hj)
    refine zsk <| ztn <| zsr ?_
    refine zs2 ?_
    refine zlv (xadd (r := a + b)) ?_
    refine zlv (xcv so_3 it_208) ?_
    refine zlv (xshr1 (r := ((a + b) / 2))) ?_
    refine zlv (xcv so_208 it_3) ?_
    refine zlv xas ?_
    refine zlz ?_
    refine zs2 ?_
    refine zlv (xadd (r := ((a + b) / 2) + m)) ?_
    refine zlv xas ?_
    refine zlz ?_
    refine zs2 ?_
    refine zlt <| zsq <| ?_
    refine zgcut (fun M w => ∃ (mid : Int) (s0 : Int) (r0 : Int), (mid = ((a + b) / 2)) ∧ ((mid < m ∧ s0 = mid + m - b ∧ r0 = mid) ∨ (m ≤ mid ∧ s0 = a ∧ r0 = m)) ∧ M = [(0, vd), (1, .int .i64 a), (2, .int .i64 m), (3, .int .i64 b), (4, .func (.func 139) #[] #[]), (25, .int .i64 m), (26, .int .i64 a), (27, .int .i64 (m - a)), (28, B (m - a = 1)), (77, .int .i64 b), (78, .int .i64 m), (79, .int .i64 (b - m)), (80, B (b - m = 1)), (129, .int .i64 a), (130, .int .i64 b), (131, .int .i64 (a + b)), (132, .int .u64 (a + b)), (133, .int .u64 ((a + b) / 2)), (134, .int .i64 ((a + b) / 2)), (18, .int .i64 mid), (135, .int .i64 ((a + b) / 2)), (136, .int .i64 m), (137, .int .i64 (((a + b) / 2) + m)), (19, .int .i64 (mid + m)), (20, .int .i64 s0), (21, .int .i64 r0)] ∧ Sat w0 w [.own vd 2 111 n (ucells (fun z9 => pv (s z9)) (fun z9 => cnt (s z9))), .sem F]) ?_ ?_
    ·
     refine zsr ?_
     refine zs3 ?_
     refine zlt ?_
     refine zcif ?_ ?_ <;> intro hc
     ·
      refine zsr ?_
      refine zs2 ?_
      refine zlv (xsub (r := ((a + b) / 2) + m - b)) ?_
      refine zlv xas ?_
      refine zlt <| zrg ?_
      refine zs2 ?_
      refine zln <| zgj ⟨((a + b) / 2), (((a + b) / 2) + m - b), ((a + b) / 2), rfl, (by omega), rfl, hS⟩
     refine zsr ?_
     refine zs2 ?_
     refine zlt <| zrg ?_
     refine zs2 ?_
     refine zln <| zgj ⟨((a + b) / 2), a, m, rfl, (by omega), rfl, hS⟩
    clear hS w; rintro M w ⟨mid, s0, r0, hmid, hq, rfl, hS⟩
    refine ztn <| zsr ?_
    refine zlv xmv ?_
    refine zlv (xsub (r := mid + m - 1)) ?_
    refine zlv xas ?_
    refine zlt <| zsq <| zbk <| zlp (fun mm M w => ∃ (x : Int) (y : Int), mm = ((y - x).toNat) ∧ (s0 ≤ x) ∧ (x ≤ y) ∧ (y ≤ r0) ∧ (x = s0 ∨ ¬ lt (s (mid + m - x)) (s (x - 1))) ∧ (y = r0 ∨ lt (s (mid + m - y - 1)) (s y)) ∧ M = [(0, vd), (1, .int .i64 a), (2, .int .i64 m), (3, .int .i64 b), (4, .func (.func 139) #[] #[]), (18, .int .i64 mid), (19, .int .i64 (mid + m)), (20, .int .i64 x), (21, .int .i64 y), (22, .int .i64 (mid + m - 1))] ∧ Sat w0 w [.own vd 2 111 n (ucells (fun z9 => pv (s z9)) (fun z9 => cnt (s z9))), .sem F]) ⟨s0, r0, rfl, (by omega), (by omega), (by omega), ?_, ?_, rfl, hS⟩ ?_
    ·
     exact .inl rfl
    ·
     exact .inl rfl
    clear hS w
    rintro mm M w ⟨x, y, rfl, x0, xy, y1, hx, hy, rfl, hS⟩
    refine zsq <| zsr ?_
    refine zs3 ?_
    refine zlt ?_
    refine zcif ?_ ?_ <;> intro hc
    ·
     refine zsk <| ztn <| zbk <| zsr ?_
     refine zs2 ?_
     refine zlv (xadd (r := x + y)) ?_
     refine zlv (xcv so_3 it_208) ?_
     refine zlv (xshr1 (r := ((x + y) / 2))) ?_
     refine zlv (xcv so_208 it_3) ?_
     refine zlv xas ?_
     refine zlt <| zsq ?_
     refine zdst [0, 1] [0, 1] 1000 mx_ hS ?_; clear hS; intro w hS
     refine zdv 0 (fun _ => xmv) ?_
     refine zdv 1 (fun _ => xmv) ?_
     refine zdv 2 (fun _ => xmv) ?_
     refine zdv 3 (fun _ => xmv) ?_
     refine zdv 4 (fun _ => (xsub (r := mid + m - ((x + y) / 2) - 1))) ?_
     refine zdv 5 (fun _ => (xix (kk := 2 * mid + 2 * m - 2 * ((x + y) / 2) - 2) sl_59 hsl)) ?_
     refine zdla 6 (fun w hS => (xlw (cs := [(pv (s (mid + m - ((x + y) / 2) - 1))), .int .i64 (cnt (s (mid + m - ((x + y) / 2) - 1)))]) st_111 (hS.rowN 0 rfl) (ucells_at (k := 2 * mid + 2 * m - 2 * ((x + y) / 2) - 2) (i := mid + m - ((x + y) / 2) - 1) (fun z9 => pv (s z9)) (fun z9 => cnt (s z9)) (by omega)))) ?_
     refine zdv 7 (fun _ => xmv) ?_
     refine zdv 8 (fun _ => xmv) ?_
     refine zdv 9 (fun _ => (xix (kk := 2 * ((x + y) / 2)) sl_59 hsl)) ?_
     refine zdla 10 (fun w hS => (xlw (cs := [(pv (s ((x + y) / 2))), .int .i64 (cnt (s ((x + y) / 2)))]) st_111 (hS.rowN 0 rfl) (ucells_at (k := 2 * ((x + y) / 2)) (i := ((x + y) / 2)) (fun z9 => pv (s z9)) (fun z9 => cnt (s z9)) (by omega)))) ?_
     refine zdc 11 (xc0 cl_139) (hcmp w (s (mid + m - ((x + y) / 2) - 1)) (s ((x + y) / 2)) (hd (mid + m - ((x + y) / 2) - 1) (by omega) (by omega)).1 (hd (mid + m - ((x + y) / 2) - 1) (by omega) (by omega)).2 (hd ((x + y) / 2) (by omega) (by omega)).1 (hd ((x + y) / 2) (by omega) (by omega)).2 hS.below (hS.holds _ (List.mem_of_getElem? (i := 1) rfl))) ?_; rintro _ w ⟨c1, rfl, hc1, hS'⟩
     replace hS := hS.cmp hS'; clear hS'
     refine ⟨⟨fun _ => hS, hS⟩, ?_⟩
     refine zdv 12 (fun _ => xlss) ?_
     refine zdv 13 (fun _ => xnot) ?_
     refine zdd <| ztn ?_
     refine zcif ?_ ?_ <;> intro hc
     ·
      refine zrg ?_
      refine zlv xmv ?_
      refine zlv (xadd (r := ((x + y) / 2) + 1)) ?_
      refine zlv xas ?_
      refine zln <| zbn <| zlq ⟨((x + y) / 2) + 1, y, rfl, (by omega), (by omega), (by omega), ?_, ?_, rfl, hS⟩
      ·
       first | exact hx | (right; rw [show mid + m - ((x + y) / 2 + 1) = mid + m - (x + y) / 2 - 1 by omega, show (x + y) / 2 + 1 - 1 = (x + y) / 2 by omega]; exact fun h => absurd (hc1.2 h) ‹¬ c1 < 0›)
      ·
       first | exact hy | exact .inr (hc1.1 (Classical.not_not.1 ‹_›))
     refine zrg ?_
     refine zs2 ?_
     refine zln <| zbn <| zlq ⟨x, ((x + y) / 2), rfl, (by omega), (by omega), (by omega), ?_, ?_, rfl, hS⟩
     ·
      first | exact hx | (right; rw [show mid + m - ((x + y) / 2 + 1) = mid + m - (x + y) / 2 - 1 by omega, show (x + y) / 2 + 1 - 1 = (x + y) / 2 by omega]; exact fun h => absurd (hc1.2 h) ‹¬ c1 < 0›)
     ·
      first | exact hy | exact .inr (hc1.1 (Classical.not_not.1 ‹_›))
    refine zxt <| ztx <| ztx <| zbh <| ztn <| zsr ?_
    refine zs2 ?_
    refine zlv (xsub (r := mid + m - x)) ?_
    refine zlv xas ?_
    refine zlt <| zsq <| ?_
    refine zgcut (fun M w => ∃ (t : Int → Int), (t = rot s x m (mid + m - x)) ∧ M = [(0, vd), (1, .int .i64 a), (2, .int .i64 m), (3, .int .i64 b), (4, .func (.func 139) #[] #[]), (18, .int .i64 mid), (19, .int .i64 (mid + m)), (20, .int .i64 x), (21, .int .i64 y), (22, .int .i64 (mid + m - 1)), (149, .int .i64 x), (150, .int .i64 y), (151, B (x < y)), (175, .int .i64 (mid + m)), (176, .int .i64 x), (177, .int .i64 (mid + m - x)), (24, .int .i64 (mid + m - x))] ∧ Sat w0 w [.own vd 2 111 n (ucells (fun z9 => pv (t z9)) (fun z9 => cnt (t z9))), .sem F]) ?_ ?_
    ·
     refine zsr ?_
     refine zs4 ?_
     refine zlb 181 ?_ ?_ <;> intro hc
     ·
      refine zs4 ?_
      refine zlt ?_
      refine zcif ?_ ?_ <;> intro hc
      ·
       refine zrg ?_
       refine zs5 ?_
       refine zlc (xc0 cl_189) (c_rotU (s := s) (a := x) (m := m) (b := mid + m - x) w0 w hS hsl hn8 hone (by omega) (by omega) (by omega) (by omega)) ?_; rintro _ w ⟨rfl, hS⟩
       replace hS := hS.n2
       refine zln <| zgj ⟨(rot s x m (mid + m - x)), rfl, rfl, hS⟩
      refine zsk <| zgj ⟨s, (rot_triv (by omega) (by omega) (by omega)).symm, rfl, hS⟩
     iterate 3 refine zlo ?_
     refine zlv xpf ?_
     refine zlt <| zcf <| zsk <| zgj ⟨s, (rot_triv (by omega) (by omega) (by omega)).symm, rfl, hS⟩
    clear hS w; rintro M w ⟨t, ht, rfl, hS⟩
    have hdt := (rot_perm (a := s) (lo := x) (c := m) (hi := mid + m - x) (by omega) (by omega)).dom (n := n) (N := nm) (by omega) (.inl (by omega)) hd
    rw [← ht] at hdt
    have hH := merge_halves hw h1 h2 hp (s := x) (mid := mid) (e := mid + m - x) (by omega) (by omega) (by omega) (by omega) (by omega) (by rcases hq with hq | hq <;> rcases hx with hx | hx <;> first | exact .inl (by omega) | exact .inr (.inl (by omega)) | exact .inr (.inr hx)) (by rcases hq with hq | hq <;> rcases hy with hy | hy <;> first | exact .inl (by omega) | exact .inr (.inl (by omega)) | (refine .inr (.inr ?_); rw [show x = y by omega]; exact hy))
    rw [← ht] at hH
    refine ztn <| zsq <| ?_
    refine zgcut (fun M w => ∃ (t1 : Int → Int), (PermOn a mid t t1) ∧ (Srt (Tie lt) a mid t1) ∧ (∀ k, 0 ≤ k → k < n → 0 ≤ t1 k ∧ t1 k < nm) ∧ M = [(0, vd), (1, .int .i64 a), (2, .int .i64 m), (3, .int .i64 b), (4, .func (.func 139) #[] #[]), (18, .int .i64 mid), (19, .int .i64 (mid + m)), (20, .int .i64 x), (21, .int .i64 y), (22, .int .i64 (mid + m - 1)), (149, .int .i64 x), (150, .int .i64 y), (151, B (x < y)), (175, .int .i64 (mid + m)), (176, .int .i64 x), (177, .int .i64 (mid + m - x)), (24, .int .i64 (mid + m - x))] ∧ Sat w0 w [.own vd 2 111 n (ucells (fun z9 => pv (t1 z9)) (fun z9 => cnt (t1 z9))), .sem F]) ?_ ?_
    ·
     refine zsr ?_
     refine zs4 ?_
     refine zlb 195 ?_ ?_ <;> intro hc
     ·
      refine zs4 ?_
      refine zlt ?_
      refine zcif ?_ ?_ <;> intro hc
      ·
       refine zrg ?_
       refine zs5 ?_
       refine zlc (xc0 cl_180) (ih (s := t) (a := a) (m := x) (b := mid) w0 w hS hcmp hdt (by omega) (by omega) (by omega) (by omega) (hH.l1) (hH.l2) (hH.pl) (by omega)) ?_; rintro _ w ⟨rfl, u1, hpu1, hsu1, hS⟩
       have hdu1 := hpu1.dom (by omega) (.inl (by omega)) hdt
       replace hS := hS.n2
       refine zln <| zgj ⟨u1, hpu1, hsu1, hdu1, rfl, hS⟩
      refine zsk <| zgj ⟨t, (.refl _ _ _), (hH.left (by first | omega | (rintro ⟨h3, h4⟩; omega)) (by omega) (by omega)), hdt, rfl, hS⟩
     iterate 3 refine zlo ?_
     refine zlv xpf ?_
     refine zlt <| zcf <| zsk <| zgj ⟨t, (.refl _ _ _), (hH.left (by first | omega | (rintro ⟨h3, h4⟩; omega)) (by omega) (by omega)), hdt, rfl, hS⟩
    clear hS w; rintro M w ⟨t1, hq1, hq2, hdt1, rfl, hS⟩
    have hH2 : Halves lt a a mid (mid + m - x) b t1 := Halves.after hH hq1 hq2 (by omega) (by omega)
    refine ztn <| zsr ?_
    refine zs4 ?_
    refine zlb 209 ?_ ?_ <;> intro hc
    ·
     refine zs4 ?_
     refine zlt ?_
     refine zcif ?_ ?_ <;> intro hc
     ·
      refine zrg ?_
      refine zs5 ?_
      refine zlc (xc0 cl_180) (ih (s := t1) (a := mid) (m := mid + m - x) (b := b) w0 w hS hcmp hdt1 (by omega) (by omega) (by omega) (by omega) (hH2.r1) (hH2.r2) (hH2.pr) (by omega)) ?_; rintro _ w ⟨rfl, u1, hpu1, hsu1, hS⟩
      have hdu1 := hpu1.dom (by omega) (.inl (by omega)) hdt1
      replace hS := hS.n2
      refine zln <| zfn0 ⟨_, rfl, ?_⟩
      refine ⟨rfl, u1, ((((rot_perm (a := s) (lo := x) (c := m) (hi := mid + m - x) (by omega) (by omega)).mono (by omega) (by omega) : PermOn a b s _)).trans (ht ▸ hq1.mono (by omega) (by omega))).trans (hpu1.mono (by omega) (by omega)), ?_, hS⟩
      exact hH.join hw (by omega) (by omega) hq1 hq2 hpu1 hsu1
     refine zsk <| zfn0 ⟨_, rfl, ?_⟩
     refine ⟨rfl, t1, (((rot_perm (a := s) (lo := x) (c := m) (hi := mid + m - x) (by omega) (by omega)).mono (by omega) (by omega) : PermOn a b s _)).trans (ht ▸ hq1.mono (by omega) (by omega)), ?_, hS⟩
     exact hH.join hw (by omega) (by omega) hq1 hq2 (.refl _ _ _) (hH2.right (by first | omega | (rintro ⟨h3, h4⟩; omega)) (by omega) (by omega))
    iterate 3 refine zlo ?_
    refine zlv xpf ?_
    refine zlt <| zcf <| zsk <| zfn0 ⟨_, rfl, ?_⟩
    refine ⟨rfl, t1, (((rot_perm (a := s) (lo := x) (c := m) (hi := mid + m - x) (by omega) (by omega)).mono (by omega) (by omega) : PermOn a b s _)).trans (ht ▸ hq1.mono (by omega) (by omega)), ?_, hS⟩
    exact hH.join hw (by omega) (by omega) hq1 hq2 (.refl _ _ _) (hH2.right (by first | omega | (rintro ⟨h3, h4⟩; omega)) (by omega) (by omega))
set_option maxHeartbeats 4000000 in
set_option maxRecDepth 20000 in
theorem c_stableU {vd : Value} {n nm : Int} {s : Int → Int} {pv : Int → Value} {cnt : Int → Int} {lt : Int → Int → Prop} {F : Go.Proofs.Gw.Frame} (w0 w : World) (hS : Sat w0 w [.own vd 2 111 n (ucells (fun z9 => pv (s z9)) (fun z9 => cnt (s z9))), .sem F]) (hsl : Slh vd n) (hn8 : n ≤ 100000000) (hone : ∀ x, (pv x).oneCell' = true) (hcmp : ∀ (w : World) (x y : Int), 0 ≤ x → x < nm → 0 ≤ y → y < nm → Below w0.heap.size w0 w → F.holds w → Calls Tryz.prog 139 [.agg #[pv x, .int .i64 (cnt x)], .agg #[pv y, .int .i64 (cnt y)]].toArray w fun e w' => ∃ v, e = .returned v ∧ ∃ c : Int, v = .int .i64 c ∧ (c < 0 ↔ lt x y) ∧ Sat w w' []) (hd : ∀ k, 0 ≤ k → k < n → 0 ≤ s k ∧ s k < nm) (hw : Swo lt) (hinc : Incr 0 n s) :
    Calls Tryz.prog 161 [vd, .int .i64 n, .func (.func 139) #[] #[]].toArray w fun e w => ∃ v, e = .returned v ∧ v = .tuple #[] ∧ ∃ t : Int → Int, PermOn 0 n s t ∧ Srt (Tie lt) 0 n t ∧ Sat w0 w [.own vd 2 111 n (ucells (fun z9 => pv (t z9)) (fun z9 => cnt (t z9))), .sem F] := by
  have hn0 := hsl.n0
  refine zenF Tryz.func161 Tryz.ntmps161 ?_
  refine zsr ?_
  refine zlv xas ?_
  refine zlz ?_
  refine zs3 ?_
  refine zlt <| zsq <| zbk <| zlp (fun mm M w => ∃ (t : Int → Int) (a : Int) (b : Int), mm = ((n - a).toNat) ∧ (0 ≤ a) ∧ (a ≤ n) ∧ (b = a + 20) ∧ ((20 : Int) ∣ a) ∧ (PermOn 0 a s t) ∧ (Runs_ lt 20 n 0 a t) ∧ (∀ k, 0 ≤ k → k < n → 0 ≤ t k ∧ t k < nm) ∧ M = [(0, vd), (1, .int .i64 n), (2, .func (.func 139) #[] #[]), (6, .int .i64 20), (7, .int .i64 a), (8, .int .i64 b)] ∧ Sat w0 w [.own vd 2 111 n (ucells (fun z9 => pv (t z9)) (fun z9 => cnt (t z9))), .sem F]) ⟨s, 0, 20, rfl, (by omega), (by omega), (by omega), ?_, ?_, ?_, ?_, rfl, hS⟩ ?_
  ·
   exact Int.dvd_zero 20
  ·
   exact .refl _ _ _
  ·
   intro c c0 c1; omega
  ·
   exact hd
  clear hS w
  rintro mm M w ⟨t, a, b, rfl, a0, a1, hb, hda, hp, hr, hd1, rfl, hS⟩
  refine zsq <| zsr ?_
  refine zs3 ?_
  refine zlt ?_
  refine zcif ?_ ?_ <;> intro hc
  ·
   refine zsk <| ztn <| zbk <| zsr ?_
   refine zs4 ?_
   refine zlc (xc0 cl_179) (c_insU (s := t) (a := a) (b := b) w0 w hS hsl hn8 hone hcmp hd1 hw (by omega) (by omega) (by omega) (incr_keep hp hinc (by omega) (by omega) (by omega))) ?_; rintro _ w ⟨rfl, u1, hpu1, hsu1, hS⟩
   have hdu1 := hpu1.dom (by omega) (.inl (by omega)) hd1
   replace hS := hS.n2
   refine zlz ?_
   refine zs2 ?_
   refine zlt <| zrg ?_
   refine zs2 ?_
   refine zlv (xadd (r := b + 20)) ?_
   refine zlv xas ?_
   refine zln <| zbn <| zlq ⟨u1, b, b + 20, rfl, (by omega), (by omega), (by omega), ?_, ?_, ?_, ?_, rfl, hS⟩
   ·
    rw [hb]; exact Int.dvd_add hda (Int.dvd_refl 20)
   ·
    exact (hp.mono (by omega) (by omega)).trans (hpu1.mono (by omega) (by omega))
   ·
    exact runs_first (by omega) hinc hr a0 hda hp hpu1 hsu1 (.inl ⟨hb, by omega⟩) (by omega)
   ·
    exact hdu1
  refine zxt <| ztx <| ztx <| zbh <| ztn <| zsr ?_
  refine zs4 ?_
  refine zlc (xc0 cl_179) (c_insU (s := t) (a := a) (b := n) w0 w hS hsl hn8 hone hcmp hd1 hw (by omega) (by omega) (by omega) (incr_keep hp hinc (by omega) (by omega) (by omega))) ?_; rintro _ w ⟨rfl, u1, hpu1, hsu1, hS⟩
  have hdu1 := hpu1.dom (by omega) (.inl (by omega)) hd1
  replace hS := hS.n2
  refine zlt <| zbk <| zlp (fun mm M w => ∃ (t2 : Int → Int) (z : Int), mm = ((n - z).toNat) ∧ (20 ≤ z) ∧ (z ≤ 2 * n + 20) ∧ (PermOn 0 n s t2) ∧ (Runs_ lt z n 0 n t2) ∧ (∀ k, 0 ≤ k → k < n → 0 ≤ t2 k ∧ t2 k < nm) ∧ M = [(0, vd), (1, .int .i64 n), (2, .func (.func 139) #[] #[]), (6, .int .i64 z)] ∧ Sat w0 w [.own vd 2 111 n (ucells (fun z9 => pv (t2 z9)) (fun z9 => cnt (t2 z9))), .sem F]) ⟨u1, 20, rfl, (by omega), (by omega), ?_, ?_, ?_, rfl, hS⟩ ?_
  ·
   exact (hp.mono (by omega) (by omega)).trans (hpu1.mono (by omega) (by omega))
  ·
   exact runs_first (by omega) hinc hr a0 hda hp hpu1 hsu1 (.inr ⟨rfl, by omega⟩) (by omega)
  ·
   exact hdu1
  clear hS w
  rintro mm M w ⟨t2, z, rfl, z0, z1, hp2, hr2, hd2, rfl, hS⟩
  refine zsq <| zsr ?_
  refine zs3 ?_
  refine zlt ?_
  refine zcif ?_ ?_ <;> intro hc
  ·
   refine zsk <| ztn <| zbk <| zsr ?_
   refine zlv xmv ?_
   refine zlv (xmul (r := 2 * z)) ?_
   refine zs2 ?_
   refine zlt <| zsq <| zbk <| zlp (fun mm M w => ∃ (t3 : Int → Int) (a3 : Int) (b3 : Int), mm = ((n - a3).toNat) ∧ (0 ≤ a3) ∧ (a3 ≤ n) ∧ (b3 = a3 + 2 * z) ∧ (2 * z ∣ a3) ∧ (PermOn 0 n s t3) ∧ (Runs_ lt (2 * z) n 0 a3 t3) ∧ (Runs_ lt z n a3 n t3) ∧ (∀ k, 0 ≤ k → k < n → 0 ≤ t3 k ∧ t3 k < nm) ∧ M = [(0, vd), (1, .int .i64 n), (2, .func (.func 139) #[] #[]), (6, .int .i64 z), (7, .int .i64 a3), (8, .int .i64 b3)] ∧ Sat w0 w [.own vd 2 111 n (ucells (fun z9 => pv (t3 z9)) (fun z9 => cnt (t3 z9))), .sem F]) ⟨t2, 0, 2 * z, rfl, (by omega), (by omega), (by omega), ?_, ?_, ?_, ?_, ?_, rfl, hS⟩ ?_
   ·
    exact Int.dvd_zero _
   ·
    exact hp2
   ·
    intro c c0 c1; omega
   ·
    exact hr2
   ·
    exact hd2
   clear hS w
   rintro mm M w ⟨t3, a3, b3, rfl, a30, a31, hb3, hda3, hp3, hA, hB, hd3, rfl, hS⟩
   refine zsq <| zsr ?_
   refine zs3 ?_
   refine zlt ?_
   refine zcif ?_ ?_ <;> intro hc
   ·
    refine zsk <| ztn <| zbk <| zsr ?_
    refine zs4 ?_
    refine zlv (xadd (r := a3 + z)) ?_
    refine zs2 ?_
    have hk := runs_pre (lt := lt) (z := z) (n := n) (a := a3) (b := b3) (t := t3) (by omega) a30 (Int.dvd_trans (Int.dvd_mul_left 2 z) hda3) hB (by omega) (by omega) (by omega)
    refine zlc (xc0 cl_180) (c_symU (nm := nm) (lt := lt) hsl hn8 hone hw _ (s := t3) (a := a3) (m := a3 + z) (b := b3) w0 w hS hcmp hd3 (by omega) (by omega) (by omega) (by omega) hk.1 hk.2.1 hk.2.2 (Nat.lt_succ_self _)) ?_; rintro _ w ⟨rfl, u2, hpu2, hsu2, hS⟩
    have hdu2 := hpu2.dom (by omega) (.inl (by omega)) hd3
    replace hS := hS.n2
    refine zlz ?_
    refine zs2 ?_
    refine zlt <| zrg ?_
    refine zs2 ?_
    refine zlv (xmul (r := 2 * z)) ?_
    refine zlv (xadd (r := b3 + 2 * z)) ?_
    refine zlv xas ?_
    refine zln <| zbn <| zlq ⟨u2, b3, b3 + 2 * z, rfl, (by omega), (by omega), (by omega), ?_, ?_, ?_, ?_, ?_, rfl, hS⟩
    ·
     rw [hb3]; exact Int.dvd_add hda3 (Int.dvd_refl _)
    ·
     exact hp3.trans (hpu2.mono (by omega) (by omega))
    ·
     exact (runs_merge (by omega) a30 hda3 hA hB hpu2 hsu2 (.inl ⟨hb3, by omega⟩) (by omega)).1
    ·
     exact (runs_merge (by omega) a30 hda3 hA hB hpu2 hsu2 (.inl ⟨hb3, by omega⟩) (by omega)).2
    ·
     exact hdu2
   refine zxt <| ztx <| ztx <| zbh <| ztn <| zsq <| zsr ?_
   refine zs2 ?_
   refine zlv (xadd (r := a3 + z)) ?_
   refine zlv xas ?_
   refine zlz ?_
   refine zs3 ?_
   refine zlt ?_
   refine zcif ?_ ?_ <;> intro hc
   ·
    refine zrg ?_
    refine zs5 ?_
    have hk := runs_pre (lt := lt) (z := z) (n := n) (a := a3) (b := n) (t := t3) (by omega) a30 (Int.dvd_trans (Int.dvd_mul_left 2 z) hda3) hB (by omega) (by omega) (by omega)
    refine zlc (xc0 cl_180) (c_symU (nm := nm) (lt := lt) hsl hn8 hone hw _ (s := t3) (a := a3) (m := a3 + z) (b := n) w0 w hS hcmp hd3 (by omega) (by omega) (by omega) (by omega) hk.1 hk.2.1 hk.2.2 (Nat.lt_succ_self _)) ?_; rintro _ w ⟨rfl, u2, hpu2, hsu2, hS⟩
    have hdu2 := hpu2.dom (by omega) (.inl (by omega)) hd3
    replace hS := hS.n2
    refine zlt <| zrg ?_
    refine zlv xmv ?_
    refine zlv (xmul (r := 2 * z)) ?_
    refine zlv xas ?_
    refine zln <| zbn <| zlq ⟨u2, 2 * z, rfl, (by omega), (by omega), ?_, ?_, ?_, rfl, hS⟩
    ·
     first | exact hp3.trans (hpu2.mono (by omega) (by omega)) | exact hp3
    ·
     first | exact (runs_merge (by omega) a30 hda3 hA hB hpu2 hsu2 (.inr ⟨rfl, by omega⟩) (by omega)).1 | exact runs_end (by omega) a30 hda3 hA hB (by omega) (by omega)
    ·
     first | exact hdu2 | exact hd3
   refine zsk <| ztn <| zrg ?_
   refine zlv xmv ?_
   refine zlv (xmul (r := 2 * z)) ?_
   refine zlv xas ?_
   refine zln <| zbn <| zlq ⟨t3, 2 * z, rfl, (by omega), (by omega), ?_, ?_, ?_, rfl, hS⟩
   ·
    first | exact hp3.trans (hpu2.mono (by omega) (by omega)) | exact hp3
   ·
    first | exact (runs_merge (by omega) a30 hda3 hA hB hpu2 hsu2 (.inr ⟨rfl, by omega⟩) (by omega)).1 | exact runs_end (by omega) a30 hda3 hA hB (by omega) (by omega)
   ·
    first | exact hdu2 | exact hd3
  refine zxt <| ztx <| ztx <| zbh <| zfn0 ⟨_, rfl, ?_⟩
  exact ⟨rfl, t2, hp2, runs_all hr2 (by omega), hS⟩
set_option maxRecDepth 20000 in
theorem c_sortsU {vd : Value} {n nm : Int} {s : Int → Int} {pv : Int → Value} {cnt : Int → Int} {lt : Int → Int → Prop} {F : Go.Proofs.Gw.Frame} (w0 w : World) (hS : Sat w0 w [.own vd 2 111 n (ucells (fun z9 => pv (s z9)) (fun z9 => cnt (s z9))), .sem F]) (hsl : Slh vd n) (hn8 : n ≤ 100000000) (hone : ∀ x, (pv x).oneCell' = true) (hcmp : ∀ (w : World) (x y : Int), 0 ≤ x → x < nm → 0 ≤ y → y < nm → Below w0.heap.size w0 w → F.holds w → Calls Tryz.prog 139 [.agg #[pv x, .int .i64 (cnt x)], .agg #[pv y, .int .i64 (cnt y)]].toArray w fun e w' => ∃ v, e = .returned v ∧ ∃ c : Int, v = .int .i64 c ∧ (c < 0 ↔ lt x y) ∧ Sat w w' []) (hd : ∀ k, 0 ≤ k → k < n → 0 ≤ s k ∧ s k < nm) (hw : Swo lt) (hinc : Incr 0 n s) :
    Calls Tryz.prog 138 [vd, .func (.func 139) #[] #[]].toArray w fun e w => ∃ v, e = .returned v ∧ v = .tuple #[] ∧ ∃ t : Int → Int, PermOn 0 n s t ∧ Srt (Tie lt) 0 n t ∧ Sat w0 w [.own vd 2 111 n (ucells (fun z9 => pv (t z9)) (fun z9 => cnt (t z9))), .sem F] := by
  refine zenF Tryz.func138 Tryz.ntmps138 ?_
  refine zrg ?_
  refine zs2 ?_
  refine zlv (xln sl_60 hsl) ?_
  refine zlv xmv ?_
  refine zlc (xc0 cl_161) (c_stableU (s := s) w0 w hS hsl hn8 hone hcmp hd hw hinc) ?_; rintro _ w ⟨rfl, u1, hpu1, hsu1, hS⟩
  replace hS := hS.n2
  refine zln <| zfn0 ⟨_, rfl, ?_⟩
  exact ⟨rfl, u1, hpu1, hsu1, hS⟩
theorem c_isnan {x : Int} (w0 : World) :
    Calls Tryz.prog 181 [.int .i64 x].toArray w0 fun e w => ∃ v, e = .returned v ∧ v = .bool false ∧ Sat w0 w [] := by
  refine zenG Tryz.func181 Tryz.ntmps181 fun w hS => ?_
  refine zsr ?_
  refine zlv xas ?_
  refine zlz ?_
  refine zs2 ?_
  refine zlv (xkf xneq) ?_
  refine zlv xas ?_
  refine zlt <| zrt <| zf1 ⟨_, rfl, ?_⟩
  exact ⟨rfl, hS⟩
def CmpR (x y c : Int) : Prop := (c = -1 ∧ x < y) ∨ (c = 0 ∧ x = y) ∨ (c = 1 ∧ y < x)
theorem c_cmpi {x y : Int} (w0 : World) :
    Calls Tryz.prog 162 [.int .i64 x, .int .i64 y].toArray w0 fun e w => ∃ v, e = .returned v ∧ ∃ c : Int, v = .int .i64 c ∧ CmpR x y c ∧ Sat w0 w [] := by
  refine zenG Tryz.func162 Tryz.ntmps162 fun w hS => ?_
  refine zsr ?_
  refine zlv xas ?_
  refine zlz ?_
  refine zlv xmv ?_
  refine zlc (xc0 cl_181) (c_isnan (x := x) w) ?_; rintro _ w ⟨rfl, hS'⟩
  replace hS := hS.cmp hS'; clear hS'
  refine zlv xas ?_
  refine zlz ?_
  refine zlv xmv ?_
  refine zlc (xc0 cl_181) (c_isnan (x := y) w) ?_; rintro _ w ⟨rfl, hS'⟩
  replace hS := hS.cmp hS'; clear hS'
  refine zlv xas ?_
  refine zlt <| zsq <| zsr ?_
  refine zlv xmv ?_
  refine zlt <| zcf <| zsk <| ztn <| zsq <| zsr ?_
  refine zlv xmv ?_
  refine zlt <| zcf <| zsk <| ztn <| zsq <| zsr ?_
  refine zs3 ?_
  refine zlt ?_
  refine zcif ?_ ?_ <;> intro hc
  ·
   refine zsr ?_
   refine zlv xas ?_
   refine zlt <| zrt <| ztr <| zf1 ⟨_, rfl, ?_⟩
   exact ⟨(-1), rfl, by unfold CmpR; omega, hS⟩
  refine zsk <| ztn <| zsq <| zsr ?_
  refine zs3 ?_
  refine zlt ?_
  refine zcif ?_ ?_ <;> intro hc
  ·
   refine zsr ?_
   refine zlv xas ?_
   refine zlt <| zrt <| ztr <| zf1 ⟨_, rfl, ?_⟩
   exact ⟨1, rfl, by unfold CmpR; omega, hS⟩
  refine zsk <| ztn <| zsr ?_
  refine zlv xas ?_
  refine zlt <| zrt <| zf1 ⟨_, rfl, ?_⟩
  exact ⟨0, rfl, by unfold CmpR; omega, hS⟩
set_option maxRecDepth 20000 in
theorem c_scmp {vA vB : Value} {n m : Int} {f g : Int → Int} (w0 : World) (hA : Row w0 vA 1 n (ints f)) (hB : Row w0 vB 1 m (ints g)) :
    Calls Tryz.prog 140 [vA, vB].toArray w0 fun e w => ∃ v, e = .returned v ∧ ∃ c : Int, v = .int .i64 c ∧ (c < 0 ↔ ahd (lst m g) (lst n f)) ∧ Sat w0 w [] := by
  have hn := hA.slh.n0; have hn1 := hA.slh.n1; have hm := hB.slh.n0; have hm1 := hB.slh.n1
  refine zenG Tryz.func140 Tryz.ntmps140 fun w hS => ?_
  refine zsr ?_
  refine zlv xas ?_
  refine zlt <| zsq <| zsr ?_
  refine zlv xmv ?_
  refine zlv (xln sl_22 hA.slh) ?_
  refine zlv xmv ?_
  refine zlt <| zbk <| zlp (fun mm M w => ∃ (i : Int), mm = ((n - i).toNat) ∧ (0 ≤ i) ∧ (i ≤ n) ∧ (i ≤ m) ∧ (∀ k, 0 ≤ k → k < i → f k = g k) ∧ M = [(0, vA), (1, vB), (9, vA), (10, .int .i64 n), (11, .int .i64 i)] ∧ Sat w0 w []) ⟨0, rfl, (by omega), (by omega), (by omega), ?_, rfl, hS⟩ ?_
  ·
   intro k h0 h1; omega
  clear hS w
  rintro mm M w ⟨i, rfl, h0, h1, h2, hall, rfl, hS⟩
  refine zsr ?_
  refine zlv xlss ?_
  refine zlt <| zsq ?_
  refine zcif ?_ ?_ <;> intro hc
  ·
   refine zsk <| ztn <| zsq <| zbk <| zsr ?_
   refine zlv xmv ?_
   refine zlv (xix (kk := i) sl_22 hA.slh) ?_
   refine zlv (xlr (u := .int .i64 (f i)) pl_3 (hA.below hS.below)) ?_
   refine zs2 ?_
   refine zlt <| zsq <| zsr ?_
   refine zs2 ?_
   refine zlv (xln sl_22 hB.slh) ?_
   refine zlv xgeq ?_
   refine zlt ?_
   refine zcif ?_ ?_ <;> intro hc
   ·
    refine zsr ?_
    refine zlv xas ?_
    refine zlt <| zrt <| ztr <| zbr <| ztr <| ztr <| zbr <| ztr <| zf1 ⟨_, rfl, ?_⟩
    exact ⟨1, rfl, ⟨fun h => by omega, fun h => absurd h (ahd_asym (ahd_long (by omega) (by omega) (fun k k0 k1 => hall k k0 (by omega))))⟩, hS⟩
   refine zsk <| ztn <| zsr ?_
   refine zs2 ?_
   refine zlv (xix (kk := i) sl_22 hB.slh) ?_
   refine zlv (xlr (u := .int .i64 (g i)) pl_3 (hB.below hS.below)) ?_
   refine zlv xas ?_
   refine zlz ?_
   refine zs2 ?_
   refine zlc (xc0 cl_162) (c_cmpi (x := (f i)) (y := (g i)) w) ?_; rintro _ w ⟨c1, rfl, hc1, hS'⟩
   replace hS := hS.cmp hS'; clear hS'
   refine zlv xas ?_
   refine zlz ?_
   refine zs2 ?_
   refine zlt ?_
   refine zcif ?_ ?_ <;> intro hc
   ·
    refine zsr ?_
    refine zs2 ?_
    refine zlt <| zrt <| zbr <| ztr <| ztr <| zbr <| ztr <| zf1 ⟨_, rfl, ?_⟩
    exact ⟨c1, rfl, ⟨fun h => ahd_gt (j := i) (by omega) (by omega) (by omega) (fun k k0 k1 => (hall k k0 k1).symm) (by unfold CmpR at hc1; omega), fun h => by
        unfold CmpR at hc1
        by_cases h9 : c1 < 0
        · exact h9
        · exact absurd h (ahd_asym (ahd_gt (j := i) (by omega) (by omega) (by omega) (fun k k0 k1 => hall k k0 k1) (by omega)))⟩, hS⟩
   refine zsk <| zbn <| ztn <| zrg ?_
   refine zlv (xadd (r := i + 1)) ?_
   refine zlv xmv ?_
   refine zln <| zlq ⟨i + 1, rfl, (by omega), (by omega), (by omega), ?_, rfl, hS⟩
   ·
    intro k h0' h1'; rcases Int.lt_or_eq_of_le (show k ≤ i by omega) with hk | hk; exact hall k h0' hk; rw [hk]; (unfold CmpR at hc1; omega)
  refine zxt <| ztx <| ztx <| zbh <| ztn <| zsq <| zsr ?_
  refine zlv xmv ?_
  refine zlv (xln sl_22 hA.slh) ?_
  refine zlv xmv ?_
  refine zlv (xln sl_22 hB.slh) ?_
  refine zlv xlss ?_
  refine zlt ?_
  refine zcif ?_ ?_ <;> intro hc
  ·
   refine zsr ?_
   refine zlv xas ?_
   refine zlt <| zrt <| ztr <| zf1 ⟨_, rfl, ?_⟩
   exact ⟨(-1), rfl, ⟨fun _ => ahd_long (by omega) (by omega) (fun k k0 k1 => (hall k k0 (by omega)).symm), fun _ => by omega⟩, hS⟩
  refine zsk <| ztn <| zsr ?_
  refine zlv xas ?_
  refine zlt <| zrt <| zf1 ⟨_, rfl, ?_⟩
  exact ⟨0, rfl, ⟨fun h => by omega, fun h => absurd h (by rw [show n = m by omega]; exact ahd_same (fun k k0 k1 => (hall k k0 (by omega)).symm))⟩, hS⟩
set_option maxRecDepth 20000 in
theorem c_ncmp {vA vB : Value} {n m : Int} {f g : Int → Int} {a b : Int} (w0 : World) (hA : Row w0 vA 1 n (ints f)) (hB : Row w0 vB 1 m (ints g)) :
    Calls Tryz.prog 139 [.agg #[vA, .int .i64 a], .agg #[vB, .int .i64 b]].toArray w0 fun e w => ∃ v, e = .returned v ∧ ∃ c : Int, v = .int .i64 c ∧ (c < 0 ↔ ahd (lst n f) (lst m g)) ∧ Sat w0 w [] := by
  refine zenG Tryz.func139 Tryz.ntmps139 fun w hS => ?_
  refine zsr ?_
  refine zla (xbx (cs := [_, _]) hS) ?_; rintro _ w ⟨g1, rfl, hS⟩
  replace hS := hS.n1
  refine zla (xbx (cs := [_, _]) hS) ?_; rintro _ w ⟨g2, rfl, hS⟩
  replace hS := hS.n2
  refine zlv xas ?_
  refine zlz ?_
  refine zlv (xfb 0 fd_111_0) ?_
  refine zlv (xlb 1 pl_22 hS) ?_
  refine zlv (xfb 0 fd_111_0) ?_
  refine zlv (xlb 0 pl_22 hS) ?_
  refine zlc (xc0 cl_140) (c_scmp (n := m) (f := g) (m := n) (g := f) w (hB.below hS.below) (hA.below hS.below)) ?_; rintro _ w ⟨c1, rfl, hc1, hS'⟩
  replace hS := hS.cmp hS'; clear hS'
  refine zlv xas ?_
  refine zlt <| zrt <| zf1 ⟨_, rfl, ?_⟩
  exact ⟨_, rfl, hc1, hS.nl⟩
set_option maxRecDepth 20000 in
theorem c_eqs {vA vB : Value} {n m : Int} {f g : Int → Int} (w0 : World) (hA : Row w0 vA 1 n (ints f)) (hB : Row w0 vB 1 m (ints g)) :
    Calls Tryz.prog 135 [vA, vB].toArray w0 fun e w => ∃ v, e = .returned v ∧ v = B (lst n f = lst m g) ∧ Sat w0 w [] := by
  have hn := hA.slh.n0; have hn1 := hA.slh.n1; have hm := hB.slh.n0; have hm1 := hB.slh.n1
  refine zenG Tryz.func135 Tryz.ntmps135 fun w hS => ?_
  refine zsr ?_
  refine zlv xas ?_
  refine zlt <| zsq <| zsr ?_
  refine zlv xmv ?_
  refine zlv (xln sl_22 hA.slh) ?_
  refine zlv xmv ?_
  refine zlv (xln sl_22 hB.slh) ?_
  refine zlv xneq ?_
  refine zlt ?_
  refine zcif ?_ ?_ <;> intro hc
  ·
   refine zsr ?_
   refine zlv xas ?_
   refine zlt <| zrt <| ztr <| zf1 ⟨_, rfl, ?_⟩
   exact ⟨false_B (by intro hh; have h9 := (lst_eq hn hm).1 hh; first | omega | (have := h9.2 i h0 (by omega); omega)), hS⟩
  refine zsk <| ztn <| zsq <| zsr ?_
  refine zlv xmv ?_
  refine zlv (xln sl_22 hA.slh) ?_
  refine zlv xmv ?_
  refine zlt <| zbk <| zlp (fun mm M w => ∃ (i : Int), mm = ((n - i).toNat) ∧ (0 ≤ i) ∧ (i ≤ n) ∧ (∀ k, 0 ≤ k → k < i → f k = g k) ∧ M = [(0, vA), (1, vB), (12, .int .i64 n), (13, .int .i64 i)] ∧ Sat w0 w []) ⟨0, rfl, (by omega), (by omega), ?_, rfl, hS⟩ ?_
  ·
   intro k h0 h1; omega
  clear hS w
  rintro mm M w ⟨i, rfl, h0, h1, hall, rfl, hS⟩
  refine zsr ?_
  refine zlv xlss ?_
  refine zlt <| zsq ?_
  refine zcif ?_ ?_ <;> intro hc
  ·
   refine zsk <| ztn <| zsq <| zbk <| zsr ?_
   refine zs2 ?_
   refine zlt <| zsq ?_
   refine zdst [] [] 1000 mx_ hS ?_; clear hS; intro w hS
   refine zdv 0 (fun _ => xmv) ?_
   refine zdv 1 (fun _ => xmv) ?_
   refine zdv 2 (fun _ => (xix (kk := i) sl_22 hA.slh)) ?_
   refine zdla 3 (fun w hS => (xlr (u := .int .i64 (f i)) pl_3 (hA.below hS.below))) ?_
   refine zdv 4 (fun _ => xmv) ?_
   refine zdv 5 (fun _ => xmv) ?_
   refine zdv 6 (fun _ => (xix (kk := i) sl_22 hB.slh)) ?_
   refine zdla 7 (fun w hS => (xlr (u := .int .i64 (g i)) pl_3 (hB.below hS.below))) ?_
   refine zdv 8 (fun _ => xneq) ?_
   refine zdd <| ztn ?_
   refine zcif ?_ ?_ <;> intro hc
   ·
    refine zsr ?_
    refine zlv xas ?_
    refine zlt <| zrt <| zbr <| ztr <| ztr <| zbr <| ztr <| zf1 ⟨_, rfl, ?_⟩
    exact ⟨false_B (by intro hh; have h9 := (lst_eq hn hm).1 hh; first | omega | (have := h9.2 i h0 (by omega); omega)), hS⟩
   refine zsk <| zbn <| ztn <| zrg ?_
   refine zlv (xadd (r := i + 1)) ?_
   refine zlv xmv ?_
   refine zln <| zlq ⟨i + 1, rfl, (by omega), (by omega), ?_, rfl, hS⟩
   ·
    intro k h0' h1'; rcases Int.lt_or_eq_of_le (show k ≤ i by omega) with hk | hk; exact hall k h0' hk; rw [hk]; omega
  refine zxt <| ztx <| ztx <| zbh <| ztn <| zsr ?_
  refine zlv xas ?_
  refine zlt <| zrt <| zf1 ⟨_, rfl, ?_⟩
  exact ⟨true_B (by exact (lst_eq hn hm).2 ⟨by omega, fun k k0 k1 => hall k k0 (by omega)⟩), hS⟩
set_option maxRecDepth 20000 in
theorem c_nn1 {vB : Value} {m b : Int} {g : Int → Int} {vA : Value} {n a : Int} {f : Int → Int} {gu : Nat} (w0 : World) (hG : (Ent.blk gu [vA, .int .i64 a]).holds w0) (hA : Row w0 vA 1 n (ints f)) (hB : Row w0 vB 1 m (ints g)) :
    Calls Tryz.prog 134 [.agg #[vB, .int .i64 b], .pointer (some ⟨gu, 0, none⟩)].toArray w0 fun e w => ∃ v, e = .returned v ∧ v = B (lst n f = lst m g) ∧ Sat w0 w [] := by
  refine zenG Tryz.func134 Tryz.ntmps134 fun w hS => ?_
  refine zsr ?_
  refine zla (xbx (cs := [_, _]) hS) ?_; rintro _ w ⟨g1, rfl, hS⟩
  replace hS := hS.n1
  refine zlv xas ?_
  refine zlz ?_
  refine zlv (xfb 0 fd_111_0) ?_
  refine zlv (xlf pl_22 (Ent.holds.cell hG (o := 0) rfl) hS) ?_
  refine zlv (xfb 0 fd_111_0) ?_
  refine zlv (xlb 0 pl_22 hS) ?_
  refine zlc (xc0 cl_135) (c_eqs (n := n) (f := f) (m := m) (g := g) w (hA.below hS.below) (hB.below hS.below)) ?_; rintro _ w ⟨rfl, hS'⟩
  replace hS := hS.cmp hS'; clear hS'
  refine zlv xas ?_
  refine zlt <| zrt <| zf1 ⟨_, rfl, ?_⟩
  exact ⟨rfl, hS.nl⟩
set_option maxRecDepth 20000 in
theorem c_ixn1 {vV : Value} {u : Int} {pv : Int → Value} {ln : Int → Int} {pt : Int → Int → Int} {cnt : Int → Int} {vA : Value} {n a : Int} {f : Int → Int} {gu : Nat} (w0 : World) (hV : VAt w0 vV u pv ln pt cnt) (hG : (Ent.blk gu [vA, .int .i64 a]).holds w0) (hA : Row w0 vA 1 n (ints f)) :
    Calls Tryz.prog 133 [vV, .func (.func 134) #[] #[.pointer (some ⟨gu, 0, none⟩)]].toArray w0 fun e w => ∃ v, e = .returned v ∧ ∃ r : Int, v = .int .i64 r ∧ ((r = -1 ∧ ∀ k, 0 ≤ k → k < u → ¬ (lst n f = lst (ln k) (pt k))) ∨ (0 ≤ r ∧ r < u ∧ (lst n f = lst (ln r) (pt r)) ∧ ∀ k, 0 ≤ k → k < r → ¬ (lst n f = lst (ln k) (pt k)))) ∧ Sat w0 w [] := by
  have hn := hV.row.slh.n0; have hn1 := hV.row.slh.n1
  refine zenG Tryz.func133 Tryz.ntmps133 fun w hS => ?_
  refine zsr ?_
  refine zlv xas ?_
  refine zlt <| zsq <| zsr ?_
  refine zlv xmv ?_
  refine zlv (xln sl_60 hV.row.slh) ?_
  refine zlv xmv ?_
  refine zlt <| zbk <| zlp (fun mm M w => ∃ (i : Int), mm = ((u - i).toNat) ∧ (0 ≤ i) ∧ (i ≤ u) ∧ (∀ k, 0 ≤ k → k < i → ¬ (lst n f = lst (ln k) (pt k))) ∧ M = [(0, vV), (1, .func (.func 134) #[] #[.pointer (some ⟨gu, 0, none⟩)]), (7, .int .i64 u), (8, .int .i64 i)] ∧ Sat w0 w []) ⟨0, rfl, (by omega), (by omega), ?_, rfl, hS⟩ ?_
  ·
   intro k h0 h1; omega
  clear hS w
  rintro mm M w ⟨i, rfl, h0, h1, hall, rfl, hS⟩
  refine zsr ?_
  refine zlv xlss ?_
  refine zlt <| zsq ?_
  refine zcif ?_ ?_ <;> intro hc
  ·
   refine zsk <| ztn <| zsq <| zbk <| zsr ?_
   refine zs2 ?_
   refine zlz ?_
   refine zs3 ?_
   refine zlv (xix (kk := 2 * i) sl_60 hV.row.slh) ?_
   refine zlv (xlw (cs := [(pv i), .int .i64 (cnt i)]) st_111 (hV.row.below hS.below) (ucells_at (k := 2 * i) (i := i) pv cnt (by omega))) ?_
   refine zlc (xcc (vs := [_]) cl_134) (c_nn1 (n := n) (f := f) (m := (ln i)) (g := (pt i)) w (Sat.oldblk hS hG) (hA.below hS.below) ((hV.p i (by omega) (by omega)).below hS.below)) ?_; rintro _ w ⟨rfl, hS'⟩
   replace hS := hS.cmp hS'; clear hS'
   refine zlt ?_
   refine zcif ?_ ?_ <;> intro hc
   ·
    refine zsr ?_
    refine zs2 ?_
    refine zlt <| zrt <| zbr <| ztr <| ztr <| zbr <| ztr <| zf1 ⟨_, rfl, ?_⟩
    exact ⟨i, rfl, .inr ⟨by omega, by omega, ‹lst n f = lst (ln i) (pt i)›, hall⟩, hS⟩
   refine zsk <| zbn <| ztn <| zrg ?_
   refine zlv (xadd (r := i + 1)) ?_
   refine zlv xmv ?_
   refine zln <| zlq ⟨i + 1, rfl, (by omega), (by omega), ?_, rfl, hS⟩
   ·
    intro k h0' h1'; rcases Int.lt_or_eq_of_le (show k ≤ i by omega) with hk | hk; exact hall k h0' hk; rw [hk]; assumption
  refine zxt <| ztx <| ztx <| zbh <| ztn <| zsr ?_
  refine zlv xas ?_
  refine zlt <| zrt <| zf1 ⟨_, rfl, ?_⟩
  exact ⟨-1, rfl, .inl ⟨rfl, fun k h0 h1 => hall k h0 (by omega)⟩, hS⟩
set_option maxRecDepth 20000 in
theorem c_nn2 {vB : Value} {m b : Int} {g : Int → Int} (w0 : World) (hB : Row w0 vB 1 m (ints g)) :
    Calls Tryz.prog 137 [.agg #[vB, .int .i64 b]].toArray w0 fun e w => ∃ v, e = .returned v ∧ v = B (b < 1) ∧ Sat w0 w [] := by
  refine zenG Tryz.func137 Tryz.ntmps137 fun w hS => ?_
  refine zsr ?_
  refine zla (xbx (cs := [_, _]) hS) ?_; rintro _ w ⟨g1, rfl, hS⟩
  replace hS := hS.n1
  refine zlv xas ?_
  refine zlz ?_
  refine zlv (xfb 1 fd_111_1) ?_
  refine zlv (xlb 0 pl_3 hS) ?_
  refine zs2 ?_
  refine zlt <| zrt <| zf1 ⟨_, rfl, ?_⟩
  exact ⟨rfl, hS.nl⟩
set_option maxRecDepth 20000 in
theorem c_ixn2 {vV : Value} {u : Int} {pv : Int → Value} {ln : Int → Int} {pt : Int → Int → Int} {cnt : Int → Int} (w0 : World) (hV : VAt w0 vV u pv ln pt cnt) (hpc : ∀ k, 0 ≤ k → k < u → 1 ≤ cnt k) :
    Calls Tryz.prog 133 [vV, .func (.func 137) #[] #[]].toArray w0 fun e w => ∃ v, e = .returned v ∧ v = .int .i64 (-1) ∧ Sat w0 w [] := by
  have hn := hV.row.slh.n0; have hn1 := hV.row.slh.n1
  refine zenG Tryz.func133 Tryz.ntmps133 fun w hS => ?_
  refine zsr ?_
  refine zlv xas ?_
  refine zlt <| zsq <| zsr ?_
  refine zlv xmv ?_
  refine zlv (xln sl_60 hV.row.slh) ?_
  refine zlv xmv ?_
  refine zlt <| zbk <| zlp (fun mm M w => ∃ (i : Int), mm = ((u - i).toNat) ∧ (0 ≤ i) ∧ (i ≤ u) ∧ M = [(0, vV), (1, .func (.func 137) #[] #[]), (7, .int .i64 u), (8, .int .i64 i)] ∧ Sat w0 w []) ⟨0, rfl, (by omega), (by omega), rfl, hS⟩ ?_
  clear hS w
  rintro mm M w ⟨i, rfl, h0, h1, rfl, hS⟩
  refine zsr ?_
  refine zlv xlss ?_
  refine zlt <| zsq ?_
  refine zcif ?_ ?_ <;> intro hc
  ·
   refine zsk <| ztn <| zsq <| zbk <| zsr ?_
   refine zs2 ?_
   refine zlz ?_
   refine zs3 ?_
   refine zlv (xix (kk := 2 * i) sl_60 hV.row.slh) ?_
   refine zlv (xlw (cs := [(pv i), .int .i64 (cnt i)]) st_111 (hV.row.below hS.below) (ucells_at (k := 2 * i) (i := i) pv cnt (by omega))) ?_
   refine zlc (xc0 cl_137) (c_nn2 (b := (cnt i)) w ((hV.p i (by omega) (by omega)).below hS.below)) ?_; rintro _ w ⟨rfl, hS'⟩
   replace hS := hS.cmp hS'; clear hS'
   refine zlt ?_
   refine zcif ?_ ?_ <;> intro hc
   ·
    refine zsr ?_
    refine zs2 ?_
    refine zlt <| zrt <| zbr <| ztr <| ztr <| zbr <| ztr <| zf1 ⟨_, rfl, ?_⟩
    have := hpc i h0 (by omega)
    omega
   refine zsk <| zbn <| ztn <| zrg ?_
   refine zlv (xadd (r := i + 1)) ?_
   refine zlv xmv ?_
   refine zln <| zlq ⟨i + 1, rfl, (by omega), (by omega), rfl, hS⟩
  refine zxt <| ztx <| ztx <| zbh <| ztn <| zsr ?_
  refine zlv xas ?_
  refine zlt <| zrt <| zf1 ⟨_, rfl, ?_⟩
  exact ⟨rfl, hS⟩
set_option maxRecDepth 20000 in
theorem c_delu {vV : Value} {u : Int} {pv : Int → Value} {ln : Int → Int} {pt : Int → Int → Int} {cnt : Int → Int} (w0 : World) (hV : VAt w0 vV u pv ln pt cnt) (hpc : ∀ k, 0 ≤ k → k < u → 1 ≤ cnt k) :
    Calls Tryz.prog 136 [vV, .func (.func 137) #[] #[]].toArray w0 fun e w => ∃ v, e = .returned v ∧ vV = v ∧ Sat w0 w [] := by
  refine zenG Tryz.func136 Tryz.ntmps136 fun w hS => ?_
  refine zsr ?_
  refine zlv xas ?_
  refine zlz ?_
  refine zs2 ?_
  refine zlc (xc0 cl_133) (c_ixn2 (u := u) (pv := pv) (ln := ln) (pt := pt) (cnt := cnt) w (hV.below hS.below) hpc) ?_; rintro _ w ⟨rfl, hS'⟩
  replace hS := hS.cmp hS'; clear hS'
  refine zlv xas ?_
  refine zlt <| zsq <| zsr ?_
  refine zlv xmv ?_
  refine zlv (xkt xeql) ?_
  refine zlt <| zct <| zsr ?_
  refine zs2 ?_
  refine zlt <| zrt <| ztr <| zf1 ⟨_, rfl, ?_⟩
  exact ⟨rfl, hS⟩
theorem norm_new {nO i : Int} {lO ln cO cnt : Int → Int} {gO pt : Int → Int → Int} (n0 : 0 ≤ nO) (i0 : 0 ≤ i) (hs : plL nO lO gO cO = sums (plL i ln pt cnt)) (hne : ∀ k, 0 ≤ k → k < nO → ¬ (lst (ln i) (pt i) = lst (lO k) (gO k))) :
    plL (nO + 1) (gsn lO nO (ln i)) (gsn gO nO (pt i)) (snoc cO nO (cnt i)) = sums (plL (i + 1) ln pt cnt) := by
  rw [plL_next i0, sums_snoc, ← hs, addU_new fun v hv e => by
    obtain ⟨j, hj⟩ := List.mem_iff_getElem?.1 hv
    rw [plL_get] at hj
    split at hj
    · injection hj with hj
      rw [← hj] at e
      exact hne j (by omega) (by assumption) e.symm
    · cases hj]
  exact plL_snoc n0 (fun k k0 k1 => ⟨gsn_lt k1, snoc_lt k1, gsn_lt k1⟩) (gsn_at (by omega)) (snoc_at (by omega)) (gsn_at (by omega))
theorem norm_at {nO i r : Int} {lO ln cO cnt : Int → Int} {gO pt : Int → Int → Int} (i0 : 0 ≤ i) (hs : plL nO lO gO cO = sums (plL i ln pt cnt)) (r0 : 0 ≤ r) (r1 : r < nO) (e : lst (ln i) (pt i) = lst (lO r) (gO r)) (hne : ∀ k, 0 ≤ k → k < r → ¬ (lst (ln i) (pt i) = lst (lO k) (gO k))) :
    plL nO lO gO (upd cO r (cO r + cnt i)) = sums (plL (i + 1) ln pt cnt) := by
  rw [plL_next i0, sums_snoc, ← hs, addU_at (j := r.toNat) (v := (lst (lO r) (gO r), cO r)) (by rw [plL_get, Int.toNat_of_nonneg r0, if_pos r1]) e.symm fun k hk w hw h => by
    rw [plL_get, if_pos (by omega)] at hw
    injection hw with hw
    rw [← hw] at h
    exact hne k (by omega) (by omega) h.symm]
  apply List.ext_getElem?
  intro k
  rw [List.getElem?_set, plL_get, plL_get, plL_len]
  unfold upd
  by_cases hk : (k : Int) < nO
  · rw [if_pos hk, if_pos hk]
    by_cases hr : r.toNat = k
    · have hr' : (k : Int) = r := by omega
      rw [if_pos hr', if_pos hr, if_pos (by omega), hr']
    · have hr' : ¬ (k : Int) = r := by omega
      rw [if_neg hr', if_neg hr]
  · rw [if_neg hk, if_neg hk, if_neg (by omega)]
theorem nb_new {cC : Int → Int} {nC B C x : Int} (h : ∀ k, 0 ≤ k → k < nC → 1 ≤ cC k ∧ cC k ≤ B) (hB : B ≤ C) (x1 : 1 ≤ x) (x2 : x ≤ C) : ∀ k, 0 ≤ k → k < nC + 1 → 1 ≤ snoc cC nC x k ∧ snoc cC nC x k ≤ C := fun k k0 k1 => by
  by_cases e : k < nC
  · rw [snoc_lt e]; have := h k k0 e; omega
  · rw [snoc_at e]; omega
theorem nb_at {cC : Int → Int} {nC B C x r : Int} (h : ∀ k, 0 ≤ k → k < nC → 1 ≤ cC k ∧ cC k ≤ B) (hB : B ≤ C) (x1 : 1 ≤ x) (x2 : x ≤ C) : ∀ k, 0 ≤ k → k < nC → 1 ≤ upd cC r x k ∧ upd cC r x k ≤ C := fun k k0 k1 => by
  unfold upd
  by_cases e : k = r
  · rw [if_pos e]; omega
  · rw [if_neg e]; have := h k k0 k1; omega
set_option maxHeartbeats 4000000 in
set_option maxRecDepth 20000 in
theorem c_norm {vV : Value} {u : Int} {pv : Int → Value} {ln : Int → Int} {pt : Int → Int → Int} {cnt : Int → Int} (w0 : World) (hV : VAt w0 vV u pv ln pt cnt) (hn5 : u ≤ 10000000) (hlc : ∀ k, 0 ≤ k → k < u → ln k ≤ 100000) (hpc : ∀ k, 0 ≤ k → k < u → 1 ≤ cnt k ∧ cnt k ≤ 1000) :
    Calls Tryz.prog 97 [vV].toArray w0 fun e w => ∃ v, e = .returned v ∧ ∃ r n2 pv2 ln2 pt2 cnt2, v = r ∧ NormR (plL u ln pt cnt) (plL n2 ln2 pt2 cnt2) ∧ 0 ≤ n2 ∧ n2 ≤ u ∧ (∀ k, 0 ≤ k → k < n2 → 1 ≤ cnt2 k ∧ cnt2 k ≤ 1000 * u) ∧ Slh r n2 ∧ Sat w0 w [.own r 2 111 n2 (ucells pv2 cnt2), .sem (Frame.rows 3 n2 pv2 ln2 pt2)] := by
  have hn := hV.row.slh.n0; have hn1 := hV.row.slh.n1
  refine zenG Tryz.func97 Tryz.ntmps97 fun w hS => ?_
  refine zsr ?_
  refine zlv xas ?_
  refine zlz ?_
  refine zlv xas ?_
  refine zlt <| zsq <| zsr ?_
  refine zlv xmv ?_
  refine zlv (xln sl_60 hV.row.slh) ?_
  refine zlv xmv ?_
  refine zlt <| zbk ?_
  replace hS := hS.addnil 2 111 (ucells (fun _ => Value.slice none 0 0) (fun _ => 0))
  replace hS := hS.n1
  replace hS := hS.addrows 3 (fun _ => Value.slice none 0 0) (fun _ => 0) (fun _ _ => 0)
  replace hS := hS.n2
  replace hS := hS.n2
  have hrs0 := fun k (k0 : 0 ≤ k) (k1 : k < 0) => hS.slhIn 1 rfl k0 k1
  refine zlp (fun mm M w => ∃ (nC : Int) (wv : Int → Value) (lC : Int → Int) (gC : Int → Int → Int) (cC : Int → Int) (i : Int) (wC : Value), mm = ((u - i).toNat) ∧ (0 ≤ i) ∧ (i ≤ u) ∧ (0 ≤ nC ∧ nC ≤ i) ∧ (plL nC lC gC cC = sums (plL i ln pt cnt)) ∧ (∀ k, 0 ≤ k → k < nC → 1 ≤ cC k ∧ cC k ≤ 1000 * i) ∧ (∀ x, (wv x).oneCell' = true) ∧ (Slh wC nC) ∧ M = [(2, .slice none 0 0), (3, wC), (7, vV), (8, .int .i64 u), (9, .int .i64 i)] ∧ Sat w0 w [.own wC 2 111 nC (ucells wv cC), .sem (Frame.rows 3 nC wv lC gC)]) ⟨0, (fun _ => Value.slice none 0 0), (fun _ => 0), (fun _ _ => 0), (fun _ => 0), 0, (.slice none 0 0), rfl, (by omega), (by omega), (by omega), ?_, ?_, ?_, ?_, rfl, hS⟩ ?_
  ·
   rfl
  ·
   intro k k0 k1; omega
  ·
   intro x; rfl
  ·
   exact slh_nil
  clear hS w
  rintro mm M w ⟨nC, wv, lC, gC, cC, i, wC, rfl, h0, h1, hnC, hs, hbc, hone, hwC, rfl, hS⟩
  have hrs1 := fun k (k0 : 0 ≤ k) (k1 : k < nC) => hS.slhIn 1 rfl k0 k1
  refine zsr ?_
  refine zlv xlss ?_
  refine zlt <| zsq ?_
  refine zcif ?_ ?_ <;> intro hc
  ·
   refine zsk <| ztn <| zsq <| zbk <| zsr ?_
   refine zlv (xix (kk := 2 * i) sl_60 hV.row.slh) ?_
   refine zlv (xlw (cs := [(pv i), .int .i64 (cnt i)]) st_111 (hV.row.below hS.below) (ucells_at (k := 2 * i) (i := i) pv cnt (by omega))) ?_
   have hci := hpc i h0 (by omega)
   have hli := hlc i h0 (by omega)
   refine zla (xal (cs := [_, _]) el_111 hS) ?_; rintro _ w ⟨g1, rfl, hS⟩
   replace hS := hS.n3
   refine zle (xsw 2 st_111 hS (hd := (ones_cons (hV.p i (by omega) (by omega)).slh.one (ones_cons rfl ones_nil)))) ?_; clear hS; rintro w hS
   replace hS := hS.n3
   refine zlz ?_
   refine zlv xmv ?_
   refine zlv xmf ?_
   refine zlc (xc0 cl_133) (c_ixn1 (u := nC) (pv := wv) (ln := lC) (pt := gC) (cnt := cC) (n := (ln i)) (f := (pt i)) w (⟨(hS.rowN 0 rfl), fun k k0 k1 => hS.rowIn 1 rfl k0 k1, fun k k0 k1 => hS.roomIn 1 rfl k0 k1⟩ : VAt _ wC nC wv lC gC cC) (hS.holds _ (List.mem_of_getElem? (i := 2) rfl)) ((hV.p i (by omega) (by omega)).below hS.below)) ?_; rintro _ w ⟨r1, rfl, hr1, hS'⟩
   replace hS := hS.cmp hS'; clear hS'
   have hbr : 0 ≤ r1 → 1 ≤ cC r1 ∧ cC r1 ≤ 1000 * i := fun h => hbc r1 h (by rcases hr1 with ⟨h2, _⟩ | ⟨_, h2, _⟩ <;> omega)
   have hrr : r1 = -1 ∨ (0 ≤ r1 ∧ r1 < nC) := by rcases hr1 with ⟨h2, _⟩ | ⟨h2, h3, _⟩ <;> omega
   refine zlv xas ?_
   refine zlz ?_
   refine zs2 ?_
   refine zlt ?_
   refine zcif ?_ ?_ <;> intro hc
   ·
    refine zdst [0, 1, 2] [1, 2] 10 mx_ hS ?_; clear hS; intro w hS
    refine zdv 0 (fun _ => xmv) ?_
    refine zdv 1 (fun _ => xmv) ?_
    refine zdv 2 (fun _ => (xix (kk := 2 * r1) sl_60 hwC)) ?_
    refine zdv 3 (fun _ => (xfc (kk := 2 * r1 + 1) fd_111_1 hwC)) ?_
    refine zdl 4 (fun w hS => (xlr (u := .int .i64 (cC r1)) pl_3 (hS.rowN 0 rfl) (e := (ucells1 wv cC (by omega))))) ?_
    refine zdv 5 (fun _ => (xfb 1 fd_111_1)) ?_
    refine zdla 6 (fun w hS => (xlb 1 pl_3 hS)) ?_
    refine zdv 7 (fun _ => (xadd (r := (cC r1) + (cnt i)))) ?_
    refine zdv 8 (fun _ => (xix (kk := 2 * r1) sl_60 hwC)) ?_
    refine zdv 9 (fun _ => (xfc (kk := 2 * r1 + 1) fd_111_1 hwC)) ?_
    refine zde 10 (xso 0 pl_3 hS (upd_ucells1 (k := 2 * r1 + 1) (i := r1) _ _ (by omega))) ?_; clear hS; rintro w hS
    replace hS := hS.n3
    refine ⟨⟨fun h => absurd h (by decide), hS.pk [1, 2]⟩, ?_⟩
    refine zdd <| zbn <| ztn <| zrg ?_
    refine zlv (xadd (r := i + 1)) ?_
    refine zlv xmv ?_
    refine zln <| zlq ⟨nC, wv, lC, gC, (upd cC r1 ((cC r1) + (cnt i))), i + 1, wC, rfl, (by omega), (by omega), (by omega), ?_, ?_, ?_, ?_, rfl, hS.pk [0, 1]⟩
    ·
     first | exact norm_new (by omega) h0 hs (hr1.resolve_right (fun h => by omega)).2 | (have hr9 := hr1.resolve_left (fun h => by omega); exact norm_at h0 hs hr9.1 hr9.2.1 hr9.2.2.1 hr9.2.2.2)
    ·
     first | exact nb_new hbc (by omega) (by omega) (by omega) | exact nb_at hbc (by omega) (by omega) (by omega)
    ·
     first | exact hone | exact gsn_one hone ‹Slh _ _›.one
    ·
     exact hwC
   refine zdst [2] [2] 1000 mx_ hS ?_; clear hS; intro w hS
   refine zdv 0 (fun _ => xmv) ?_
   refine zdv 1 (fun _ => (xfb 0 fd_111_0)) ?_
   refine zdla 2 (fun w hS => (xlb 0 pl_22 hS)) ?_
   refine zdv 4 (fun _ => (xfb 1 fd_111_1)) ?_
   refine zdla 5 (fun w hS => (xlb 0 pl_3 hS)) ?_
   refine zdc 3 (xc0 cl_70) (c_clone (n := (ln i)) (f := (pt i)) w ((hV.p i (by omega) (by omega)).below hS.below) (by omega)) ?_; rintro vq1 w ⟨_, rfl, hslq1, hS'⟩
   replace hS : Sat w0 w [.own wC 2 111 nC (ucells wv cC), .sem (Frame.rows 3 nC wv lC gC), .blk g1 [(pv i), .int .i64 (cnt i)], .own vq1 1 3 (ln i) (ints (pt i))] := hS.comp hS'; clear hS'
   refine ⟨⟨fun _ => hS.pk [2], hS.pk [2]⟩, ?_⟩
   refine zdv 6 (fun _ => (xany (v := .agg #[vq1, .int .i64 (cnt i)]) (hr := by obtain ⟨_, _, _, _, rfl, _⟩ := hslq1; kernel_rfl))) ?_
   refine zda 7 (xli (n := 1) (len := 1) (pv := [(0, .agg #[vq1, .int .i64 (cnt i)])]) (cs := [vq1, .int .i64 (cnt i)]) (c := ucells (fun _ => vq1) (fun _ => (cnt i))) sl_60 el_111 hS (hf := by obtain ⟨_, _, _, _, rfl, _⟩ := hslq1; kernel_rfl)) ?_; rintro v1 w ⟨hS, hv1⟩
   replace hS := hS.n5
   refine ⟨⟨fun _ => hS.pk [2], hS.pk [2]⟩, ?_⟩
   refine zda 8 (xap 0 (r := nC + 1) sl_60 el_111 hS (hS.rowN 4 rfl) (cat_ucells _ _ _ _ _) (h1 := fun k _ _ => ucells_one (fun _ => hslq1.one) k)) ?_; rintro v2 w ⟨hS, hv2⟩
   replace hS := hS.n5
   replace hS := Sat.merge (l1 := [_]) (l2 := [_]) (l3 := [_]) hS (by omega)
   have hrs2 := fun k (k0 : 0 ≤ k) (k1 : k < nC + 1) => hS.slhIn 1 rfl k0 k1
   replace hS := hS.n4
   refine ⟨⟨fun _ => hS.pk [2], hS.pk [2]⟩, ?_⟩
   refine zdv 9 (fun _ => xas) ?_
   refine zdd <| zbn <| ztn <| zrg ?_
   refine zlv (xadd (r := i + 1)) ?_
   refine zlv xmv ?_
   refine zln <| zlq ⟨nC + 1, gsn wv nC vq1, gsn lC nC (ln i), gsn gC nC (pt i), (snoc cC nC (cnt i)), i + 1, v2, rfl, (by omega), (by omega), (by omega), ?_, ?_, ?_, ?_, rfl, hS.pk [0, 1]⟩
   ·
    first | exact norm_new (by omega) h0 hs (hr1.resolve_right (fun h => by omega)).2 | (have hr9 := hr1.resolve_left (fun h => by omega); exact norm_at h0 hs hr9.1 hr9.2.1 hr9.2.2.1 hr9.2.2.2)
   ·
    first | exact nb_new hbc (by omega) (by omega) (by omega) | exact nb_at hbc (by omega) (by omega) (by omega)
   ·
    first | exact hone | exact gsn_one hone ‹Slh _ _›.one
   ·
    exact hv2
  refine zxt <| ztx <| ztx <| zbh <| ztn <| zsr ?_
  refine zlv xmv ?_
  refine zlc (xc0 cl_136) (c_delu (u := nC) (pv := wv) (ln := lC) (pt := gC) (cnt := cC) w (⟨(hS.rowN 0 rfl), fun k k0 k1 => hS.rowIn 1 rfl k0 k1, fun k k0 k1 => hS.roomIn 1 rfl k0 k1⟩ : VAt _ wC nC wv lC gC cC) (fun k k0 k1 => (hbc k k0 k1).1)) ?_; rintro _ w ⟨rfl, hS'⟩
  replace hS := hS.cmp hS'; clear hS'
  refine zlv xas ?_
  refine zlz ?_
  refine zlv xmv ?_
  refine zlc (xc0 cl_138) (c_sortsU (vd := wC) (n := nC) (nm := nC) (s := fun k => k) (pv := wv) (cnt := cC) (lt := fun x y => ahd (lst (lC x) (gC x)) (lst (lC y) (gC y))) (F := Frame.rows 3 nC wv lC gC) w0 w (hS.pk [0, 1]) hwC (by omega) hone (fun w x y x0 x1 y0 y1 _ hF => c_ncmp w (hF.1 x x0 x1).row (hF.1 y y0 y1).row) (fun k k0 k1 => ⟨k0, k1⟩) (swo_ahd fun x => lst (lC x) (gC x)) (fun i j _ h _ => h)) ?_; rintro _ w ⟨rfl, t1, hpt1, hst1, hS⟩
  replace hS := hS.pmrows 1 hpt1
  replace hS : Sat w0 w [.own wC 2 111 nC (ucells (fun k => wv (t1 k)) (fun k => cC (t1 k))), .sem (Frame.rows 3 nC (fun k => wv (t1 k)) (fun k => lC (t1 k)) (fun k => gC (t1 k)))] := hS
  refine zlz ?_
  refine zs2 ?_
  refine zlt <| zrt <| zf1 ⟨_, rfl, ?_⟩
  obtain rfl : i = u := by omega
  exact ⟨_, _, _, _, _, _, rfl, .of_names hnC.1 hs hpt1 hst1, hnC.1, hnC.2, fun k k0 k1 => (by obtain ⟨q, q0, q1, q2⟩ := hpt1.fr k0 k1; rw [show t1 k = q from q2]; exact hbc q q0 q1), hwC, hS⟩
end Go.Proofs.YtopmifmfecfaaaaGreat
