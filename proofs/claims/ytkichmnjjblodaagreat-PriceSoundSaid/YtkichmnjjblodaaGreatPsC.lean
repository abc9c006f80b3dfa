/- Part 3 of the texts that the proof needs. -/
import Derived.Test.YtkichmnjjblodaaGreatPsB
import Derived.OrdersIn
import Derived.RangeFuncNested
import Derived.Test.YtkichmnjjblodaaGreatProg
import Derived.ArgAppend
set_option linter.unusedVariables false
set_option linter.unusedSimpArgs false
set_option maxRecDepth 20000
set_option maxHeartbeats 4000000
namespace Go.Proofs.Ev
open Go Go.RowKit Go.Proofs.Gw
structure S where
  t : T V
  b : List (Nat × V)
  n : Nat
  ds : List Nat
  x : X
noncomputable def getB (t : T V) (b : List (Nat × V)) (i : Nat) : Option V := Option.rec (t.get i) (fun v => some v) (look b i)
noncomputable def S.get (s : S) (i : Nat) : Option V := getB s.t s.b i
theorem getB_cons (t : T V) (b : List (Nat × V)) (d : Nat) (v : V) (i : Nat) : getB t ((d, v) :: b) i = if d = i then some v else getB t b i := by
  unfold getB
  rw [look_cons]
  by_cases h : d = i
  · subst h; simp
  · simp [beq_no h, h]
structure Kit where
  fuel : Nat
  call : Nat → List V → X → Option (V × X)
  yld : Nat → List V → X → Option (V × X)
noncomputable def Ends (w0 : Base) (β : Env) (c : Nat) (v : V) (x' : X) : Ending → World → Prop := fun e w' => ∃ u β', e = .returned u ∧ VR β' v u ∧ HR w0 β' x' w' ∧ c ≤ x'.c ∧ ∀ k, k < c → β' k = β k
structure KOk (P : Program) (K : Kit) : Prop where
  call : ∀ {f xs x v x'}, K.call f xs x = some (v, x') → ∀ {w0 β w us}, HR w0 β x w → VRs β xs us → Calls P f us.toArray w (Ends w0 β x.c v x')
  yld : ∀ {l xs x v x'}, K.yld l xs x = some (v, x') → ∀ {w0 β w us b c}, HR w0 β x w → VRs β xs us → β l = some (b, c) →
    ∃ fn tmps assign body, (Instr.yield b us.toArray).run P w = .ok (.round b fn tmps assign body) w ∧ RoundIn (FZ none) 0 P b fn tmps assign body w (Ends w0 β x.c v x')
inductive Kd where
  | pure | load | new | eff
noncomputable def kd : Op → Kd
  | .load _ _ => .load
  | .alloc _ | .box _ _ | .buildSlice _ _ _ | .makeSlice _ _ _ => .new
  | .store _ _ _ => .eff
  | .call c => match c.callee with
    | .value _ => .eff
    | .builtin .append | .builtin .copy | .builtin .clear => .eff
    | _ => .pure
  | _ => .pure
noncomputable def exE (K : Kit) (P : Program) (ρ : Operand → Option V) (x : X) (nm : Nat) (o : Op) : Option (V × X) := match o with
  | .store _ _ _ => exM P ρ x nm o
  | .call c => match c.callee with
    | .value f => match ρ f, vals ρ c.args.toList with
      | some (.fn g cap), some xs => bif calledT P g then K.call g (xs ++ cap) x else none
      | some (.yl l), some xs => K.yld l xs x
      | _, _ => none
    | _ => exM P ρ x nm o
  | _ => none
section
variable {P : Program} {K : Kit} {β : Env} {x x' : X} {w w' : World} {w0 : Base} {nm : Nat} {ρ : Operand → Option V} {o : Oper} {r : Option Nat} {a : Act}
theorem exE_ok (hK : KOk P K) (h : HR w0 β x w) (hρ : RhoR β ρ a.eval) (hn : β nm = none) (hc : nm < x.c) {v : V} (he : exE K P ρ x nm o.op = some (v, x')) {next : Act → World → Prop} {Q : Exit → Act → World → Prop}
    (hx : ∀ β' u w', VR β' v u → HR w0 β' x' w' → (∀ k, k < x.c → k ≠ nm → β' k = β k) → x.c ≤ x'.c → next (a.put o.dst u) w') : o.wpIn (FZ r) 0 P a w next Q := by
  refine ⟨fun _ _ => trivial, ?_⟩
  have mem : exM P ρ x nm o.op = some (v, x') → (o.semAt (FZ r).round a.eval) = execOp a.eval o → o.uponIn (FZ r) 0 P a next Q ((o.semAt (FZ r).round a.eval).run P w) := fun he hs => by
    obtain ⟨rr, u, w', h1, h2, h3, β', h4, h5, h6⟩ := exM_ok h hρ hn hc he
    rw [hs, h1]
    have h7 := hx β' u w' h4 h5 (fun k _ hk => h6 k hk) (Nat.le_of_eq h3.symm)
    rcases h2 with rfl | ⟨rfl, rfl⟩
    · exact h7
    · exact h7
  unfold exE at he
  split at he
  · rename_i hop
    exact mem he (ndf_sem (by unfold ndf; rw [hop]) r _)
  · rename_i c hop
    have hsem : o.semAt (FZ r).round a.eval = execOp a.eval o := ndf_sem (by unfold ndf; rw [hop]) r _
    split at he
    · rename_i f hf
      obtain ⟨cal, args, ts⟩ := c
      dsimp only at hf he
      subst hf
      split at he
      · rename_i g cap xs hfv has
        cases ht : calledT P g with
        | false => rw [ht] at he; cases he
        | true =>
          rw [ht] at he
          dsimp only [cond_true] at he
          have hv := hρ _ _ hfv
          have has' := vals_ok hρ has
          generalize hu : a.eval f = u at hv
          cases hv with
          | @fn _ _ vs hcap =>
            have hrun : (execOp a.eval o).run P w = .ok (.enter g (args.toList.map a.eval ++ vs).toArray) w := by
              unfold calledT at ht
              cases hfn : P.funcs[g]? with
              | none => simp [hfn] at ht
              | some fn =>
                simp only [hfn, Bool.and_eq_true, Bool.not_eq_true'] at ht
                obtain ⟨hb, hnm⟩ := ht
                have hb' : fn.body ≠ none := by intro e; rw [e] at hb; simp at hb
                have hn' : fn.name ≠ "runtime.NumGoroutine" := by simpa using hnm
                have e : args.map a.eval ++ vs.toArray = (args.toList.map a.eval ++ vs).toArray := by
                  apply Array.ext'; simp
                simp [execOp, hop, resolve, hu, Deferred.ofValue, invoke, callFunc, hfn, hn', hb']
            rw [hsem, hrun]
            refine ⟨fun h => (by cases h), FZ_calls ((hK.call he h (has'.app hcap)).mono fun e w' hE => ?_)⟩
            obtain ⟨u', β', rfl, h4, h5, hle, h6⟩ := hE
            exact hx β' u' w' h4 h5 (fun k hk _ => h6 k hk) hle
      · rename_i l xs hfv has
        have hv := hρ _ _ hfv
        have has' := vals_ok hρ has
        generalize hu : a.eval f = u at hv
        cases hv with
        | @yl _ bb cc hb =>
          obtain ⟨fn, tmps, assign, body, h1, h2⟩ := hK.yld he h has' hb
          have hrun : (execOp a.eval o).run P w = .ok (.round bb fn tmps assign body) w := by
            rw [← h1]
            have e : args.map a.eval = (args.toList.map a.eval).toArray := by
              apply Array.ext'; simp
            simp [execOp, hop, resolve, hu, Deferred.ofValue, invoke, e]
          rw [hsem, hrun]
          refine ⟨fun h => (by cases h), ?_⟩
          have h3 : RoundIn (FZ r) 0 P bb fn tmps assign body w (Ends w0 β x.c v x') := h2
          refine RoundIn.mono h3 fun e w' hE => ?_
          obtain ⟨u', β', rfl, h4, h5, hle, h6⟩ := hE
          exact hx β' u' w' h4 h5 (fun k hk _ => h6 k hk) hle
      · cases he
    · exact mem he hsem
  · cases he
end
noncomputable def guardV (ops : Array Oper) (g : Nat → Option V) (o : Oper) : Option Bool := match o.guard with
  | none => some true
  | some (j, p) => match ops[j]? with
    | some oj => match oj.dst with
      | some d => match g d with
        | some (.bool b) => some (b == p)
        | some (.tup []) => some false
        | _ => none
      | none => none
    | none => none
theorem guard_ok {β : Env} {ops : Array Oper} {g : Nat → Option V} {a : Array Value} {o : Oper} {b : Bool} (h : TA β g a) (hg : guardV ops g o = some b) : Region.wanted o (yielded ops a) = b := by
  unfold guardV at hg
  split at hg
  · rename_i h0
    injection hg with hg; subst hg
    simp [Region.wanted, h0]
  · rename_i j p h0
    split at hg
    · rename_i oj hj
      split at hg
      · rename_i d hd
        split at hg
        · rename_i b' ht
          injection hg with hg; subst hg
          obtain ⟨u, h1, h2⟩ := h _ _ ht
          cases h2
          simp only [Region.wanted, h0, yielded, hj, Option.bind_some, hd, h1]
          cases b' <;> cases p <;> rfl
        · rename_i ht
          injection hg with hg; subst hg
          obtain ⟨u, h1, h2⟩ := h _ _ ht
          cases h2 with
          | tup hh =>
            cases hh
            simp [Region.wanted, h0, yielded, hj, hd, h1]
        · cases hg
      · cases hg
    · cases hg
inductive DR (β : Env) : List Nat → List Deferred → Prop
  | nil : DR β [] []
  | cons {k b c : Nat} {ks : List Nat} {ds : List Deferred} : β k = some (b, c) → DR β ks ds → DR β (k :: ks) ({ target := .collected b, args := #[] } :: ds)
theorem DR.mono {β β' : Env} (h : Ext β β') : ∀ {ks : List Nat} {ds : List Deferred}, DR β ks ds → DR β' ks ds
  | _, _, .nil => .nil
  | _, _, .cons a b => .cons (h _ _ a) (DR.mono h b)
structure FR (w0 : Base) (β : Env) (s : S) (a : Act) (w : World) : Prop where
  ta : TA β s.get a.tmps
  sz : a.tmps.size = s.n
  ds : DR β s.ds a.defers
  hr : HR w0 β s.x w
noncomputable def NX (c : Nat) (β β' : Env) : Prop := ∀ k, k < c → β' k = β k
theorem NX.refl (c : Nat) (β : Env) : NX c β β := fun _ _ => rfl
theorem NX.trans {c c' : Nat} {β β' β'' : Env} (h : NX c β β') (h' : NX c' β' β'') (hc : c ≤ c') : NX c β β'' := fun k hk => (h' k (by omega)).trans (h k hk)
theorem HR.ext {w0 : Base} {w : World} {β β' : Env} {x : X} (h : HR w0 β x w) (hn : NX x.c β β') : Ext β β' := fun k p hk => by
  obtain ⟨b, c⟩ := p
  rw [hn k (h.lt hk).1]; exact hk
noncomputable def S.put (s : S) (d : Option Nat) (v : V) (x : X) : Option S := S.rec (motive := fun _ => Option S) (fun t b n ds _ => match d with
  | none => some ⟨t, b, n, ds, x⟩
  | some d => bif Nat.blt d n then some ⟨t, (d, v) :: b, n, ds, x⟩ else none) s
theorem S.put_eq (s : S) (d : Option Nat) (v : V) (x : X) : s.put d v x = match d with
  | none => some { s with x := x }
  | some d => bif Nat.blt d s.n then some { s with b := (d, v) :: s.b, x := x } else none := by
  cases s; cases d <;> rfl
theorem put_ok {w0 : Base} {w' : World} {β β' : Env} {s s' : S} {a : Act} {w : World} {d : Option Nat} {v : V} {u : Value} {x : X} (hF : FR w0 β s a w) (hp : s.put d v x = some s') (hv : VR β' v u) (h : HR w0 β' x w') (hn : NX s.x.c β β') : FR w0 β' s' (a.put d u) w' := by
  have he := hF.hr.ext hn
  rw [S.put_eq] at hp
  cases d with
  | none =>
    injection hp with hp; subst hp
    exact ⟨hF.ta.mono he, hF.sz, hF.ds.mono he, h⟩
  | some d =>
    dsimp only at hp
    cases hd : Nat.blt d s.n with
    | false => rw [hd] at hp; cases hp
    | true =>
      rw [hd] at hp; injection hp with hp; subst hp
      have hlt : d < s.n := by simpa [Nat.blt_eq] using hd
      exact ⟨(hF.ta.mono he).put (by rw [hF.sz]; exact hlt) hv (fun i => getB_cons _ _ _ _ _), by simp [Act.put, hF.sz], hF.ds.mono he, h⟩
noncomputable def opS0 (K : Kit) (P : Program) (ops : Array Oper) (s : S) (o : Oper) : Option S :=
  match guardV ops s.get o with
  | none => none
  | some false => s.put o.dst (.tup []) s.x
  | some true => match kd o.op with
    | .pure => match exP P (rho s.get) o.op with
      | some v => s.put o.dst v s.x
      | none => none
    | .load => match exL P (rho s.get) s.x o.op with
      | some v => s.put o.dst v s.x
      | none => none
    | .new => match exA P (rho s.get) s.x.c o.op with
      | some (l, E, v) => s.put o.dst v ((⟨s.x.h, s.x.c + 1⟩ : X).set s.x.c (.cells l E none))
      | none => none
    | .eff => match exE K P (rho s.get) ⟨s.x.h, s.x.c + 1⟩ s.x.c o.op with
      | some (v, x) => s.put o.dst v x
      | none => none
noncomputable def opP (P : Program) (t : T V) (b : List (Nat × V)) (n : Nat) (ds : List Nat) (x : X) (o : Oper) : Option S := Option.rec none (fun v => S.put ⟨t, b, n, ds, x⟩ o.dst v x) (exP P (rho (getB t b)) o.op)
noncomputable def opL (P : Program) (t : T V) (b : List (Nat × V)) (n : Nat) (ds : List Nat) (x : X) (o : Oper) : Option S := Option.rec none (fun v => S.put ⟨t, b, n, ds, x⟩ o.dst v x) (exL P (rho (getB t b)) x o.op)
noncomputable def opN (P : Program) (t : T V) (b : List (Nat × V)) (n : Nat) (ds : List Nat) (x : X) (o : Oper) : Option S := match exA P (rho (getB t b)) x.c o.op with
  | some (l, E, v) => S.put ⟨t, b, n, ds, x⟩ o.dst v ((x.bump 1).set x.c (.cells l E none))
  | none => none
noncomputable def opE (K : Kit) (P : Program) (t : T V) (b : List (Nat × V)) (n : Nat) (ds : List Nat) (x : X) (o : Oper) : Option S := match exE K P (rho (getB t b)) (x.bump 1) x.c o.op with
  | some (v, x') => S.put ⟨t, b, n, ds, x⟩ o.dst v x'
  | none => none
noncomputable def opB (K : Kit) (P : Program) (t : T V) (b : List (Nat × V)) (n : Nat) (ds : List Nat) (x : X) (o : Oper) : Option S := Kd.rec (opP P t b n ds x o) (opL P t b n ds x o) (opN P t b n ds x o) (opE K P t b n ds x o) (kd o.op)
noncomputable def opS (K : Kit) (P : Program) (ops : Array Oper) (s : S) (o : Oper) : Option S := S.rec (motive := fun _ => Option S) (fun t b n ds x =>
  Option.rec (opB K P t b n ds x o) (fun _ => Option.rec none (fun w => Bool.rec (S.put ⟨t, b, n, ds, x⟩ o.dst (.tup []) x) (opB K P t b n ds x o) w) (guardV ops (getB t b) o)) o.guard) s
theorem opB_eq (K : Kit) (P : Program) (t : T V) (b : List (Nat × V)) (n : Nat) (ds : List Nat) (x : X) (o : Oper) : opB K P t b n ds x o = match kd o.op with
    | .pure => match exP P (rho (getB t b)) o.op with
      | some v => S.put ⟨t, b, n, ds, x⟩ o.dst v x
      | none => none
    | .load => match exL P (rho (getB t b)) x o.op with
      | some v => S.put ⟨t, b, n, ds, x⟩ o.dst v x
      | none => none
    | .new => match exA P (rho (getB t b)) x.c o.op with
      | some (l, E, v) => S.put ⟨t, b, n, ds, x⟩ o.dst v ((⟨x.h, x.c + 1⟩ : X).set x.c (.cells l E none))
      | none => none
    | .eff => match exE K P (rho (getB t b)) ⟨x.h, x.c + 1⟩ x.c o.op with
      | some (v, x') => S.put ⟨t, b, n, ds, x⟩ o.dst v x'
      | none => none := by
  unfold opB
  cases kd o.op
  · show opP P t b n ds x o = _
    unfold opP
    cases exP P (rho (getB t b)) o.op <;> rfl
  · show opL P t b n ds x o = _
    unfold opL
    cases exL P (rho (getB t b)) x o.op <;> rfl
  · rfl
  · rfl
theorem opS_eq (K : Kit) (P : Program) (ops : Array Oper) (s : S) (o : Oper) : opS K P ops s o = opS0 K P ops s o := by
  obtain ⟨t, b, n, ds, x⟩ := s
  unfold opS0
  show (Option.rec (opB K P t b n ds x o) (fun _ => Option.rec none (fun w => Bool.rec (S.put ⟨t, b, n, ds, x⟩ o.dst (.tup []) x) (opB K P t b n ds x o) w) (guardV ops (getB t b) o)) o.guard : Option S) = match guardV ops (getB t b) o with
    | none => none
    | some false => S.put ⟨t, b, n, ds, x⟩ o.dst (.tup []) x
    | some true => _
  cases hg : o.guard with
  | none =>
    have : guardV ops (getB t b) o = some true := by unfold guardV; rw [hg]
    rw [this]
    exact opB_eq K P t b n ds x o
  | some jp =>
    cases guardV ops (getB t b) o with
    | none => rfl
    | some w => cases w with
      | false => rfl
      | true => exact opB_eq K P t b n ds x o
theorem put_c {s s' : S} {d : Option Nat} {v : V} {x : X} (hp : s.put d v x = some s') : s'.x = x ∧ s'.n = s.n ∧ s'.ds = s.ds := by
  rw [S.put_eq] at hp
  cases d with
  | none => injection hp with hp; subst hp; exact ⟨rfl, rfl, rfl⟩
  | some d =>
    dsimp only at hp
    cases hd : Nat.blt d s.n with
    | false => rw [hd] at hp; cases hp
    | true => rw [hd] at hp; injection hp with hp; subst hp; exact ⟨rfl, rfl, rfl⟩
section
variable {P : Program} {K : Kit} {β : Env} {w : World} {w0 : Base} {o : Oper} {r : Option Nat} {a : Act} {s s' : S} {ops : Array Oper}
theorem kd_ndf {o : Oper} (h : ∀ c, o.op ≠ .defer c) : ndf o = true := by
  unfold ndf
  split
  · rename_i c hc; exact absurd hc (h c)
  · rfl
theorem val_in {v : Value} {w' : World} (h : (execOp a.eval o).run P w = .ok (.value v) w') {next : Act → World → Prop} {Q : Exit → Act → World → Prop} (hn : next (a.put o.dst v) w') : o.wpIn (FZ r) 0 P a w next Q := by
  refine ⟨fun _ _ => trivial, ?_⟩
  have hd : ∀ c, o.op ≠ .defer c := fun c hc => by
    simp only [execOp, hc] at h
    rw [Sem.run_bind] at h
    cases hr : (resolve a.eval c o.type).run P w with
    | ok d w1 => rw [hr] at h; simp at h
    | halt e w1 => rw [hr] at h; simp [Result.andThen] at h
  have e : o.semAt (FZ r).round a.eval = execOp a.eval o := ndf_sem (kd_ndf hd) r _
  rw [e, h]
  exact hn
theorem opS_ok (hK : KOk P K) (hF : FR w0 β s a w) (he : opS K P ops s o = some s') {next : Act → World → Prop} {Q : Exit → Act → World → Prop}
    (hx : ∀ β' a' w', FR w0 β' s' a' w' → NX s.x.c β β' → s.x.c ≤ s'.x.c → next a' w') :
    if Region.wanted o (yielded ops a.tmps) then o.wpIn (FZ r) 0 P a w next Q else (∀ f, o.about P w a.eval = some f → (FZ r).fn f) ∧ next (a.put o.dst undef) w := by
  have hρ : RhoR β (rho s.get) a.eval := rho_ok hF.ta
  have hb : HR w0 β ⟨s.x.h, s.x.c + 1⟩ w := hF.hr.bump (by omega)
  have hnone : β s.x.c = none := by
    cases hq : β s.x.c with
    | none => rfl
    | some p => obtain ⟨b, c⟩ := p; have := (hF.hr.lt hq).1; omega
  rw [opS_eq] at he
  unfold opS0 at he
  split at he
  · cases he
  · rename_i hg
    rw [guard_ok hF.ta hg, if_neg (by simp)]
    refine ⟨fun _ _ => trivial, hx β _ w (put_ok hF he (.tup (vs := []) .nil) hF.hr (NX.refl _ _)) (NX.refl _ _) ?_⟩
    rw [(put_c he).1]; exact Nat.le_refl _
  · rename_i hg
    rw [guard_ok hF.ta hg, if_pos rfl]
    split at he
    · split at he
      · rename_i v hv
        obtain ⟨u, h1, h2⟩ := exP_ok hρ hv
        exact val_in (h1 w) (hx β _ w (put_ok hF he h2 hF.hr (NX.refl _ _)) (NX.refl _ _) (by rw [(put_c he).1]; exact Nat.le_refl _))
      · cases he
    · split at he
      · rename_i v hv
        obtain ⟨u, h1, h2⟩ := exL_ok hF.hr hρ hv
        exact val_in h1 (hx β _ w (put_ok hF he h2 hF.hr (NX.refl _ _)) (NX.refl _ _) (by rw [(put_c he).1]; exact Nat.le_refl _))
      · cases he
    · split at he
      · rename_i l E v hv
        obtain ⟨us, h1, h2⟩ := exA_ok hρ hv
        obtain ⟨u, h3, h4⟩ := h2 w
        have hn : NX s.x.c β (up β s.x.c (w.heap.size, 0)) := fun k hk => up_ne (by omega)
        have h5 : HR w0 (up β s.x.c (w.heap.size, 0)) ((⟨s.x.h, s.x.c + 1⟩ : X).set s.x.c (.cells l E none)) (w.alloc (.cells us.toArray E)) :=
          (hb.pre hnone (.cells l E none)).alloc (ob := .cells l E none) hnone (Nat.lt_succ_self _) (by rw [X.get_set]; simp) ⟨us, [], by simp, h1.mono (up_ext hnone), rfl⟩
        exact val_in h3 (hx _ _ _ (put_ok hF he (h4 _ up_at) h5 hn) hn (by rw [(put_c he).1]; exact Nat.le_succ _))
      · cases he
    · split at he
      · rename_i v x1 hv
        refine exE_ok hK hb hρ hnone (Nat.lt_succ_self _) hv fun β' u w' h1 h2 h3 h4 => ?_
        have hn : NX s.x.c β β' := fun k hk => h3 k (by show k < s.x.c + 1; omega) (by omega)
        refine hx β' _ w' (put_ok hF he h1 h2 hn) hn ?_
        rw [(put_c he).1]
        have h4' : s.x.c + 1 ≤ x1.c := h4
        omega
      · cases he
noncomputable def opsS (K : Kit) (P : Program) (ops : Array Oper) (l : List Oper) (s : S) : Option S := List.rec (motive := fun _ => S → Option S) (fun s => some s) (fun o _ ih s => Option.rec none (fun s' => ih s') (opS K P ops s o)) l s
theorem opsS_nil (K : Kit) (P : Program) (ops : Array Oper) (s : S) : opsS K P ops [] s = some s := rfl
theorem opsS_cons (K : Kit) (P : Program) (ops : Array Oper) (o : Oper) (l : List Oper) (s : S) : opsS K P ops (o :: l) s = match opS K P ops s o with
    | some s' => opsS K P ops l s'
    | none => none := by
  show (Option.rec none (fun s' => opsS K P ops l s') (opS K P ops s o) : Option S) = _
  cases opS K P ops s o <;> rfl
theorem opsS_ok (hK : KOk P K) {Q : Exit → Act → World → Prop} {s' : S} : ∀ (l : List Oper) {s : S} {β : Env} {a : Act} {w : World}, FR w0 β s a w → opsS K P ops l s = some s' →
    (∀ β' a' w', FR w0 β' s' a' w' → NX s.x.c β β' → s.x.c ≤ s'.x.c → Q .normal a' w') → wpListIn (FZ r) 0 P ops Q l a w
  | [], s, β, a, w, hF, he, hx => by
    rw [opsS_nil] at he
    injection he with he; subst he
    exact hx β a w hF (NX.refl _ _) (Nat.le_refl _)
  | o :: l, s, β, a, w, hF, he, hx => by
    rw [opsS_cons] at he
    split at he
    · rename_i s1 h1
      unfold wpListIn
      exact opS_ok hK hF h1 fun β' a' w' hF' hn hc => opsS_ok hK l hF' he fun β'' a'' w'' hF'' hn' hc' => hx β'' a'' w'' hF'' (hn.trans hn' hc) (Nat.le_trans hc hc')
    · cases he
end
end Go.Proofs.Ev
namespace Go.Proofs.Ev
open Go Go.RowKit Go.Proofs.Gw
mutual
noncomputable def eqV : V → V → Bool
  | .bool a, .bool b => a == b
  | .int k n, .int k' m => decide (k = k') && decide (n = m)
  | .pn, .pn => true
  | .p k o, .p k' o' => Nat.beq k k' && Nat.beq o o'
  | .sn, .sn => true
  | .s k o n c, .s k' o' n' c' => Nat.beq k k' && Nat.beq o o' && Nat.beq n n' && Nat.beq c c'
  | .su k n, .su k' n' => Nat.beq k k' && Nat.beq n n'
  | .so k o n, .so k' o' n' => Nat.beq k k' && Nat.beq o o' && Nat.beq n n'
  | .fn f l, .fn g m => Nat.beq f g && eqVs l m
  | .yl k, .yl k' => Nat.beq k k'
  | .nf, .nf => true
  | .agg l, .agg m => eqVs l m
  | .tup l, .tup m => eqVs l m
  | _, _ => false
noncomputable def eqVs : List V → List V → Bool
  | [], [] => true
  | a :: l, b :: m => eqV a b && eqVs l m
  | _, _ => false
end
mutual
theorem eqV_ok : ∀ {a b : V}, eqV a b = true → a = b
  | .bool a, b, h => by cases b <;> simp [eqV] at h; simp [h]
  | .int k n, b, h => by cases b <;> simp [eqV] at h; simp [h]
  | .pn, b, h => by cases b <;> simp [eqV] at h; rfl
  | .p k o, b, h => by cases b <;> simp [eqV] at h; simp [h]
  | .sn, b, h => by cases b <;> simp [eqV] at h; rfl
  | .s k o n c, b, h => by cases b <;> simp [eqV] at h; simp [h]
  | .su k n, b, h => by cases b <;> simp [eqV] at h; simp [h]
  | .so k o n, b, h => by cases b <;> simp [eqV] at h; simp [h]
  | .fn f l, b, h => by
    cases b <;> simp [eqV] at h
    rw [h.1, eqVs_ok h.2]
  | .yl k, b, h => by cases b <;> simp [eqV] at h; simp [h]
  | .nf, b, h => by cases b <;> simp [eqV] at h; rfl
  | .str s, b, h => by cases b <;> simp [eqV] at h
  | .agg l, b, h => by
    cases b <;> simp [eqV] at h
    rw [eqVs_ok h]
  | .tup l, b, h => by
    cases b <;> simp [eqV] at h
    rw [eqVs_ok h]
theorem eqVs_ok : ∀ {l m : List V}, eqVs l m = true → l = m
  | [], [], _ => rfl
  | [], _ :: _, h => by simp [eqVs] at h
  | _ :: _, [], h => by simp [eqVs] at h
  | a :: l, b :: m, h => by
    simp [eqVs] at h
    rw [eqV_ok h.1, eqVs_ok h.2]
end
noncomputable def dpos : List Oper → Nat → Nat → Option Nat
  | [], _, _ => none
  | o :: r, i, t => match o.dst with
    | some d => bif Nat.beq d t then some i else dpos r (i + 1) t
    | none => dpos r (i + 1) t
theorem dpos_some : ∀ {l : List Oper} {i t j : Nat}, dpos l i t = some j → i ≤ j ∧ ∃ o, l[j - i]? = some o ∧ o.dst = some t
  | [], i, t, j, h => by cases h
  | o :: r, i, t, j, h => by
    unfold dpos at h
    have next : dpos r (i + 1) t = some j → i ≤ j ∧ ∃ o', (o :: r)[j - i]? = some o' ∧ o'.dst = some t := fun h => by
      obtain ⟨h1, o', h2, h3⟩ := dpos_some h
      refine ⟨by omega, o', ?_, h3⟩
      rw [show j - i = (j - (i + 1)) + 1 by omega, List.getElem?_cons_succ]; exact h2
    split at h
    · rename_i d hd
      cases he : Nat.beq d t with
      | true =>
        rw [he] at h; injection h with h; subst h
        rw [beq_iff] at he; subst he
        exact ⟨Nat.le_refl _, o, by simp, hd⟩
      | false => rw [he] at h; exact next h
    · exact next h
noncomputable def mof (B : List Nat) (o : Oper) : Nat := o.after.toList.foldl (fun m e => bif Region.binds .any e then m ||| (2 ^ e.on ||| B.getD e.on 0) else m) 0
noncomputable def mall (l : List Oper) : List Nat := l.foldl (fun B o => B ++ [mof B o]) []
noncomputable def chkB (B : List Nat) : List Oper → Nat → Bool
  | [], _ => true
  | o :: r, i => Nat.beq (B.getD i 0) (mof B o) && o.after.toList.all (fun e => !Region.binds .any e || Nat.blt e.on i) && chkB B r (i + 1)
noncomputable def bit (B : List Nat) (i j : Nat) : Bool := Nat.testBit (B.getD i 0) j
theorem chkB_get {B : List Nat} : ∀ {l : List Oper} {k : Nat}, chkB B l k = true → ∀ {i : Nat} {o : Oper}, l[i]? = some o → B.getD (k + i) 0 = mof B o ∧ ∀ e ∈ o.after, Region.binds .any e = true → e.on < k + i
  | [], k, _, i, o, hi => by simp at hi
  | o' :: r, k, h, i, o, hi => by
    unfold chkB at h
    simp only [Bool.and_eq_true] at h
    obtain ⟨⟨h1, h2⟩, h3⟩ := h
    cases i with
    | zero =>
      simp at hi; subst hi
      refine ⟨beq_iff.1 h1, fun e he hb => ?_⟩
      have := List.all_eq_true.1 h2 e (by simpa using he)
      rw [hb] at this
      simpa [Nat.blt_eq] using this
    | succ i =>
      simp at hi
      have := chkB_get h3 hi
      rw [show k + 1 + i = k + (i + 1) by omega] at this
      exact this
theorem fold_bit {B : List Nat} {j : Nat} : ∀ {es : List Edge} {m : Nat}, Nat.testBit (es.foldl (fun m e => bif Region.binds .any e then m ||| (2 ^ e.on ||| B.getD e.on 0) else m) m) j = true →
    Nat.testBit m j = true ∨ ∃ e ∈ es, Region.binds .any e = true ∧ (e.on = j ∨ bit B e.on j = true)
  | [], m, h => .inl h
  | e :: es, m, h => by
    simp only [List.foldl_cons] at h
    rcases fold_bit h with h1 | ⟨e', he', hb⟩
    · cases hb : Region.binds .any e with
      | false => rw [hb] at h1; exact .inl h1
      | true =>
        rw [hb] at h1
        simp only [cond_true, Nat.testBit_or, Bool.or_eq_true, Nat.testBit_two_pow, decide_eq_true_eq] at h1
        rcases h1 with h1 | h1 | h1
        · exact .inl h1
        · exact .inr ⟨e, by simp, hb, .inl h1⟩
        · exact .inr ⟨e, by simp, hb, .inr h1⟩
    · exact .inr ⟨e', by simp [he'], hb⟩
theorem bit_listed {l : List Oper} {B : List Nat} {listed : Array Bool} (hB : chkB B l 0 = true) (hc : Closed l.toArray listed) {j : Nat} : ∀ (i : Nat) {o : Oper}, l[i]? = some o → (∀ e ∈ o.after, Region.binds .any e = true → listed.getD e.on false = true) → bit B i j = true → listed.getD j false = true := by
  intro i
  induction i using Nat.strongRecOn with
  | _ i ih =>
    intro o ho hl hb
    obtain ⟨h1, h2⟩ := chkB_get hB ho
    rw [Nat.zero_add] at h1 h2
    unfold bit at hb
    rw [h1] at hb
    unfold mof at hb
    rcases fold_bit hb with h3 | ⟨e, he, hbe, h3⟩
    · simp at h3
    · have he' : e ∈ o.after := by simpa using he
      have hon := hl e he' hbe
      rcases h3 with h3 | h3
      · rw [← h3]; exact hon
      · have hlt := h2 e he' hbe
        have hil : i < l.length := (List.getElem?_eq_some_iff.1 ho).1
        have ho' : l[e.on]? = some (l[e.on]'(by omega)) := List.getElem?_eq_getElem _
        exact ih e.on hlt ho' (hc.2 e.on _ (by simp) hon) h3
end Go.Proofs.Ev
namespace Go.Proofs.Ev
open Go Go.RowKit Go.Proofs.Gw
structure Rg where
  l : List Oper
  B : List Nat
  t : Nat → Option V
  c0 : Nat
noncomputable def rhoX (l : List Oper) (B : List Nat) (t0 : Nat → Option V) (R : T V) (i : Nat) : Operand → Option V
  | .tmp t => match dpos l 0 t with
    | some j => bif bit B i j then R.get j else bif bit B j i then t0 t else none
    | none => t0 t
  | .const v => cv v
  | .func f => some (.fn f [])
  | .global _ => none
noncomputable def guardX (l : List Oper) (B : List Nat) (R : T V) (i : Nat) (o : Oper) : Option Bool := match o.guard with
  | none => some true
  | some (j, p) => bif bit B i j then match l[j]? with
    | some oj => match oj.dst with
      | some d => match R.get j with
        | some (.bool b) => some (b == p)
        | some (.tup []) => some false
        | _ => none
      | none => none
    | none => none
    else none
noncomputable def evX (l : List Oper) (B : List Nat) (t0 : Nat → Option V) (c0 : Nat) (P : Program) (R : T V) (x : X) (i : Nat) (o : Oper) : Option (V × Option (List V × Nat)) :=
  match guardX l B R i o with
  | none => none
  | some false => some (.tup [], none)
  | some true => match kd o.op with
    | .pure => (exP P (rhoX l B t0 R i) o.op).map fun v => (v, none)
    | .load => (exL P (rhoX l B t0 R i) x o.op).map fun v => (v, none)
    | .new => (exA P (rhoX l B t0 R i) (c0 + i) o.op).map fun p => (p.2.2, some (p.1, p.2.1))
    | .eff => none
noncomputable def isEff (o : Oper) : Bool := match kd o.op with
  | .eff => true
  | _ => false
noncomputable def fillX (l : List Oper) (B : List Nat) (t0 : Nat → Option V) (c0 : Nat) (P : Program) : List (Oper × Nat) → T V → X → T V × X
  | [], R, x => (R, x)
  | (o, i) :: r, R, x => match evX l B t0 c0 P R x i o with
    | some (v, none) => fillX l B t0 c0 P r (R.set i v) x
    | some (v, some (cs, E)) => fillX l B t0 c0 P r (R.set i v) (x.set (c0 + i) (.cells cs E none))
    | none => fillX l B t0 c0 P r R x
noncomputable def chkX (l : List Oper) (B : List Nat) (t0 : Nat → Option V) (c0 : Nat) (P : Program) (R : T V) (x : X) (p : Oper × Nat) : Bool := match evX l B t0 c0 P R x p.2 p.1, R.get p.2 with
  | some (v, none), some u => eqV v u
  | some (v, some (cs, E)), some u => eqV v u && match x.get (c0 + p.2) with
    | some (.cells l' E' none) => eqVs cs l' && Nat.beq E E'
    | _ => false
  | _, _ => false
noncomputable def avX (B : List Nat) (es : List (Oper × Nat)) (i : Nat) : Bool := es.all fun e => !bit B i e.2
noncomputable def opnX (B : List Nat) (done : List Nat) (i : Nat) : Bool := done.all fun e => !bit B e i
noncomputable def stgX (l : List Oper) (B : List Nat) (t0 : Nat → Option V) (c0 : Nat) (P : Program) (K : Kit) (ne : List (Oper × Nat)) : List (Oper × Nat) → List Nat → (Nat → Bool) → T V → X → Option (T V × X)
  | es, done, new, R, x =>
    match fillX l B t0 c0 P (ne.filter fun p => new p.2) R x with
    | (R1, x1) => bif !(ne.all fun p => !(avX B es p.2 && opnX B done p.2) || chkX l B t0 c0 P R1 x1 p) then none else
      match es with
      | [] => some (R1, x1)
      | (o, i) :: es' => bif !es'.all (fun e => bit B e.2 i) then none else
        match guardX l B R1 i o with
        | some false => stgX l B t0 c0 P K ne es' (i :: done) (fun j => avX B es' j && bit B j i) (R1.set i (.tup [])) x1
        | some true => match exE K P (rhoX l B t0 R1 i) x1 (c0 + i) o.op with
          | some (v, y) => stgX l B t0 c0 P K ne es' (i :: done) (fun j => avX B es' j && bit B j i) (R1.set i v) y
          | none => none
        | none => none
section
variable {P : Program} {K : Kit} {G : Rg} {β β0 : Env} {w : World} {w0 : Base} {r : Option Nat} {a : Act}
theorem fill_get : ∀ {is : List (Oper × Nat)} {R : T V} {x : X} {j : Nat}, (∀ p ∈ is, p.2 ≠ j) → (fillX G.l G.B G.t G.c0 P is R x).1.get j = R.get j
  | [], R, x, j, h => rfl
  | (o, i) :: is, R, x, j, h => by
    have hi : i ≠ j := h (o, i) (by simp)
    have hr : ∀ p ∈ is, p.2 ≠ j := fun p hp => h p (by simp [hp])
    unfold fillX
    split
    · rw [fill_get hr, T.get_set, if_neg hi]
    · rw [fill_get hr, T.get_set, if_neg hi]
    · exact fill_get hr
theorem fill_hr : ∀ {is : List (Oper × Nat)} {R : T V} {x : X}, HR w0 β x w → (∀ p ∈ is, β (G.c0 + p.2) = none) → HR w0 β (fillX G.l G.B G.t G.c0 P is R x).2 w ∧ (fillX G.l G.B G.t G.c0 P is R x).2.c = x.c
  | [], R, x, h, _ => ⟨h, rfl⟩
  | (o, i) :: is, R, x, h, hn => by
    have hi : β (G.c0 + i) = none := hn (o, i) (by simp)
    have hr : ∀ p ∈ is, β (G.c0 + p.2) = none := fun p hp => hn p (by simp [hp])
    unfold fillX
    split
    · exact fill_hr h hr
    · rename_i l E _
      obtain ⟨h1, h2⟩ := fill_hr (R := R.set i _) (h.pre hi (.cells l E none)) hr
      exact ⟨h1, h2⟩
    · exact fill_hr h hr
structure Inv (G : Rg) (n0 : Nat) (marks : List Nat) (es : List (Oper × Nat)) (done : List Nat) (R : T V) (x : X) (w0 : Base) (β0 : Env) (listed : Array Bool) (β : Env) (a : Act) (w : World) : Prop where
  closed : Closed G.l.toArray listed
  hr : HR w0 β x w
  name : ∀ i, i < G.l.length → listed.getD i true = false → β (G.c0 + i) = none
  c : G.c0 + G.l.length ≤ x.c
  nx : NX G.c0 β0 β
  unl : ∀ e ∈ es, listed.getD e.2 true = false
  lst : ∀ e ∈ done, listed.getD e false = true
  old : ∀ t v, (∀ j, dpos G.l 0 t = some j → listed.getD j false = false) → G.t t = some v → ∃ u, a.tmps[t]? = some u ∧ VR β v u
  got : ∀ j o d v, G.l[j]? = some o → listed.getD j false = true → o.dst = some d → R.get j = some v → ∃ u, a.tmps[d]? = some u ∧ VR β v u
  sz : a.tmps.size = n0
  ds : DR β marks a.defers
structure Good (G : Rg) (n0 : Nat) : Prop where
  B : chkB G.B G.l 0 = true
  dst : ∀ i o d, G.l[i]? = some o → o.dst = some d → dpos G.l 0 d = some i ∧ d < n0
theorem getD_tf {listed : Array Bool} {i : Nat} (h : i < listed.size) : listed.getD i true = listed.getD i false := by simp [Array.getD, h]
variable {n0 : Nat} {marks : List Nat} {es : List (Oper × Nat)} {done : List Nat} {R : T V} {x : X} {listed : Array Bool}
theorem Inv.rho (h : Inv G n0 marks es done R x w0 β0 listed β a w) (hG : Good G n0) {i : Nat} {o : Oper} (ho : G.l[i]? = some o) (ha : ∀ e ∈ o.after, Region.binds .any e = true → listed.getD e.on false = true) (hun : listed.getD i true = false) : RhoR β (rhoX G.l G.B G.t R i) a.eval := fun y v hy => by
  cases y with
  | tmp t =>
    unfold rhoX at hy
    dsimp only at hy
    split at hy
    · rename_i j hj
      cases hb : bit G.B i j with
      | false =>
        rw [hb] at hy
        dsimp only [cond_false] at hy
        cases hb2 : bit G.B j i with
        | false => rw [hb2] at hy; cases hy
        | true =>
          rw [hb2] at hy
          obtain ⟨_, oj, h1, h2⟩ := dpos_some hj
          have h1' : G.l[j]? = some oj := by simpa using h1
          obtain ⟨u, h3, h4⟩ := h.old t v (fun j' hj' => by
            rw [hj] at hj'; cases hj'
            cases hq : listed.getD j false with
            | false => rfl
            | true =>
              exfalso
              have h5 := bit_listed hG.B h.closed j h1' (h.closed.2 j _ (by simpa using h1') hq) hb2
              have hsz : listed.size = G.l.length := by have := h.closed.1; simpa using this
              have hil := (List.getElem?_eq_some_iff.1 ho).1
              rw [getD_tf (by omega)] at hun
              rw [hun] at h5; cases h5) hy
          have : a.eval (.tmp t) = u := by simp [Act.eval, h3]
          rw [this]; exact h4
      | true =>
        rw [hb] at hy
        obtain ⟨_, oj, h1, h2⟩ := dpos_some hj
        obtain ⟨u, h3, h4⟩ := h.got j oj t v (by simpa using h1) (bit_listed hG.B h.closed i ho ha hb) h2 hy
        have : a.eval (.tmp t) = u := by simp [Act.eval, h3]
        rw [this]; exact h4
    · rename_i hj
      obtain ⟨u, h3, h4⟩ := h.old t v (fun j' hj' => by rw [hj] at hj'; cases hj') hy
      have : a.eval (.tmp t) = u := by simp [Act.eval, h3]
      rw [this]; exact h4
  | const u => exact cv_ok hy
  | func f => injection hy with hy; subst hy; exact .fn (vs := []) .nil
  | global g => cases hy
theorem Inv.guard (h : Inv G n0 marks es done R x w0 β0 listed β a w) (hG : Good G n0) {i : Nat} {o : Oper} (ho : G.l[i]? = some o) (ha : ∀ e ∈ o.after, Region.binds .any e = true → listed.getD e.on false = true) {b : Bool} (hg : guardX G.l G.B R i o = some b) :
    Region.wanted o (yielded G.l.toArray a.tmps) = b := by
  unfold guardX at hg
  split at hg
  · rename_i h0
    injection hg with hg; subst hg
    simp [Region.wanted, h0]
  · rename_i j p h0
    cases hb : bit G.B i j with
    | false => rw [hb] at hg; cases hg
    | true =>
      rw [hb] at hg
      dsimp only [cond_true] at hg
      have hl := bit_listed hG.B h.closed i ho ha hb
      split at hg
      · rename_i oj hj
        split at hg
        · rename_i d hd
          split at hg
          · rename_i b' ht
            injection hg with hg; subst hg
            obtain ⟨u, h1, h2⟩ := h.got j oj d _ hj hl hd ht
            cases h2
            simp only [Region.wanted, h0, yielded, List.getElem?_toArray, hj, Option.bind_some, hd, h1]
            cases b' <;> cases p <;> rfl
          · rename_i ht
            injection hg with hg; subst hg
            obtain ⟨u, h1, h2⟩ := h.got j oj d _ hj hl hd ht
            cases h2 with
            | tup hh =>
              cases hh
              simp [Region.wanted, h0, yielded, hj, hd, h1]
          · cases hg
        · cases hg
      · cases hg
theorem Inv.step {R' : T V} {x' : X} {β' : Env} {w' : World} {es' : List (Oper × Nat)} {done' : List Nat} {v : V} {u : Value} (h : Inv G n0 marks es done R x w0 β0 listed β a w) (hG : Good G n0) {i : Nat} {o : Oper} (ho : G.l[i]? = some o) (hi : i ∈ Region.ready .any G.l.toArray listed)
    (hv : VR β' v u) (hr : HR w0 β' x' w') (hn : ∀ k, k < x.c → k ≠ G.c0 + i → β' k = β k) (hc : x.c ≤ x'.c) (hRi : R'.get i = some v) (hR : ∀ j, j ≠ i → R'.get j = R.get j) (hes : ∀ e ∈ es', e ∈ es ∧ e.2 ≠ i) (hdone : ∀ e ∈ done', e = i ∨ e ∈ done) :
    Inv G n0 marks es' done' R' x' w0 β0 (listed.setIfInBounds i true) β' (a.put o.dst u) w' := by
  have hil : i < G.l.length := (List.getElem?_eq_some_iff.1 ho).1
  have hsz : listed.size = G.l.length := by have := h.closed.1; simpa using this
  have hcc := h.c
  have hun : listed.getD i true = false := (mem_ready.1 hi).1
  have hbi : β (G.c0 + i) = none := h.name i hil hun
  have hext : Ext β β' := fun k p hk => by
    obtain ⟨b, c⟩ := p
    have hk' := (h.hr.lt hk).1
    rw [hn k hk' (fun e => by subst e; rw [hbi] at hk; cases hk)]; exact hk
  have hset : ∀ j, j ≠ i → (listed.setIfInBounds i true).getD j false = listed.getD j false := fun j hj => getD_set_ne' false (Ne.symm hj)
  have hset' : ∀ j, j ≠ i → (listed.setIfInBounds i true).getD j true = listed.getD j true := fun j hj => getD_set_ne' true (Ne.symm hj)
  have hseti : ∀ b, (listed.setIfInBounds i true).getD i b = true := fun b => by simp [Array.getD, hsz, hil]
  refine ⟨h.closed.set hi, hr, fun j hj hl => ?_, Nat.le_trans hcc hc, fun k hk => ?_, fun e he => ?_, fun e he => ?_, fun t v' ht hg => ?_, fun j oj d v' hj hl hd hg => ?_, ?_, ?_⟩
  · by_cases e : j = i
    · subst e; rw [hseti] at hl; cases hl
    · rw [hset' j e] at hl
      rw [hn _ (by omega) (by omega)]; exact h.name j hj hl
  · rw [hn k (by omega) (by omega)]; exact h.nx k hk
  · obtain ⟨h1, h2⟩ := hes e he
    rw [hset' _ h2]; exact h.unl e h1
  · rcases hdone e he with rfl | h1
    · exact hseti _
    · exact getD_set_true (h.lst e h1)
  · obtain ⟨u', h1, h2⟩ := h.old t v' (fun j hj => by
      have h3 := ht j hj
      have hji : j ≠ i := fun e => by subst e; rw [hseti] at h3; cases h3
      rw [hset j hji] at h3; exact h3) hg
    refine ⟨u', ?_, h2.mono hext⟩
    cases hd : o.dst with
    | none => exact h1
    | some d =>
      have hdt : d ≠ t := fun e => by
        subst e
        have h3 := ht i (hG.dst i o d ho hd).1
        rw [hseti] at h3; cases h3
      simp only [Act.put]
      rw [Array.getElem?_setIfInBounds_ne hdt]; exact h1
  · by_cases e : j = i
    · subst e
      rw [ho] at hj; cases hj
      rw [hRi] at hg; cases hg
      refine ⟨u, ?_, hv⟩
      rw [hd]
      have := (hG.dst j o d ho hd).2
      have hs := h.sz
      simp [Act.put, hs, this]
    · rw [hset j e] at hl
      rw [hR j e] at hg
      obtain ⟨u', h1, h2⟩ := h.got j oj d v' hj hl hd hg
      refine ⟨u', ?_, h2.mono hext⟩
      cases hd' : o.dst with
      | none => exact h1
      | some d' =>
        have hdd : d' ≠ d := fun e' => by
          subst e'
          have h3 := (hG.dst i o d' ho hd').1
          have h4 := (hG.dst j oj d' hj hd).1
          rw [h3] at h4
          exact e (Option.some.inj h4).symm
        simp only [Act.put]
        rw [Array.getElem?_setIfInBounds_ne hdd]; exact h1
  · have := h.sz
    cases o.dst <;> simpa [Act.put] using this
  · have : (a.put o.dst u).defers = a.defers := by cases o.dst <;> rfl
    rw [this]; exact h.ds.mono hext
noncomputable def left (n : Nat) (listed : Array Bool) : Nat := ((List.range n).filter fun j => !listed.getD j true).length
theorem left_set {listed : Array Bool} {i : Nat} (hi : i < listed.size) (hun : listed.getD i true = false) : ∀ n, left n (listed.setIfInBounds i true) + (if i < n then 1 else 0) = left n listed
  | 0 => by simp [left]
  | n + 1 => by
    have ih := left_set hi hun n
    unfold left at *
    rw [List.range_succ, List.filter_append, List.filter_append, List.length_append, List.length_append]
    by_cases e : n = i
    · subst e
      rw [if_neg (by omega)] at ih
      rw [if_pos (by omega)]
      have h1 : (listed.setIfInBounds n true).getD n true = true := by simp [Array.getD, hi]
      have h2 : ([n].filter fun j => !(listed.setIfInBounds n true).getD j true).length = 0 := by simp only [List.filter, h1]; rfl
      have h3 : ([n].filter fun j => !listed.getD j true).length = 1 := by simp only [List.filter, hun]; rfl
      rw [h2, h3]; omega
    · have h1 : (listed.setIfInBounds i true).getD n true = listed.getD n true := getD_set_ne' true (Ne.symm e)
      have h2 : ([n].filter fun j => !(listed.setIfInBounds i true).getD j true) = [n].filter fun j => !listed.getD j true := by simp only [List.filter, h1]
      rw [h2]
      by_cases e2 : i < n
      · rw [if_pos e2] at ih; rw [if_pos (by omega)]; omega
      · rw [if_neg e2] at ih; rw [if_neg (by omega)]; omega
theorem left_zero {n : Nat} {listed : Array Bool} (h : left n listed = 0) {j : Nat} (hj : j < n) : listed.getD j true = true := by
  unfold left at h
  have h1 := List.eq_nil_of_length_eq_zero h
  cases hq : listed.getD j true with
  | true => rfl
  | false =>
    have : j ∈ (List.range n).filter fun j => !listed.getD j true := List.mem_filter.2 ⟨List.mem_range.2 hj, by simp only [hq]; rfl⟩
    rw [h1] at this; cases this
theorem ready_nil {l : List Oper} {B : List Nat} {listed : Array Bool} (hB : chkB B l 0 = true) (hsz : listed.size = l.length) (h : Region.ready .any l.toArray listed = []) : ∀ i, i < l.length → listed.getD i false = true := by
  intro i
  induction i using Nat.strongRecOn with
  | _ i ih =>
    intro hi
    cases hq : listed.getD i false with
    | true => rfl
    | false =>
      exfalso
      have ho : l[i]? = some (l[i]) := List.getElem?_eq_getElem hi
      have : i ∈ Region.ready .any l.toArray listed := mem_ready.2 ⟨by rw [getD_tf (by omega)]; exact hq, l[i], by simp, fun e he hb => by
        have hlt := (chkB_get hB ho).2 e he hb
        rw [Nat.zero_add] at hlt
        exact ih e.on hlt (by omega)⟩
      rw [h] at this; cases this
end
end Go.Proofs.Ev
namespace Go.Proofs.Ev
open Go Go.RowKit Go.Proofs.Gw
section
variable {P : Program} {K : Kit} {G : Rg} {β β0 : Env} {w : World} {w0 : Base} {r : Option Nat} {a : Act} {n0 : Nat} {marks : List Nat} {es : List (Oper × Nat)} {done : List Nat} {R : T V} {x : X} {listed : Array Bool} {Q : Exit → Act → World → Prop} {ne : List (Oper × Nat)}
structure NE (G : Rg) (ne : List (Oper × Nat)) : Prop where
  all : ∀ i o, G.l[i]? = some o → isEff o = false → (o, i) ∈ ne
  is : ∀ p ∈ ne, G.l[p.2]? = some p.1 ∧ isEff p.1 = false
structure ES (G : Rg) (es : List (Oper × Nat)) (done : List Nat) : Prop where
  all : ∀ i o, G.l[i]? = some o → isEff o = true → (o, i) ∈ es ∨ i ∈ done
  is : ∀ p ∈ es, G.l[p.2]? = some p.1 ∧ isEff p.1 = true
theorem quiet_step (hG : Good G n0) (h : Inv G n0 marks es done R x w0 β0 listed β a w) {i : Nat} {o : Oper} (ho : G.l[i]? = some o) (hi : i ∈ Region.ready .any G.l.toArray listed) (hc : chkX G.l G.B G.t G.c0 P R x (o, i) = true) {K' : Act → World → Prop}
    (hK : ∀ β' a' w', Inv G n0 marks es done R x w0 β0 (listed.setIfInBounds i true) β' a' w' → K' a' w') (hie : ∀ e ∈ es, e.2 ≠ i) : wpOpIn (FZ r) 0 P G.l.toArray Q i K' a w := by
  obtain ⟨hun, o', ho', ha⟩ := mem_ready.1 hi
  have : o' = o := by
    have h1 : G.l.toArray[i]? = some o := by simpa using ho
    exact Option.some.inj (ho'.symm.trans h1)
  subst this
  have hρ := h.rho hG ho ha hun
  have hil : i < G.l.length := (List.getElem?_eq_some_iff.1 ho).1
  have hbi := h.name i hil hun
  have hcc := h.c
  have es' : ∀ e ∈ es, e ∈ es ∧ e.2 ≠ i := fun e he => ⟨he, hie e he⟩
  have ds' : ∀ e ∈ done, e = i ∨ e ∈ done := fun e he => .inr he
  have same : ∀ {v : V} {u : Value}, VR β v u → R.get i = some v → Inv G n0 marks es done R x w0 β0 (listed.setIfInBounds i true) β (a.put o'.dst u) w := fun hv hR =>
    h.step hG ho hi hv h.hr (fun _ _ _ => rfl) (Nat.le_refl _) hR (fun _ _ => rfl) es' ds'
  unfold wpOpIn
  simp only [ho']
  unfold chkX at hc
  split at hc
  · rename_i v u hev hR
    have := eqV_ok hc
    subst this
    unfold evX at hev
    split at hev
    · cases hev
    · rename_i hg
      rw [h.guard hG ho ha hg, if_neg (by simp)]
      injection hev with hev; injection hev with e1 e2; subst e1
      exact ⟨fun _ _ => trivial, hK β _ w (same (.tup (vs := []) .nil) hR)⟩
    · rename_i hg
      rw [h.guard hG ho ha hg, if_pos rfl]
      split at hev
      · cases hp : exP P (rhoX G.l G.B G.t R i) o'.op with
        | none => rw [hp] at hev; cases hev
        | some v' =>
          rw [hp] at hev; injection hev with hev; injection hev with e1 e2; subst e1
          obtain ⟨u, h1, h2⟩ := exP_ok hρ hp
          exact val_in (h1 w) (hK β _ w (same h2 hR))
      · cases hp : exL P (rhoX G.l G.B G.t R i) x o'.op with
        | none => rw [hp] at hev; cases hev
        | some v' =>
          rw [hp] at hev; injection hev with hev; injection hev with e1 e2; subst e1
          obtain ⟨u, h1, h2⟩ := exL_ok h.hr hρ hp
          exact val_in h1 (hK β _ w (same h2 hR))
      · cases hp : exA P (rhoX G.l G.B G.t R i) (G.c0 + i) o'.op with
        | none => rw [hp] at hev; cases hev
        | some p => rw [hp] at hev; injection hev with hev; injection hev with e1 e2; cases e2
      · cases hev
  · rename_i v l E u hev hR
    rw [Bool.and_eq_true] at hc
    obtain ⟨hc1, hc2⟩ := hc
    have := eqV_ok hc1
    subst this
    split at hc2
    · rename_i l' E' hx
      rw [Bool.and_eq_true] at hc2
      have e1 := eqVs_ok hc2.1
      have e2 := beq_iff.1 hc2.2
      subst e1; subst e2
      unfold evX at hev
      split at hev
      · cases hev
      · injection hev with hev; injection hev with e1 e2; cases e2
      · rename_i hg
        rw [h.guard hG ho ha hg, if_pos rfl]
        split at hev
        · cases hp : exP P (rhoX G.l G.B G.t R i) o'.op with
          | none => rw [hp] at hev; cases hev
          | some v' => rw [hp] at hev; injection hev with hev; injection hev with e1 e2; cases e2
        · cases hp : exL P (rhoX G.l G.B G.t R i) x o'.op with
          | none => rw [hp] at hev; cases hev
          | some v' => rw [hp] at hev; injection hev with hev; injection hev with e1 e2; cases e2
        · cases hp : exA P (rhoX G.l G.B G.t R i) (G.c0 + i) o'.op with
          | none => rw [hp] at hev; cases hev
          | some p =>
            obtain ⟨l2, E2, v2⟩ := p
            rw [hp] at hev; injection hev with hev; injection hev with e1 e2; subst e1
            injection e2 with e2; injection e2 with e2 e3; subst e2; subst e3
            obtain ⟨us, h1, h2⟩ := exA_ok hρ hp
            obtain ⟨u, h3, h4⟩ := h2 w
            have h5 := h.hr.alloc (c := 0) (rb := .cells us.toArray E2) hbi (by omega) hx ⟨us, [], by simp, h1.mono (up_ext hbi), rfl⟩
            exact val_in h3 (hK _ _ _ (h.step hG ho hi (h4 _ up_at) h5 (fun k _ hk => up_ne hk) (Nat.le_refl _) hR (fun _ _ => rfl) es' ds'))
        · cases hev
    · cases hc2
  · cases hc
theorem stage_ok (hG : Good G n0) (hne : NE G ne) (hES : ES G es done) (hchk : ∀ p ∈ ne, avX G.B es p.2 = true → opnX G.B done p.2 = true → chkX G.l G.B G.t G.c0 P R x p = true)
    (hord : ∀ e es', es = e :: es' → ∀ e' ∈ es', bit G.B e'.2 e.2 = true)
    (cont0 : es = [] → ∀ listed β a w, Inv G n0 marks es done R x w0 β0 listed β a w → (∀ i, i < G.l.length → listed.getD i false = true) → Q .normal a w)
    (cont1 : ∀ e es', es = e :: es' → ∀ fuel listed β a w, Inv G n0 marks es done R x w0 β0 listed β a w → e.2 ∈ Region.ready .any G.l.toArray listed → left G.l.length listed = fuel + 1 →
      wpOpIn (FZ r) 0 P G.l.toArray Q e.2 (wpAnyIn (FZ r) 0 P .any G.l.toArray Q fuel (listed.setIfInBounds e.2 true)) a w) :
    ∀ fuel listed β a w, Inv G n0 marks es done R x w0 β0 listed β a w → left G.l.length listed = fuel → wpAnyIn (FZ r) 0 P .any G.l.toArray Q fuel listed a w := by
  intro fuel
  have ends : ∀ listed β a w, Inv G n0 marks es done R x w0 β0 listed β a w → Region.ready .any G.l.toArray listed = [] → Q .normal a w := fun listed β a w h hr => by
    have hsz : listed.size = G.l.length := by have := h.closed.1; simpa using this
    have hall := ready_nil hG.B hsz hr
    refine cont0 ?_ listed β a w h hall
    cases hes : es with
    | nil => rfl
    | cons e es' =>
      exfalso
      have he : e ∈ es := by rw [hes]; simp
      have h1 := (hES.is e he).1
      have hl := (List.getElem?_eq_some_iff.1 h1).1
      have h2 := h.unl e he
      have h3 := hall e.2 hl
      rw [getD_tf (by omega)] at h2
      rw [h2] at h3; cases h3
  induction fuel with
  | zero =>
    intro listed β a w h hf
    have hr : Region.ready .any G.l.toArray listed = [] := by
      rw [List.eq_nil_iff_forall_not_mem]
      intro i hi
      obtain ⟨hun, o, ho, _⟩ := mem_ready.1 hi
      have hil : i < G.l.length := by
        have := (Array.getElem?_eq_some_iff.1 ho).1
        simpa using this
      rw [left_zero hf hil] at hun; cases hun
    exact ⟨hr, ends listed β a w h hr⟩
  | succ fuel ih =>
    intro listed β a w h hf
    refine ⟨fun hr => ends listed β a w h hr, fun i hi => ?_⟩
    obtain ⟨hun, o, ho, ha⟩ := mem_ready.1 hi
    have ho' : G.l[i]? = some o := by simpa using ho
    have hil : i < G.l.length := (List.getElem?_eq_some_iff.1 ho').1
    have hsz : listed.size = G.l.length := by have := h.closed.1; simpa using this
    have hleft : left G.l.length (listed.setIfInBounds i true) = fuel := by
      have := left_set (by omega) hun G.l.length
      rw [if_pos hil] at this; omega
    cases hk : isEff o with
    | true =>
      rcases hES.all i o ho' hk with hm | hm
      · cases hes : es with
        | nil => rw [hes] at hm; cases hm
        | cons e es' =>
          rw [hes] at hm
          rcases List.mem_cons.1 hm with e1 | e1
          · have : e.2 = i := by rw [← e1]
            rw [← this] at hi ⊢
            exact cont1 e es' hes fuel listed β a w h hi hf
          · exfalso
            have hb := hord e es' hes _ e1
            have h1 := bit_listed hG.B h.closed i ho' ha hb
            have h2 := h.unl e (by rw [hes]; simp)
            have hel := (List.getElem?_eq_some_iff.1 (hES.is e (by rw [hes]; simp)).1).1
            rw [getD_tf (by omega)] at h2
            rw [h2] at h1; cases h1
      · exfalso
        have := h.lst i hm
        rw [getD_tf (by omega)] at hun
        rw [hun] at this; cases this
    | false =>
      have hmem := hne.all i o ho' hk
      have hav : avX G.B es i = true := List.all_eq_true.2 fun e he => by
        cases hb : bit G.B i e.2 with
        | false => rfl
        | true =>
          exfalso
          have h1 := bit_listed hG.B h.closed i ho' ha hb
          have h2 := h.unl e he
          have hel := (List.getElem?_eq_some_iff.1 (hES.is e he).1).1
          rw [getD_tf (by omega)] at h2
          rw [h2] at h1; cases h1
      have hop : opnX G.B done i = true := List.all_eq_true.2 fun e he => by
        cases hb : bit G.B e i with
        | false => rfl
        | true =>
          exfalso
          have hl := h.lst e he
          have hel : e < G.l.length := by
            rcases Nat.lt_or_ge e G.l.length with h' | h'
            · exact h'
            · rw [Array.getD_eq_getD_getElem?, Array.getElem?_eq_none (by omega)] at hl; cases hl
          have heo : G.l[e]? = some G.l[e] := List.getElem?_eq_getElem hel
          have h1 := bit_listed hG.B h.closed e heo (h.closed.2 e _ (by simp) hl) hb
          rw [getD_tf (by omega)] at hun
          rw [hun] at h1; cases h1
      exact quiet_step hG h ho' hi (hchk _ hmem hav hop) (fun β' a' w' h' => ih _ β' a' w' h' hleft) fun e he e1 => by
        have h1 := hES.is e he
        rw [e1, ho'] at h1
        have h2 := Option.some.inj h1.1
        rw [← h2, hk] at h1
        exact absurd h1.2 (by simp)
theorem Inv.fill {new : Nat → Bool} (hne : NE G ne) (h : Inv G n0 marks es done R x w0 β0 listed β a w) (hnew : ∀ p ∈ ne, new p.2 = true → listed.getD p.2 true = false) :
    Inv G n0 marks es done (fillX G.l G.B G.t G.c0 P (ne.filter fun p => new p.2) R x).1 (fillX G.l G.B G.t G.c0 P (ne.filter fun p => new p.2) R x).2 w0 β0 listed β a w := by
  have hmem : ∀ p ∈ ne.filter fun p => new p.2, G.l[p.2]? = some p.1 ∧ listed.getD p.2 true = false := fun p hp => by
    obtain ⟨h1, h2⟩ := List.mem_filter.1 hp
    exact ⟨(hne.is p h1).1, hnew p h1 h2⟩
  obtain ⟨h1, h2⟩ := fill_hr (P := P) (G := G) (is := ne.filter fun p => new p.2) (R := R) h.hr fun p hp => h.name _ (List.getElem?_eq_some_iff.1 (hmem p hp).1).1 (hmem p hp).2
  refine { h with hr := h1, c := by rw [h2]; exact h.c, got := fun j o d v hj hl hd hg => ?_ }
  rw [fill_get] at hg
  · exact h.got j o d v hj hl hd hg
  · intro p hp e
    have h3 := (hmem p hp).2
    have hsz : listed.size = G.l.length := by have := h.closed.1; simpa using this
    have hjl := (List.getElem?_eq_some_iff.1 hj).1
    rw [e, getD_tf (by omega)] at h3
    rw [h3] at hl; cases hl
theorem stg_ok (hK : KOk P K) (hG : Good G n0) (hne : NE G ne) {Rf : T V} {xf : X} (fin : ∀ done listed β a w, Inv G n0 marks [] done Rf xf w0 β0 listed β a w → (∀ i, i < G.l.length → listed.getD i false = true) → Q .normal a w) :
    ∀ (es : List (Oper × Nat)) (done : List Nat) (new : Nat → Bool) (R : T V) (x : X), stgX G.l G.B G.t G.c0 P K ne es done new R x = some (Rf, xf) → ES G es done → ∀ fuel listed β a w, Inv G n0 marks es done R x w0 β0 listed β a w → (∀ p ∈ ne, new p.2 = true → listed.getD p.2 true = false) → left G.l.length listed = fuel →
      wpAnyIn (FZ r) 0 P .any G.l.toArray Q fuel listed a w := by
  intro es
  induction es with
  | nil =>
    intro done new R x he hES fuel listed β a w h hnew hf
    unfold stgX at he
    have h1 := h.fill (P := P) hne hnew
    generalize hfl : fillX G.l G.B G.t G.c0 P (ne.filter fun p => new p.2) R x = q at he h1
    obtain ⟨R1, x1⟩ := q
    dsimp only at he h1
    cases hall : ne.all (fun p => !(avX G.B [] p.2 && opnX G.B done p.2) || chkX G.l G.B G.t G.c0 P R1 x1 p) with
    | false => rw [hall] at he; cases he
    | true =>
      rw [hall] at he
      injection he with he; injection he with e1 e2; subst e1; subst e2
      refine stage_ok hG hne hES (fun p hp hav hop => ?_) (fun e es' e1 => by cases e1) (fun _ listed β a w h hl => fin done listed β a w h hl) (fun e es' e1 => by cases e1) fuel listed β a w h1 hf
      have := List.all_eq_true.1 hall p hp
      rw [hav, hop] at this
      simpa using this
  | cons e es' ih =>
    intro done new R x he hES fuel listed β a w h hnew hf
    obtain ⟨o, i⟩ := e
    unfold stgX at he
    have h1 := h.fill (P := P) hne hnew
    generalize hfl : fillX G.l G.B G.t G.c0 P (ne.filter fun p => new p.2) R x = q at he h1
    obtain ⟨R1, x1⟩ := q
    dsimp only at he h1
    cases hall : ne.all (fun p => !(avX G.B ((o, i) :: es') p.2 && opnX G.B done p.2) || chkX G.l G.B G.t G.c0 P R1 x1 p) with
    | false => rw [hall] at he; cases he
    | true =>
      rw [hall] at he
      simp only [Bool.not_true, cond_false] at he
      cases hord : es'.all (fun e => bit G.B e.2 i) with
      | false => rw [hord] at he; cases he
      | true =>
        rw [hord] at he
        simp only [Bool.not_true, cond_false] at he
        have ho := (hES.is (o, i) (by simp)).1
        have hoe := (hES.is (o, i) (by simp)).2
        dsimp only at ho hoe
        have hES' : ES G es' (i :: done) := ⟨fun j oj hj hk => by
          rcases hES.all j oj hj hk with hm | hm
          · rcases List.mem_cons.1 hm with e1 | e1
            · injection e1 with e1 e2; exact .inr (by rw [e2]; simp)
            · exact .inl e1
          · exact .inr (by simp [hm]), fun p hp => hES.is p (by simp [hp])⟩
        refine stage_ok hG hne hES (fun p hp hav hop => ?_) (fun e es'' e1 e' he' => ?_) (fun e1 => by cases e1) (fun e es'' e1 fuel listed β a w h hi hf => ?_) fuel listed β a w h1 hf
        · have := List.all_eq_true.1 hall p hp
          rw [hav, hop] at this
          simpa using this
        · injection e1 with e1 e2
          subst e1; subst e2
          exact List.all_eq_true.1 hord e' he'
        · injection e1 with e1 e2
          subst e1; subst e2
          dsimp only at hi ⊢
          obtain ⟨hun, o2, ho2, ha⟩ := mem_ready.1 hi
          have : o2 = o := by
            have h2 : G.l.toArray[i]? = some o := by simpa using ho
            exact Option.some.inj (ho2.symm.trans h2)
          subst this
          have hil : i < G.l.length := (List.getElem?_eq_some_iff.1 ho).1
          have hsz : listed.size = G.l.length := by have := h.closed.1; simpa using this
          have hbi := h.name i hil hun
          have hcc := h.c
          have hleft : left G.l.length (listed.setIfInBounds i true) = fuel := by
            have := left_set (by omega) hun G.l.length
            rw [if_pos hil] at this; omega
          have hesn : ∀ e ∈ es', e ∈ (o2, i) :: es' ∧ e.2 ≠ i := fun e he => ⟨by simp [he], fun e1 => by
            have hb := List.all_eq_true.1 hord e he
            rw [e1] at hb
            have h3 := bit_listed hG.B h.closed i ho ha hb
            rw [getD_tf (by omega)] at hun
            rw [hun] at h3; cases h3⟩
          have hdn : ∀ e ∈ i :: done, e = i ∨ e ∈ done := fun e he => List.mem_cons.1 he
          have hnew' : ∀ p ∈ ne, (avX G.B es' p.2 && bit G.B p.2 i) = true → (listed.setIfInBounds i true).getD p.2 true = false := fun p hp hb => by
            rw [Bool.and_eq_true] at hb
            have hpo := hne.is p hp
            have hpi : i ≠ p.2 := fun e => by
              have h3 := hpo.1
              rw [← e, ho] at h3
              have h4 := Option.some.inj h3
              rw [← h4, hoe] at hpo
              exact absurd hpo.2 (by simp)
            rw [getD_set_ne' true hpi]
            have hpl := (List.getElem?_eq_some_iff.1 hpo.1).1
            rw [getD_tf (by omega)]
            cases hq : listed.getD p.2 false with
            | false => rfl
            | true =>
              exfalso
              have h3 := bit_listed hG.B h.closed p.2 hpo.1 (h.closed.2 p.2 _ (by simpa using hpo.1) hq) hb.2
              rw [getD_tf (by omega)] at hun
              rw [hun] at h3; cases h3
          unfold wpOpIn
          simp only [ho2]
          split at he
          · rename_i hg
            rw [h.guard hG ho ha hg, if_neg (by simp)]
            refine ⟨fun _ _ => trivial, ih _ _ _ _ he hES' fuel _ β _ w ?_ hnew' hleft⟩
            exact h.step hG ho hi (.tup (vs := []) .nil) h.hr (fun _ _ _ => rfl) (Nat.le_refl _) (by rw [T.get_set, if_pos rfl]) (fun j hj => by rw [T.get_set, if_neg (Ne.symm hj)]) hesn hdn
          · rename_i hg
            rw [h.guard hG ho ha hg, if_pos rfl]
            split at he
            · rename_i v y hv
              refine exE_ok hK h.hr (h.rho hG ho ha hun) hbi (by omega) hv fun β' u w' h1 h2 h3 h4 => ?_
              exact ih _ _ _ _ he hES' fuel _ β' _ w' (h.step hG ho hi h1 h2 h3 h4 (by rw [T.get_set, if_pos rfl]) (fun j hj => by rw [T.get_set, if_neg (Ne.symm hj)]) hesn hdn) hnew' hleft
            · cases he
          · cases he
end
end Go.Proofs.Ev
namespace Go.Proofs.Ev
open Go Go.RowKit Go.Proofs.Gw
noncomputable def fin : List (Oper × Nat) → T V → List (Nat × V) → Option (List (Nat × V))
  | [], _, b => some b
  | (o, i) :: r, R, b => match o.dst with
    | none => fin r R b
    | some d => match R.get i with
      | some v => fin r R ((d, v) :: b)
      | none => none
theorem fin_get : ∀ {is : List (Oper × Nat)} {R : T V} {b b' : List (Nat × V)}, fin is R b = some b' → ∀ t q v, getB t b' q = some v → (∃ p ∈ is, p.1.dst = some q ∧ R.get p.2 = some v) ∨ ((∀ p ∈ is, p.1.dst ≠ some q) ∧ getB t b q = some v)
  | [], R, b, b', h, t, q, v, hq => by
    injection h with h; subst h
    exact .inr ⟨by simp, hq⟩
  | (o, i) :: r, R, b, b', h, t, q, v, hq => by
    unfold fin at h
    split at h
    · rename_i hd
      rcases fin_get h t q v hq with ⟨p, hp, h1⟩ | ⟨h1, h2⟩
      · exact .inl ⟨p, by simp [hp], h1⟩
      · refine .inr ⟨fun p hp => ?_, h2⟩
        rcases List.mem_cons.1 hp with rfl | hp
        · simp [hd]
        · exact h1 p hp
    · rename_i d hd
      split at h
      · rename_i v0 hv0
        rcases fin_get h t q v hq with ⟨p, hp, h1⟩ | ⟨h1, h2⟩
        · exact .inl ⟨p, by simp [hp], h1⟩
        · rw [getB_cons] at h2
          by_cases e : d = q
          · subst e
            rw [if_pos rfl] at h2
            injection h2 with h2; subst h2
            exact .inl ⟨(o, i), by simp, hd, hv0⟩
          · rw [if_neg e] at h2
            refine .inr ⟨fun p hp => ?_, h2⟩
            rcases List.mem_cons.1 hp with rfl | hp
            · simp [hd, e]
            · exact h1 p hp
      · cases h
theorem look_some {b : List (Nat × V)} {d : Nat} {v : V} {q : Nat} (h : look ((d, v) :: b) q ≠ none) : d = q ∨ look b q ≠ none := by
  by_cases e : d = q
  · exact .inl e
  · rw [look_cons, beq_no e] at h; exact .inr h
theorem fin_keys : ∀ {is : List (Oper × Nat)} {R : T V} {b b' : List (Nat × V)}, fin is R b = some b' → ∀ q, look b' q ≠ none → look b q ≠ none ∨ ∃ p ∈ is, p.1.dst = some q
  | [], R, b, b', h, q, hq => by
    injection h with h; subst h
    exact .inl hq
  | (o, i) :: r, R, b, b', h, q, hq => by
    unfold fin at h
    split at h
    · rcases fin_keys h q hq with h1 | ⟨p, hp, h1⟩
      · exact .inl h1
      · exact .inr ⟨p, by simp [hp], h1⟩
    · rename_i d hd
      split at h
      · rcases fin_keys h q hq with h1 | ⟨p, hp, h1⟩
        · rcases look_some h1 with e | h1
          · exact .inr ⟨(o, i), by simp, by rw [hd, e]⟩
          · exact .inl h1
        · exact .inr ⟨p, by simp [hp], h1⟩
      · cases h
noncomputable def dstOk (l : List Oper) (n : Nat) (p : Oper × Nat) : Bool := match p.1.dst with
  | some d => (match dpos l 0 d with
    | some j => Nat.beq j p.2
    | none => false) && Nat.blt d n
  | none => true
noncomputable def evD0 (K : Kit) (P : Program) (n : Nat) (ops : Array Oper) (s : S) : Option S :=
  let l := ops.toList
  let iz := l.zipIdx
  bif !(Nat.beq s.n n && (chkB (mall l) l 0 && iz.all (dstOk l n))) then none else
  match stgX l (mall l) s.get s.x.c P K (iz.filter fun p => !isEff p.1) (iz.filter fun p => isEff p.1) [] (fun j => avX (mall l) (iz.filter fun p => isEff p.1) j) (T.mk 3) ⟨s.x.h, s.x.c + l.length⟩ with
  | some (R, x) => match fin iz R s.b with
    | some b => some ⟨s.t, b, s.n, s.ds, x⟩
    | none => none
  | none => none
noncomputable def evD (K : Kit) (P : Program) (n : Nat) (ops : Array Oper) (s : S) : Option S := S.rec (motive := fun _ => Option S) (fun t b n' ds x0 =>
  bif !(Nat.beq n' n && (chkB (mall ops.toList) ops.toList 0 && ops.toList.zipIdx.all (dstOk ops.toList n))) then none else
  match stgX ops.toList (mall ops.toList) (getB t b) x0.c P K (ops.toList.zipIdx.filter fun p => !isEff p.1) (ops.toList.zipIdx.filter fun p => isEff p.1) [] (fun j => avX (mall ops.toList) (ops.toList.zipIdx.filter fun p => isEff p.1) j) (T.mk 3) (x0.bump ops.toList.length) with
  | some (R, x) => match fin ops.toList.zipIdx R b with
    | some b => some ⟨t, b, n', ds, x⟩
    | none => none
  | none => none) s
theorem evD_eq (K : Kit) (P : Program) (n : Nat) (ops : Array Oper) (s : S) : evD K P n ops s = evD0 K P n ops s := by
  cases s; rfl
section
variable {P : Program} {K : Kit} {β : Env} {w : World} {w0 : Base} {rr : Option Nat} {a : Act} {s s' : S} {ops : Array Oper} {Q : Exit → Act → World → Prop}
theorem zip_mem {l : List Oper} {p : Oper × Nat} : p ∈ l.zipIdx ↔ l[p.2]? = some p.1 := by
  obtain ⟨o, i⟩ := p
  rw [List.mem_zipIdx_iff_getElem?]
theorem evD_ok {n : Nat} (hK : KOk P K) (hm : P.follows .mixedOrders = true) {id : Nat} (hF : FR w0 β s a w) (he : evD K P n ops s = some s') (hx : ∀ β' a' w', FR w0 β' s' a' w' → NX s.x.c β β' → s.x.c ≤ s'.x.c → Q .normal a' w') : (Code.region id ops true).wpIn (FZ rr) 0 P Q a w := by
  obtain ⟨l⟩ := ops
  rw [evD_eq] at he
  unfold evD0 at he
  dsimp only at he
  cases hc : (Nat.beq s.n n && (chkB (mall l) l 0 && l.zipIdx.all (dstOk l n))) with
  | false => rw [hc] at he; cases he
  | true =>
    rw [hc] at he
    simp only [Bool.not_true, cond_false] at he
    rw [Bool.and_eq_true, beq_iff] at hc
    obtain ⟨hsn, hc⟩ := hc
    subst hsn
    rw [Bool.and_eq_true] at hc
    split at he
    · rename_i R x hst
      split at he
      · rename_i t hfin
        injection he with he; subst he
        have hG : Good ⟨l, mall l, s.get, s.x.c⟩ s.n := ⟨hc.1, fun i o d ho hd => by
          have h1 := List.all_eq_true.1 hc.2 (o, i) (zip_mem.2 ho)
          unfold dstOk at h1
          rw [hd] at h1
          dsimp only at h1
          rw [Bool.and_eq_true] at h1
          obtain ⟨h2, h3⟩ := h1
          split at h2
          · rename_i j hj
            rw [beq_iff] at h2; subst h2
            exact ⟨hj, by simpa [Nat.blt_eq] using h3⟩
          · cases h2⟩
        refine wpIn_region_any hm ?_
        have hlen : (Array.replicate l.toArray.size false).size = l.length := by simp
        have hun : ∀ i, i < l.length → (Array.replicate l.toArray.size false).getD i true = false := fun i hi => by simp [Array.getD, hi]
        have hlow : ∀ k, s.x.c ≤ k → β k = none := fun k hk => by
          cases hq : β k with
          | none => rfl
          | some p => obtain ⟨b, c⟩ := p; have := (hF.hr.lt hq).1; omega
        have hinv : Inv ⟨l, mall l, s.get, s.x.c⟩ s.n s.ds (l.zipIdx.filter fun p => isEff p.1) [] (T.mk 3) ⟨s.x.h, s.x.c + l.length⟩ w0 β (Array.replicate l.toArray.size false) β a { w with drawn := w.drawn + 1 } :=
          ⟨Closed.start, (hF.hr.drew).bump (by omega), fun i hi _ => hlow _ (by show s.x.c ≤ s.x.c + i; omega), Nat.le_refl _, NX.refl _ _, fun e he => hun _ (List.getElem?_eq_some_iff.1 (zip_mem.1 (List.mem_filter.1 he).1)).1, fun e he => (by cases he),
            fun t v _ hg => hF.ta t v hg, fun j o d v _ hl => (by
              rw [getD_replicate_false] at hl; cases hl), hF.sz, hF.ds⟩
        have hleft : ∀ m, m ≤ l.length → left m (Array.replicate l.toArray.size false) = m := by
          intro m
          induction m with
          | zero => intro _; simp [left]
          | succ m ih =>
            intro hm
            have ih := ih (by omega)
            unfold left at *
            rw [List.range_succ, List.filter_append, List.length_append, ih]
            have := hun m (by omega)
            simp only [List.filter, this]; rfl
        have := stg_ok (Q := Q) (r := rr) hK hG (ne := l.zipIdx.filter fun p => !isEff p.1) ⟨fun i o ho hk => List.mem_filter.2 ⟨zip_mem.2 ho, by simp [hk]⟩, fun p hp => ⟨zip_mem.1 (List.mem_filter.1 hp).1, by have := (List.mem_filter.1 hp).2; simpa using this⟩⟩
          (Rf := R) (xf := x) (w0 := w0) (β0 := β) (marks := s.ds) (fun done listed β' a' w' h hl => by
            refine hx β' a' w' ⟨fun q v hq => ?_, h.sz, h.ds, h.hr⟩ h.nx (Nat.le_trans (Nat.le_add_right _ _) h.c)
            rcases fin_get hfin s.t q v hq with ⟨p, hp, h1, h2⟩ | ⟨h1, h2⟩
            · have hp' := zip_mem.1 hp
              exact h.got p.2 p.1 q v hp' (hl _ (List.getElem?_eq_some_iff.1 hp').1) h1 h2
            · refine h.old q v (fun j hd => ?_) h2
              obtain ⟨_, o, h3, h4⟩ := dpos_some hd
              exact absurd h4 (h1 (o, j) (zip_mem.2 (by simpa using h3)))) _ _ _ _ _ hst ⟨fun i o ho hk => .inl (List.mem_filter.2 ⟨zip_mem.2 ho, by simp [hk]⟩), fun p hp => ⟨zip_mem.1 (List.mem_filter.1 hp).1, by have := (List.mem_filter.1 hp).2; simpa using this⟩⟩ l.length _ β a _ hinv
            (fun p hp _ => hun _ (List.getElem?_eq_some_iff.1 (zip_mem.1 (List.mem_filter.1 hp).1)).1) (hleft _ (Nat.le_refl _))
        simpa using this
      · cases he
    · cases he
theorem evD_keys {n : Nat} (he : evD K P n ops s = some s') : s'.t = s.t ∧ s'.n = s.n ∧ ∀ q, look s'.b q ≠ none → look s.b q ≠ none ∨ ∃ o ∈ ops.toList, o.dst = some q := by
  rw [evD_eq] at he
  unfold evD0 at he
  dsimp only at he
  cases hc : (Nat.beq s.n n && (chkB (mall ops.toList) ops.toList 0 && ops.toList.zipIdx.all (dstOk ops.toList n))) with
  | false => rw [hc] at he; cases he
  | true =>
    rw [hc] at he
    simp only [Bool.not_true, cond_false] at he
    split at he
    · split at he
      · rename_i b hfin
        injection he with he; subst he
        refine ⟨rfl, rfl, fun q hq => ?_⟩
        rcases fin_keys hfin q hq with h1 | ⟨p, hp, h1⟩
        · exact .inl h1
        · exact .inr ⟨p.1, (List.getElem?_eq_some_iff.1 (zip_mem.1 hp)).2 ▸ List.getElem_mem _, h1⟩
      · cases he
    · cases he
theorem put_keys {d : Option Nat} {v : V} {x : X} (hp : s.put d v x = some s') : s'.t = s.t ∧ s'.n = s.n ∧ ∀ q, look s'.b q ≠ none → look s.b q ≠ none ∨ d = some q := by
  rw [S.put_eq] at hp
  cases d with
  | none => injection hp with hp; subst hp; exact ⟨rfl, rfl, fun q h => .inl h⟩
  | some d =>
    dsimp only at hp
    cases hd : Nat.blt d s.n with
    | false => rw [hd] at hp; cases hp
    | true =>
      rw [hd] at hp; injection hp with hp; subst hp
      refine ⟨rfl, rfl, fun q h => ?_⟩
      rcases look_some h with e | h
      · exact .inr (by rw [e])
      · exact .inl h
theorem opS_keys {o : Oper} (he : opS K P ops s o = some s') : s'.t = s.t ∧ s'.n = s.n ∧ ∀ q, look s'.b q ≠ none → look s.b q ≠ none ∨ o.dst = some q := by
  rw [opS_eq] at he
  unfold opS0 at he
  split at he
  · cases he
  · exact put_keys he
  · split at he <;> split at he <;> first | exact put_keys he | cases he
theorem opsS_keys : ∀ {l : List Oper} {s s' : S}, opsS K P ops l s = some s' → s'.t = s.t ∧ s'.n = s.n ∧ ∀ q, look s'.b q ≠ none → look s.b q ≠ none ∨ ∃ o ∈ l, o.dst = some q
  | [], s, s', he => by rw [opsS_nil] at he; injection he with he; subst he; exact ⟨rfl, rfl, fun q h => .inl h⟩
  | o :: l, s, s', he => by
    rw [opsS_cons] at he
    split at he
    · rename_i s1 h1
      obtain ⟨a1, a2, a3⟩ := opS_keys h1
      obtain ⟨b1, b2, b3⟩ := opsS_keys he
      refine ⟨b1.trans a1, b2.trans a2, fun q hq => ?_⟩
      rcases b3 q hq with h | ⟨o', ho', h⟩
      · rcases a3 q h with h | h
        · exact .inl h
        · exact .inr ⟨o, by simp, h⟩
      · exact .inr ⟨o', by simp [ho'], h⟩
    · cases he
end
noncomputable def ksOf (ops : Array Oper) (g : Nat) : List Nat := ops.toList.filterMap fun o => match o.dst with
  | some d => bif Nat.testBit g d then some d else none
  | none => none
noncomputable def flushT (ks : List Nat) (b : List (Nat × V)) (t : T V) : T V := List.rec t (fun k _ ih => Option.rec ih (fun v => T.set ih k v) (look b k)) ks
noncomputable def S.flush (s : S) (g : Nat) (ops : Array Oper) : S := S.rec (motive := fun _ => S) (fun t b n ds x => ⟨flushT (ksOf ops g) b t, [], n, ds, x⟩) s
theorem flushT_get {b : List (Nat × V)} {t : T V} : ∀ {ks : List Nat} {i : Nat} {v : V}, (flushT ks b t).get i = some v → (i ∈ ks ∧ look b i = some v) ∨ ((i ∈ ks → look b i = none) ∧ t.get i = some v)
  | [], i, v, h => .inr ⟨fun h => (by cases h), h⟩
  | k :: ks, i, v, h => by
    have e : flushT (k :: ks) b t = match look b k with
      | none => flushT ks b t
      | some v => T.set (flushT ks b t) k v := by
      show (Option.rec (flushT ks b t) (fun v => T.set (flushT ks b t) k v) (look b k) : T V) = _
      cases look b k <;> rfl
    rw [e] at h
    have next : (flushT ks b t).get i = some v → (k = i → look b i = none) → (i ∈ k :: ks ∧ look b i = some v) ∨ ((i ∈ k :: ks → look b i = none) ∧ t.get i = some v) := fun h hk => by
      rcases flushT_get h with ⟨h1, h2⟩ | ⟨h1, h2⟩
      · exact .inl ⟨by simp [h1], h2⟩
      · refine .inr ⟨fun hm => ?_, h2⟩
        rcases List.mem_cons.1 hm with e | hm
        · exact hk e.symm
        · exact h1 hm
    cases hl : look b k with
    | none => rw [hl] at h; exact next h (fun e => by rw [← e]; exact hl)
    | some u =>
      rw [hl] at h
      dsimp only at h
      rw [T.get_set] at h
      by_cases e : k = i
      · subst e
        rw [if_pos rfl] at h
        exact .inl ⟨by simp, by rw [hl]; exact h⟩
      · rw [if_neg e] at h
        exact next h (fun e' => absurd e' e)
theorem mem_ks {ops : Array Oper} {g i : Nat} : i ∈ ksOf ops g ↔ Nat.testBit g i = true ∧ ∃ o ∈ ops.toList, o.dst = some i := by
  unfold ksOf
  rw [List.mem_filterMap]
  constructor
  · rintro ⟨o, ho, h⟩
    split at h
    · rename_i d hd
      cases hb : Nat.testBit g d with
      | false => rw [hb] at h; cases h
      | true => rw [hb] at h; injection h with h; subst h; exact ⟨hb, o, ho, hd⟩
    · cases h
  · rintro ⟨hb, o, ho, h⟩
    exact ⟨o, ho, by rw [h]; simp [hb]⟩
def Cl (g : Nat) (s : S) : Prop := s.b = [] ∧ Gi g s.t
theorem flush_get {s : S} {g : Nat} {ops : Array Oper} (hg : Gi g s.t) (hk : ∀ q, look s.b q ≠ none → ∃ o ∈ ops.toList, o.dst = some q) : (∀ i v, (s.flush g ops).get i = some v → s.get i = some v) ∧ Cl g (s.flush g ops) := by
  refine ⟨fun i v h => ?_, rfl, fun i v h => ?_⟩
  · have h' : (flushT (ksOf ops g) s.b s.t).get i = some v := h
    show getB s.t s.b i = some v
    rcases flushT_get h' with ⟨_, h2⟩ | ⟨h1, h2⟩
    · unfold getB; rw [h2]
    · have : look s.b i = none := by
        cases hl : look s.b i with
        | none => rfl
        | some u =>
          rw [← hl]
          exact h1 (mem_ks.2 ⟨hg i v h2, hk i (by rw [hl]; simp)⟩)
      unfold getB; rw [this]; exact h2
  · rcases flushT_get h with ⟨h1, _⟩ | ⟨_, h2⟩
    · exact (mem_ks.1 h1).1
    · exact hg i v h2
inductive Ex where
  | nm
  | ex (id : Nat)
  | rt
noncomputable def Ex.to : Ex → Exit
  | .nm => .normal
  | .ex id => .exit id
  | .rt => .ret
noncomputable def iter (f : S → Option (Ex × S)) (n : Nat) (s : S) : Option (Ex × S) := Nat.rec (motive := fun _ => S → Option (Ex × S)) (fun _ => none) (fun _ ih s => match f s with
  | some (.nm, s') => ih s'
  | r => r) n s
theorem iter_succ (f : S → Option (Ex × S)) (n : Nat) (s : S) : iter f (n + 1) s = match f s with
    | some (.nm, s') => iter f n s'
    | r => r := rfl
noncomputable def evR (K : Kit) (P : Program) (g : Nat) (r : Option Nat) (f : Operand) (ps : Array Tmp) (asg body : Code) (s : S) : Option (Ex × S) := match rho s.get f with
    | some (.fn gf cap) => bif !calledT P gf then none else
      match (match r with
        | none => some (s.x.c, (⟨s.x.h, s.x.c + 2⟩ : X).set s.x.c (.dfr false), s.x.c :: s.ds)
        | some l => match s.x.get l with
          | some (.loop _ _ _ _ _ _ _ _ d) => some (d, (⟨s.x.h, s.x.c + 2⟩ : X), s.ds)
          | _ => none) with
      | some (d, x1, ds) => match K.call gf (.yl (s.x.c + 1) :: cap) (x1.set (s.x.c + 1) (.loop .ready none g s.t s.n ps.toList asg body d)) with
        | some (_, x3) => match x3.get (s.x.c + 1) with
          | some (.loop st pd g' t n ps' asg' body' d') => match st with
            | .busy => none
            | _ => match pd with
              | none => some (.nm, ⟨s.t, [], s.n, ds, x3.set (s.x.c + 1) (.loop .exhausted pd g' t n ps' asg' body' d')⟩)
              | some .ret => some (.rt, ⟨s.t, [], s.n, ds, x3.set (s.x.c + 1) (.loop .exhausted pd g' t n ps' asg' body' d')⟩)
              | some (.exit id) => some (.ex id, ⟨s.t, [], s.n, ds, x3.set (s.x.c + 1) (.loop .exhausted pd g' t n ps' asg' body' d')⟩)
              | _ => none
          | _ => none
        | none => none
      | none => none
    | _ => none
noncomputable def evReg (K : Kit) (P : Program) (g nn : Nat) (ops : Array Oper) (d : Bool) (s : S) : Option (Ex × S) := Option.rec none (fun s' => some (.nm, s'.flush g ops)) (Bool.rec (opsS K P ops ops.toList s) (evD K P nn ops s) d)
noncomputable def seqK (f : S → Option (Ex × S)) (o : Option (Ex × S)) : Option (Ex × S) := match o with
  | some (.nm, s') => f s'
  | o => o
noncomputable def condK (x y : S → Option (Ex × S)) (s : S) (v : Option V) : Option (Ex × S) := match v with
  | some (.bool true) => x s
  | some (.bool false) => y s
  | _ => none
noncomputable def blkK (id : Nat) (o : Option (Ex × S)) : Option (Ex × S) := match o with
  | some (.ex j, s') => if j = id then some (.nm, s') else some (.ex j, s')
  | o => o
noncomputable def evC (K : Kit) (P : Program) (g nn : Nat) (r : Option Nat) (c : Code) : S → Option (Ex × S) := Code.rec (motive := fun _ => S → Option (Ex × S))
  (fun s => some (.nm, s)) (fun _ ops d s => evReg K P g nn ops d s) (fun _ _ x y s => seqK y (x s)) (fun c _ _ x y s => condK x y s (rho s.get c)) (fun id _ x s => blkK id (x s)) (fun _ x s => iter x K.fuel s)
  (fun f ps asg body _ _ s => evR K P g r f ps asg body s) (fun id s => some (.ex id, s)) (fun _ _ _ => none) (fun _ _ => none) (fun _ _ => none) (fun s => some (.rt, s)) (fun _ _ => none) c
theorem evC_eq (K : Kit) (P : Program) (g nn : Nat) (r : Option Nat) (c : Code) (s : S) : evC K P g nn r c s = match c with
  | .skip => some (.nm, s)
  | .region _ ops d => match (bif d then evD K P nn ops s else opsS K P ops ops.toList s) with
    | some s' => some (.nm, s'.flush g ops)
    | none => none
  | .seq a b => match evC K P g nn r a s with
    | some (.nm, s') => evC K P g nn r b s'
    | o => o
  | .cond c a b => match rho s.get c with
    | some (.bool true) => evC K P g nn r a s
    | some (.bool false) => evC K P g nn r b s
    | _ => none
  | .block id b => match evC K P g nn r b s with
    | some (.ex j, s') => if j = id then some (.nm, s') else some (.ex j, s')
    | o => o
  | .loop b => iter (evC K P g nn r b) K.fuel s
  | .exit id => some (.ex id, s)
  | .ret => some (.rt, s)
  | .rangeFunc f ps asg body => evR K P g r f ps asg body s
  | _ => none := by
  cases c <;> try rfl
  case region id ops d =>
    show evReg K P g nn ops d s = _
    unfold evReg
    cases d
    · show (Option.rec none (fun s' => some (Ex.nm, s'.flush g ops)) (opsS K P ops ops.toList s) : Option (Ex × S)) = _
      dsimp only [cond_false]
      cases opsS K P ops ops.toList s <;> rfl
    · show (Option.rec none (fun s' => some (Ex.nm, s'.flush g ops)) (evD K P nn ops s) : Option (Ex × S)) = _
      dsimp only [cond_true]
      cases evD K P nn ops s <;> rfl
theorem putObj_grown (w : World) (b : Nat) (o : Obj) : w.grownBy (w.putObj b o) (some b) := ⟨rfl, rfl, rfl, by simp, fun k _ hk => World.putObj_heap_other (fun e => hk (by rw [e]))⟩
theorem putObj_at {w : World} {b : Nat} {o o' : Obj} (h : w.heap[b]? = some o') : (w.putObj b o).heap[b]? = some o := World.putObj_heap_same (Array.getElem?_eq_some_iff.1 h).1
section
variable {P : Program} {K : Kit} {β : Env} {w : World} {w0 : Base} {rr r : Option Nat} {a : Act} {s s' : S}
noncomputable def RO (β : Env) (r rr : Option Nat) : Prop := (r = none ∧ rr = none) ∨ ∃ l b c, r = some l ∧ rr = some b ∧ β l = some (b, c)
theorem RO.mono {β β' : Env} (h : RO β r rr) (e : Ext β β') : RO β' r rr := by
  rcases h with h | ⟨l, b, c, h1, h2, h3⟩
  · exact .inl h
  · exact .inr ⟨l, b, c, h1, h2, e _ _ h3⟩
theorem iter_inv {f : S → Option (Ex × S)} {I : S → Prop} (h : ∀ s e s', f s = some (e, s') → I s → I s') : ∀ n s e s', iter f n s = some (e, s') → I s → I s'
  | 0, s, e, s', hi, _ => by cases hi
  | n + 1, s, e, s', hi, hs => by
    rw [iter_succ] at hi
    split at hi
    · rename_i s1 h1
      exact iter_inv h n s1 e s' hi (h _ _ _ h1 hs)
    · exact h _ _ _ hi hs
theorem evC_inv {g nn : Nat} : ∀ (c : Code) {s : S} {e : Ex} {s' : S}, evC K P g nn r c s = some (e, s') → Cl g s → Cl g s' ∧ s'.n = s.n := by
  intro c
  induction c with
  | skip => intro s e s' he hs; rw [evC_eq] at he; dsimp only at he; injection he with he; injection he with e1 e2; subst e2; exact ⟨hs, rfl⟩
  | exit id => intro s e s' he hs; rw [evC_eq] at he; dsimp only at he; injection he with he; injection he with e1 e2; subst e2; exact ⟨hs, rfl⟩
  | ret => intro s e s' he hs; rw [evC_eq] at he; dsimp only at he; injection he with he; injection he with e1 e2; subst e2; exact ⟨hs, rfl⟩
  | region id ops d =>
    intro s e s' he hs
    rw [evC_eq] at he
    dsimp only at he
    split at he
    · rename_i s1 h1
      injection he with he; injection he with e1 e2; subst e2
      have hk : s1.t = s.t ∧ s1.n = s.n ∧ ∀ q, look s1.b q ≠ none → look s.b q ≠ none ∨ ∃ o ∈ ops.toList, o.dst = some q := by
        cases d with
        | true => exact evD_keys h1
        | false => exact opsS_keys h1
      refine ⟨(flush_get (by rw [hk.1]; exact hs.2) fun q hq => ?_).2, hk.2.1⟩
      rcases hk.2.2 q hq with h | h
      · rw [hs.1] at h; exact absurd rfl h
      · exact h
    · cases he
  | seq x y ihx ihy =>
    intro s e s' he hs
    rw [evC_eq] at he
    dsimp only at he
    split at he
    · rename_i s1 h1
      obtain ⟨a1, a2⟩ := ihx h1 hs
      obtain ⟨b1, b2⟩ := ihy he a1
      exact ⟨b1, b2.trans a2⟩
    · exact ihx he hs
  | cond c x y ihx ihy =>
    intro s e s' he hs
    rw [evC_eq] at he
    dsimp only at he
    split at he
    · exact ihx he hs
    · exact ihy he hs
    · cases he
  | block id x ih =>
    intro s e s' he hs
    rw [evC_eq] at he
    dsimp only at he
    split at he
    · rename_i j s1 h1
      split at he
      · injection he with he; injection he with e1 e2; subst e2; exact ih h1 hs
      · injection he with he; injection he with e1 e2; subst e2; exact ih h1 hs
    · exact ih he hs
  | loop x ih =>
    intro s e s' he hs
    rw [evC_eq] at he
    dsimp only at he
    exact iter_inv (I := fun s1 => Cl g s1 ∧ s1.n = s.n) (fun s1 e1 s2 h1 h2 => by
      obtain ⟨a1, a2⟩ := ih h1 h2.1
      exact ⟨a1, a2.trans h2.2⟩) _ _ _ _ he ⟨hs, rfl⟩
  | rangeFunc f ps asg body _ _ =>
    intro s e s' he hs
    rw [evC_eq] at he
    dsimp only at he
    unfold evR at he
    have key : ∀ {x : X} {ds : List Nat}, Cl g ⟨s.t, [], s.n, ds, x⟩ := fun {x ds} => ⟨rfl, hs.2⟩
    split at he
    · rename_i gf cap hgf
      cases ht : calledT P gf with
      | false => rw [ht] at he; cases he
      | true =>
        rw [ht] at he
        simp only [Bool.not_true, cond_false] at he
        split at he
        · split at he
          · split at he
            · split at he
              · cases he
              · split at he <;> first | (injection he with he; injection he with e1 e2; subst e2; exact ⟨key, rfl⟩) | cases he
            · cases he
          · cases he
        · cases he
    · cases he
  | _ => intro s e s' he; rw [evC_eq] at he; cases he
theorem evC_ok (hK : KOk P K) (hm : P.follows .mixedOrders = true) {g nn : Nat} : ∀ (c : Code) {s : S} {e : Ex} {s' : S}, evC K P g nn r c s = some (e, s') → Cl g s → ∀ {β : Env} {a : Act} {w : World}, FR w0 β s a w → RO β r rr →
    ∀ {Q : Exit → Act → World → Prop}, (∀ β' a' w', FR w0 β' s' a' w' → NX s.x.c β β' → s.x.c ≤ s'.x.c → Q e.to a' w') → c.wpIn (FZ rr) 0 P Q a w := by
  intro c
  induction c with
  | skip =>
    intro s e s' he hs β a w hF hr Q hx
    rw [evC_eq] at he; dsimp only at he; injection he with he; injection he with e1 e2; subst e1; subst e2
    exact wpIn_skip (hx β a w hF (NX.refl _ _) (Nat.le_refl _))
  | exit id =>
    intro s e s' he hs β a w hF hr Q hx
    rw [evC_eq] at he; dsimp only at he; injection he with he; injection he with e1 e2; subst e1; subst e2
    exact wpIn_exit (hx β a w hF (NX.refl _ _) (Nat.le_refl _))
  | ret =>
    intro s e s' he hs β a w hF hr Q hx
    rw [evC_eq] at he; dsimp only at he; injection he with he; injection he with e1 e2; subst e1; subst e2
    exact wpIn_ret (hx β a w hF (NX.refl _ _) (Nat.le_refl _))
  | region id ops d =>
    intro s e s' he hs β a w hF hr Q hx
    rw [evC_eq] at he
    dsimp only at he
    split at he
    · rename_i s1 h1
      injection he with he; injection he with e1 e2; subst e1; subst e2
      have hk : s1.t = s.t ∧ s1.n = s.n ∧ ∀ q, look s1.b q ≠ none → look s.b q ≠ none ∨ ∃ o ∈ ops.toList, o.dst = some q := by
        cases d with
        | true => exact evD_keys h1
        | false => exact opsS_keys h1
      have hfl := (flush_get (s := s1) (g := g) (ops := ops) (by rw [hk.1]; exact hs.2) fun q hq => (by
        rcases hk.2.2 q hq with h | h
        · rw [hs.1] at h; exact absurd rfl h
        · exact h)).1
      have hx' : ∀ β' a' w', FR w0 β' s1 a' w' → NX s.x.c β β' → s.x.c ≤ s1.x.c → Q .normal a' w' := fun β' a' w' hF' hn' hc' => hx β' a' w' ⟨hF'.ta.sub hfl, hF'.sz, hF'.ds, hF'.hr⟩ hn' hc'
      cases d with
      | true => exact evD_ok hK hm hF h1 hx'
      | false => exact wpIn_region_list (opsS_ok hK ops.toList hF h1 hx')
    · cases he
  | seq x y ihx ihy =>
    intro s e s' he hs β a w hF hr Q hx
    rw [evC_eq] at he
    dsimp only at he
    refine wpIn_seq ?_
    split at he
    · rename_i s1 h1
      refine ihx h1 hs hF hr fun β1 a1 w1 hF1 hn1 hc1 => ?_
      exact ihy he (evC_inv x h1 hs).1 hF1 (hr.mono (hF.hr.ext hn1)) fun β2 a2 w2 hF2 hn2 hc2 => hx β2 a2 w2 hF2 (hn1.trans hn2 hc1) (Nat.le_trans hc1 hc2)
    · rename_i hne
      refine ihx he hs hF hr fun β1 a1 w1 hF1 hn1 hc1 => ?_
      have := hx β1 a1 w1 hF1 hn1 hc1
      cases e with
      | nm => exact absurd he (hne s')
      | ex id => exact this
      | rt => exact this
  | cond c x y ihx ihy =>
    intro s e s' he hs β a w hF hr Q hx
    rw [evC_eq] at he
    dsimp only at he
    have hρ := rho_ok hF.ta
    split at he
    · rename_i hc
      have hv := hρ _ _ hc
      generalize hu : a.eval c = u at hv
      cases hv
      exact wpIn_cond_true hu (ihx he hs hF hr hx)
    · rename_i hc
      have hv := hρ _ _ hc
      generalize hu : a.eval c = u at hv
      cases hv
      exact wpIn_cond_false hu (ihy he hs hF hr hx)
    · cases he
  | block id x ih =>
    intro s e s' he hs β a w hF hr Q hx
    rw [evC_eq] at he
    dsimp only at he
    refine wpIn_block ?_
    split at he
    · rename_i j s1 h1
      refine ih h1 hs hF hr fun β1 a1 w1 hF1 hn1 hc1 => ?_
      split at he
      · rename_i hj
        injection he with he; injection he with e1 e2; subst e1; subst e2
        have := hx β1 a1 w1 hF1 hn1 hc1
        simpa [Exit.inBlock, Ex.to, hj] using this
      · rename_i hj
        injection he with he; injection he with e1 e2; subst e1; subst e2
        have := hx β1 a1 w1 hF1 hn1 hc1
        simpa [Exit.inBlock, Ex.to, hj] using this
    · rename_i hne
      refine ih he hs hF hr fun β1 a1 w1 hF1 hn1 hc1 => ?_
      have := hx β1 a1 w1 hF1 hn1 hc1
      cases e with
      | nm => exact this
      | ex id => exact absurd he (hne id s')
      | rt => exact this
  | loop x ih =>
    intro s e s' he hs β a w hF hr Q hx
    rw [evC_eq] at he
    dsimp only at he
    refine wpIn_loopJ (fun m a w => ∃ β1 s1, FR w0 β1 s1 a w ∧ NX s.x.c β β1 ∧ s.x.c ≤ s1.x.c ∧ Cl g s1 ∧ iter (evC K P g nn r x) m s1 = some (e, s')) ⟨β, s, hF, NX.refl _ _, Nat.le_refl _, hs, he⟩ ?_
    intro m a1 w1 ⟨β1, s1, hF1, hn1, hc1, hs1, hit⟩
    cases m with
    | zero => cases hit
    | succ m =>
      rw [iter_succ] at hit
      have hr1 := hr.mono (hF.hr.ext hn1)
      split at hit
      · rename_i s2 h2
        refine ih h2 hs1 hF1 hr1 fun β2 a2 w2 hF2 hn2 hc2 => ⟨m, Nat.lt_succ_self _, β2, s2, hF2, hn1.trans hn2 hc1, Nat.le_trans hc1 hc2, (evC_inv x h2 hs1).1, hit⟩
      · rename_i hne
        refine ih hit hs1 hF1 hr1 fun β2 a2 w2 hF2 hn2 hc2 => ?_
        have := hx β2 a2 w2 hF2 (hn1.trans hn2 hc1) (Nat.le_trans hc1 hc2)
        cases e with
        | nm => exact absurd hit (hne s')
        | ex id => exact this
        | rt => exact this
  | rangeFunc f ps asg body _ _ =>
    intro s e s' he hs β a w hF hr Q hx
    rw [evC_eq] at he
    dsimp only at he
    unfold evR at he
    have hρ := rho_ok hF.ta
    split at he
    case h_2 => cases he
    rename_i gf cap hg
    cases ht : calledT P gf with
    | false => rw [ht] at he; cases he
    | true =>
    rw [ht] at he
    simp only [Bool.not_true, cond_false] at he
    have hv := hρ _ _ hg
    generalize hu : a.eval f = u at hv
    cases hv with
    | @fn _ _ vs hcap =>
    have hta : TA β s.t.get a.tmps := hF.ta.sub fun i v h => (by show getB s.t s.b i = some v; rw [hs.1]; exact h)
    have hcall : ∀ (lw : Nat) (w1 : World), (resolve a.eval (rangeCall f lw) 0).run P w1 = .ok { target := .fn (.func gf) vs.toArray, args := #[.func (.yield lw) #[] #[]] } w1 ∧
        (invoke (.fn (.func gf) vs.toArray) #[.func (.yield lw) #[] #[]]).run P w1 = .ok (.enter gf (Value.func (.yield lw) #[] #[] :: vs).toArray) w1 := fun lw w1 => by
      have hev : a.eval (.const (.func (.yield lw) #[] #[])) = .func (.yield lw) #[] #[] := rfl
      refine ⟨by simp [resolve, hu, Deferred.ofValue, hev], ?_⟩
      unfold calledT at ht
      cases hfn : P.funcs[gf]? with
      | none => simp [hfn] at ht
      | some fn =>
        simp only [hfn, Bool.and_eq_true, Bool.not_eq_true'] at ht
        obtain ⟨hb, hnm⟩ := ht
        have hb' : fn.body ≠ none := by intro e; rw [e] at hb; simp at hb
        have hn' : fn.name ≠ "runtime.NumGoroutine" := by simpa using hnm
        simp [invoke, callFunc, hfn, hn', hb']
    have key : ∀ (dn : Nat) (x1 : X) (ds : List Nat) (β2 : Env) (w1 : World) (lw : Nat) (mark : List Deferred), HR w0 β2 (x1.set (s.x.c + 1) (.loop .ready none g s.t s.n ps.toList asg body dn)) w1 → β2 (s.x.c + 1) = some (lw, 0) → NX s.x.c β β2 → x1.c = s.x.c + 2 → DR β2 ds (mark ++ a.defers) →
        (match K.call gf (.yl (s.x.c + 1) :: cap) (x1.set (s.x.c + 1) (.loop .ready none g s.t s.n ps.toList asg body dn)) with
        | some (_, x3) => match x3.get (s.x.c + 1) with
          | some (.loop st pd g' t n ps' asg' body' d') => match st with
            | .busy => none
            | _ => match pd with
              | none => some (.nm, ⟨s.t, [], s.n, ds, x3.set (s.x.c + 1) (.loop .exhausted pd g' t n ps' asg' body' d')⟩)
              | some .ret => some (.rt, ⟨s.t, [], s.n, ds, x3.set (s.x.c + 1) (.loop .exhausted pd g' t n ps' asg' body' d')⟩)
              | some (.exit id) => some (.ex id, ⟨s.t, [], s.n, ds, x3.set (s.x.c + 1) (.loop .exhausted pd g' t n ps' asg' body' d')⟩)
              | _ => none
          | _ => none
        | none => none) = some (e, s') →
        CallsIn (FZ rr) (0 - 1) P gf (Value.func (.yield lw) #[] #[] :: vs).toArray w1 (rangePost (FZ rr) 0 P lw Q { a with defers := mark ++ a.defers }) := by
      intro dn x1 ds β2 w1 lw mark h2 hl hnx hc2 hds he
      split at he
      · rename_i v3 x3 hk
        have hext := hF.hr.ext hnx
        refine FZ_calls ((hK.call hk h2 (.cons (.yl hl) (hcap.mono hext))).mono fun e3 w3 hE => ?_)
        obtain ⟨u3, β3, rfl, _, h3, hc3, hn3⟩ := hE
        have hc3' : s.x.c + 2 ≤ x3.c := by have : x1.c ≤ x3.c := hc3; omega
        have hn3' : NX (s.x.c + 2) β2 β3 := fun k hk => hn3 k (by show k < x1.c; omega)
        have hl3 : β3 (s.x.c + 1) = some (lw, 0) := by rw [hn3' _ (by omega)]; exact hl
        have hnx3 : NX s.x.c β β3 := hnx.trans hn3' (by omega)
        have hext3 := hF.hr.ext hnx3
        have hds3 : DR β3 ds (mark ++ a.defers) := hds.mono fun k p hk => by
          obtain ⟨b, c⟩ := p
          have := (h2.lt hk).1
          have h5 : (x1.set (s.x.c + 1) (.loop .ready none g s.t s.n ps.toList asg body dn)).c = s.x.c + 2 := hc2
          rw [hn3' k (by omega)]; exact hk
        split at he
        · rename_i st pd g' t n ps' asg' body' d' hget
          obtain ⟨hb0, ob, h4, fn', tm, db, dx, h5, h6, h7, h8, h9⟩ := h3.obj hl3 hget
          subst h5
          have hFR : FR w0 β3 ⟨s.t, [], s.n, ds, x3.set (s.x.c + 1) (.loop .exhausted pd g' t n ps' asg' body' d')⟩ { a with defers := mark ++ a.defers } (w3.putObj lw (.loop { state := .exhausted, pending := pd, fn := fn', tmps := tm, params := ps'.toArray, assign := asg', body := body', defers := db })) :=
            ⟨(hta.mono hext3).sub (fun _ _ h => h), hF.sz, hds3, h3.turn hl3 hget (putObj_grown _ _ _) (putObj_at h4) ⟨fn', tm, db, dx, rfl, h6, h7, h8, h9⟩⟩
          have hnb : st ≠ .busy := fun e => by subst e; cases he
          refine ⟨pd, _, run_endLoop h4 hnb, ?_⟩
          have hle : s.x.c ≤ x3.c := by omega
          cases st <;> first
          | exact absurd rfl hnb
          | (dsimp only at he
             split at he
             · injection he with he; injection he with e1 e2; subst e1; subst e2
               exact hx β3 _ _ hFR hnx3 hle
             · injection he with he; injection he with e1 e2; subst e1; subst e2
               exact wpIn_ret (hx β3 _ _ hFR hnx3 hle)
             · injection he with he; injection he with e1 e2; subst e1; subst e2
               exact wpIn_exit (hx β3 _ _ hFR hnx3 hle)
             · cases he)
        · cases he
      · cases he
    have hlow : ∀ k, s.x.c ≤ k → β k = none := fun k hk => by
      cases hq : β k with
      | none => rfl
      | some p => obtain ⟨b, c⟩ := p; have := (hF.hr.lt hq).1; omega
    have hb2 : HR w0 β ⟨s.x.h, s.x.c + 2⟩ w := hF.hr.bump (by omega)
    refine wpIn_rangeFunc fun fn _ => ?_
    rcases hr with ⟨rfl, rfl⟩ | ⟨l, b, c, rfl, rfl, hl⟩
    · dsimp only at he
      have hn1 := hlow s.x.c (Nat.le_refl _)
      have h1 := (hb2.pre hn1 (.dfr false)).alloc (ob := .dfr false) (rb := .deferred (some [])) (c := 0) hn1 (by show s.x.c < s.x.c + 2; omega) (by rw [X.get_set]; simp) rfl
      have hn2 : up β s.x.c (w.heap.size, 0) (s.x.c + 1) = none := by rw [up_ne (by omega)]; exact hlow _ (by omega)
      have hx1 := up_ext (p := (w.heap.size, 0)) hn1
      have hx2 := up_ext (p := ((w.alloc (.deferred (some []))).heap.size, 0)) hn2
      have h2 := (h1.pre hn2 (.loop .ready none g s.t s.n ps.toList asg body s.x.c)).alloc (ob := .loop .ready none g s.t s.n ps.toList asg body s.x.c)
        (rb := .loop { state := .ready, pending := none, fn := fn, tmps := a.tmps, params := ps, assign := asg, body := body, defers := w.heap.size }) (c := 0) hn2 (by show s.x.c + 1 < s.x.c + 2; omega) (by rw [X.get_set]; simp)
        ⟨fn, a.tmps, w.heap.size, 0, by simp, (hta.mono hx1).mono hx2, hF.sz, by rw [up_ne (by omega)]; exact up_at, hs.2⟩
      have hnx : NX s.x.c β (up (up β s.x.c (w.heap.size, 0)) (s.x.c + 1) ((w.alloc (.deferred (some []))).heap.size, 0)) := fun k hk => by rw [up_ne (by omega), up_ne (by omega)]
      have hk := key s.x.c _ _ _ _ _ [{ target := .collected w.heap.size, args := #[] }] h2 up_at hnx rfl (.cons (c := 0) (by rw [up_ne (by omega)]; exact up_at) ((hF.ds.mono hx1).mono hx2)) he
      exact ⟨_, _, _, _, _, gf, _, _, run_enterLoop_outer _ _ _ _ _, (hcall _ _).1, fun _ _ => trivial, (hcall _ _).2, fun h => (by cases h), by simpa using hk⟩
    · dsimp only at he
      cases hget : s.x.get l with
      | none => rw [hget] at he; cases he
      | some ob => cases ob with
        | cells l0 E0 o0 => rw [hget] at he; cases he
        | dfr t0 => rw [hget] at he; cases he
        | loop st0 pd0 g0 t0 n0 ps0 asg0 body0 d0 =>
          rw [hget] at he
          dsimp only at he
          obtain ⟨hb0, ob, h4, fn', tm, db, dx, h5, h6, h7, h8, _⟩ := hF.hr.obj hl hget
          subst h5
          have hn2 : β (s.x.c + 1) = none := hlow _ (by omega)
          have hx2 := up_ext (p := (w.heap.size, 0)) hn2
          have h2 := (hb2.pre hn2 (.loop .ready none g s.t s.n ps.toList asg body d0)).alloc (ob := .loop .ready none g s.t s.n ps.toList asg body d0)
            (rb := .loop { state := .ready, pending := none, fn := fn, tmps := a.tmps, params := ps, assign := asg, body := body, defers := db }) (c := 0) hn2 (by show s.x.c + 1 < s.x.c + 2; omega) (by rw [X.get_set]; simp)
            ⟨fn, a.tmps, db, dx, by simp, hta.mono hx2, hF.sz, hx2 _ _ h8, hs.2⟩
          have hnx : NX s.x.c β (up β (s.x.c + 1) (w.heap.size, 0)) := fun k hk => by rw [up_ne (by omega)]
          have hk := key d0 _ _ _ _ _ [] h2 up_at hnx rfl (hF.ds.mono hx2) he
          exact ⟨_, _, _, _, _, gf, _, _, run_enterLoop_inner h4 _ _ _ _ _, (hcall _ _).1, fun _ _ => trivial, (hcall _ _).2, fun h => (by cases h), hk⟩
  | _ => intro s e s' he; rw [evC_eq] at he; cases he
end
end Go.Proofs.Ev
namespace Go.Proofs.Ev
open Go Go.RowKit Go.Proofs.Gw
noncomputable def putAll (g n : Nat) : List Nat → List V → T V → Option (T V)
  | [], [], t => some t
  | p :: ps, v :: vs, t => bif Nat.blt p n then putAll g n ps vs (bif Nat.testBit g p then t.set p v else t) else none
  | _, _, _ => none
noncomputable def argsT (g : Nat) : List V → Nat → T V → T V
  | [], _, t => t
  | v :: vs, i, t => argsT g vs (i + 1) (bif Nat.testBit g i then t.set i v else t)
noncomputable def marksX : List Nat → X → Option X
  | [], x => some x
  | d :: ds, x => match x.get d with
    | some (.dfr false) => marksX ds (x.set d (.dfr true))
    | _ => none
noncomputable def resV (P : Program) (t : Nat → Option V) (x : X) : ResultVar → Option V
  | .tmp a => t a
  | .cell a T => exL P (rho t) x (.load T (.tmp a))
noncomputable def resAll (P : Program) (t : Nat → Option V) (x : X) : List ResultVar → Option (List V)
  | [] => some []
  | r :: l => match resV P t x r, resAll P t x l with
    | some v, some vs => some (v :: vs)
    | _, _ => none
noncomputable def resF (P : Program) (t : Nat → Option V) (x : X) (l : List ResultVar) : Option V := match resAll P t x l with
  | some [v] => some v
  | some vs => some (.tup vs)
  | none => none
noncomputable def evF (K : Kit) (P : Program) (kp : Nat → Nat) (f : Nat) (xs : List V) (x : X) : Option (V × X) := match P.funcs[f]? with
  | some fn => match fn.body with
    | some c => bif !Nat.ble xs.length fn.ntmps then none else
      match evC K P (kp f) fn.ntmps none c ⟨argsT (kp f) xs 0 (T.mk 4), [], fn.ntmps, [], x⟩ with
      | some (.ex _, _) => none
      | some (_, ⟨t, b, _, ds, x1⟩) => match marksX ds x1 with
        | some x' => match resF P (getB t b) x' fn.results.toList with
          | some v => some (v, x')
          | none => none
        | none => none
      | none => none
    | none => none
  | none => none
noncomputable def evY (K : Kit) (P : Program) (l : Nat) (xs : List V) (x : X) : Option (V × X) := match x.get l with
  | some (.loop .ready _ g t n ps asg body d) => match putAll g n ps xs t with
    | some t1 => match evC K P g n (some l) asg ⟨t1, [], n, [], x⟩ with
      | some (.nm, s1) => match s1.x.get l with
        | some (.loop .ready pd2 g2 t2 n2 ps2 asg2 body2 d2) => match evC K P g n (some l) body ⟨s1.t, s1.b, s1.n, s1.ds, s1.x.set l (.loop .busy pd2 g2 t2 n2 ps2 asg2 body2 d2)⟩ with
          | some (e, s2) => match s2.x.get l with
            | some (.loop _ _ g3 t3 n3 ps3 asg3 body3 d3) => match e with
              | .nm => some (.bool true, s2.x.set l (.loop .ready none g3 t3 n3 ps3 asg3 body3 d3))
              | .ex id => some (.bool false, s2.x.set l (.loop .done (some (.exit id)) g3 t3 n3 ps3 asg3 body3 d3))
              | .rt => some (.bool false, s2.x.set l (.loop .done (some .ret) g3 t3 n3 ps3 asg3 body3 d3))
            | _ => none
          | none => none
        | _ => none
      | _ => none
    | none => none
  | _ => none
noncomputable def kit (P : Program) (kp : Nat → Nat) (m : Nat) : Nat → Kit
  | 0 => ⟨0, fun _ _ _ => none, fun _ _ _ => none⟩
  | n + 1 => ⟨m, evF (kit P kp m n) P kp, evY (kit P kp m n) P⟩
section
variable {P : Program} {K : Kit} {β : Env} {w : World} {w0 : Base} {x x' : X}
theorem argsT_get {g : Nat} : ∀ (xs : List V) (i : Nat) (t : T V) (j : Nat) (v : V), (argsT g xs i t).get j = some v → (i ≤ j ∧ xs[j - i]? = some v ∧ Nat.testBit g j = true) ∨ t.get j = some v
  | [], i, t, j, v, h => .inr h
  | u :: vs, i, t, j, v, h => by
    unfold argsT at h
    rcases argsT_get vs (i + 1) _ j v h with ⟨h1, h2, h3⟩ | h
    · exact .inl ⟨by omega, by rw [show j - i = (j - (i + 1)) + 1 by omega, List.getElem?_cons_succ]; exact h2, h3⟩
    · cases hb : Nat.testBit g i with
      | false => rw [hb] at h; exact .inr h
      | true =>
        rw [hb] at h
        dsimp only [cond_true] at h
        rw [T.get_set] at h
        by_cases e : i = j
        · subst e; rw [if_pos rfl] at h; exact .inl ⟨Nat.le_refl _, by simpa using h, hb⟩
        · rw [if_neg e] at h; exact .inr h
theorem putAll_ok {g n : Nat} : ∀ {ps : List Nat} {xs : List V} {t t' : T V} {us : List Value} {tm : Array Value}, putAll g n ps xs t = some t' → TA β t.get tm → Gi g t → tm.size = n → VRs β xs us →
    TA β t'.get ((ps.zip us).foldl (fun tm p => tm.setIfInBounds p.1 p.2) tm) ∧ Gi g t' ∧ ((ps.zip us).foldl (fun tm p => tm.setIfInBounds p.1 p.2) tm).size = n ∧ us.length = ps.length
  | [], [], t, t', us, tm, h, ht, hg, hs, hv => by
    injection h with h; subst h
    cases hv
    exact ⟨ht, hg, hs, rfl⟩
  | p :: ps, v :: vs, t, t', us, tm, h, ht, hg, hs, hv => by
    unfold putAll at h
    cases hp : Nat.blt p n with
    | false => rw [hp] at h; cases h
    | true =>
      rw [hp] at h
      cases hv with
      | @cons _ u _ us h1 h2 =>
        have hlt : p < tm.size := by rw [hs]; simpa [Nat.blt_eq] using hp
        dsimp only [cond_true] at h
        cases hb : Nat.testBit g p with
        | true =>
          rw [hb] at h
          obtain ⟨g1, g0, g2, g3⟩ := putAll_ok (tm := tm.setIfInBounds p u) h (ht.put hlt h1 (fun i => T.get_set v t p i)) (fun i v' hi => by
            rw [cond_true, T.get_set] at hi
            by_cases e : p = i
            · subst e; exact hb
            · rw [if_neg e] at hi; exact hg i v' hi) (by simpa using hs) h2
          exact ⟨g1, g0, g2, by simp [g3]⟩
        | false =>
          rw [hb] at h
          obtain ⟨g1, g0, g2, g3⟩ := putAll_ok (tm := tm.setIfInBounds p u) h (fun i v' hi => by
            have hi' : t.get i = some v' := hi
            have hpi : p ≠ i := fun e => by subst e; rw [hg p v' hi'] at hb; cases hb
            obtain ⟨u', h3, h4⟩ := ht i v' hi'
            exact ⟨u', by rw [Array.getElem?_setIfInBounds_ne hpi]; exact h3, h4⟩) hg (by simpa using hs) h2
          exact ⟨g1, g0, g2, by simp [g3]⟩
  | [], _ :: _, t, t', us, tm, h, ht, hg, hs, hv => by cases h
  | _ :: _, [], t, t', us, tm, h, ht, hg, hs, hv => by cases h
noncomputable def resS (tm : Array Value) : ResultVar → Sem Value
  | .tmp t => pure (tm.getD t undef)
  | .cell a t => do loadVar t (← asAddr (tm.getD a undef))
theorem results_eq (fn : Func) (tm : Array Value) : results fn tm = (do let vs ← fn.results.mapM (resS tm); pure (if h : vs.size = 1 then vs[0] else .tuple vs)) := by
  unfold results
  congr 1
theorem resV_ok {t : Nat → Option V} {tm : Array Value} {r : ResultVar} {v : V} (hr : HR w0 β x w) (ht : TA β t tm) (h : resV P t x r = some v) : ∃ u, (resS tm r).run P w = .ok u w ∧ VR β v u := by
  cases r with
  | tmp a =>
    obtain ⟨u, h1, h2⟩ := ht a v h
    exact ⟨u, by simp [resS, h1], h2⟩
  | cell a T =>
    have hρ : RhoR β (rho t) (Act.eval { tmps := tm, defers := [] }) := rho_ok ht
    obtain ⟨u, h1, h2⟩ := exL_ok (P := P) hr hρ (o := { dst := none, op := .load T (.tmp a), type := 0, pos := "", after := #[], guard := none }) h
    refine ⟨u, ?_, h2⟩
    unfold resV exL at h
    dsimp only at h
    split at h
    · rename_i k off hk
      have hv := hρ _ _ hk
      have he : (Act.eval { tmps := tm, defers := [] } (.tmp a)) = tm.getD a undef := rfl
      rw [he] at hv
      generalize hu : tm.getD a undef = ua at hv
      cases hv with
      | p hb =>
        simp only [execOp, he, hu, Instr.loadAt, Instr.sureAddr] at h1
        simp only [resS, hu, asAddr]
        rw [Sem.run_bind, Sem.run_bind] at h1
        rw [Sem.run_bind]
        simp only [Sem.run_pure, Result.andThen_ok] at h1 ⊢
        generalize (loadVar T _).run P w = q at h1 ⊢
        cases q with
        | ok a w' => simp [Result.andThen] at h1; obtain ⟨rfl, rfl⟩ := h1; rfl
        | halt e w' => simp [Result.andThen] at h1
    · cases h
theorem resAll_ok {t : Nat → Option V} {tm : Array Value} (hr : HR w0 β x w) (ht : TA β t tm) : ∀ {l : List ResultVar} {vs : List V}, resAll P t x l = some vs → ∃ us, (l.mapM (resS tm)).run P w = .ok us w ∧ VRs β vs us
  | [], vs, h => by injection h with h; subst h; exact ⟨[], by simp, .nil⟩
  | r :: l, vs, h => by
    unfold resAll at h
    split at h
    · rename_i v vs' h1 h2
      injection h with h; subst h
      obtain ⟨u, h3, h4⟩ := resV_ok hr ht h1
      obtain ⟨us, h5, h6⟩ := resAll_ok hr ht h2
      exact ⟨u :: us, by simp [List.mapM_cons, h3, h5], .cons h4 h6⟩
    · cases h
theorem resF_ok {fn : Func} {t : Nat → Option V} {tm : Array Value} {v : V} (hr : HR w0 β x w) (ht : TA β t tm) (h : resF P t x fn.results.toList = some v) : ∃ u, (results fn tm).run P w = .ok u w ∧ VR β v u := by
  unfold resF at h
  cases ha : resAll P t x fn.results.toList with
  | none => rw [ha] at h; cases h
  | some vs =>
    rw [ha] at h
    obtain ⟨us, h1, h2⟩ := resAll_ok hr ht ha
    have hm : (fn.results.mapM (resS tm)).run P w = .ok us.toArray w := by
      rw [Array.mapM_eq_mapM_toList]; simp [h1]
    rw [results_eq, Sem.run_bind, hm, Result.andThen_ok]
    split at h
    · rename_i v0 heq
      injection heq with heq; subst heq
      injection h with h; subst h
      cases h2 with
      | @cons _ u _ _ h3 h4 => cases h4; exact ⟨u, rfl, h3⟩
    · rename_i vs' hne heq
      injection h with h; subst h
      injection heq with heq; subst heq
      have hl : us.length ≠ 1 := fun e => by
        have := h2.len
        rw [e] at this
        cases vs with
        | nil => simp at this
        | cons v l =>
          cases l with
          | nil => exact hne v rfl
          | cons v' l => simp at this
      refine ⟨.tuple us.toArray, ?_, .tup h2⟩
      rw [dif_neg (by simpa using hl)]; rfl
    · cases h
theorem marks_ok {fn : Func} {tm : Array Value} {R : Ending → World → Prop} : ∀ {ks : List Nat} {ds : List Deferred} {x x' : X} {w : World}, marksX ks x = some x' → DR β ks ds → HR w0 β x w →
    (∀ w', HR w0 β x' w' → x'.c = x.c → ∃ v, (results fn tm).run P w' = .ok v w' ∧ R (.returned v) w') → LeavesInM (FZ none) 0 P fn tm R ds .returning w
  | [], _, x, x', w, h, .nil, hr, hx => by
    injection h with h; subst h
    obtain ⟨v, h1, h2⟩ := hx w hr rfl
    exact ⟨v, h1, h2⟩
  | k :: ks, _, x, x', w, h, .cons hb hd, hr, hx => by
    unfold marksX at h
    split at h
    · rename_i hk
      obtain ⟨_, ob, h1, h2⟩ := hr.obj hb hk
      have h2' : ob = .deferred (some []) := h2
      subst h2'
      have h3 := hr.turn hb hk (putObj_grown _ _ _) (putObj_at (o := .deferred none) h1) (ob := .dfr true) rfl
      exact ⟨by simp, .inl ⟨_, _, rfl, run_takeDeferred h1, marks_ok h hd h3 hx⟩⟩
    · cases h
theorem evF_ok {kp : Nat → Nat} (hK : KOk P K) (hm : P.follows .mixedOrders = true) {f : Nat} {xs : List V} {v : V} (he : evF K P kp f xs x = some (v, x')) {us : List Value} (h : HR w0 β x w) (hv : VRs β xs us) : Calls P f us.toArray w (Ends w0 β x.c v x') := by
  unfold evF at he
  split at he
  · rename_i fn hf
    split at he
    · rename_i c hb
      cases hl : Nat.ble xs.length fn.ntmps with
      | false => rw [hl] at he; cases he
      | true =>
        rw [hl] at he
        simp only [Bool.not_true, cond_false] at he
        rw [ble_iff] at hl
        have hlen := hv.len
        refine FZ_calls' (r := none) (n := 0) (callsIn_of_wp_marks hf hb trivial ?_)
        have hcl : Cl (kp f) ⟨argsT (kp f) xs 0 (T.mk 4), [], fn.ntmps, [], x⟩ := ⟨rfl, fun j v hj => (by
          rcases argsT_get _ _ _ _ _ hj with ⟨_, _, h3⟩ | h3
          · exact h3
          · rw [T.get_mk] at h3; cases h3)⟩
        have hF : FR w0 β ⟨argsT (kp f) xs 0 (T.mk 4), [], fn.ntmps, [], x⟩ { tmps := us.toArray ++ Array.replicate (fn.ntmps - us.toArray.size) undef, defers := [] } w :=
          ⟨fun j v hj => (by
            have hj' : (argsT (kp f) xs 0 (T.mk 4)).get j = some v := hj
            rcases argsT_get _ _ _ _ _ hj' with ⟨_, h2, _⟩ | h3
            · obtain ⟨u, h1, h2⟩ := hv.get h2
              refine ⟨u, ?_, h2⟩
              rw [Nat.sub_zero] at h1
              have hlt := (List.getElem?_eq_some_iff.1 h1).1
              rw [Array.getElem?_append_left (by simpa using hlt)]
              simpa using h1
            · rw [T.get_mk] at h3; cases h3), (by simp; omega), .nil, h⟩
        split at he
        · cases he
        · rename_i e t1 b1 n1 ds1 x2 hne hc
          split at he
          · rename_i x1 hmk
            split at he
            case h_2 => cases he
            rename_i v1 hres
            injection he with he; injection he with e1 e2; subst e1; subst e2
            refine evC_ok hK hm c hc hcl hF (.inl ⟨rfl, rfl⟩) fun β' a' w' hF' hn' hc' => ?_
            have hout : LeavesInM (FZ none) 0 P fn a'.tmps (Ends w0 β x.c v1 x1) a'.defers .returning w' :=
              marks_ok hmk hF'.ds hF'.hr fun w'' hr'' hcc => by
                obtain ⟨u, h1, h2⟩ := resF_ok (P := P) hr'' hF'.ta hres
                exact ⟨u, h1, u, β', rfl, h2, hr'', by rw [hcc]; exact hc', fun k hk => hn' k hk⟩
            cases e with
            | nm => exact hout
            | ex id => exact absurd rfl (hne id)
            | rt => exact hout
          · cases he
        · cases he
    · cases he
  · cases he
theorem evY_ok (hK : KOk P K) (hm : P.follows .mixedOrders = true) {l : Nat} {xs : List V} {v : V} (he : evY K P l xs x = some (v, x')) {us : List Value} {b c : Nat} (h : HR w0 β x w) (hv : VRs β xs us) (hl : β l = some (b, c)) :
    ∃ fn tmps assign body, (Instr.yield b us.toArray).run P w = .ok (.round b fn tmps assign body) w ∧ RoundIn (FZ none) 0 P b fn tmps assign body w (Ends w0 β x.c v x') := by
  unfold evY at he
  split at he
  · rename_i pd g t n ps asg body d hget
    obtain ⟨_, ob, h1, fn, tm, db, dx, h2, h3, h4, h5, h6⟩ := h.obj hl hget
    subst h2
    split at he
    · rename_i t1 hp
      obtain ⟨g1, g0, g2, g3⟩ := putAll_ok hp h3 h6 h4 hv
      refine ⟨_, _, _, _, run_yield h1 (by simp [g3]), roundIn_of_wpIn trivial ?_⟩
      have e0 : (Array.zip ps.toArray us.toArray).foldl (fun tmps (x : Nat × Value) => tmps.setIfInBounds x.1 x.2) tm = (ps.zip us).foldl (fun tm p => tm.setIfInBounds p.1 p.2) tm := by
        rw [← Array.foldl_toList]; simp
      have hcl : Cl g ⟨t1, [], n, [], x⟩ := ⟨rfl, g0⟩
      have hF : FR w0 β ⟨t1, [], n, [], x⟩ { tmps := (Array.zip ps.toArray us.toArray).foldl (fun tmps (x : Nat × Value) => tmps.setIfInBounds x.1 x.2) tm, defers := [] } w := by
        rw [e0]; exact ⟨g1, g2, .nil, h⟩
      split at he
      · rename_i s1 hc1
        refine evC_ok (rr := some b) hK hm asg hc1 hcl hF (.inr ⟨l, b, c, rfl, rfl, hl⟩) fun β1 a1 w1 hF1 hn1 hcc1 => ?_
        have hl1 := (h.ext hn1) _ _ hl
        split at he
        · rename_i pd2 gg2 t2 n2 ps2 asg2 body2 d2 hget2
          obtain ⟨_, ob, k1, fn2, tm2, db2, dx2, k2, k3, k4, k5, k6⟩ := hF1.hr.obj hl1 hget2
          subst k2
          refine ⟨_, run_beginRound k1 rfl, ?_⟩
          have hr2 := hF1.hr.turn hl1 hget2 (putObj_grown _ _ _) (putObj_at (o := .loop { state := .busy, pending := pd2, fn := fn2, tmps := tm2, params := ps2.toArray, assign := asg2, body := body2, defers := db2 }) k1) (ob := .loop .busy pd2 gg2 t2 n2 ps2 asg2 body2 d2) ⟨fn2, tm2, db2, dx2, rfl, k3, k4, k5, k6⟩
          split at he
          · rename_i e s2 hc2
            refine evC_ok (rr := some b) hK hm body hc2 (evC_inv asg hc1 hcl).1 ⟨hF1.ta, hF1.sz, hF1.ds, hr2⟩ (.inr ⟨l, b, c, rfl, rfl, hl1⟩) fun β2 a2 w2 hF2 hn2 hcc2 => ?_
            have hl2 := (hF1.hr.ext hn2) _ _ hl1
            have hnn : NX x.c β β2 := hn1.trans hn2 hcc1
            have hle : x.c ≤ s2.x.c := Nat.le_trans hcc1 hcc2
            split at he
            · rename_i st3 pd3 gg3 t3 n3 ps3 asg3 body3 d3 hget3
              obtain ⟨_, ob, j1, fn3, tm3, db3, dx3, j2, j3, j4, j5, j6⟩ := hF2.hr.obj hl2 hget3
              subst j2
              have fin : ∀ (jump : Option Code) (st : LoopState), st = (if jump.isNone then .ready else .done) → ∃ v' w', (Instr.endRound b jump).run P w2 = .ok v' w' ∧ Ends w0 β x.c (.bool jump.isNone) (s2.x.set l (.loop st jump gg3 t3 n3 ps3 asg3 body3 d3)) (.returned v') w' := fun jump st hst =>
                ⟨_, _, run_endRound jump j1, _, β2, rfl, .bool _, by
                  subst hst
                  exact hF2.hr.turn hl2 hget3 (putObj_grown _ _ _) (putObj_at j1) ⟨fn3, tm3, db3, dx3, rfl, j3, j4, j5, j6⟩, hle, fun k hk => hnn k hk⟩
              cases e with
              | nm => injection he with he; injection he with e1 e2; subst e1; subst e2; exact fin none .ready rfl
              | ex id => injection he with he; injection he with e1 e2; subst e1; subst e2; exact fin (some (.exit id)) .done rfl
              | rt => injection he with he; injection he with e1 e2; subst e1; subst e2; exact fin (some .ret) .done rfl
            · cases he
          · cases he
        · cases he
      · cases he
    · cases he
  · cases he
theorem kit_ok (hm : P.follows .mixedOrders = true) (kp : Nat → Nat) (m : Nat) : ∀ n, KOk P (kit P kp m n)
  | 0 => ⟨fun h => (by cases h), fun h => (by cases h)⟩
  | n + 1 => ⟨fun h => fun {w0 β w us} hr hv => evF_ok (kit_ok hm kp m n) hm h hr hv, fun h => fun {w0 β w us b c} hr hv hl => evY_ok (kit_ok hm kp m n) hm h hr hv hl⟩
end
end Go.Proofs.Ev
namespace Go.Proofs.Ev
open Go Go.RowKit Go.Proofs.Gw
mutual
noncomputable def nmV : V → List Nat
  | .p k _ => [k]
  | .s k _ _ _ => [k]
  | .su k _ => [k]
  | .so k _ _ => [k]
  | .yl k => [k]
  | .fn _ l => nmVs l
  | .agg l => nmVs l
  | .tup l => nmVs l
  | _ => []
noncomputable def nmVs : List V → List Nat
  | [] => []
  | v :: l => nmV v ++ nmVs l
end
mutual
noncomputable def rnV (σ : Nat → Nat) : V → V
  | .p k o => .p (σ k) o
  | .s k o n c => .s (σ k) o n c
  | .su k n => .su (σ k) n
  | .so k o n => .so (σ k) o n
  | .yl k => .yl (σ k)
  | .fn f l => .fn f (rnVs σ l)
  | .agg l => .agg (rnVs σ l)
  | .tup l => .tup (rnVs σ l)
  | .bool b => .bool b
  | .int k n => .int k n
  | .pn => .pn
  | .sn => .sn
  | .nf => .nf
  | .str s => .str s
noncomputable def rnVs (σ : Nat → Nat) : List V → List V
  | [] => []
  | v :: l => rnV σ v :: rnVs σ l
end
mutual
theorem rn_in {β β' : Env} {σ : Nat → Nat} : ∀ {v : V} {u : Value}, (∀ k ∈ nmV v, ∀ p, β k = some p → β' (σ k) = some p) → VR β v u → VR β' (rnV σ v) u
  | .bool b, _, h, e => by cases e; simp only [rnV]; constructor
  | .int k n, _, h, e => by cases e; simp only [rnV]; constructor
  | .pn, _, h, e => by cases e; simp only [rnV]; constructor
  | .p k o, _, h, e => by cases e with | p e => simp only [rnV]; exact .p (h _ (by simp [nmV]) _ e)
  | .sn, _, h, e => by cases e; simp only [rnV]; constructor
  | .s k o n c, _, h, e => by cases e with | s e => simp only [rnV]; exact .s (h _ (by simp [nmV]) _ e)
  | .su k n, _, h, e => by cases e with | su e l => simp only [rnV]; exact .su (h _ (by simp [nmV]) _ e) l
  | .so k o n, _, h, e => by cases e with | so e l o => simp only [rnV]; exact .so (h _ (by simp [nmV]) _ e) l o
  | .fn f l, _, h, e => by cases e with | fn e => simp only [rnV]; exact .fn (rn_ins (by simpa [nmV] using h) e)
  | .yl k, _, h, e => by cases e with | yl e => simp only [rnV]; exact .yl (h _ (by simp [nmV]) _ e)
  | .nf, _, h, e => by cases e; simp only [rnV]; constructor
  | .str s, _, h, e => by cases e; simp only [rnV]; constructor
  | .agg l, _, h, e => by cases e with | agg e => simp only [rnV]; exact .agg (rn_ins (by simpa [nmV] using h) e)
  | .tup l, _, h, e => by cases e with | tup e => simp only [rnV]; exact .tup (rn_ins (by simpa [nmV] using h) e)
theorem rn_ins {β β' : Env} {σ : Nat → Nat} : ∀ {l : List V} {us : List Value}, (∀ k ∈ nmVs l, ∀ p, β k = some p → β' (σ k) = some p) → VRs β l us → VRs β' (rnVs σ l) us
  | [], _, h, e => by cases e; simp only [rnVs]; exact .nil
  | v :: l, _, h, e => by
    cases e with
    | cons a b => simp only [rnVs]; exact .cons (rn_in (fun k hk => h k (by simp [nmVs, hk])) a) (rn_ins (fun k hk => h k (by simp [nmVs, hk])) b)
end
mutual
theorem rn_out {β β' : Env} {σ : Nat → Nat} : ∀ {v : V} {u : Value}, (∀ k ∈ nmV v, ∀ p, β (σ k) = some p → β' k = some p) → VR β (rnV σ v) u → VR β' v u
  | .bool b, _, h, e => by simp only [rnV] at e; cases e; constructor
  | .int k n, _, h, e => by simp only [rnV] at e; cases e; constructor
  | .pn, _, h, e => by simp only [rnV] at e; cases e; constructor
  | .p k o, _, h, e => by simp only [rnV] at e; cases e with | p e => exact .p (h _ (by simp [nmV]) _ e)
  | .sn, _, h, e => by simp only [rnV] at e; cases e; constructor
  | .s k o n c, _, h, e => by simp only [rnV] at e; cases e with | s e => exact .s (h _ (by simp [nmV]) _ e)
  | .su k n, _, h, e => by simp only [rnV] at e; cases e with | su e l => exact .su (h _ (by simp [nmV]) _ e) l
  | .so k o n, _, h, e => by simp only [rnV] at e; cases e with | so e l o => exact .so (h _ (by simp [nmV]) _ e) l o
  | .fn f l, _, h, e => by simp only [rnV] at e; cases e with | fn e => exact .fn (rn_outs (by simpa [nmV] using h) e)
  | .yl k, _, h, e => by simp only [rnV] at e; cases e with | yl e => exact .yl (h _ (by simp [nmV]) _ e)
  | .nf, _, h, e => by simp only [rnV] at e; cases e; constructor
  | .str s, _, h, e => by simp only [rnV] at e; cases e; constructor
  | .agg l, _, h, e => by simp only [rnV] at e; cases e with | agg e => exact .agg (rn_outs (by simpa [nmV] using h) e)
  | .tup l, _, h, e => by simp only [rnV] at e; cases e with | tup e => exact .tup (rn_outs (by simpa [nmV] using h) e)
theorem rn_outs {β β' : Env} {σ : Nat → Nat} : ∀ {l : List V} {us : List Value}, (∀ k ∈ nmVs l, ∀ p, β (σ k) = some p → β' k = some p) → VRs β (rnVs σ l) us → VRs β' l us
  | [], _, h, e => by simp only [rnVs] at e; cases e; exact .nil
  | v :: l, _, h, e => by
    simp only [rnVs] at e
    cases e with
    | cons a b => exact .cons (rn_out (fun k hk => h k (by simp [nmVs, hk])) a) (rn_outs (fun k hk => h k (by simp [nmVs, hk])) b)
end
mutual
theorem VR.plain {β β' : Env} : ∀ {v : V} {u : Value}, nmV v = [] → VR β v u → VR β' v u
  | .bool b, _, h, e => by cases e; constructor
  | .int k n, _, h, e => by cases e; constructor
  | .pn, _, h, e => by cases e; constructor
  | .p k o, _, h, e => by simp [nmV] at h
  | .sn, _, h, e => by cases e; constructor
  | .s k o n c, _, h, e => by simp [nmV] at h
  | .su k n, _, h, e => by simp [nmV] at h
  | .so k o n, _, h, e => by simp [nmV] at h
  | .fn f l, _, h, e => by cases e with | fn e => exact .fn (VRs.plain (by simpa [nmV] using h) e)
  | .yl k, _, h, e => by simp [nmV] at h
  | .nf, _, h, e => by cases e; constructor
  | .str s, _, h, e => by cases e; constructor
  | .agg l, _, h, e => by cases e with | agg e => exact .agg (VRs.plain (by simpa [nmV] using h) e)
  | .tup l, _, h, e => by cases e with | tup e => exact .tup (VRs.plain (by simpa [nmV] using h) e)
theorem VRs.plain {β β' : Env} : ∀ {l : List V} {us : List Value}, nmVs l = [] → VRs β l us → VRs β' l us
  | [], _, h, e => by cases e; exact .nil
  | v :: l, _, h, e => by
    cases e with
    | cons a b =>
      simp only [nmVs, List.append_eq_nil_iff] at h
      exact .cons (VR.plain h.1 a) (VRs.plain h.2 b)
end
structure Memo where
  xs : List V
  k : Nat
  x0 : X
  v : V
  rs : List (Nat × List V × Nat × Option Nat)
  c : Nat
noncomputable def nd : List Nat → Bool
  | [] => true
  | a :: l => !l.any (Nat.beq a) && nd l
theorem nd_inj : ∀ {l : List Nat}, nd l = true → ∀ {i j a : Nat}, l[i]? = some a → l[j]? = some a → i = j
  | [], _, i, j, a, hi, _ => by simp at hi
  | b :: l, h, i, j, a, hi, hj => by
    simp only [nd, Bool.and_eq_true, Bool.not_eq_true'] at h
    have no : ∀ {n : Nat}, l[n]? = some b → False := fun hn => by
      have h1 := List.mem_of_getElem? hn
      rw [List.any_eq_false] at h
      exact h.1 b h1 (Nat.beq_refl b)
    cases i with
    | zero =>
      cases j with
      | zero => rfl
      | succ j => simp at hi hj; subst hi; exact (no hj).elim
    | succ i =>
      cases j with
      | zero => simp at hi hj; subst hj; exact (no hi).elim
      | succ j => simp at hi hj; rw [nd_inj h.2 hi hj]
noncomputable def eqN : Option Nat → Option Nat → Bool
  | none, none => true
  | some a, some b => Nat.beq a b
  | _, _ => false
theorem eqN_ok : ∀ {a b : Option Nat}, eqN a b = true → a = b
  | none, none, _ => rfl
  | some a, some b, h => by rw [show a = b from beq_iff.1 h]
  | none, some _, h => by cases h
  | some _, none, h => by cases h
noncomputable def nil? : List Nat → Bool
  | [] => true
  | _ => false
noncomputable def flatAt (x : X) (j : Nat) (x0 : X) (i : Nat) : Bool := match x.get j, x0.get i with
  | some (.cells l E o), some (.cells l' E' o') => eqVs l l' && Nat.beq E E' && eqN o o' && nil? (nmVs l')
  | _, _ => false
theorem flatAt_ok {x x0 : X} {j i : Nat} (h : flatAt x j x0 i = true) : ∃ l E o, x.get j = some (.cells l E o) ∧ x0.get i = some (.cells l E o) ∧ nmVs l = [] := by
  unfold flatAt at h
  split at h
  · rename_i l E o l' E' o' h1 h2
    simp only [Bool.and_eq_true] at h
    obtain ⟨⟨⟨a, b⟩, c⟩, d⟩ := h
    have := eqVs_ok a; subst this
    rw [beq_iff] at b; subst b
    have := eqN_ok c; subst this
    refine ⟨_, _, _, h1, h2, ?_⟩
    cases hn : nmVs l with
    | nil => rfl
    | cons a r => rw [hn] at d; cases d
  · cases h
noncomputable def allF (x : X) (x0 : X) : List Nat → Nat → Bool
  | [], _ => true
  | j :: l, i => flatAt x j x0 i && allF x x0 l (i + 1)
theorem allF_ok {x x0 : X} : ∀ {l : List Nat} {i : Nat}, allF x x0 l i = true → ∀ {n j : Nat}, l[n]? = some j → flatAt x j x0 (i + n) = true
  | [], i, h, n, j, hj => by simp at hj
  | a :: l, i, h, n, j, hj => by
    simp only [allF, Bool.and_eq_true] at h
    cases n with
    | zero => simp at hj; subst hj; exact h.1
    | succ n => simp at hj; have := allF_ok h.2 hj; rwa [show i + (n + 1) = i + 1 + n by omega]
noncomputable def ren (L : List Nat) (k C : Nat) (j : Nat) : Nat := bif Nat.blt j k then L.getD j 0 else C + (j - k)
noncomputable def sets (ρ : Nat → Nat) : List (Nat × List V × Nat × Option Nat) → X → X
  | [], x => x
  | (j, l, E, o) :: r, x => (sets ρ r x).set (ρ j) (.cells (rnVs ρ l) E o)
theorem sets_get {ρ : Nat → Nat} {x : X} {i : Nat} : ∀ {rs : List (Nat × List V × Nat × Option Nat)}, (∃ j l E o, (j, l, E, o) ∈ rs ∧ ρ j = i ∧ (sets ρ rs x).get i = some (.cells (rnVs ρ l) E o)) ∨ ((∀ q ∈ rs, ρ q.1 ≠ i) ∧ (sets ρ rs x).get i = x.get i)
  | [] => .inr ⟨by simp, rfl⟩
  | (j, l, E, o) :: r => by
    have e : (sets ρ ((j, l, E, o) :: r) x).get i = if ρ j = i then some (.cells (rnVs ρ l) E o) else (sets ρ r x).get i := by
      simp only [sets, X.get_set]
    by_cases h : ρ j = i
    · exact .inl ⟨j, l, E, o, by simp, h, by rw [e, if_pos h]⟩
    · rw [if_neg h] at e
      rcases sets_get (ρ := ρ) (x := x) (i := i) (rs := r) with ⟨j', l', E', o', h1, h2, h3⟩ | ⟨h1, h2⟩
      · exact .inl ⟨j', l', E', o', by simp [h1], h2, by rw [e, h3]⟩
      · exact .inr ⟨fun q hq => by
          rcases List.mem_cons.1 hq with rfl | hq
          · exact h
          · exact h1 q hq, by rw [e, h2]⟩
theorem sets_c {ρ : Nat → Nat} {x : X} : ∀ {rs : List (Nat × List V × Nat × Option Nat)}, (sets ρ rs x).c = x.c
  | [] => rfl
  | (j, l, E, o) :: r => by
    have : (sets ρ ((j, l, E, o) :: r) x).c = (sets ρ r x).c := by
      simp only [sets]; generalize sets ρ r x = y; cases y; rfl
    rw [this, sets_c]
noncomputable def useM (M : Memo) (xs : List V) (x : X) : Option (V × X) :=
  bif Nat.beq (nmVs xs).length M.k && (nd (nmVs xs) && (eqVs (rnVs (ren (nmVs xs) M.k x.c) M.xs) xs && allF x M.x0 (nmVs xs) 0)) then
    some (rnV (ren (nmVs xs) M.k x.c) M.v, sets (ren (nmVs xs) M.k x.c) M.rs (x.bump (M.c - M.k)))
  else none
noncomputable def MOk (P : Program) (f : Nat) (M : Memo) : Prop := ∀ {w0 : Base} {β : Env} {x : X} {w : World} {xs : List V} {us : List Value} {v : V} {x' : X}, useM M xs x = some (v, x') → HR w0 β x w → VRs β xs us → Calls P f us.toArray w (Ends w0 β x.c v x')
noncomputable def upTo : Nat → List Nat
  | 0 => []
  | n + 1 => upTo n ++ [n]
theorem upTo_len : ∀ n, (upTo n).length = n
  | 0 => rfl
  | n + 1 => by simp [upTo, upTo_len n]
theorem upTo_get : ∀ {n i : Nat}, i < n → (upTo n)[i]? = some i
  | n + 1, i, h => by
    by_cases e : i = n
    · subst e
      simp only [upTo]
      rw [List.getElem?_append_right (by rw [upTo_len]; exact Nat.le_refl _), upTo_len]; simp
    · simp only [upTo]
      rw [List.getElem?_append_left (by rw [upTo_len]; omega)]
      exact upTo_get (by omega)
noncomputable def inM (M : Memo) (n : Nat) : Bool := Nat.blt n M.k || M.rs.any (fun q => Nat.beq q.1 n)
noncomputable def rsOk (M : Memo) (x1 : X) : List (Nat × List V × Nat × Option Nat) → Bool
  | [] => true
  | (j, l, E, o) :: r => (match x1.get j with
    | some (.cells l' E' o') => Nat.ble M.k j && (eqVs l' l && (Nat.beq E' E && (eqN o' o && (nmVs l).all (inM M))))
    | _ => false) && rsOk M x1 r
theorem rsOk_ok {M : Memo} {x1 : X} : ∀ {rs : List (Nat × List V × Nat × Option Nat)}, rsOk M x1 rs = true → ∀ {j l E o}, (j, l, E, o) ∈ rs → x1.get j = some (.cells l E o) ∧ M.k ≤ j ∧ ∀ n ∈ nmVs l, inM M n = true
  | [], h, j, l, E, o, hm => by cases hm
  | (j', l', E', o') :: r, h, j, l, E, o, hm => by
    simp only [rsOk, Bool.and_eq_true] at h
    rcases List.mem_cons.1 hm with he | hm
    · cases he
      have h1 := h.1
      split at h1
      · rename_i l2 E2 o2 hx
        simp only [Bool.and_eq_true] at h1
        obtain ⟨a, b, c, d, e⟩ := h1
        have := eqVs_ok b; subst this
        rw [beq_iff] at c; subst c
        have := eqN_ok d; subst this
        rw [ble_iff] at a
        exact ⟨hx, a, fun n hn => List.all_eq_true.1 e n hn⟩
      · cases h1
    · exact rsOk_ok h.2 hm
noncomputable def chkM (K : Kit) (f : Nat) (M : Memo) : Bool := match K.call f M.xs M.x0 with
  | some (v, x1) => Nat.beq M.x0.c M.k && (eqV v M.v && (Nat.ble x1.c M.c && (rsOk M x1 M.rs && (allF x1 M.x0 (upTo M.k) 0 && ((nmV v).all (inM M) && (nmVs M.xs).all (fun n => Nat.blt n M.k))))))
  | none => false
section
variable {P : Program} {K : Kit}
theorem inM_ok {M : Memo} {n : Nat} (h : inM M n = true) : n < M.k ∨ ∃ q ∈ M.rs, q.1 = n := by
  simp only [inM, Bool.or_eq_true, Nat.blt_eq, List.any_eq_true] at h
  rcases h with h | ⟨q, h1, h2⟩
  · exact .inl h
  · exact .inr ⟨q, h1, beq_iff.1 h2⟩
theorem memo_ok (hK : KOk P K) {f : Nat} {M : Memo} (hc : chkM K f M = true) : MOk P f M := by
  intro w0 β x w xs us v x' hu h hv
  unfold chkM at hc
  split at hc
  case h_2 => cases hc
  rename_i v1 x1 hcall
  simp only [Bool.and_eq_true] at hc
  obtain ⟨c0, c1, c2, c3, c4, c5, c6⟩ := hc
  have := eqV_ok c1; subst this
  rw [beq_iff] at c0
  rw [ble_iff] at c2
  unfold useM at hu
  generalize hL : nmVs xs = L at hu
  cases hb : (Nat.beq L.length M.k && (nd L && (eqVs (rnVs (ren L M.k x.c) M.xs) xs && allF x M.x0 L 0))) with
  | false => rw [hb] at hu; cases hu
  | true =>
  rw [hb] at hu
  simp only [cond_true, Option.some.injEq, Prod.mk.injEq] at hu
  simp only [Bool.and_eq_true] at hb
  obtain ⟨b1, b2, b3, b4⟩ := hb
  rw [beq_iff] at b1
  have hxs := eqVs_ok b3
  obtain ⟨hu1, hu2⟩ := hu
  generalize hρ : ren L M.k x.c = ρ at hu1 hu2 hxs
  have ρlo : ∀ {i}, i < M.k → L[i]? = some (ρ i) := fun {i} hi => by
    have : i < L.length := by omega
    have hbl : Nat.blt i M.k = true := by rw [Nat.blt_eq]; exact hi
    rw [← hρ]; simp [ren, hbl, List.getElem?_eq_getElem this]
  have ρhi : ∀ {j}, M.k ≤ j → ρ j = x.c + (j - M.k) := fun {j} hj => by
    have : Nat.blt j M.k = false := by
      cases hq : Nat.blt j M.k with
      | false => rfl
      | true => rw [Nat.blt_eq] at hq; omega
    rw [← hρ]; simp [ren, this]
  have hat : ∀ {i}, i < M.k → ∃ l E o, x.get (ρ i) = some (.cells l E o) ∧ M.x0.get i = some (.cells l E o) ∧ nmVs l = [] := fun {i} hi => by
    have := flatAt_ok (allF_ok b4 (ρlo hi))
    rwa [Nat.zero_add] at this
  have hat1 : ∀ {i}, i < M.k → ∃ l E o, x1.get i = some (.cells l E o) ∧ M.x0.get i = some (.cells l E o) ∧ nmVs l = [] := fun {i} hi => by
    have := flatAt_ok (allF_ok c4 (upTo_get hi))
    rwa [Nat.zero_add] at this
  have ρinj : ∀ {i j}, i < M.k → j < M.k → ρ i = ρ j → i = j := fun {i j} hi hj e => nd_inj b2 (ρlo hi) (by rw [e]; exact ρlo hj)
  let β0 : Env := fun i => if i < M.k then β (ρ i) else none
  let B : Base := ⟨w, fun b => ∃ i c, i < M.k ∧ β (ρ i) = some (b, c)⟩
  have h0 : HR B β0 M.x0 w := by
    refine ⟨⟨rfl, rfl, rfl, Nat.le_refl _, fun _ _ _ => rfl⟩, fun {i b c o} hb hk => ?_, fun {i j b c c' o o'} a1 a2 a3 a4 => ?_, fun {i b c} hb => ?_⟩
    · by_cases hi : i < M.k
      · have hb' : β (ρ i) = some (b, c) := by simpa [β0, hi] using hb
        obtain ⟨l, E, oo, g1, g2, g3⟩ := hat hi
        rw [g2] at hk; cases hk
        obtain ⟨_, ob, k1, l1, l2, k2, k3, k4⟩ := h.obj hb' g1
        exact ⟨.inr ⟨i, c, hi, hb'⟩, ob, k1, l1, l2, k2, k3.plain g3, k4⟩
      · simp [β0, hi] at hb
    · by_cases hi : i < M.k
      · by_cases hj : j < M.k
        · have e1 : β (ρ i) = some (b, c) := by simpa [β0, hi] using a1
          have e2 : β (ρ j) = some (b, c') := by simpa [β0, hj] using a2
          obtain ⟨_, _, _, g1, _, _⟩ := hat hi
          obtain ⟨_, _, _, g2, _, _⟩ := hat hj
          exact ρinj hi hj (h.inj e1 e2 g1 g2)
        · simp [β0, hj] at a2
      · simp [β0, hi] at a1
    · by_cases hi : i < M.k
      · have e1 : β (ρ i) = some (b, c) := by simpa [β0, hi] using hb
        exact ⟨by rw [c0]; exact hi, (h.lt e1).2⟩
      · simp [β0, hi] at hb
  have hv0 : VRs β0 M.xs us := by
    rw [← hxs] at hv
    refine rn_outs (fun n hn p hp => ?_) hv
    have : n < M.k := by
      have := List.all_eq_true.1 c6 n hn
      simpa [Nat.blt_eq] using this
    simpa [β0, this] using hp
  refine (hK.call hcall h0 hv0).mono fun e w' hE => ?_
  obtain ⟨u, β', rfl, h1, h2, h3, h4⟩ := hE
  rw [c0] at h3 h4
  have old : ∀ {i p}, i < M.k → (β' i = some p ↔ β (ρ i) = some p) := fun {i p} hi => by rw [h4 i hi]; simp [β0, hi]
  let β2 : Env := fun j => if j < x.c then β j else if M.rs.any (fun q => Nat.beq (ρ q.1) j) then β' (j - x.c + M.k) else none
  have lo : ∀ {j}, j < x.c → β2 j = β j := fun {j} hj => by simp [β2, hj]
  have hrs : ∀ {j l E o}, (j, l, E, o) ∈ M.rs → x1.get j = some (.cells l E o) ∧ M.k ≤ j ∧ ∀ n ∈ nmVs l, inM M n = true := fun hm => rsOk_ok c3 hm
  have hi2 : ∀ {q}, q ∈ M.rs → β2 (ρ q.1) = β' q.1 := fun {q} hq => by
    obtain ⟨j, l, E, o⟩ := q
    have hj := (hrs hq).2.1
    have e := ρhi hj
    have hn : ¬ ρ j < x.c := by omega
    have ha : M.rs.any (fun q => Nat.beq (ρ q.1) (ρ j)) = true := List.any_eq_true.2 ⟨_, hq, Nat.beq_refl _⟩
    simp only [β2, hn, if_false, ha, if_true]
    rw [e]; congr 1; omega
  have back : ∀ {j p}, ¬ j < x.c → β2 j = some p → ∃ q ∈ M.rs, ρ q.1 = j ∧ β' q.1 = some p := fun {j p} hj hp => by
    cases ha : M.rs.any (fun q => Nat.beq (ρ q.1) j) with
    | false => simp [β2, hj, ha] at hp
    | true =>
      obtain ⟨q, hq, e⟩ := List.any_eq_true.1 ha
      rw [beq_iff] at e
      refine ⟨q, hq, e, ?_⟩
      rw [← hi2 hq, e]; exact hp
  have fw : ∀ {n p}, inM M n = true → β' n = some p → β2 (ρ n) = some p := fun {n p} hn hp => by
    rcases inM_ok hn with hn | ⟨q, hq, rfl⟩
    · have hb := (old hn).1 hp
      obtain ⟨b, c⟩ := p
      rw [lo (h.lt hb).1]; exact hb
    · rw [hi2 hq]; exact hp
  have ext : Ext β β2 := fun j p hp => by
    obtain ⟨b, c⟩ := p
    rw [lo (h.lt hp).1]; exact hp
  have own : ∀ {b}, B.own b → w0.own b := fun {b} hb => by
    rcases hb with hb | ⟨i, c, hi, hb⟩
    · exact .inl (Nat.le_trans h.below.size hb)
    · obtain ⟨_, _, _, g1, _, _⟩ := hat hi
      exact (h.obj hb g1).1
  have gx : ∀ {j o}, j < x.c → x'.get j = some o → x.get j = some o := fun {j o} hj ho => by
    rw [← hu2] at ho
    rcases sets_get (ρ := ρ) (x := x.bump (M.c - M.k)) (i := j) (rs := M.rs) with ⟨j', l', E', o', g1, g2, g3⟩ | ⟨g1, g2⟩
    · have := ρhi (hrs g1).2.1; omega
    · rw [g2] at ho
      cases x; exact ho
  have gn : ∀ {q j o}, q ∈ M.rs → ρ q.1 = j → x'.get j = some o → ∃ l E oo, (q.1, l, E, oo) ∈ M.rs ∧ o = .cells (rnVs ρ l) E oo := fun {q j o} hq e ho => by
    rw [← hu2] at ho
    rcases sets_get (ρ := ρ) (x := x.bump (M.c - M.k)) (i := j) (rs := M.rs) with ⟨j', l', E', o', g1, g2, g3⟩ | ⟨g1, g2⟩
    · obtain ⟨j, l, E, oo⟩ := q
      have e1 := ρhi (hrs g1).2.1
      have e2 := ρhi (hrs hq).2.1
      have e3 := (hrs g1).2.1
      have e4 := (hrs hq).2.1
      have : j' = j := by
        have : ρ j = ρ j' := by rw [g2]; exact e
        omega
      subst this
      rw [g3] at ho; cases ho
      exact ⟨_, _, _, g1, rfl⟩
    · exact absurd e (g1 q hq)
  have hsz : w.heap.size ≤ w'.heap.size := h2.below.size
  have hcx : x'.c = x.c + (M.c - M.k) := by rw [← hu2, sets_c]; cases x; rfl
  refine ⟨u, β2, rfl, ?_, ⟨?_, fun {j b c o} hb hk => ?_, fun {j j' b c c' o o'} a1 a2 a3 a4 => ?_, fun {j b c} hb => ?_⟩, by omega, fun j hj => lo hj⟩
  · rw [← hu1]
    exact rn_in (fun n hn p hp => fw (List.all_eq_true.1 c5 n hn) hp) h1
  · have hb := h2.below
    refine ⟨hb.os.trans h.below.os, hb.tape.trans h.below.tape, hb.output.trans h.below.output, Nat.le_trans h.below.size hb.size, fun j hj hU => ?_⟩
    rw [← h.below.block j hj hU]
    refine hb.block j (Nat.lt_of_lt_of_le hj h.below.size) fun ⟨i, c, hi, hbi⟩ => ?_
    rcases own (.inr ⟨i, c, hi, hbi⟩) with g | g
    · omega
    · exact hU g
  · by_cases hj : j < x.c
    · rw [lo hj] at hb
      have hk' := gx hj hk
      obtain ⟨g1, ob, g2, g3⟩ := h.obj hb hk'
      by_cases hU : B.U b
      · obtain ⟨i, c', hi, hbi⟩ := hU
        obtain ⟨l, E, oo, k1, k2, k3⟩ := hat hi
        obtain ⟨l', E', oo', m1, m2, m3⟩ := hat1 hi
        have e := h.inj hb hbi hk' k1
        subst e
        rw [k2] at m2; cases m2
        rw [k1] at hk'; cases hk'
        rw [hb] at hbi; cases hbi
        obtain ⟨_, ob', n1, l1, l2, n2, n3, n4⟩ := h2.obj ((old hi).2 hb) m1
        exact ⟨g1, ob', n1, l1, l2, n2, n3.plain k3, n4⟩
      · refine ⟨g1, ob, ?_, g3.mono ext⟩
        rw [h2.below.block b (h.lt hb).2 hU]; exact g2
    · obtain ⟨q, hq, e, hp⟩ := back hj hb
      obtain ⟨l, E, oo, hm, rfl⟩ := gn hq e hk
      obtain ⟨g1, ob, g2, l1, l2, g3, g4, g5⟩ := h2.obj hp (hrs hm).1
      exact ⟨own g1, ob, g2, l1, l2, g3, rn_ins (fun n hn p hp => fw ((hrs hm).2.2 n hn) hp) g4, g5⟩
  · have mix : ∀ {j j' b c c' o o'}, j < x.c → ¬ j' < x.c → β2 j = some (b, c) → β2 j' = some (b, c') → x'.get j = some o → x'.get j' = some o' → False := fun {j j' b c c' o o'} hj hj' a1 a2 a3 a4 => by
      rw [lo hj] at a1
      obtain ⟨q, hq, e, hp⟩ := back hj' a2
      obtain ⟨l, E, oo, hm, _⟩ := gn hq e a4
      rcases (h2.obj hp (hrs hm).1).1 with g | ⟨i, c2, hi, hbi⟩
      · have g' : w.heap.size ≤ b := g
        have := (h.lt a1).2; omega
      · obtain ⟨_, _, _, m1, _, _⟩ := hat1 hi
        have := h2.inj ((old hi).2 hbi) hp m1 (hrs hm).1
        have := (hrs hm).2.1
        omega
    by_cases hj : j < x.c
    · by_cases hj' : j' < x.c
      · rw [lo hj] at a1; rw [lo hj'] at a2
        exact h.inj a1 a2 (gx hj a3) (gx hj' a4)
      · exact (mix hj hj' a1 a2 a3 a4).elim
    · by_cases hj' : j' < x.c
      · exact (mix hj' hj a2 a1 a4 a3).elim
      · obtain ⟨q, hq, e, hp⟩ := back hj a1
        obtain ⟨q', hq', e', hp'⟩ := back hj' a2
        obtain ⟨_, _, _, hm, _⟩ := gn hq e a3
        obtain ⟨_, _, _, hm', _⟩ := gn hq' e' a4
        rw [← e, ← e', h2.inj hp hp' (hrs hm).1 (hrs hm').1]
  · by_cases hj : j < x.c
    · rw [lo hj] at hb
      have := h.lt hb
      omega
    · obtain ⟨q, hq, e, hp⟩ := back hj hb
      have g := h2.lt hp
      obtain ⟨n, l, E, oo⟩ := q
      have e2 : M.k ≤ n := (hrs hq).2.1
      have e1 : ρ n = x.c + (n - M.k) := ρhi e2
      have e' : ρ n = j := e
      have g1 : n < x1.c := g.1
      exact ⟨by omega, g.2⟩
noncomputable def tryM : List Memo → List V → X → Option (V × X)
  | [], _, _ => none
  | M :: r, xs, x => match useM M xs x with
    | some p => some p
    | none => tryM r xs x
noncomputable def callM (Ms : Nat → List Memo) (go : Nat → List V → X → Option (V × X)) (f : Nat) (xs : List V) (x : X) : Option (V × X) := match Ms f with
  | [] => go f xs x
  | M :: r => match tryM (M :: r) xs x with
    | some p => some p
    | none => go f xs x
noncomputable def kitM (P : Program) (kp : Nat → Nat) (m : Nat) (Ms : Nat → List Memo) : Nat → Kit
  | 0 => ⟨0, fun _ _ _ => none, fun _ _ _ => none⟩
  | n + 1 => ⟨m, callM Ms (evF (kitM P kp m Ms n) P kp), evY (kitM P kp m Ms n) P⟩
theorem tryM_ok {f : Nat} {xs : List V} {x x' : X} {v : V} : ∀ {l : List Memo}, (∀ M ∈ l, MOk P f M) → tryM l xs x = some (v, x') → ∀ {w0 : Base} {β : Env} {w : World} {us : List Value}, HR w0 β x w → VRs β xs us → Calls P f us.toArray w (Ends w0 β x.c v x')
  | [], _, h, _, _, _, _, _, _ => by cases h
  | M :: r, hM, h, w0, β, w, us, hr, hv => by
    simp only [tryM] at h
    split at h
    · rename_i p hp
      injection h with h; subst h
      exact hM M (by simp) hp hr hv
    · exact tryM_ok (fun M' hm => hM M' (by simp [hm])) h hr hv
theorem kitM_ok (hm : P.follows .mixedOrders = true) (kp : Nat → Nat) (m : Nat) {Ms : Nat → List Memo} (hM : ∀ f, ∀ M ∈ Ms f, MOk P f M) : ∀ n, KOk P (kitM P kp m Ms n)
  | 0 => ⟨fun h => (by cases h), fun h => (by cases h)⟩
  | n + 1 => ⟨fun {f xs x v x'} h => fun {w0 β w us} hr hv => by
      have h' : callM Ms (evF (kitM P kp m Ms n) P kp) f xs x = some (v, x') := h
      unfold callM at h'
      split at h'
      · exact evF_ok (kitM_ok hm kp m hM n) hm h' hr hv
      · rename_i M r hl
        split at h'
        · rename_i p hp
          injection h' with h'; subst h'
          exact tryM_ok (fun M' hm' => hM f M' (by rw [hl]; exact hm')) hp hr hv
        · exact evF_ok (kitM_ok hm kp m hM n) hm h' hr hv, fun h => fun {w0 β w us b c} hr hv hl => evY_ok (kitM_ok hm kp m hM n) hm h hr hv hl⟩
noncomputable def isB (b : Bool) : Option (V × X) → Bool
  | some (.bool c, _) => c == b
  | _ => false
theorem runM_ok (hK : KOk P K) {f : Nat} {b : Bool} (he : isB b (K.call f [] ⟨T.mk 13, 0⟩) = true) (w0 : World) : Calls P f #[] w0 fun e w => e = .returned (.bool b) ∧ Sat w0 w [] := by
  unfold isB at he
  split at he
  · rename_i c x' hc
    have hr : HR ⟨w0, fun _ => False⟩ (fun _ => none) ⟨T.mk 13, 0⟩ w0 := ⟨⟨rfl, rfl, rfl, Nat.le_refl _, fun _ _ _ => rfl⟩, fun h => (by cases h), fun h => (by cases h), fun h => (by cases h)⟩
    refine (hK.call hc hr (us := []) .nil).mono fun e w hE => ?_
    obtain ⟨u, β', rfl, h1, h2, _⟩ := hE
    cases h1
    have : c = b := by simpa using he
    subst this
    exact ⟨rfl, ⟨h2.below.os, h2.below.tape, h2.below.output, h2.below.size, fun k hk => h2.below.block k hk (fun h => h)⟩, by simp, by simp, .nil⟩
  · cases he
end
end Go.Proofs.Ev
namespace Go.Proofs.YtkichmnjjblodaaGreat
open Go Go.RowKit Go.Proofs.Gw Go.Proofs.Ev
noncomputable def kp (f : Nat) : Nat := Option.rec 0 (fun v => v) (Go.Proofs.Ev.look [(11, 15), (13, 8726274033845751), (16, 16503), (21, 319), (26, 4718687), (30, 563224865936383), (36, 17251177471), (39, 31), (43, 7), (44, 1143), (45, 4026532855), (47, 1983487), (50, 272383), (53, 268927479), (54, 1005), (56, 618970019643226699123916831), (57, 281477023663999), (60, 36287254892866675314491391), (61, 63), (62, 2097279), (63, 17592188266495), (64, 95), (65, 21), (66, 21), (67, 133101), (68, 7), (69, 16806963), (70, 1074250695), (77, 19703), (79, 8388671), (81, 576527822512791551), (84, 1014515575), (85, 287), (86, 71999), (87, 131583), (88, 304394601513725015830682696383999), (91, 1279), (92, 66483), (93, 15), (94, 537399539), (95, 7), (96, 3), (97, 31), (98, 34628706291), (99, 1967), (100, 1967), (101, 7), (114, 131327), (116, 7), (117, 144585782985719), (121, 55), (122, 143), (123, 17293822569169827327), (124, 7), (125, 2228479), (126, 151115729527707574214647), (127, 504373101), (128, 491639), (129, 3), (130, 39), (132, 8390079), (133, 4159), (134, 3932767), (135, 17181835903), (136, 18014433942971335), (137, 604275), (138, 71), (139, 19), (140, 7), (148, 23), (149, 255), (150, 154742541840191678125958143), (151, 19), (152, 5), (153, 5), (154, 15), (155, 87), (156, 19), (157, 1967), (158, 7), (159, 66483), (160, 11), (161, 288230651030667771), (162, 2221311), (163, 21), (164, 275012190327), (165, 500727), (166, 20287051879942688996705783807935), (167, 2179465723), (168, 7), (169, 5), (170, 65619), (171, 18014433942971335), (172, 17179886351), (173, 13164839976634628298295110780136696778032692856359452003713154079), (174, 5), (175, 5), (176, 5), (177, 66483), (181, 4398550352375), (182, 582619), (183, 27), (184, 19), (185, 11), (186, 16809079), (187, 32925), (188, 4906538921927811845457919), (189, 137506063859), (190, 30786444988403), (191, 23), (192, 576460752319188979), (193, 159), (194, 31), (195, 269655), (196, 7), (197, 17179886351), (198, 13164839976634628298295110780136696778032692856359452003713154079), (199, 9440287), (204, 66483), (205, 515454797055), (206, 137581560831), (207, 1011), (208, 5), (209, 51), (210, 4194419), (211, 83), (212, 5), (213, 262411), (214, 9440287), (215, 9247), (216, 1099511627807), (217, 5649218982092007925048985748112424959), (218, 12856900505400867432007590918835126251547560586858788039819215), (219, 115), (220, 16371), (221, 7), (222, 19), (223, 73787539245866288127), (224, 9247), (225, 27), (226, 11), (227, 32925), (228, 37974492795476377855), (229, 7741), (230, 66483), (231, 47), (232, 11), (233, 13), (234, 7), (235, 504373101), (236, 11), (237, 5), (238, 5), (239, 16883), (240, 65619), (241, 247), (242, 10384593871817177683247510831234831), (243, 5), (244, 1073746119), (245, 1074268103), (246, 8804682991559), (247, 20829169751433159), (248, 8391), (249, 83087207854311395603287443752634311), (250, 19), (251, 19023213622105999119), (252, 22458641409078797123448399039441150152463), (253, 277), (254, 16661), (255, 4503668346913551), (256, 5), (257, 5), (258, 71), (259, 1055), (260, 262927)] f)
noncomputable def x0 : X := ⟨((T.mk 13).set 0 (some (.cells [.int .i64 6, .int .i64 4] 3 none))).set 1 (some (.cells [.int .i64 2, .int .i64 2] 3 none)), 2⟩
noncomputable def pEx : V := .agg [.s 0 0 2 2, .s 1 0 2 2, .int .i64 10, .int .i64 0]
noncomputable def mCol : Memo := ⟨[pEx], 2, x0, .tup [.agg [.su 3718 3, .s 6452 0 3 3, .s 6456 0 2 2, .int .i64 2, .int .i64 1], .int .i64 0], [(3718, [.s 16 0 2 2, .s 44 0 2 2, .su 3703 2], 22, some 1), (16, [.int .i64 1, .int .i64 0], 3, none), (44, [.int .i64 0, .int .i64 2], 3, none), (3703, [.int .i64 1, .int .i64 1], 3, some 1), (6452, [.int .i64 0, .int .i64 0, .int .i64 2], 3, none), (6456, [.int .i64 1, .int .i64 0], 3, none)], 8084⟩
noncomputable def Ms (f : Nat) : List Memo := Bool.rec [] [mCol] (Nat.beq f 86)
theorem mixed : Tryz.prog.follows .mixedOrders = true := by kernel_rfl
theorem mCol_chk : chkM (kit Tryz.prog kp 100000 60) 86 mCol = true := by kernel_rfl
theorem Ms_ok (f : Nat) (M : Memo) (h : M ∈ Ms f) : MOk Tryz.prog f M := by
  unfold Ms at h
  cases hb : Nat.beq f 86 with
  | false => rw [hb] at h; cases h
  | true =>
    rw [hb] at h
    obtain rfl : M = mCol := by simpa using h
    rw [show f = 86 from Nat.eq_of_beq_eq_true hb]
    exact memo_ok (kit_ok mixed kp 100000 60) mCol_chk
theorem aw_run : isB true ((kitM Tryz.prog kp 100000 Ms 60).call 11 [] ⟨T.mk 13, 0⟩) = true := by kernel_rfl
theorem c_awake36 (w0 : World) : Calls Tryz.prog 11 #[] w0 fun e w => e = .returned (.bool true) ∧ Sat w0 w [] :=
  runM_ok (kitM_ok mixed kp 100000 Ms_ok 60) aw_run w0
end Go.Proofs.YtkichmnjjblodaaGreat
namespace Go.Proofs.YtkichmnjjblodaaGreat
open Go Go.RowKit Go.Proofs.Gw
theorem cl_11 : calledT Tryz.prog 11 = true := by kernel_rfl
theorem cl_12 : calledT Tryz.prog 12 = true := by kernel_rfl
theorem cl_13 : calledT Tryz.prog 13 = true := by kernel_rfl
theorem cl_14 : calledT Tryz.prog 14 = true := by kernel_rfl
theorem cl_16 : calledT Tryz.prog 16 = true := by kernel_rfl
theorem cl_18 : calledT Tryz.prog 18 = true := by kernel_rfl
theorem c_same28 {va vb : Value} {n m : Int} {f g : Int → Int} (w0 : World) (hA : Row w0 va 1 n (ints f)) (hB2 : Row w0 vb 1 m (ints g)) :
    Calls Tryz.prog 18 [va, vb].toArray w0 fun e w => ∃ v, e = .returned v ∧ v = B (n = m ∧ ∀ k, 0 ≤ k → k < n → f k = g k) ∧ Sat w0 w [] := by
  have hn := hA.slh.n0; have hm1 := hB2.slh.n1; have hn1 := hA.slh.n1
  refine zenG Tryz.func18 Tryz.ntmps18 fun w hS => ?_
  refine zsr ?_
  refine zlv xas ?_
  refine zlt <| zsq <| zsr ?_
  refine zlv xmv ?_
  refine zlv (xln sl_22 hA.slh) ?_
  refine zlv xmv ?_
  refine zlv (xln sl_22 hB2.slh) ?_
  refine zlv xneq ?_
  refine zlt ?_
  refine zcif ?_ ?_ <;> intro hc
  ·
   refine zsr ?_
   refine zlv xas ?_
   refine zlt <| zrt <| ztr <| zf1 ⟨_, rfl, ?_⟩
   exact ⟨false_B (by rintro ⟨h1, h2⟩; first | omega | exact absurd (h2 i h0 (by omega)) (by omega)), hS⟩
  refine zsk <| ztn <| zsq <| zsr ?_
  refine zlv xas ?_
  refine zlt <| zbk <| zlp (fun mm M w => ∃ (i : Int), mm = ((n - i).toNat) ∧ (0 ≤ i) ∧ (i ≤ n) ∧ (∀ k, 0 ≤ k → k < i → f k = g k) ∧ M = [(0, va), (1, vb), (5, .int .i64 i)] ∧ Sat w0 w []) ⟨0, rfl, (by omega), (by omega), ?_, rfl, hS⟩ ?_
  ·
   intro k h0 h1; omega
  clear hS w
  rintro mm M w ⟨i, rfl, h0, h1, hall, rfl, hS⟩
  refine zsq <| zsr ?_
  refine zs2 ?_
  refine zlv (xln sl_22 hA.slh) ?_
  refine zlv xlss ?_
  refine zlt ?_
  refine zcif ?_ ?_ <;> intro hc
  ·
   refine zsk <| ztn <| zsq <| zbk <| zsq ?_
   refine zdst [] [] 1000 mx_ hS ?_; clear hS; intro w hS
   refine zdv 0 (fun _ => xmv) ?_
   refine zdv 1 (fun _ => xmv) ?_
   refine zdv 2 (fun _ => (xix (kk := i) sl_22 hA.slh)) ?_
   refine zdla 3 (fun w hS => (xlr (u := .int .i64 (f i)) pl_3 (hA.below hS.below))) ?_
   refine zdv 4 (fun _ => xmv) ?_
   refine zdv 5 (fun _ => xmv) ?_
   refine zdv 6 (fun _ => (xix (kk := i) sl_22 hB2.slh)) ?_
   refine zdla 7 (fun w hS => (xlr (u := .int .i64 (g i)) pl_3 (hB2.below hS.below))) ?_
   refine zdv 8 (fun _ => xneq) ?_
   refine zdd <| ztn ?_
   refine zcif ?_ ?_ <;> intro hc
   ·
    refine zsr ?_
    refine zlv xas ?_
    refine zlt <| zrt <| zbr <| ztr <| ztr <| zbr <| ztr <| zf1 ⟨_, rfl, ?_⟩
    exact ⟨false_B (by rintro ⟨h1, h2⟩; first | omega | exact absurd (h2 i h0 (by omega)) (by omega)), hS⟩
   refine zsk <| zbn <| ztn <| zrg ?_
   refine zlv xmv ?_
   refine zlv (xadd (r := i + 1)) ?_
   refine zlv xas ?_
   refine zln <| zlq ⟨i + 1, rfl, (by omega), (by omega), ?_, rfl, hS⟩
   ·
    intro k h0' h1'; rcases Int.lt_or_eq_of_le (show k ≤ i by omega) with hk | hk; exact hall k h0' hk; rw [hk]; omega
  refine zxt <| ztx <| ztx <| zbh <| ztn <| zsr ?_
  refine zlv xas ?_
  refine zlt <| zrt <| zf1 ⟨_, rfl, ?_⟩
  exact ⟨true_B ⟨by omega, fun k k0 k1 => hall k k0 (by omega)⟩, hS⟩
theorem c_awk (w0 : World) : Calls Tryz.prog 11 #[] w0 fun e w => ∃ v, e = .returned v ∧ v = .bool true ∧ Sat w0 w [] := (c_awake36 w0).mono fun e w ⟨h1, h2⟩ => ⟨_, h1, rfl, h2⟩
end Go.Proofs.YtkichmnjjblodaaGreat
namespace Go.Proofs.Gw
open Go Go.RowKit
inductive Tr where
  | nil
  | mk (s : Int) (vK : Value) (n : Int) (kid : Int → Tr) (vL : Value) (nl : Int) (l : Int → Int)
def Tr.s : Tr → Int | .nil => 0 | .mk s _ _ _ _ _ _ => s
def Tr.vK : Tr → Value | .nil => .slice none 0 0 | .mk _ v _ _ _ _ _ => v
def Tr.n : Tr → Int | .nil => 0 | .mk _ _ n _ _ _ _ => n
def Tr.kid : Tr → Int → Tr | .nil => fun _ => .nil | .mk _ _ _ k _ _ _ => k
def Tr.vL : Tr → Value | .nil => .slice none 0 0 | .mk _ _ _ _ v _ _ => v
def Tr.nl : Tr → Int | .nil => 0 | .mk _ _ _ _ _ n _ => n
def Tr.l : Tr → Int → Int | .nil => fun _ => 0 | .mk _ _ _ _ _ _ l => l
theorem Tr.ind {P : Tr → Prop} (h : ∀ t, (∀ i, 0 ≤ i → i < t.n → P (t.kid i)) → P t) : ∀ t, P t
  | .nil => h .nil fun i i0 i1 => by have i1' : i < 0 := i1; omega
  | .mk s vK n kid vL nl l => h (.mk s vK n kid vL nl l) fun i _ _ => Tr.ind h (kid i)
def tcells (S : Int → Int) (K L : Int → Value) : Int → Value := fun j => if j % 3 = 0 then .int .i64 (S (j / 3)) else if j % 3 = 1 then K (j / 3) else L (j / 3)
abbrev kcells (kid : Int → Tr) : Int → Value := tcells (fun i => (kid i).s) (fun i => (kid i).vK) (fun i => (kid i).vL)
theorem tcells_at (S : Int → Int) (K L : Int → Value) {q i : Int} (h : q = 3 * i) : ∀ (j : Nat) u, [Value.int .i64 (S i), K i, L i][j]? = some u → tcells S K L (q + j) = u := fun j u hu => by
  rcases j with _ | _ | _ | j
  · cases hu; unfold tcells; rw [if_pos (by omega)]; congr 2; omega
  · cases hu; unfold tcells; rw [if_neg (by omega), if_pos (by omega)]; congr 1; omega
  · cases hu; unfold tcells; rw [if_neg (by omega), if_neg (by omega)]; congr 1; omega
  · simp at hu
theorem kcells_at (kid : Int → Tr) {q i : Int} (h : q = 3 * i) : ∀ (j : Nat) u, [Value.int .i64 (kid i).s, (kid i).vK, (kid i).vL][j]? = some u → kcells kid (q + j) = u := tcells_at (fun i => (kid i).s) (fun i => (kid i).vK) (fun i => (kid i).vL) h
theorem tcells_one {S : Int → Int} {K L : Int → Value} (hK : ∀ i, (K i).oneCell' = true) (hL : ∀ i, (L i).oneCell' = true) (j : Int) : (tcells S K L j).oneCell' = true := by
  unfold tcells
  split
  · rfl
  · split
    · exact hK _
    · exact hL _
theorem cat_tcells (kid : Int → Tr) (n : Int) (t : Tr) : cat (n * 3) (kcells kid) (tcells (fun _ => t.s) (fun _ => t.vK) (fun _ => t.vL)) = kcells (gsn kid n t) := by
  funext j
  unfold cat kcells tcells gsn
  by_cases h : j < n * 3
  · have h1 : j / 3 < n := by omega
    simp only [if_pos h, if_pos h1]
  · have h1 : ¬ j / 3 < n := by omega
    have e : (j - n * 3) % 3 = j % 3 := by omega
    simp only [if_neg h, if_neg h1, e]
def KAt (w : World) : Tr → Prop
  | .nil => True
  | .mk s vK n kid vL nl l => (Row w vK 3 n (kcells kid) ∧ 56 * n ≤ 140737488351232) ∧ ∀ i, 0 ≤ i → i < n → KAt w (kid i)
def LvAt (w : World) : Tr → Prop
  | .nil => True
  | .mk s vK n kid vL nl l => (IAt w vL nl l ∧ Roomy vL ∧ (-9223372036854775808 ≤ s ∧ s ≤ 9223372036854775807)) ∧ ∀ i, 0 ≤ i → i < n → LvAt w (kid i)
theorem KAt.row {w : World} {t : Tr} (h : KAt w t) : Row w t.vK 3 t.n (kcells t.kid) := by
  cases t with
  | nil => exact row_nil _ _ _
  | mk => exact h.1.1
theorem KAt.bd {w : World} {t : Tr} (h : KAt w t) : 56 * t.n ≤ 140737488351232 := by
  cases t with
  | nil => show 56 * 0 ≤ _; omega
  | mk => exact h.1.2
theorem KAt.sub {w : World} {t : Tr} (h : KAt w t) {i : Int} (i0 : 0 ≤ i) (i1 : i < t.n) : KAt w (t.kid i) := by
  cases t with
  | nil => exact trivial
  | mk => exact h.2 i i0 i1
theorem LvAt.leaf {w : World} {t : Tr} (h : LvAt w t) : IAt w t.vL t.nl t.l := by
  cases t with
  | nil => exact ⟨row_nil _ _ _, fun k => by show _ ≤ (0 : Int) ∧ (0 : Int) ≤ _; omega⟩
  | mk => exact h.1.1
theorem LvAt.room {w : World} {t : Tr} (h : LvAt w t) : Roomy t.vL := by
  cases t with
  | nil => intro a len cap e; cases e; exact Nat.le_refl _
  | mk => exact h.1.2.1
theorem LvAt.s {w : World} {t : Tr} (h : LvAt w t) : -9223372036854775808 ≤ t.s ∧ t.s ≤ 9223372036854775807 := by
  cases t with
  | nil => show _ ≤ (0 : Int) ∧ (0 : Int) ≤ _; omega
  | mk => exact h.1.2.2
theorem LvAt.sub {w : World} {t : Tr} (h : LvAt w t) {i : Int} (i0 : 0 ≤ i) (i1 : i < t.n) : LvAt w (t.kid i) := by
  cases t with
  | nil => exact trivial
  | mk => exact h.2 i i0 i1
theorem KAt.below {w w' : World} (hb : Below w.heap.size w w') : ∀ {t : Tr}, KAt w t → KAt w' t
  | .nil, _ => trivial
  | .mk s vK n kid vL nl l, h => ⟨⟨h.1.1.below hb, h.1.2⟩, fun i i0 i1 => KAt.below hb (h.2 i i0 i1)⟩
theorem LvAt.below {w w' : World} (hb : Below w.heap.size w w') : ∀ {t : Tr}, LvAt w t → LvAt w' t
  | .nil, _ => trivial
  | .mk s vK n kid vL nl l, h => ⟨⟨h.1.1.below hb, h.1.2.1, h.1.2.2⟩, fun i i0 i1 => LvAt.below hb (h.2 i i0 i1)⟩
def sumW (f : Int → Int) : Nat → Int
  | 0 => 1
  | k + 1 => IntKind.i64.wrap (sumW f k + f k)
def maxW (f : Int → Int) : Nat → Int
  | 0 => 0
  | k + 1 => max (maxW f k) (f k)
theorem sumW_next (f : Int → Int) {i : Int} (h : 0 ≤ i) : sumW f (i + 1).toNat = IntKind.i64.wrap (sumW f i.toNat + f i) := by
  rw [show (i + 1).toNat = i.toNat + 1 by omega]
  simp only [sumW]
  rw [show ((i.toNat : Nat) : Int) = i by omega]
theorem maxW_next (f : Int → Int) {i : Int} (h : 0 ≤ i) : maxW f (i + 1).toNat = max (maxW f i.toNat) (f i) := by
  rw [show (i + 1).toNat = i.toNat + 1 by omega]
  simp only [maxW]
  rw [show ((i.toNat : Nat) : Int) = i by omega]
theorem sumW_congr {f g : Int → Int} : ∀ {k : Nat}, (∀ i, 0 ≤ i → i < (k : Int) → f i = g i) → sumW f k = sumW g k
  | 0, _ => rfl
  | k + 1, h => by simp only [sumW]; rw [sumW_congr (k := k) fun i a b => h i a (by omega), h k (by omega) (by omega)]
theorem maxW_congr {f g : Int → Int} : ∀ {k : Nat}, (∀ i, 0 ≤ i → i < (k : Int) → f i = g i) → maxW f k = maxW g k
  | 0, _ => rfl
  | k + 1, h => by simp only [maxW]; rw [maxW_congr (k := k) fun i a b => h i a (by omega), h k (by omega) (by omega)]
def Tr.nodes : Tr → Int | .nil => 1 | .mk _ _ n kid _ _ _ => sumW (fun i => (kid i).nodes) n.toNat
def Tr.depth : Tr → Int | .nil => IntKind.i64.wrap (0 + 1) | .mk _ _ n kid _ _ _ => IntKind.i64.wrap (maxW (fun i => (kid i).depth) n.toNat + 1)
theorem Tr.nodes_eq (t : Tr) : t.nodes = sumW (fun i => (t.kid i).nodes) t.n.toNat := by cases t <;> rfl
theorem Tr.depth_eq (t : Tr) : t.depth = IntKind.i64.wrap (maxW (fun i => (t.kid i).depth) t.n.toNat + 1) := by cases t <;> rfl
theorem xaddw {P : Program} {L : List (Nat × Value)} {w : World} {o : Oper} {x y : Operand} {T T' : TypeId} {m n : Int} (ho : o.op = .binOp .add T x y T' := by exact rfl) (hx : evL L x = some (.int .i64 m) := by exact rfl) (hy : evL L y = some (.int .i64 n) := by exact rfl) : Runs P L w o (.value (.int .i64 (IntKind.i64.wrap (m + n)))) w := fun ρ h => by
  simp [execOp, ho, h _ _ hx, h _ _ hy, go_sem, Op.intArith]
def SmallN (x : Int) : Prop := -1073741824 ≤ x ∧ x ≤ 1073741824
def OkN (t : Tr) : Prop := SmallN t.s ∧ t.n ≤ 100 ∧ t.nl ≤ 40 ∧ (t.n = 0 ∨ t.nl = 0) ∧ (t.n = 0 → t.s = 0) ∧ ∀ k, 0 ≤ k → k < t.nl → SmallN (t.l k)
def Tr.ok : Tr → Prop | .nil => OkN .nil | .mk s vK n kid vL nl l => OkN (.mk s vK n kid vL nl l) ∧ ∀ i, 0 ≤ i → i < n → (kid i).ok
theorem Tr.ok_iff (t : Tr) : t.ok ↔ OkN t ∧ ∀ i, 0 ≤ i → i < t.n → (t.kid i).ok := by
  cases t with
  | nil => exact ⟨fun h => ⟨h, fun i i0 i1 => by have i1' : i < 0 := i1; omega⟩, fun h => h.1⟩
  | mk => rfl
def ValidT (t : Tr) : Prop := t.ok ∧ t.nodes ≤ 2000 ∧ t.depth ≤ 40
def Sim : Tr → Tr → Prop
  | .nil, t => t.s = 0 ∧ t.n = 0 ∧ t.vL = .slice none 0 0 ∧ t.nl = 0 ∧ t.l = fun _ => 0
  | .mk s vK n kid vL nl l, t => t.s = s ∧ t.n = n ∧ t.vL = vL ∧ t.nl = nl ∧ t.l = l ∧ ∀ i, 0 ≤ i → i < n → Sim (kid i) (t.kid i)
theorem Sim.of {t u : Tr} (h : Sim t u) : u.s = t.s ∧ u.n = t.n ∧ u.vL = t.vL ∧ u.nl = t.nl ∧ u.l = t.l ∧ ∀ i, 0 ≤ i → i < t.n → Sim (t.kid i) (u.kid i) := by
  cases t with
  | nil => obtain ⟨h1, h2, h3, h4, h5⟩ := h; exact ⟨h1, h2, h3, h4, h5, fun i i0 i1 => by have i1' : i < 0 := i1; omega⟩
  | mk => exact h
theorem Sim.mk' {t u : Tr} (h1 : u.s = t.s) (h2 : u.n = t.n) (h3 : u.vL = t.vL) (h4 : u.nl = t.nl) (h5 : u.l = t.l) (h6 : ∀ i, 0 ≤ i → i < t.n → Sim (t.kid i) (u.kid i)) : Sim t u := by
  cases t with
  | nil => exact ⟨h1, h2, h3, h4, h5⟩
  | mk => exact ⟨h1, h2, h3, h4, h5, h6⟩
theorem Sim.nodes : ∀ t : Tr, ∀ {u : Tr}, Sim t u → u.nodes = t.nodes := Tr.ind fun t ih u h => by
  obtain ⟨_, h2, _, _, _, h6⟩ := h.of
  rw [u.nodes_eq, t.nodes_eq, h2]
  exact sumW_congr fun i i0 i1 => ih i i0 (by omega) (h6 i i0 (by omega))
theorem Sim.depth : ∀ t : Tr, ∀ {u : Tr}, Sim t u → u.depth = t.depth := Tr.ind fun t ih u h => by
  obtain ⟨_, h2, _, _, _, h6⟩ := h.of
  rw [u.depth_eq, t.depth_eq, h2]
  rw [maxW_congr fun i i0 i1 => ih i i0 (by omega) (h6 i i0 (by omega))]
theorem Sim.ok : ∀ t : Tr, ∀ {u : Tr}, Sim t u → (u.ok ↔ t.ok) := Tr.ind fun t ih u h => by
  obtain ⟨h1, h2, _, h4, h5, h6⟩ := h.of
  rw [u.ok_iff, t.ok_iff]
  have e : OkN u ↔ OkN t := by unfold OkN; rw [h1, h2, h4, h5]
  rw [e, h2]
  exact ⟨fun ⟨a, b⟩ => ⟨a, fun i i0 i1 => (ih i i0 i1 (h6 i i0 i1)).1 (b i i0 i1)⟩, fun ⟨a, b⟩ => ⟨a, fun i i0 i1 => (ih i i0 i1 (h6 i i0 i1)).2 (b i i0 i1)⟩⟩
theorem Sim.vat {w : World} : ∀ t : Tr, ∀ {u : Tr}, Sim t u → LvAt w t → LvAt w u := Tr.ind fun t ih u h hv => by
  obtain ⟨h1, h2, h3, h4, h5, h6⟩ := h.of
  have g1 := hv.leaf; have g2 := hv.room; have g3 := hv.s
  rw [← h3, ← h4, ← h5] at g1
  rw [← h3] at g2
  rw [← h1] at g3
  cases u with
  | nil => exact trivial
  | mk s vK n kid vL nl l => exact ⟨⟨g1, g2, g3⟩, fun i i0 i1 => ih i i0 (by have h2' : n = t.n := h2; omega) (h6 i i0 (by have h2' : n = t.n := h2; omega)) (hv.sub i0 (by have h2' : n = t.n := h2; omega))⟩
theorem Sim.valid {t u : Tr} (h : Sim t u) : ValidT u ↔ ValidT t := by unfold ValidT; rw [h.ok, h.nodes, h.depth]
def Frame.all (n : Int) (F : Int → Frame) : Frame where
  holds w := (∀ i, 0 ≤ i → i < n → (F i).holds w) ∧ ∀ i j, 0 ≤ i → i < n → 0 ≤ j → j < n → i ≠ j → ∀ g, (F i).has g → ¬ (F j).has g
  has g := ∃ i, 0 ≤ i ∧ i < n ∧ (F i).has g
  keep h hk := ⟨fun i i0 i1 => (F i).keep (h.1 i i0 i1) fun g hg => hk g ⟨i, i0, i1, hg⟩, h.2⟩
  lt h hg := by obtain ⟨i, i0, i1, hg⟩ := hg; exact (F i).lt (h.1 i i0 i1) hg
def Tr.frame (E : TypeId) : Tr → Frame | .nil => Frame.bun [] | .mk s vK n kid vL nl l => Frame.bun [.own vK 3 E n (kcells kid), .sem (Frame.all n fun i => (kid i).frame E)]
theorem Tr.frame_kat {E : TypeId} {w0 w : World} : ∀ t : Tr, ∀ {u : Tr}, Sim t u → KAt w0 t → (u.frame E).holds w → KAt w u := Tr.ind fun t ih u h hk hf => by
  obtain ⟨h1, h2, h3, h4, h5, h6⟩ := h.of
  have hbd := hk.bd
  cases u with
  | nil => exact trivial
  | mk s vK n kid vL nl l =>
    have hf' : (Frame.bun [.own vK 3 E n (kcells kid), .sem (Frame.all n fun i => (kid i).frame E)]).holds w := hf
    have g1 := hf'.1 _ (List.mem_cons_self ..)
    have g2 := hf'.1 (.sem _) (List.mem_cons_of_mem _ (List.mem_cons_self ..))
    have h2' : n = t.n := h2
    exact ⟨⟨g1.row, by omega⟩, fun i i0 i1 => ih i i0 (by omega) (h6 i i0 (by omega)) (hk.sub i0 (by omega)) (g2.1 i i0 i1)⟩
theorem Sat.addall {w0 w : World} {l : List Ent} (h : Sat w0 w l) (F : Int → Frame) : Sat w0 w (l ++ [.sem (Frame.all 0 F)]) := by
  refine h.comp (m := [.sem (Frame.all 0 F)]) ⟨Below.refl _ _, ?_, ?_, List.pairwise_singleton _ _⟩
  · intro e he; obtain rfl := List.mem_singleton.1 he; exact ⟨fun i i0 i1 => by omega, fun i j i0 i1 => by omega⟩
  · intro e he g hg; obtain rfl := List.mem_singleton.1 he; obtain ⟨i, i0, i1, _⟩ := hg; omega
theorem Sat.allsnoc {w0 w : World} {l1 l2 l3 : List Ent} {n : Int} {F : Int → Frame} {G : Frame} (h : Sat w0 w (l1 ++ .sem (Frame.all n F) :: (l2 ++ .sem G :: l3))) (hn : 0 ≤ n) {H : Int → Frame} (hH : ∀ i, 0 ≤ i → i < n → H i = F i) (hG : H n = G) : Sat w0 w (l1 ++ .sem (Frame.all (n + 1) H) :: (l2 ++ l3)) := by
  have hs := List.pairwise_append.1 h.sep
  have hs2 := List.pairwise_cons.1 hs.2.1
  have hs3 := List.pairwise_append.1 hs2.2
  have hs4 := List.pairwise_cons.1 hs3.2.1
  have hF := h.holds (.sem (Frame.all n F)) (by simp)
  have hg := h.holds (.sem G) (by simp)
  have hAG : ∀ k, (∃ i, 0 ≤ i ∧ i < n ∧ (F i).has k) → ¬ G.has k := fun k hk hk' => hs2.1 (.sem G) (by simp) k hk hk'
  have hH1 : ∀ i, 0 ≤ i → i < n + 1 → H i = F i ∧ i < n ∨ H i = G ∧ i = n := fun i i0 i1 => by
    by_cases e : i < n
    · exact .inl ⟨hH i i0 e, e⟩
    · obtain rfl : i = n := by omega
      exact .inr ⟨hG, rfl⟩
  have hhas : ∀ k, (Frame.all (n + 1) H).has k → (Frame.all n F).has k ∨ G.has k := fun k ⟨i, i0, i1, hk⟩ => by
    rcases hH1 i i0 i1 with ⟨e, e1⟩ | ⟨e, e1⟩
    · rw [e] at hk; exact .inl ⟨i, i0, e1, hk⟩
    · rw [e] at hk; exact .inr hk
  refine ⟨h.below, fun e he => ?_, fun e he g hg' => ?_, List.pairwise_append.2 ⟨hs.1, List.pairwise_cons.2 ⟨fun e he g hg' hg2 => ?_, List.pairwise_append.2 ⟨hs3.1, hs4.2, fun d hd e he => hs3.2.2 d hd e (by simp [he])⟩⟩, fun d hd e he => ?_⟩⟩
  · rcases List.mem_append.1 he with he | he
    · exact h.holds e (by simp [he])
    · rcases List.mem_cons.1 he with rfl | he
      · refine ⟨fun i i0 i1 => ?_, fun i j i0 i1 j0 j1 hij k hk hk' => ?_⟩
        · rcases hH1 i i0 i1 with ⟨e, e1⟩ | ⟨e, e1⟩
          · rw [e]; exact hF.1 i i0 e1
          · rw [e]; exact hg
        · rcases hH1 i i0 i1 with ⟨e, e1⟩ | ⟨e, e1⟩ <;> rcases hH1 j j0 j1 with ⟨d, d1⟩ | ⟨d, d1⟩ <;> rw [e] at hk <;> rw [d] at hk'
          · exact hF.2 i j i0 e1 j0 d1 hij k hk hk'
          · exact hAG k ⟨i, i0, e1, hk⟩ hk'
          · exact hAG k ⟨j, j0, d1, hk'⟩ hk
          · omega
      · rcases List.mem_append.1 he with he | he
        · exact h.holds e (by simp [he])
        · exact h.holds e (by simp [he])
  · rcases List.mem_append.1 he with he | he
    · exact h.new e (by simp [he]) g hg'
    · rcases List.mem_cons.1 he with rfl | he
      · rcases hhas g hg' with hg' | hg'
        · exact h.new (.sem (Frame.all n F)) (by simp) g hg'
        · exact h.new (.sem G) (by simp) g hg'
      · rcases List.mem_append.1 he with he | he
        · exact h.new e (by simp [he]) g hg'
        · exact h.new e (by simp [he]) g hg'
  · rcases hhas g hg' with hg' | hg'
    · rcases List.mem_append.1 he with he | he
      · exact hs2.1 e (by simp [he]) g hg' hg2
      · exact hs2.1 e (by simp [he]) g hg' hg2
    · rcases List.mem_append.1 he with he | he
      · exact hs3.2.2 e he (.sem G) (by simp) g hg2 hg'
      · exact hs4.1 e he g hg' hg2
  · intro g hg1 hg2
    rcases List.mem_cons.1 he with rfl | he
    · rcases hhas g hg2 with hg2 | hg2
      · exact hs.2.2 d hd (.sem (Frame.all n F)) (by simp) g hg1 hg2
      · exact hs.2.2 d hd (.sem G) (by simp) g hg1 hg2
    · rcases List.mem_append.1 he with he | he
      · exact hs.2.2 d hd e (by simp [he]) g hg1 hg2
      · exact hs.2.2 d hd e (by simp [he]) g hg1 hg2
theorem Sat.tree {w0 w : World} {l : List Ent} {E : TypeId} {v : Value} {n : Int} {kid : Int → Tr} (h : Sat w0 w (l ++ [.own v 3 E n (kcells kid), .sem (Frame.all n fun i => (kid i).frame E)])) (s : Int) (vL : Value) (nl : Int) (f : Int → Int) : Sat w0 w (l ++ [.sem ((Tr.mk s v n kid vL nl f).frame E)]) := by
  exact h.bundle (l2 := [.own v 3 E n (kcells kid), .sem (Frame.all n fun i => (kid i).frame E)])
end Go.Proofs.Gw
namespace Go.Proofs.YtkichmnjjblodaaGreat
open Go Go.RowKit Go.Proofs.Gw
theorem cl_100 : calledT Tryz.prog 100 = true := by kernel_rfl
theorem cl_49 : calledT Tryz.prog 49 = true := by kernel_rfl
theorem cl_99 : calledT Tryz.prog 99 = true := by kernel_rfl
theorem el_54 : elemT Tryz.prog 54 = some (.agg #[.int .i64 0, .slice none 0 0, .slice none 0 0], 3, 56) := by kernel_rfl
theorem fd_45_1 : fieldT Tryz.prog 45 1 = some 1 := by kernel_rfl
theorem fd_54_1 : fieldT Tryz.prog 54 1 = some 1 := by kernel_rfl
theorem pl_43 : plainT Tryz.prog 43 = true := by kernel_rfl
theorem pl_52 : plainT Tryz.prog 52 = true := by kernel_rfl
theorem sl_43 : sliceT Tryz.prog 43 = some (45, 3) := by kernel_rfl
theorem sl_52 : sliceT Tryz.prog 52 = some (54, 3) := by kernel_rfl
theorem st_45 : structT Tryz.prog 45 = some 3 := by kernel_rfl
theorem st_54 : structT Tryz.prog 54 = some 3 := by kernel_rfl
theorem c_nodes  : ∀ (t : Tr)  (w0 : World) (hK : KAt w0 t) (hV : LvAt w0 t),
    Calls Tryz.prog 99 [.agg #[.int .i64 t.s, t.vK, t.vL]].toArray w0 fun e w => ∃ v, e = .returned v ∧ v = .int .i64 t.nodes ∧ Sat w0 w [] := by
  refine Tr.ind fun t ih => ?_
  intro  w0 hK hV
  have hn := hK.row.slh.n0; have hn1 := hK.row.slh.n1
  refine zenG Tryz.func99 Tryz.ntmps99 fun w hS => ?_
  refine zsr ?_
  refine zla (xbx (cs := [_, _, _]) hS) ?_; rintro _ w ⟨g1, rfl, hS⟩
  replace hS := hS.n1
  refine zlv xas ?_
  refine zlz ?_
  refine zlv xas ?_
  refine zlt <| zsq <| zsr ?_
  refine zlv (xfb 1 fd_54_1) ?_
  refine zlv (xlb 0 pl_52 hS) ?_
  refine zlv (xln sl_52 (hK).row.slh) ?_
  refine zlv xmv ?_
  refine zlt <| zbk <| zlp (fun mm M w => ∃ (s : Int) (i : Int), mm = ((t.n - i).toNat) ∧ (0 ≤ i) ∧ (i ≤ t.n) ∧ (s = sumW (fun i => (t.kid i).nodes) i.toNat) ∧ M = [(2, .int .i64 0), (3, .int .i64 s), (7, t.vK), (8, .int .i64 t.n), (9, .int .i64 i)] ∧ Sat w0 w [.blk g1 [.int .i64 t.s, t.vK, t.vL]]) ⟨1, 0, rfl, (by omega), (by omega), ?_, rfl, hS⟩ ?_
  ·
   rfl
  clear hS w
  rintro mm M w ⟨s, i, rfl, h0, h1, hs9, rfl, hS⟩
  refine zsr ?_
  refine zlv xlss ?_
  refine zlt <| zsq ?_
  refine zcif ?_ ?_ <;> intro hc
  ·
   refine zsk <| ztn <| zsq <| zbk <| zsr ?_
   refine zlv (xix (kk := 3 * i) sl_52 (hK).row.slh) ?_
   refine zlv (xlw (cs := [.int .i64 ((t.kid i).s), (t.kid i).vK, (t.kid i).vL]) st_54 ((hK).row.below hS.below) (kcells_at (q := 3 * i) (i := i) _ (by omega))) ?_
   refine zla (xal (cs := [_, _, _]) el_54 hS) ?_; rintro _ w ⟨g2, rfl, hS⟩
   replace hS := hS.n2
   refine zle (xsw 1 st_54 hS (hd := (ones_cons rfl (ones_cons ((hK).sub (i := i) (by omega) (by omega)).row.slh.one (ones_cons ((hV).sub (i := i) (by omega) (by omega)).leaf.row.slh.one ones_nil))))) ?_; clear hS; rintro w hS
   replace hS := hS.n2
   refine zlt <| zrg ?_
   refine zlv xmv ?_
   refine zlv (xls 1 st_54 hS) ?_
   refine zlc (xc0 cl_99) (ih i (by omega) (by omega) w (KAt.below hS.below ((hK).sub (i := i) (by omega) (by omega))) (LvAt.below hS.below ((hV).sub (i := i) (by omega) (by omega)))) ?_; rintro _ w ⟨rfl, hS'⟩
   replace hS := hS.cmp hS'; clear hS'
   refine zlv xaddw ?_
   refine zlv xas ?_
   refine zln <| zbn <| ztn <| zrg ?_
   refine zlv (xadd (r := i + 1)) ?_
   refine zlv xmv ?_
   refine zln <| zlq ⟨(IntKind.i64.wrap (s + ((t.kid i).nodes))), i + 1, rfl, (by omega), (by omega), ?_, rfl, hS.pk [0]⟩
   ·
    rw [sumW_next _ h0, ← hs9]
  refine zxt <| ztx <| ztx <| zbh <| ztn <| zsr ?_
  refine zs2 ?_
  refine zlt <| zrt <| zf1 ⟨_, rfl, ?_⟩
  obtain rfl : i = t.n := by omega
  exact ⟨by rw [t.nodes_eq, ← hs9], hS.nl⟩
theorem c_rnodes  : ∀ (t : Tr)  (w0 : World) (hK : KAt w0 t) (hV : LvAt w0 t),
    Calls Tryz.prog 49 [.agg #[.int .i64 t.s, t.vK, t.vL]].toArray w0 fun e w => ∃ v, e = .returned v ∧ v = .int .i64 t.nodes ∧ Sat w0 w [] := by
  refine Tr.ind fun t ih => ?_
  intro  w0 hK hV
  have hn := hK.row.slh.n0; have hn1 := hK.row.slh.n1
  refine zenG Tryz.func49 Tryz.ntmps49 fun w hS => ?_
  refine zsr ?_
  refine zla (xbx (cs := [_, _, _]) hS) ?_; rintro _ w ⟨g1, rfl, hS⟩
  replace hS := hS.n1
  refine zlv xas ?_
  refine zlz ?_
  refine zlv xas ?_
  refine zlt <| zsq <| zsr ?_
  refine zlv xas ?_
  refine zlt <| zbk <| zlp (fun mm M w => ∃ (s : Int) (i : Int), mm = ((t.n - i).toNat) ∧ (0 ≤ i) ∧ (i ≤ t.n) ∧ (s = sumW (fun i => (t.kid i).nodes) i.toNat) ∧ M = [(1, .pointer (some ⟨g1, 0, none⟩)), (2, .int .i64 0), (3, .int .i64 s), (4, .int .i64 i)] ∧ Sat w0 w [.blk g1 [.int .i64 t.s, t.vK, t.vL]]) ⟨1, 0, rfl, (by omega), (by omega), ?_, rfl, hS⟩ ?_
  ·
   rfl
  clear hS w
  rintro mm M w ⟨s, i, rfl, h0, h1, hs9, rfl, hS⟩
  refine zsq <| zsr ?_
  refine zlv xmv ?_
  refine zlv (xfb 1 fd_45_1) ?_
  refine zlv (xlb 0 pl_43 hS) ?_
  refine zlv (xln sl_43 (hK).row.slh) ?_
  refine zlv xlss ?_
  refine zlt ?_
  refine zcif ?_ ?_ <;> intro hc
  ·
   refine zsk <| ztn <| zsq <| zbk <| zrg ?_
   refine zlv xmv ?_
   refine zlv (xfb 1 fd_45_1) ?_
   refine zlv (xlb 0 pl_43 hS) ?_
   refine zlv xmv ?_
   refine zlv (xix (kk := 3 * i) sl_43 (hK).row.slh) ?_
   refine zlv (xlw (cs := [.int .i64 ((t.kid i).s), (t.kid i).vK, (t.kid i).vL]) st_45 ((hK).row.below hS.below) (kcells_at (q := 3 * i) (i := i) _ (by omega))) ?_
   refine zlc (xc0 cl_49) (ih i (by omega) (by omega) w (KAt.below hS.below ((hK).sub (i := i) (by omega) (by omega))) (LvAt.below hS.below ((hV).sub (i := i) (by omega) (by omega)))) ?_; rintro _ w ⟨rfl, hS'⟩
   replace hS := hS.cmp hS'; clear hS'
   refine zlv xaddw ?_
   refine zlv xas ?_
   refine zln <| zbn <| ztn <| zrg ?_
   refine zlv xmv ?_
   refine zlv (xadd (r := i + 1)) ?_
   refine zlv xas ?_
   refine zln <| zlq ⟨(IntKind.i64.wrap (s + ((t.kid i).nodes))), i + 1, rfl, (by omega), (by omega), ?_, rfl, hS⟩
   ·
    rw [sumW_next _ h0, ← hs9]
  refine zxt <| ztx <| ztx <| zbh <| ztn <| zsr ?_
  refine zs2 ?_
  refine zlt <| zrt <| zf1 ⟨_, rfl, ?_⟩
  obtain rfl : i = t.n := by omega
  exact ⟨by rw [t.nodes_eq, ← hs9], hS.nl⟩
theorem c_depth  : ∀ (t : Tr)  (w0 : World) (hK : KAt w0 t) (hV : LvAt w0 t),
    Calls Tryz.prog 100 [.agg #[.int .i64 t.s, t.vK, t.vL]].toArray w0 fun e w => ∃ v, e = .returned v ∧ v = .int .i64 t.depth ∧ Sat w0 w [] := by
  refine Tr.ind fun t ih => ?_
  intro  w0 hK hV
  have hn := hK.row.slh.n0; have hn1 := hK.row.slh.n1
  refine zenG Tryz.func100 Tryz.ntmps100 fun w hS => ?_
  refine zsr ?_
  refine zla (xbx (cs := [_, _, _]) hS) ?_; rintro _ w ⟨g1, rfl, hS⟩
  replace hS := hS.n1
  refine zlv xas ?_
  refine zlz ?_
  refine zlv xas ?_
  refine zlt <| zsq <| zsr ?_
  refine zlv (xfb 1 fd_54_1) ?_
  refine zlv (xlb 0 pl_52 hS) ?_
  refine zlv (xln sl_52 (hK).row.slh) ?_
  refine zlv xmv ?_
  refine zlt <| zbk <| zlp (fun mm M w => ∃ (s : Int) (i : Int), mm = ((t.n - i).toNat) ∧ (0 ≤ i) ∧ (i ≤ t.n) ∧ (s = maxW (fun i => (t.kid i).depth) i.toNat) ∧ M = [(2, .int .i64 0), (3, .int .i64 s), (7, t.vK), (8, .int .i64 t.n), (9, .int .i64 i)] ∧ Sat w0 w [.blk g1 [.int .i64 t.s, t.vK, t.vL]]) ⟨0, 0, rfl, (by omega), (by omega), ?_, rfl, hS⟩ ?_
  ·
   rfl
  clear hS w
  rintro mm M w ⟨s, i, rfl, h0, h1, hs9, rfl, hS⟩
  refine zsr ?_
  refine zlv xlss ?_
  refine zlt <| zsq ?_
  refine zcif ?_ ?_ <;> intro hc
  ·
   refine zsk <| ztn <| zsq <| zbk <| zsr ?_
   refine zlv (xix (kk := 3 * i) sl_52 (hK).row.slh) ?_
   refine zlv (xlw (cs := [.int .i64 ((t.kid i).s), (t.kid i).vK, (t.kid i).vL]) st_54 ((hK).row.below hS.below) (kcells_at (q := 3 * i) (i := i) _ (by omega))) ?_
   refine zla (xal (cs := [_, _, _]) el_54 hS) ?_; rintro _ w ⟨g2, rfl, hS⟩
   replace hS := hS.n2
   refine zle (xsw 1 st_54 hS (hd := (ones_cons rfl (ones_cons ((hK).sub (i := i) (by omega) (by omega)).row.slh.one (ones_cons ((hV).sub (i := i) (by omega) (by omega)).leaf.row.slh.one ones_nil))))) ?_; clear hS; rintro w hS
   replace hS := hS.n2
   refine zlt <| zrg ?_
   refine zlv xmv ?_
   refine zlv (xls 1 st_54 hS) ?_
   refine zlc (xc0 cl_100) (ih i (by omega) (by omega) w (KAt.below hS.below ((hK).sub (i := i) (by omega) (by omega))) (LvAt.below hS.below ((hV).sub (i := i) (by omega) (by omega)))) ?_; rintro _ w ⟨rfl, hS'⟩
   replace hS := hS.cmp hS'; clear hS'
   refine zlv (xmax (r := (max s ((t.kid i).depth)))) ?_
   refine zlv xas ?_
   refine zln <| zbn <| ztn <| zrg ?_
   refine zlv (xadd (r := i + 1)) ?_
   refine zlv xmv ?_
   refine zln <| zlq ⟨(max s ((t.kid i).depth)), i + 1, rfl, (by omega), (by omega), ?_, rfl, hS.pk [0]⟩
   ·
    rw [maxW_next _ h0, ← hs9]
  refine zxt <| ztx <| ztx <| zbh <| ztn <| zsr ?_
  refine zlv xmv ?_
  refine zlv xaddw ?_
  refine zlv xas ?_
  refine zlt <| zrt <| zf1 ⟨_, rfl, ?_⟩
  obtain rfl : i = t.n := by omega
  exact ⟨by rw [t.depth_eq, ← hs9], hS.nl⟩
end Go.Proofs.YtkichmnjjblodaaGreat
namespace Go.Proofs.YtkichmnjjblodaaGreat
open Go Go.RowKit Go.Proofs.Gw
theorem cl_175 : calledT Tryz.prog 175 = true := by kernel_rfl
theorem cl_176 : calledT Tryz.prog 176 = true := by kernel_rfl
theorem fd_54_0 : fieldT Tryz.prog 54 0 = some 0 := by kernel_rfl
theorem fd_54_2 : fieldT Tryz.prog 54 2 = some 2 := by kernel_rfl
theorem c_small35 {x : Int} (w0 : World) :
    Calls Tryz.prog 175 [.int .i64 x].toArray w0 fun e w => ∃ v, e = .returned v ∧ v = B (SmallN x) ∧ Sat w0 w [] := by
  refine zenG Tryz.func175 Tryz.ntmps175 fun w hS => ?_
  refine zsr ?_
  refine zlv xas ?_
  refine zlz ?_
  refine zs3 ?_
  refine zlb 5 ?_ ?_ <;> intro hc
  ·
   refine zs4 ?_
   refine zlt <| zrt <| zf1 ⟨_, rfl, ?_⟩
   exact ⟨B_congr (by unfold SmallN; omega), hS⟩
  iterate 2 refine zlo ?_
  refine zs2 ?_
  refine zlt <| zrt <| zf1 ⟨_, rfl, ?_⟩
  exact ⟨false_B (by unfold SmallN; omega), hS⟩
theorem c_nlit {x : Int} (w0 : World) :
    Calls Tryz.prog 176 [.int .i64 x].toArray w0 fun e w => ∃ v, e = .returned v ∧ v = B (¬ SmallN x) ∧ Sat w0 w [] := by
  refine zenG Tryz.func176 Tryz.ntmps176 fun w hS => ?_
  refine zsr ?_
  refine zlv xas ?_
  refine zlz ?_
  refine zlv xmv ?_
  refine zlc (xc0 cl_175) (c_small35 (x := x) w) ?_; rintro _ w ⟨rfl, hS'⟩
  replace hS := hS.cmp hS'; clear hS'
  refine zs2 ?_
  refine zlt <| zrt <| zf1 ⟨_, rfl, ?_⟩
  exact ⟨rfl, hS⟩
theorem c_ixsn {v : Value} {n : Int} {f : Int → Int} (w0 : World) (hR : Row w0 v 1 n (ints f)) :
    Calls Tryz.prog 159 [v, .func (.func 176) #[] #[]].toArray w0 fun e w => ∃ v, e = .returned v ∧ ∃ r : Int, v = .int .i64 r ∧ ((r = -1 ∧ ∀ k, 0 ≤ k → k < n → ¬ (¬ SmallN (f k))) ∨ (0 ≤ r ∧ r < n ∧ (¬ SmallN (f r)))) ∧ Sat w0 w [] := by
  have hn := hR.slh.n0; have hn1 := hR.slh.n1
  refine zenG Tryz.func159 Tryz.ntmps159 fun w hS => ?_
  refine zsr ?_
  refine zlv xas ?_
  refine zlt <| zsq <| zsr ?_
  refine zlv xmv ?_
  refine zlv (xln sl_22 hR.slh) ?_
  refine zlv xmv ?_
  refine zlt <| zbk <| zlp (fun mm M w => ∃ (i : Int), mm = ((n - i).toNat) ∧ (0 ≤ i) ∧ (i ≤ n) ∧ (∀ k, 0 ≤ k → k < i → ¬ (¬ SmallN (f k))) ∧ M = [(0, v), (1, .func (.func 176) #[] #[]), (7, .int .i64 n), (8, .int .i64 i)] ∧ Sat w0 w []) ⟨0, rfl, (by omega), (by omega), ?_, rfl, hS⟩ ?_
  ·
   intro k h0 h1; omega
  clear hS w
  rintro mm M w ⟨i, rfl, h0, h1, hall, rfl, hS⟩
  refine zsr ?_
  refine zlv xlss ?_
  refine zlt <| zsq ?_
  refine zcif ?_ ?_ <;> intro hc
  ·
   refine zsk <| ztn <| zsq <| zbk <| zsr ?_
   refine zs2 ?_
   refine zlz ?_
   refine zs3 ?_
   refine zlv (xix (kk := i) sl_22 hR.slh) ?_
   refine zlv (xlr (u := .int .i64 (f i)) pl_3 (hR.below hS.below)) ?_
   refine zlc (xc0 cl_176) (c_nlit (x := (f i)) w) ?_; rintro _ w ⟨rfl, hS'⟩
   replace hS := hS.cmp hS'; clear hS'
   refine zlt ?_
   refine zcif ?_ ?_ <;> intro hc
   ·
    refine zsr ?_
    refine zs2 ?_
    refine zlt <| zrt <| zbr <| ztr <| ztr <| zbr <| ztr <| zf1 ⟨_, rfl, ?_⟩
    exact ⟨i, rfl, .inr ⟨by omega, by omega, ‹¬ SmallN (f i)›⟩, hS⟩
   refine zsk <| zbn <| ztn <| zrg ?_
   refine zlv (xadd (r := i + 1)) ?_
   refine zlv xmv ?_
   refine zln <| zlq ⟨i + 1, rfl, (by omega), (by omega), ?_, rfl, hS⟩
   ·
    intro k h0' h1'; rcases Int.lt_or_eq_of_le (show k ≤ i by omega) with hk | hk; exact hall k h0' hk; rw [hk]; assumption
  refine zxt <| ztx <| ztx <| zbh <| ztn <| zsr ?_
  refine zlv xas ?_
  refine zlt <| zrt <| zf1 ⟨_, rfl, ?_⟩
  exact ⟨-1, rfl, .inl ⟨rfl, fun k h0 h1 => hall k h0 (by omega)⟩, hS⟩
theorem c_cosn {v : Value} {n : Int} {f : Int → Int} (w0 : World) (hR : Row w0 v 1 n (ints f)) :
    Calls Tryz.prog 151 [v, .func (.func 176) #[] #[]].toArray w0 fun e w => ∃ v, e = .returned v ∧ v = B (∃ k, 0 ≤ k ∧ k < n ∧ ¬ SmallN (f k)) ∧ Sat w0 w [] := by
  refine zenG Tryz.func151 Tryz.ntmps151 fun w hS => ?_
  refine zsr ?_
  refine zlv xas ?_
  refine zlz ?_
  refine zs2 ?_
  refine zlc (xc0 cl_159) (c_ixsn (n := n) (f := f) w (hR.below hS.below)) ?_; rintro _ w ⟨r1, rfl, hr1, hS'⟩
  replace hS := hS.cmp hS'; clear hS'
  refine zs2 ?_
  refine zlt <| zrt <| zf1 ⟨_, rfl, ?_⟩
  exact ⟨B_congr (by
   rcases hr1 with ⟨h1, h2⟩ | ⟨h1, h2, h3⟩
   · exact ⟨fun h => by omega, fun ⟨k, h4, h5, h6⟩ => absurd h6 (h2 k h4 h5)⟩
   · exact ⟨fun _ => ⟨_, h1, h2, h3⟩, fun _ => h1⟩), hS⟩
theorem c_node {t : Tr} (w0 : World) (hK : KAt w0 t) (hV : LvAt w0 t) :
    Calls Tryz.prog 138 [.agg #[.int .i64 t.s, t.vK, t.vL]].toArray w0 fun e w => ∃ v, e = .returned v ∧ v = B (OkN t) ∧ Sat w0 w [] := by
  have hn := hK.row.slh.n0; have hn1 := hK.row.slh.n1; have hln := hV.leaf.row.slh.n0; have hln1 := hV.leaf.row.slh.n1
  refine zenG Tryz.func138 Tryz.ntmps138 fun w hS => ?_
  refine zsr ?_
  refine zla (xbx (cs := [_, _, _]) hS) ?_; rintro _ w ⟨g1, rfl, hS⟩
  replace hS := hS.n1
  refine zlv xas ?_
  refine zlt <| zsq <| zsr ?_
  refine zlv (xfb 1 fd_54_1) ?_
  refine zlv (xlb 0 pl_52 hS) ?_
  refine zlv (xln sl_52 (hK).row.slh) ?_
  refine zlv xgtr ?_
  refine zlt ?_
  refine zcif ?_ ?_ <;> intro hc
  ·
   refine zsr ?_
   refine zlv (xfb 2 fd_54_2) ?_
   refine zlv (xlb 0 pl_22 hS) ?_
   refine zlv (xln sl_22 (hV).leaf.row.slh) ?_
   refine zs2 ?_
   refine zlb 11 ?_ ?_ <;> intro hc
   ·
    refine zlv (xfb 1 fd_54_1) ?_
    refine zlv (xlb 0 pl_52 hS) ?_
    refine zlv (xln sl_52 (hK).row.slh) ?_
    refine zs3 ?_
    refine zlb 17 ?_ ?_ <;> intro hc
    ·
     refine zlv (xfb 0 fd_54_0) ?_
     refine zlv (xlb 0 pl_3 hS) ?_
     refine zlc (xc0 cl_175) (c_small35 (x := t.s) w) ?_; rintro _ w ⟨rfl, hS'⟩
     replace hS := hS.cmp hS'; clear hS'
     refine zs2 ?_
     refine zlt <| zrt <| ztr <| zf1 ⟨_, rfl, ?_⟩
     exact ⟨B_congr ⟨fun hh => ⟨by first | assumption | (unfold SmallN; omega), by omega, by omega, by omega, fun h0 => by omega, fun k k0 k1 => by first | omega | exact Classical.byContradiction fun h9 => absurd (show ∃ k, 0 ≤ k ∧ k < t.nl ∧ ¬ SmallN (t.l k) from ⟨k, k0, k1, h9⟩) (by assumption)⟩, fun hh => by obtain ⟨h1, h2, h3, h4, h5, h6⟩ := hh; first | exact h1 | exact fun ⟨k, k0, k1, k2⟩ => k2 (h6 k k0 k1) | omega⟩, hS.nl⟩
    iterate 3 refine zlo ?_
    refine zs2 ?_
    refine zlt <| zrt <| ztr <| zf1 ⟨_, rfl, ?_⟩
    exact ⟨false_B (by rintro ⟨h1, h2, h3, h4, h5, h6⟩; first | omega | (have := h5 (by omega); omega) | exact absurd h1 ‹¬ SmallN t.s› | (obtain ⟨k, k0, k1, k2⟩ := ‹∃ k, 0 ≤ k ∧ k < t.nl ∧ ¬ SmallN (t.l k)›; exact k2 (h6 k k0 k1))), hS.nl⟩
   iterate 4 refine zlo ?_
   refine zs2 ?_
   iterate 3 refine zlo ?_
   refine zs2 ?_
   refine zlt <| zrt <| ztr <| zf1 ⟨_, rfl, ?_⟩
   exact ⟨false_B (by rintro ⟨h1, h2, h3, h4, h5, h6⟩; first | omega | (have := h5 (by omega); omega) | exact absurd h1 ‹¬ SmallN t.s› | (obtain ⟨k, k0, k1, k2⟩ := ‹∃ k, 0 ≤ k ∧ k < t.nl ∧ ¬ SmallN (t.l k)›; exact k2 (h6 k k0 k1))), hS.nl⟩
  refine zsk <| ztn <| zsr ?_
  refine zlv (xfb 0 fd_54_0) ?_
  refine zlv (xlb 0 pl_3 hS) ?_
  refine zs2 ?_
  refine zlb 25 ?_ ?_ <;> intro hc
  ·
   refine zlv (xfb 2 fd_54_2) ?_
   refine zlv (xlb 0 pl_22 hS) ?_
   refine zlv (xln sl_22 (hV).leaf.row.slh) ?_
   refine zs3 ?_
   refine zlb 31 ?_ ?_ <;> intro hc
   ·
    refine zlv (xfb 2 fd_54_2) ?_
    refine zlv (xlb 0 pl_22 hS) ?_
    refine zlc (xc0 cl_151) (c_cosn (n := t.nl) (f := t.l) w ((hV).leaf.row.below hS.below)) ?_; rintro _ w ⟨rfl, hS'⟩
    replace hS := hS.cmp hS'; clear hS'
    refine zs3 ?_
    refine zlt <| zrt <| zf1 ⟨_, rfl, ?_⟩
    exact ⟨B_congr ⟨fun hh => ⟨by first | assumption | (unfold SmallN; omega), by omega, by omega, by omega, fun h0 => by omega, fun k k0 k1 => by first | omega | exact Classical.byContradiction fun h9 => absurd (show ∃ k, 0 ≤ k ∧ k < t.nl ∧ ¬ SmallN (t.l k) from ⟨k, k0, k1, h9⟩) (by assumption)⟩, fun hh => by obtain ⟨h1, h2, h3, h4, h5, h6⟩ := hh; first | exact h1 | exact fun ⟨k, k0, k1, k2⟩ => k2 (h6 k k0 k1) | omega⟩, hS.nl⟩
   iterate 4 refine zlo ?_
   refine zs2 ?_
   refine zlt <| zrt <| zf1 ⟨_, rfl, ?_⟩
   exact ⟨false_B (by rintro ⟨h1, h2, h3, h4, h5, h6⟩; first | omega | (have := h5 (by omega); omega) | exact absurd h1 ‹¬ SmallN t.s› | (obtain ⟨k, k0, k1, k2⟩ := ‹∃ k, 0 ≤ k ∧ k < t.nl ∧ ¬ SmallN (t.l k)›; exact k2 (h6 k k0 k1))), hS.nl⟩
  iterate 4 refine zlo ?_
  refine zs2 ?_
  iterate 4 refine zlo ?_
  refine zs2 ?_
  refine zlt <| zrt <| zf1 ⟨_, rfl, ?_⟩
  exact ⟨false_B (by rintro ⟨h1, h2, h3, h4, h5, h6⟩; first | omega | (have := h5 (by omega); omega) | exact absurd h1 ‹¬ SmallN t.s› | (obtain ⟨k, k0, k1, k2⟩ := ‹∃ k, 0 ≤ k ∧ k < t.nl ∧ ¬ SmallN (t.l k)›; exact k2 (h6 k k0 k1))), hS.nl⟩
end Go.Proofs.YtkichmnjjblodaaGreat
namespace Go.Proofs.YtkichmnjjblodaaGreat
open Go Go.RowKit Go.Proofs.Gw
theorem fd_45_0 : fieldT Tryz.prog 45 0 = some 0 := by kernel_rfl
theorem fd_45_2 : fieldT Tryz.prog 45 2 = some 2 := by kernel_rfl
end Go.Proofs.YtkichmnjjblodaaGreat
namespace Go.Proofs.YtkichmnjjblodaaGreat
open Go Go.RowKit Go.Proofs.Gw
theorem cl_101 : calledT Tryz.prog 101 = true := by kernel_rfl
theorem cl_138 : calledT Tryz.prog 138 = true := by kernel_rfl
theorem cl_139 : calledT Tryz.prog 139 = true := by kernel_rfl
theorem cl_140 : calledT Tryz.prog 140 = true := by kernel_rfl
theorem cl_177 : calledT Tryz.prog 177 = true := by kernel_rfl
theorem c_al1 {t : Tr} (w0 : World) (hK : KAt w0 t) (hV : LvAt w0 t) (hal : ∀ (w0 : World), KAt w0 t → LvAt w0 t → Calls Tryz.prog 101 [.agg #[.int .i64 t.s, t.vK, t.vL]].toArray w0 fun e w => ∃ v, e = .returned v ∧ v = B t.ok ∧ Sat w0 w []) :
    Calls Tryz.prog 140 [.agg #[.int .i64 t.s, t.vK, t.vL]].toArray w0 fun e w => ∃ v, e = .returned v ∧ v = B (¬ t.ok) ∧ Sat w0 w [] := by
  refine zenG Tryz.func140 Tryz.ntmps140 fun w hS => ?_
  refine zsr ?_
  refine zla (xbx (cs := [_, _, _]) hS) ?_; rintro _ w ⟨g1, rfl, hS⟩
  replace hS := hS.n1
  refine zlv xas ?_
  refine zlz ?_
  refine zlv (xls 0 st_54 hS) ?_
  refine zlc (xc0 cl_101) (hal w (KAt.below hS.below (hK)) (LvAt.below hS.below (hV))) ?_; rintro _ w ⟨rfl, hS'⟩
  replace hS := hS.cmp hS'; clear hS'
  refine zs2 ?_
  refine zlt <| zrt <| zf1 ⟨_, rfl, ?_⟩
  exact ⟨rfl, hS.nl⟩
theorem c_ixal {t : Tr} (w0 : World) (hK : KAt w0 t) (hV : LvAt w0 t) (iha : ∀ i, 0 ≤ i → i < t.n → ∀ (w0 : World), KAt w0 (t.kid i) → LvAt w0 (t.kid i) → Calls Tryz.prog 101 [.agg #[.int .i64 (t.kid i).s, (t.kid i).vK, (t.kid i).vL]].toArray w0 fun e w => ∃ v, e = .returned v ∧ v = B (t.kid i).ok ∧ Sat w0 w []) :
    Calls Tryz.prog 177 [t.vK, .func (.func 140) #[] #[]].toArray w0 fun e w => ∃ v, e = .returned v ∧ ∃ r : Int, v = .int .i64 r ∧ ((r = -1 ∧ ∀ k, 0 ≤ k → k < t.n → (t.kid k).ok) ∨ (0 ≤ r ∧ r < t.n ∧ ¬ (t.kid r).ok)) ∧ Sat w0 w [] := by
  have hn := hK.row.slh.n0; have hn1 := hK.row.slh.n1; have hln := hV.leaf.row.slh.n0; have hln1 := hV.leaf.row.slh.n1
  refine zenG Tryz.func177 Tryz.ntmps177 fun w hS => ?_
  refine zsr ?_
  refine zlv xas ?_
  refine zlt <| zsq <| zsr ?_
  refine zlv xmv ?_
  refine zlv (xln sl_52 (hK).row.slh) ?_
  refine zlv xmv ?_
  refine zlt <| zbk <| zlp (fun mm M w => ∃ (i : Int), mm = ((t.n - i).toNat) ∧ (0 ≤ i) ∧ (i ≤ t.n) ∧ (∀ k, 0 ≤ k → k < i → (t.kid k).ok) ∧ M = [(0, t.vK), (1, .func (.func 140) #[] #[]), (7, .int .i64 t.n), (8, .int .i64 i)] ∧ Sat w0 w []) ⟨0, rfl, (by omega), (by omega), ?_, rfl, hS⟩ ?_
  ·
   intro k h0 h1; omega
  clear hS w
  rintro mm M w ⟨i, rfl, h0, h1, hall, rfl, hS⟩
  refine zsr ?_
  refine zlv xlss ?_
  refine zlt <| zsq ?_
  refine zcif ?_ ?_ <;> intro hc
  ·
   refine zsk <| ztn <| zsq <| zbk <| zsr ?_
   refine zs2 ?_
   refine zlz ?_
   refine zs3 ?_
   refine zlv (xix (kk := 3 * i) sl_52 (hK).row.slh) ?_
   refine zlv (xlw (cs := [.int .i64 ((t.kid i).s), (t.kid i).vK, (t.kid i).vL]) st_54 ((hK).row.below hS.below) (kcells_at (q := 3 * i) (i := i) _ (by omega))) ?_
   refine zlc (xc0 cl_140) (c_al1 (t := (t.kid i)) w (KAt.below hS.below ((hK).sub (i := i) (by omega) (by omega))) (LvAt.below hS.below ((hV).sub (i := i) (by omega) (by omega))) (iha i (by omega) (by omega))) ?_; rintro _ w ⟨rfl, hS'⟩
   replace hS := hS.cmp hS'; clear hS'
   refine zlt ?_
   refine zcif ?_ ?_ <;> intro hc
   ·
    refine zsr ?_
    refine zs2 ?_
    refine zlt <| zrt <| zbr <| ztr <| ztr <| zbr <| ztr <| zf1 ⟨_, rfl, ?_⟩
    exact ⟨i, rfl, .inr ⟨by omega, by omega, ‹¬ (t.kid i).ok›⟩, hS⟩
   refine zsk <| zbn <| ztn <| zrg ?_
   refine zlv (xadd (r := i + 1)) ?_
   refine zlv xmv ?_
   refine zln <| zlq ⟨i + 1, rfl, (by omega), (by omega), ?_, rfl, hS⟩
   ·
    intro k k0 k1; rcases Int.lt_or_eq_of_le (show k ≤ i by omega) with hk | hk
    · exact hall k k0 hk
    · rw [hk]; exact Classical.not_not.1 ‹_›
  refine zxt <| ztx <| ztx <| zbh <| ztn <| zsr ?_
  refine zlv xas ?_
  refine zlt <| zrt <| zf1 ⟨_, rfl, ?_⟩
  exact ⟨-1, rfl, .inl ⟨rfl, fun k h0 h1 => hall k h0 (by omega)⟩, hS⟩
theorem c_coal {t : Tr} (w0 : World) (hK : KAt w0 t) (hV : LvAt w0 t) (iha : ∀ i, 0 ≤ i → i < t.n → ∀ (w0 : World), KAt w0 (t.kid i) → LvAt w0 (t.kid i) → Calls Tryz.prog 101 [.agg #[.int .i64 (t.kid i).s, (t.kid i).vK, (t.kid i).vL]].toArray w0 fun e w => ∃ v, e = .returned v ∧ v = B (t.kid i).ok ∧ Sat w0 w []) :
    Calls Tryz.prog 139 [t.vK, .func (.func 140) #[] #[]].toArray w0 fun e w => ∃ v, e = .returned v ∧ v = B (∃ k, 0 ≤ k ∧ k < t.n ∧ ¬ (t.kid k).ok) ∧ Sat w0 w [] := by
  refine zenG Tryz.func139 Tryz.ntmps139 fun w hS => ?_
  refine zsr ?_
  refine zlv xas ?_
  refine zlz ?_
  refine zs2 ?_
  refine zlc (xc0 cl_177) (c_ixal (t := t) w (KAt.below hS.below (hK)) (LvAt.below hS.below (hV)) iha) ?_; rintro _ w ⟨r1, rfl, hr1, hS'⟩
  replace hS := hS.cmp hS'; clear hS'
  refine zs2 ?_
  refine zlt <| zrt <| zf1 ⟨_, rfl, ?_⟩
  exact ⟨B_congr (by
   rcases hr1 with ⟨h1, h2⟩ | ⟨h1, h2, h3⟩
   · exact ⟨fun h => by omega, fun ⟨k, h4, h5, h6⟩ => absurd (h2 k h4 h5) h6⟩
   · exact ⟨fun _ => ⟨_, h1, h2, h3⟩, fun _ => h1⟩), hS⟩
theorem c_all35  : ∀ (t : Tr)  (w0 : World) (hK : KAt w0 t) (hV : LvAt w0 t),
    Calls Tryz.prog 101 [.agg #[.int .i64 t.s, t.vK, t.vL]].toArray w0 fun e w => ∃ v, e = .returned v ∧ v = B t.ok ∧ Sat w0 w [] := by
  refine Tr.ind fun t ih => ?_
  intro  w0 hK hV
  refine zenG Tryz.func101 Tryz.ntmps101 fun w hS => ?_
  refine zsr ?_
  refine zla (xbx (cs := [_, _, _]) hS) ?_; rintro _ w ⟨g1, rfl, hS⟩
  replace hS := hS.n1
  refine zlv xas ?_
  refine zlz ?_
  refine zlv (xls 0 st_54 hS) ?_
  refine zlc (xc0 cl_138) (c_node (t := t) w (KAt.below hS.below (hK)) (LvAt.below hS.below (hV))) ?_; rintro _ w ⟨rfl, hS'⟩
  replace hS := hS.cmp hS'; clear hS'
  refine zlv xmv ?_
  refine zlb 5 ?_ ?_ <;> intro hc
  ·
   refine zlv (xfb 1 fd_54_1) ?_
   refine zlv (xlb 0 pl_52 hS) ?_
   refine zlc (xc0 cl_139) (c_coal (t := t) w (KAt.below hS.below (hK)) (LvAt.below hS.below (hV)) ih) ?_; rintro _ w ⟨rfl, hS'⟩
   replace hS := hS.cmp hS'; clear hS'
   refine zs3 ?_
   refine zlt <| zrt <| zf1 ⟨_, rfl, ?_⟩
   exact ⟨B_congr (by rw [t.ok_iff]; exact ⟨fun hh => ⟨‹OkN t›, fun k k0 k1 => Classical.byContradiction fun h9 => hh ⟨k, k0, k1, h9⟩⟩, fun hh ⟨k, k0, k1, k2⟩ => k2 (hh.2 k k0 k1)⟩), hS.nl⟩
  iterate 4 refine zlo ?_
  refine zs2 ?_
  refine zlt <| zrt <| zf1 ⟨_, rfl, ?_⟩
  exact ⟨false_B (by rw [t.ok_iff]; rintro ⟨h1, h2⟩; first | exact absurd h1 ‹¬ OkN t› | (obtain ⟨k, k0, k1, k2⟩ := ‹∃ k, 0 ≤ k ∧ k < t.n ∧ ¬ (t.kid k).ok›; exact k2 (h2 k k0 k1))), hS.nl⟩
theorem c_valid35 {t : Tr} (w0 : World) (hK : KAt w0 t) (hV : LvAt w0 t) :
    Calls Tryz.prog 68 [.agg #[.int .i64 t.s, t.vK, t.vL]].toArray w0 fun e w => ∃ v, e = .returned v ∧ v = B (ValidT t) ∧ Sat w0 w [] := by
  refine zenG Tryz.func68 Tryz.ntmps68 fun w hS => ?_
  refine zsr ?_
  refine zla (xbx (cs := [_, _, _]) hS) ?_; rintro _ w ⟨g1, rfl, hS⟩
  replace hS := hS.n1
  refine zlv xas ?_
  refine zlz ?_
  refine zlv (xls 0 st_54 hS) ?_
  refine zlc (xc0 cl_99) (c_nodes t w (KAt.below hS.below (hK)) (LvAt.below hS.below (hV))) ?_; rintro _ w ⟨rfl, hS'⟩
  replace hS := hS.cmp hS'; clear hS'
  refine zs2 ?_
  refine zlb 6 ?_ ?_ <;> intro hc
  ·
   refine zlv (xls 0 st_54 hS) ?_
   refine zlc (xc0 cl_100) (c_depth t w (KAt.below hS.below (hK)) (LvAt.below hS.below (hV))) ?_; rintro _ w ⟨rfl, hS'⟩
   replace hS := hS.cmp hS'; clear hS'
   refine zs3 ?_
   refine zlb 11 ?_ ?_ <;> intro hc
   ·
    refine zlv (xls 0 st_54 hS) ?_
    refine zlc (xc0 cl_101) (c_all35 t w (KAt.below hS.below (hK)) (LvAt.below hS.below (hV))) ?_; rintro _ w ⟨rfl, hS'⟩
    replace hS := hS.cmp hS'; clear hS'
    refine zs2 ?_
    refine zlt <| zrt <| zf1 ⟨_, rfl, ?_⟩
    exact ⟨B_congr ⟨fun hh => ⟨by first | exact hh | assumption, by omega, by omega⟩, fun hh => by obtain ⟨h1, h2, h3⟩ := hh; first | exact h1 | omega⟩, hS.nl⟩
   iterate 2 refine zlo ?_
   refine zs2 ?_
   refine zlt <| zrt <| zf1 ⟨_, rfl, ?_⟩
   exact ⟨false_B (by rintro ⟨h1, h2, h3⟩; first | omega | exact absurd h1 ‹¬ t.ok›), hS.nl⟩
  iterate 3 refine zlo ?_
  refine zs2 ?_
  iterate 2 refine zlo ?_
  refine zs2 ?_
  refine zlt <| zrt <| zf1 ⟨_, rfl, ?_⟩
  exact ⟨false_B (by rintro ⟨h1, h2, h3⟩; first | omega | exact absurd h1 ‹¬ t.ok›), hS.nl⟩
theorem c_few35 {t : Tr} (w0 : World) (hK : KAt w0 t) (hV : LvAt w0 t) :
    Calls Tryz.prog 19 [.agg #[.int .i64 t.s, t.vK, t.vL]].toArray w0 fun e w => ∃ v, e = .returned v ∧ v = B (t.nodes ≤ 300) ∧ Sat w0 w [] := by
  refine zenG Tryz.func19 Tryz.ntmps19 fun w hS => ?_
  refine zsr ?_
  refine zla (xbx (cs := [_, _, _]) hS) ?_; rintro _ w ⟨g1, rfl, hS⟩
  replace hS := hS.n1
  refine zlv xas ?_
  refine zlz ?_
  refine zlv (xls 0 st_45 hS) ?_
  refine zlc (xc0 cl_49) (c_rnodes t w (KAt.below hS.below (hK)) (LvAt.below hS.below (hV))) ?_; rintro _ w ⟨rfl, hS'⟩
  replace hS := hS.cmp hS'; clear hS'
  refine zs2 ?_
  refine zlt <| zrt <| zf1 ⟨_, rfl, ?_⟩
  exact ⟨B_congr (by omega), hS.nl⟩
end Go.Proofs.YtkichmnjjblodaaGreat
namespace Go.Proofs.YtkichmnjjblodaaGreat
open Go Go.RowKit Go.Proofs.Gw
theorem cl_22 : calledT Tryz.prog 22 = true := by kernel_rfl
theorem el_45 : elemT Tryz.prog 45 = some (.agg #[.int .i64 0, .slice none 0 0, .slice none 0 0], 3, 56) := by kernel_rfl
theorem c_own35  : ∀ (t : Tr)  (w0 : World) (hK : KAt w0 t) (hV : LvAt w0 t),
    Calls Tryz.prog 22 [.agg #[.int .i64 t.s, t.vK, t.vL]].toArray w0 fun e w => ∃ v, e = .returned v ∧ ∃ u : Tr, v = .agg #[.int .i64 u.s, u.vK, u.vL] ∧ Sim t u ∧ Slh u.vK u.n ∧ Slh u.vL u.nl ∧ Sat w0 w [.sem (u.frame 54)] := by
  refine Tr.ind fun t ih => ?_
  intro  w0 hK hV
  have hn := hK.row.slh.n0; have hn1 := hK.row.slh.n1; have hln := hV.leaf.row.slh.n0; have hln1 := hV.leaf.row.slh.n1
  have hbd := hK.bd
  refine zenG Tryz.func22 Tryz.ntmps22 fun w hS => ?_
  refine zsr ?_
  refine zla (xbx (cs := [_, _, _]) hS) ?_; rintro _ w ⟨g1, rfl, hS⟩
  replace hS := hS.n1
  refine zla (xal (cs := [_, _, _]) el_54 hS) ?_; rintro _ w ⟨g2, rfl, hS⟩
  replace hS := hS.n2
  refine zlz ?_
  refine zlv (xfb 0 fd_45_0) ?_
  refine zlv (xlb 0 pl_3 hS) ?_
  refine zlv (xfb 2 fd_45_2) ?_
  refine zlv (xlb 0 pl_22 hS) ?_
  refine zlv (xany (v := .agg #[.int .i64 t.s, .slice none 0 0, t.vL]) (hr := by have hz := (hV).leaf.row.slh; revert hz; generalize t.vL = z; rintro ⟨_, _, _, _, rfl, _⟩; show _ = _; kernel_rfl)) ?_
  refine zla (xal (cs := [_, _, _]) el_54 hS) ?_; rintro _ w ⟨g3, rfl, hS⟩
  replace hS := hS.n3
  refine zle (xsw 2 st_54 hS (hd := (ones_cons rfl (ones_cons rfl (ones_cons (hV).leaf.row.slh.one ones_nil))))) ?_; clear hS; rintro w hS
  replace hS := hS.n3
  refine zlt <| zsq <| zsr ?_
  refine zlv (xfb 1 fd_45_1) ?_
  refine zlv (xlb 0 pl_43 hS) ?_
  refine zlv (xln sl_43 (hK).row.slh) ?_
  refine zlv xmv ?_
  refine zlt <| zbk ?_
  replace hS := hS.addnil 3 54 (kcells (fun _ => .nil))
  replace hS := hS.n4
  replace hS := hS.addall (fun z9 => ((fun _ => Tr.nil) z9).frame 54)
  replace hS := hS.n5
  refine zlp (fun mm M w => ∃ (kd : Int → Tr) (wK : Value) (i : Int), mm = ((t.n - i).toNat) ∧ (0 ≤ i) ∧ (i ≤ t.n) ∧ (Slh wK i) ∧ (∀ k, 0 ≤ k → k < i → Sim (t.kid k) (kd k)) ∧ M = [(2, .pointer (some ⟨g2, 0, none⟩)), (3, .pointer (some ⟨g3, 0, none⟩)), (12, t.vK), (13, .int .i64 t.n), (14, .int .i64 i)] ∧ Sat w0 w [.blk g1 [.int .i64 t.s, t.vK, t.vL], .blk g2 [.int .i64 0, .slice none 0 0, .slice none 0 0], .blk g3 [.int .i64 t.s, wK, t.vL], .own wK 3 54 i (kcells kd), .sem (Frame.all i (fun z9 => (kd z9).frame 54))]) ⟨(fun _ => Tr.nil), (.slice none 0 0), 0, rfl, (by omega), (by omega), ?_, ?_, rfl, hS⟩ ?_
  ·
   exact slh_nil
  ·
   intro k k0 k1; omega
  clear hS w
  rintro mm M w ⟨kd, wK, i, rfl, h0, h1, hwK, hsm, rfl, hS⟩
  refine zsr ?_
  refine zlv xlss ?_
  refine zlt <| zsq ?_
  refine zcif ?_ ?_ <;> intro hc
  ·
   refine zsk <| ztn <| zsq <| zbk <| zsr ?_
   refine zlv (xix (kk := 3 * i) sl_43 (hK).row.slh) ?_
   refine zlv (xlw (cs := [.int .i64 ((t.kid i).s), (t.kid i).vK, (t.kid i).vL]) st_45 ((hK).row.below hS.below) (kcells_at (q := 3 * i) (i := i) _ (by omega))) ?_
   refine zla (xal (cs := [_, _, _]) el_45 hS) ?_; rintro _ w ⟨g4, rfl, hS⟩
   replace hS := hS.n6
   refine zle (xsw 5 st_45 hS (hd := (ones_cons rfl (ones_cons ((hK).sub (i := i) (by omega) (by omega)).row.slh.one (ones_cons ((hV).sub (i := i) (by omega) (by omega)).leaf.row.slh.one ones_nil))))) ?_; clear hS; rintro w hS
   replace hS := hS.n6
   refine zlt ?_
   refine zdst [0, 1, 2, 5] [0, 1, 5] 7 mx_ hS ?_; clear hS; intro w hS
   refine zdv 0 (fun _ => (xfb 1 fd_54_1)) ?_
   refine zdl 1 (fun w hS => (xlb 2 pl_52 hS)) ?_
   refine zdla 2 (fun w hS => (xls 2 st_45 hS)) ?_
   refine zdc 3 (xc0 cl_22) (ih i (by omega) (by omega) w (KAt.below hS.below ((hK).sub (i := i) (by omega) (by omega))) (LvAt.below hS.below ((hV).sub (i := i) (by omega) (by omega)))) ?_; rintro _ w ⟨u1, rfl, hsimu1, hku1, hlu1, hS'⟩
   replace hS : Sat w0 w [.blk g1 [.int .i64 t.s, t.vK, t.vL], .blk g2 [.int .i64 0, .slice none 0 0, .slice none 0 0], .blk g3 [.int .i64 t.s, wK, t.vL], .own wK 3 54 i (kcells kd), .sem (Frame.all i (fun z9 => (kd z9).frame 54)), .blk g4 [.int .i64 ((t.kid i).s), (t.kid i).vK, (t.kid i).vL], .sem (u1.frame 54)] := hS.comp hS'; clear hS'
   refine ⟨⟨fun _ => hS.pk [0, 1, 2, 5], hS.pk [0, 1, 5]⟩, ?_⟩
   refine zda 4 (xli (n := 1) (len := 1) (pv := [(0, .agg #[.int .i64 u1.s, u1.vK, u1.vL])]) (cs := [.int .i64 u1.s, u1.vK, u1.vL]) (c := tcells (fun _ => u1.s) (fun _ => u1.vK) (fun _ => u1.vL)) sl_52 el_54 hS (hf := by have hz := hku1; revert hz; generalize u1.vK = z; rintro ⟨_, _, _, _, rfl, _⟩; show _ = _; have hz := hlu1; revert hz; generalize u1.vL = z; rintro ⟨_, _, _, _, rfl, _⟩; show _ = _; kernel_rfl)) ?_; rintro v1 w ⟨hS, hv1⟩
   replace hS := hS.n8
   refine ⟨⟨fun _ => hS.pk [0, 1, 2, 5], hS.pk [0, 1, 5]⟩, ?_⟩
   refine zda 5 (xap 3 (r := i + 1) sl_52 el_54 hS (hS.rowN 7 rfl) (cat_tcells _ _ _) (h1 := fun k _ _ => tcells_one (fun _ => hku1.one) (fun _ => hlu1.one) k)) ?_; rintro v2 w ⟨hS, hv2⟩
   replace hS := hS.n8
   replace hS := Sat.allsnoc (l1 := [_, _, _, _]) (l2 := [_]) (l3 := [_]) hS (by omega) (H := fun z9 => (gsn kd i u1 z9).frame 54) (fun k k0 k1 => by (try dsimp only); rw [gsn_lt k1]) (by (try dsimp only); rw [gsn_self])
   replace hS := hS.n7
   refine ⟨⟨fun _ => hS.pk [0, 1, 2, 5], hS.pk [0, 1, 5]⟩, ?_⟩
   refine zdv 6 (fun _ => (xfb 1 fd_54_1)) ?_
   refine zde 7 (xsb 2 pl_52 hS (hv := hv2.one)) ?_; clear hS; rintro w hS
   replace hS := hS.n7
   refine ⟨⟨fun h => absurd h (by decide), hS.pk [0, 1, 5]⟩, ?_⟩
   refine zdd <| zbn <| ztn <| zrg ?_
   refine zlv (xadd (r := i + 1)) ?_
   refine zlv xmv ?_
   refine zln <| zlq ⟨(gsn kd i u1), v2, i + 1, rfl, (by omega), (by omega), ?_, ?_, rfl, hS.pk [0, 1, 2, 3, 4]⟩
   ·
    exact hv2
   ·
    intro k k0 k1; by_cases e : k < i
    · rw [gsn_lt e]; exact hsm k k0 e
    · rw [gsn_at e, show k = i by omega]; exact hsimu1
  refine zxt <| ztx <| ztx <| zbh <| ztn <| zsr ?_
  refine zlv (xls 2 st_54 hS) ?_
  refine zle (xsw 1 st_54 hS (hd := (ones_cons rfl (ones_cons hwK.one (ones_cons (hV).leaf.row.slh.one ones_nil))))) ?_; clear hS; rintro w hS
  replace hS := hS.n5
  refine zlt <| zrt <| zfc 1 st_54 hS ⟨_, rfl, ?_⟩
  exact ⟨.mk t.s wK i kd t.vL t.nl t.l, rfl, Sim.mk' rfl (by show i = t.n; omega) rfl rfl rfl (fun k k0 k1 => hsm k k0 (by omega)), hwK, hV.leaf.row.slh, Sat.tree (l := []) (hS.pk [3, 4]) t.s t.vL t.nl t.l⟩
end Go.Proofs.YtkichmnjjblodaaGreat
namespace Go.Proofs.YtkichmnjjblodaaGreat
open Go Go.RowKit Go.Proofs.Gw
noncomputable def partP (p : Prob) (wi i : Int) : Prob := p.with fun j => p.D j - pat0 (MX p wi) i j
def fw (f : Int → Option (List Int)) : Nat → Int → Option (List Int)
  | 0, _ => none
  | c + 1, i => match f i with
    | some l => some (i :: l)
    | none => fw f c (i + 1)
theorem fw_end {f : Int → Option (List Int)} {n i : Int} (h : n ≤ i) : fw f (n - i).toNat i = none := by rw [show (n - i).toNat = 0 by omega]; rfl
theorem fw_no {f : Int → Option (List Int)} {n i : Int} (h : i < n) (hf : f i = none) : fw f (n - i).toNat i = fw f (n - (i + 1)).toNat (i + 1) := by
  rw [show (n - i).toNat = (n - (i + 1)).toNat + 1 by omega]
  show (match f i with
    | some l => some (i :: l)
    | none => fw f (n - (i + 1)).toNat (i + 1)) = _
  rw [hf]
theorem fw_yes {f : Int → Option (List Int)} {n i : Int} {l : List Int} (h : i < n) (hf : f i = some l) : fw f (n - i).toNat i = some (i :: l) := by
  rw [show (n - i).toNat = (n - (i + 1)).toNat + 1 by omega]
  show (match f i with
    | some l => some (i :: l)
    | none => fw f (n - (i + 1)).toNat (i + 1)) = _
  rw [hf]
theorem fw_none {f : Int → Option (List Int)} : ∀ {c : Nat} {i : Int}, fw f c i = none → ∀ k, i ≤ k → k < i + c → f k = none
  | 0, i, _, k, h1, h2 => by omega
  | c + 1, i, h, k, h1, h2 => by
    unfold fw at h
    cases hf : f i with
    | some m => rw [hf] at h; cases h
    | none =>
      rw [hf] at h
      by_cases e : k = i
      · rw [e]; exact hf
      · exact fw_none h k (by omega) (by omega)
noncomputable def wrT : Tr → Prob → Int → Option (List Int)
  | .nil, p, b => @ite _ (LeafP p b 0 (fun _ => 0)) (Classical.propDecidable _) none (some [])
  | .mk s vK n kid vL nl l, p, b => if n = 0 then @ite _ (LeafP p b nl l) (Classical.propDecidable _) none (some []) else
    @ite _ (SplOk p b s ∧ partsN p b s = n) (Classical.propDecidable _) (fw (fun i => wrT (kid i) (partP p s i) (b - 1)) n.toNat 0) (some [])
theorem wr_leaf {t : Tr} {p : Prob} {b : Int} (h : t.n = 0) : wrT t p b = @ite _ (LeafP p b t.nl t.l) (Classical.propDecidable _) none (some []) := by
  cases t with
  | nil => rfl
  | mk s vK n kid vL nl l => exact if_pos h
theorem wr_leaf_yes {t : Tr} {p : Prob} {b : Int} (h : t.n = 0) (hl : LeafP p b t.nl t.l) : wrT t p b = none := by rw [wr_leaf h, if_pos hl]
theorem wr_leaf_no {t : Tr} {p : Prob} {b : Int} (h : t.n = 0) (hl : ¬ LeafP p b t.nl t.l) : wrT t p b = some [] := by rw [wr_leaf h, if_neg hl]
noncomputable def kidW (t : Tr) (p : Prob) (b : Int) (i : Int) : Option (List Int) := wrT (t.kid i) (partP p t.s i) (b - 1)
theorem wr_kids {t : Tr} {p : Prob} {b : Int} (h : t.n ≠ 0) (hs : SplOk p b t.s) (hn : partsN p b t.s = t.n) : wrT t p b = fw (kidW t p b) (t.n - 0).toNat 0 := by
  cases t with
  | nil => exact absurd rfl h
  | mk s vK n kid vL nl l =>
    have h' : n ≠ 0 := h
    show (if n = 0 then _ else _) = _
    rw [if_neg h', if_pos (show SplOk p b s ∧ partsN p b s = n from ⟨hs, hn⟩), Int.sub_zero]
    rfl
theorem wr_bad {t : Tr} {p : Prob} {b : Int} (h : t.n ≠ 0) (hs : ¬ (SplOk p b t.s ∧ partsN p b t.s = t.n)) : wrT t p b = some [] := by
  cases t with
  | nil => exact absurd rfl h
  | mk s vK n kid vL nl l =>
    have h' : n ≠ 0 := h
    show (if n = 0 then _ else _) = _
    rw [if_neg h', if_neg (show ¬ (SplOk p b s ∧ partsN p b s = n) from hs)]
theorem Sim.wr : ∀ (t : Tr) {u : Tr}, Sim t u → ∀ (p : Prob) (b : Int), wrT u p b = wrT t p b := Tr.ind fun t ih u h p b => by
  obtain ⟨h1, h2, _, h4, h5, h6⟩ := h.of
  by_cases h0 : t.n = 0
  · rw [wr_leaf h0, wr_leaf (h2.trans h0), h4, h5]
  · have hu : u.n ≠ 0 := by rw [h2]; exact h0
    by_cases hs : SplOk p b t.s ∧ partsN p b t.s = t.n
    · rw [wr_kids h0 hs.1 hs.2, wr_kids hu (by rw [h1]; exact hs.1) (by rw [h1, h2]; exact hs.2), h2]
      have e : ∀ (c : Nat) (i : Int), 0 ≤ i → i + c ≤ t.n → fw (kidW u p b) c i = fw (kidW t p b) c i := fun c => by
        induction c with
        | zero => intro i _ _; rfl
        | succ c ihc =>
          intro i i0 i1
          have ek : kidW u p b i = kidW t p b i := by unfold kidW; rw [h1]; exact ih i i0 (by omega) (h6 i i0 (by omega)) _ _
          unfold fw
          rw [ek, ihc (i + 1) (by omega) (by omega)]
      have hn : partsN p b t.s = (MX p t.s).length := partsN_yes hs.1
      exact e _ 0 (Int.le_refl _) (by have := hs.2; omega)
    · rw [wr_bad h0 hs, wr_bad hu (by rw [h1, h2]; exact hs)]
def IsL (q : Int) (f : Int → Int) (l : List Int) : Prop := q = l.length ∧ ∀ k, 0 ≤ k → k < q → f k = l.getD k.toNat 0
theorem IsL.nil {f : Int → Int} : IsL 0 f [] := ⟨rfl, fun k h0 h1 => by omega⟩
theorem IsL.cons {q i : Int} {f g : Int → Int} {l : List Int} (h : IsL q f l) (h0 : g 0 = i) (hg : ∀ k, 0 ≤ k → k < q → g (k + 1) = f k) : IsL (q + 1) g (i :: l) := by
  obtain ⟨h1, h2⟩ := h
  refine ⟨by simp [h1], fun k k0 k1 => ?_⟩
  by_cases e : k = 0
  · rw [e, h0]; rfl
  · have := hg (k - 1) (by omega) (by omega)
    rw [show k - 1 + 1 = k by omega] at this
    rw [this, h2 (k - 1) (by omega) (by omega), show k.toNat = (k - 1).toNat + 1 by omega]; rfl
theorem IsL.snoc {q i : Int} {f : Int → Int} {l : List Int} (h : IsL q f l) : IsL (q + 1) (Go.Proofs.Gw.snoc f q i) (l ++ [i]) := by
  obtain ⟨h1, h2⟩ := h
  refine ⟨by simp [h1], fun k k0 k1 => ?_⟩
  by_cases e : k < q
  · rw [snoc_lt e, h2 k k0 e, List.getD_eq_getElem?_getD, List.getD_eq_getElem?_getD, List.getElem?_append_left (by omega)]
  · rw [snoc_at e, show k.toNat = l.length by omega, List.getD_eq_getElem?_getD, List.getElem?_append_right (Nat.le_refl _)]; simp
theorem IsL.init {q i : Int} {f : Int → Int} {l : List Int} (h : IsL q f (l ++ [i])) : IsL (q - 1) f l := by
  obtain ⟨h1, h2⟩ := h
  rw [List.length_append, List.length_singleton] at h1
  refine ⟨by omega, fun k k0 k1 => ?_⟩
  rw [h2 k k0 (by omega), List.getD_eq_getElem?_getD, List.getD_eq_getElem?_getD, List.getElem?_append_left (by omega)]
theorem IsL.same {q r : Int} {f g : Int → Int} {l : List Int} (h : IsL q f l) (h' : IsL r g l) : q = r ∧ ∀ k, 0 ≤ k → k < q → f k = g k := by
  have e : q = r := h.1.trans h'.1.symm
  exact ⟨e, fun k k0 k1 => by rw [h.2 k k0 k1, h'.2 k k0 (by omega)]⟩
theorem part_ok {p : Prob} {b wi i : Int} (hs : SplOk p b wi) (i0 : 0 ≤ i) (i1 : i < partsN p b wi) : MPat p wi (pat0 (MX p wi) i) ∧ 1 ≤ pat0 (MX p wi) i wi := by
  rw [partsN_yes hs] at i1
  obtain ⟨h1, h2⟩ := MX_pat hs.1.1 (pat0_mem i0 i1)
  exact ⟨h1, h2 hs.2.2.1.1 hs.2.2.1.2⟩
theorem part_at {w w' : World} {vL vD : Value} {p : Prob} {b wi i : Int} {vv : Int → Value} (hs : SplOk p b wi) (h : PAt w' vL vD p) (rL : Row w (vv (2 * i)) 1 p.m (ints (gfn p (MX p wi) (2 * i)))) (rD : Row w (vv (2 * i + 1)) 1 p.m (ints (gfn p (MX p wi) (2 * i + 1)))) (i0 : 0 ≤ i) (i1 : i < partsN p b wi) : PAt w (vv (2 * i)) (vv (2 * i + 1)) (partP p wi i) := by
  have hp := hs.1.1
  rw [gfn0 p _ (i := i) rfl] at rL
  rw [gfn1 p _ (i := i) rfl] at rD
  refine ⟨rL, ?_, h.iL, fun k => ?_, h.is, h.ik⟩
  · show Row w _ 1 p.d _
    rw [hp.d]; exact rD
  · obtain ⟨hm, _⟩ := part_ok hs i0 i1
    show _ ≤ p.D k - pat0 (MX p wi) i k ∧ p.D k - pat0 (MX p wi) i k ≤ _
    by_cases hk : 0 ≤ k ∧ k < p.m
    · have h1 := hm.rng k hk.1 hk.2
      have h2 := hp.all k hk.1 hk.2
      unfold Prob.each at h2
      omega
    · rw [hm.zero k (by omega)]
      have := h.iD k
      omega
theorem wr_ne {t : Tr} {p : Prob} {b : Int} (h : t.n = 0) : wrT t p b ≠ none ↔ ¬ LeafP p b t.nl t.l := by
  by_cases hl : LeafP p b t.nl t.l
  · rw [wr_leaf_yes h hl]; exact ⟨fun h => absurd rfl h, fun h => absurd hl h⟩
  · rw [wr_leaf_no h hl]; exact ⟨fun _ => hl, fun _ => Option.some_ne_none _⟩
theorem wr_nil {t : Tr} {p : Prob} {b : Int} (h : t.n = 0) : (wrT t p b).getD [] = [] := by
  by_cases hl : LeafP p b t.nl t.l
  · rw [wr_leaf_yes h hl]; rfl
  · rw [wr_leaf_no h hl]; rfl
end Go.Proofs.YtkichmnjjblodaaGreat
namespace Go.Proofs.Gw
open Go Go.RowKit
def preV (v : Value) (q : Nat) : Value := match v with
  | .slice a _ cap => .slice a q cap
  | u => u
section
variable {P : Program} {L : List (Nat × Value)} {w w0 : World} {o : Oper} {x y z : Operand} {T T' : TypeId} {l : List Ent} {E : TypeId}
theorem pre_slh {v : Value} {n : Int} {q : Nat} (h : Slh v n) (hq : (q : Int) ≤ n) : Slh (preV v q) q := by
  obtain ⟨h0, h1, a, cap, rfl, hz⟩ := h
  refine ⟨by omega, by omega, a, cap, rfl, ?_⟩
  rcases hz with hz | hz
  · left; omega
  · exact .inr hz
theorem xsl_hi {v : Value} {n i : Int} (q : Nat) (ht : sliceT P T = some (E, 1)) (hv : Slh v n) (hr : Roomy v) (hq : (q : Int) = i := by omega) (hn : 0 < n := by omega) (h1 : i ≤ n := by omega) (ho : o.op = .slice T x none (some y) none := by exact rfl) (hx : evL L x = some v := by exact rfl) (hy : evL L y = some (.int .i64 i) := by exact rfl) :
    Runs P L w o (.value (preV v q)) w := fun ρ h => by
  obtain ⟨hu, inf, hin, hsz⟩ := slice_of ht
  obtain ⟨_, _, a, cap, rfl, hz⟩ := hv
  have hc := hr _ _ _ rfl
  subst hq
  have hb : (Instr.sliceBounds true n.toNat cap none (some (.int .i64 (q : Int))) none).run P w = .ok (0, q, cap) w := by
    simp [Instr.sliceBounds, Instr.sliceBound, asIntOf]
    omega
  have e : (Instr.sliceAt T (.slice a n.toNat cap) none (some (.int .i64 (q : Int))) none).run P w = .ok (preV (.slice a n.toNat cap) q) w := by
    unfold Instr.sliceAt
    simp only [Sem.run_bind, run_underlying hu, Result.andThen_ok, Instr.slice, hb]
    rcases hz with hz | ⟨b, off, rfl⟩
    · omega
    · simp [sizeOf, typeInfo, hin, hsz, preV, Addr.add]
  simp [execOp, ho, h _ _ hx, h _ _ hy, e]
end
end Go.Proofs.Gw
namespace Go.Proofs.Gw
open Go Go.RowKit
def Frame.dq (E : TypeId) (v : Value) (n : Int) (f : Int → Int) : Frame where
  holds w := 0 ≤ n ∧ n ≤ 140737488355328 ∧ ((v = .slice none 0 0 ∧ n = 0) ∨ ∃ g off cap cur, v = .slice (some ⟨g, off, none⟩) n.toNat cap ∧ w.heap[g]? = some (.cells cur E (0, 0)) ∧ n.toNat ≤ cap ∧ cap ≤ maxLen ∧ off + cap ≤ cur.size ∧
    ∀ k : Nat, (k : Int) < n → cur[off + k]? = some (.int .i64 (f k)))
  has g := ∃ a l c, v = .slice (some a) l c ∧ a.block = g
  keep h hk := by
    obtain ⟨h0, h1, h | ⟨g, off, cap, cur, rfl, hg, h⟩⟩ := h
    · exact ⟨h0, h1, .inl h⟩
    · exact ⟨h0, h1, .inr ⟨g, off, cap, cur, rfl, by rw [hk g ⟨_, _, _, rfl, rfl⟩]; exact hg, h⟩⟩
  lt h hg := by
    obtain ⟨_, _, h | ⟨g, off, cap, cur, rfl, h2, _⟩⟩ := h
    · obtain ⟨rfl, _⟩ := h; obtain ⟨_, _, _, e, _⟩ := hg; cases e
    · obtain ⟨_, _, _, e, rfl⟩ := hg; cases e; exact (Array.getElem?_eq_some_iff.1 h2).1
section
variable {P : Program} {L : List (Nat × Value)} {w w0 : World} {o : Oper} {x y z : Operand} {T T' : TypeId} {l : List Ent} {E : TypeId} {v : Value} {n : Int} {f : Int → Int}
theorem Frame.dq.row (h : (Frame.dq E v n f).holds w) : Row w v 1 n (ints f) := by
  obtain ⟨h0, h1, ⟨rfl, rfl⟩ | ⟨g, off, cap, cur, rfl, hg, _, _, _, hc⟩⟩ := h
  · exact row_nil _ _ _
  · refine ⟨⟨h0, h1, _, _, rfl, .inr ⟨g, off, rfl⟩⟩, fun k hk => ?_⟩
    have hk2 : (k : Int) < n := by omega
    have := hc k hk2
    show w.cell? ⟨g, off + (k : Int).toNat, none⟩ = _
    rw [cell_of_row w g _ cur E (0, 0) hg]
    rw [show (k : Int).toNat = k by omega, this]; rfl
theorem Frame.dq.roomy (h : (Frame.dq E v n f).holds w) : Roomy v := fun a len cap e => by
  obtain ⟨_, _, ⟨rfl, _⟩ | ⟨g, off, cap', cur, rfl, _, h2, _⟩⟩ := h
  · cases e; omega
  · cases e; exact h2
theorem Sat.dqOf (h : Sat w0 w l) (i : Nat) (hi : l[i]? = some (.sem (Frame.dq E v n f))) : (Frame.dq E v n f).holds w := h.holds _ (List.mem_of_getElem? hi)
theorem Sat.dqnil (h : Sat w0 w l) (E : TypeId) (f : Int → Int) : Sat w0 w (l ++ [.sem (Frame.dq E (.slice none 0 0) 0 f)]) := by
  refine h.comp (m := [.sem (Frame.dq E (.slice none 0 0) 0 f)]) ⟨Below.refl _ _, ?_, ?_, List.pairwise_singleton _ _⟩
  · intro e he
    obtain rfl := List.mem_singleton.1 he
    exact ⟨by omega, by omega, .inl ⟨rfl, rfl⟩⟩
  · intro e he g hg
    obtain rfl := List.mem_singleton.1 he
    obtain ⟨_, _, _, e, _⟩ := hg; cases e
theorem Sat.resem {F G : Frame} (h : Sat w0 w l) (i : Nat) (hi : l[i]? = some (.sem F)) (hG : F.holds w → G.holds w) (hh : ∀ g, G.has g → F.has g) : Sat w0 w (l.set i (.sem G)) := by
  have h' := h
  rw [split_at hi] at h'
  rw [set_at hi]
  exact h'.turn (d := .sem F) (fun k _ _ => rfl) rfl rfl rfl (Nat.le_refl _) (hG (h.holds _ (List.mem_of_getElem? hi))) (fun g hg => .inl (hh g hg))
theorem Sat.dqpre (h : Sat w0 w l) (i : Nat) (q : Nat) (hq : (q : Int) ≤ n) (hi : l[i]? = some (.sem (Frame.dq E v n f)) := by exact rfl) : Sat w0 w (l.set i (.sem (Frame.dq E (preV v q) q f))) :=
  h.resem i hi (fun ⟨h0, h1, hd⟩ => ⟨by omega, by omega, by
    rcases hd with ⟨rfl, rfl⟩ | ⟨g, off, cap, cur, rfl, hg, h2, h3, h4, h5⟩
    · exact .inl ⟨by obtain rfl : q = 0 := by omega
                     rfl, by omega⟩
    · exact .inr ⟨g, off, cap, cur, by simp [preV], hg, by omega, h3, h4, fun k hk => h5 k (by omega)⟩⟩) (fun g ⟨a', lh, c, e, eb⟩ => by
    cases v with
    | slice a len cap => cases e; exact ⟨_, _, _, rfl, eb⟩
    | _ => cases e)
theorem dqpre_slh {e : Int} (h : Slh v n) (h0 : 0 ≤ e) (h1 : e ≤ n) : Slh (preV v e.toNat) e := by
  have := pre_slh (q := e.toNat) h (by omega)
  rwa [Int.toNat_of_nonneg h0] at this
theorem Sat.dqn (h : Sat w0 w l) (i : Nat) {m : Int} (e : n = m) (hi : l[i]? = some (.sem (Frame.dq E v n f)) := by exact rfl) : Sat w0 w (l.set i (.sem (Frame.dq E v m f))) := by subst e; exact h.resem i hi id fun _ hg => hg
theorem xdqa {u : Value} {b : Nat} {a : Int} {zv : Value} (i : Nat) (ht : sliceT P T = some (E, 1)) (he : elemT P E = some (zv, 1, b)) (hS : Sat w0 w l) (hu : Row w u 1 1 (ints fun _ => a)) (ho : o.op = .call { callee := .builtin .append, args := #[x, y], argTypes := #[T, T] } := by exact rfl) (hz : zv.cells.size = 1 := by exact rfl)
    (hi : l[i]? = some (.sem (Frame.dq E v n f)) := by exact rfl) (hx : evL L x = some v := by exact rfl) (hy : evL L y = some u := by exact rfl) (hb : b * (n + 1) ≤ 140737488355328 := by omega) (hnm : n + 1 ≤ 140737488355328 := by omega) :
    ∃ q w', Runs P L w o (.value q) w' ∧ Sat w0 w' (l.set i (.sem (Frame.dq E q (n + 1) (snoc f n a)))) ∧ Slh q (n + 1) := by
  obtain ⟨hut, _⟩ := slice_of ht
  obtain ⟨inf, hinf, hzz, hsz, hby⟩ := elem_of he
  have hd := hS.dqOf i hi
  have hrow := Frame.dq.row hd
  obtain ⟨h0, h1, hd⟩ := hd
  obtain ⟨_, _, ua, ucap, rfl, hua⟩ := hu.slh
  obtain ⟨ub, uoff, rfl⟩ : ∃ ub uoff, ua = some ⟨ub, uoff, none⟩ := by rcases hua with h | h; omega; exact h
  have hnews : ∀ j t, [Value.int .i64 a][j]? = some t → w.cell? ((⟨ub, uoff, none⟩ : Addr).add j) = some t := fun j t hj => by
    rcases j with _ | j
    · cases hj
      have := hu.2 0 (by omega)
      rw [Addr.add_eq _ rfl]; simpa [cad, ints] using this
    · simp at hj
  have eb : (n.toNat + 1) * b ≤ 140737488355328 := by
    have : (((n.toNat + 1) * b : Nat) : Int) = b * (n + 1) := by rw [Int.natCast_mul, Int.natCast_add, Int.toNat_of_nonneg h0, Int.mul_comm]; rfl
    omega
  have h' := hS
  rw [split_at hi] at h'
  have key : ∃ q w', (∀ ty : TypeId, (Builtin.append_ #[T, T] ty #[v, .slice (some ⟨ub, uoff, none⟩) 1 ucap]).run P w = .ok q w') ∧ (Frame.dq E q (n + 1) (snoc f n a)).holds w' ∧ (∀ k, k < w.heap.size → ¬ (Frame.dq E v n f).has k → w'.heap[k]? = w.heap[k]?) ∧ w'.tape = w.tape ∧ w'.os = w.os ∧ w'.output = w.output ∧ w.heap.size ≤ w'.heap.size ∧
      (∀ g, (Frame.dq E q (n + 1) (snoc f n a)).has g → (Frame.dq E v n f).has g ∨ w.heap.size ≤ g) := by
    have hn63 : n.toNat + 1 ≤ maxLen := by unfold maxLen; omega
    have grown : ∀ (old : Nat), old < n.toNat + 1 → ∀ (zs : List Value), zs.length = n.toNat → (∀ k : Nat, (k : Int) < n → zs[k]? = some (.int .i64 (f k))) →
        (Frame.dq E (.slice (some ⟨w.heap.size, 0, none⟩) (n.toNat + 1) (grownCap w (n.toNat + 1) old E)) (n + 1) (snoc f n a)).holds (w.drew.alloc (.cells (zs.toArray ++ [Value.int .i64 a].toArray ++ Builtin.zeroCells zv.cells (grownCap w (n.toNat + 1) old E - (n.toNat + 1))) E)) := fun old ho zs hzl hzs => by
      have hge := grownCap_ge w (n.toNat + 1) old E
      have hcm : grownCap w (n.toNat + 1) old E ≤ maxLen := grownCap_le_maxLen w (n.toNat + 1) old E hn63
      refine ⟨by omega, hnm, .inr ⟨w.heap.size, 0, _, _, by rw [show (n + 1).toNat = n.toNat + 1 by omega], heap_alloc_new w.drew _, by omega, hcm, ?_, fun k hk => ?_⟩⟩
      · simp only [Array.size_append, List.size_toArray, size_zeroCells, hz, hzl, List.length_cons, List.length_nil]; omega
      · have e1 : (zs.toArray ++ [Value.int .i64 a].toArray ++ Builtin.zeroCells zv.cells (grownCap w (n.toNat + 1) old E - (n.toNat + 1)))[0 + k]? = (zs ++ [Value.int .i64 a])[k]? := by
          rw [Nat.zero_add, Array.getElem?_append_left (by simp; omega)]; simp
        rw [e1, List.getElem?_append]
        by_cases hk2 : (k : Int) < n
        · rw [if_pos (by omega), hzs k hk2, snoc_lt hk2]
        · rw [if_neg (by omega), show k - zs.length = 0 by omega, snoc_at hk2]; rfl
    rcases hd with ⟨rfl, rfl⟩ | ⟨g, off, cap, cur, rfl, hg, h2, h3, h4, h5⟩
    · refine ⟨_, _, fun ty => run_append_nil (P := P) w T ty E inf zv hut hinf hzz ⟨ub, uoff, none⟩ 1 ucap [Value.int .i64 a] (by rw [hsz]; rfl) hnews (by omega) (by omega) (by rw [hby]; omega), ?_, fun k hk _ => heap_alloc_old w.drew _ hk, rfl, rfl, rfl, by simp, fun g ⟨_, _, _, e, eb⟩ => by cases e; exact .inr (Nat.le_of_eq eb)⟩
      have := grown 0 (by omega) [] rfl (fun k hk => by omega)
      simpa using this
    · by_cases hroom : n.toNat + 1 ≤ cap
      · have hcell : ∀ k, k < cur.size → w.cell? ⟨g, k, none⟩ = cur[k]? := fun k _ => cell_of_row w g k cur E (0, 0) hg
        refine ⟨_, _, fun ty => run_append_room_cells (P := P) w T ty E inf hut hinf g off n.toNat cap ⟨ub, uoff, none⟩ 1 ucap [Value.int .i64 a] (by rw [hsz]; rfl) hnews (fun u hu => by simp at hu; subst hu; rfl) hroom (fun j hj => by
            simp at hj; subst hj
            rw [hsz, Nat.mul_one, hcell _ (by omega)]; simp; omega) (fun j hj => by
            simp at hj; subst hj
            simp [World.frozen?, hg]), ?_, fun k hk hne => ?_, rfl, rfl, rfl, ?_, fun g' ⟨_, _, _, e, eb⟩ => .inl (by cases e; exact ⟨_, _, _, rfl, eb⟩)⟩
        · refine ⟨by omega, hnm, .inr ⟨g, off, cap, cur.setIfInBounds (off + n.toNat) (.int .i64 a), by rw [show (n + 1).toNat = n.toNat + 1 by omega], ?_, by omega, h3, by simp; omega, fun k hk => ?_⟩⟩
          · simp [World.setCells, World.setCell, Array.getElem?_modify, hg, hsz]
          · rw [Array.getElem?_setIfInBounds]
            by_cases hk2 : (k : Int) < n
            · rw [if_neg (by omega), h5 k hk2, snoc_lt hk2]
            · rw [if_pos (by omega), if_pos (by omega), snoc_at hk2]
        · exact Below.heap_setCell _ _ _ _ fun e => hne (by rw [e]; exact ⟨_, _, _, rfl, rfl⟩)
        · simp [World.setCells, World.setCell]
      · have hol : ∀ k : Nat, (k : Int) < n → (listOf f n |>.map (Value.int .i64))[k]? = some (.int .i64 (f k)) := fun k hk => by
          have hk3 : k < n.toNat := by omega
          simp [listOf, hk3]
        have hll : (listOf f n |>.map (Value.int .i64)).length = n.toNat := by simp [listOf]
        refine ⟨_, _, fun ty => run_append_grow (P := P) w T ty E inf zv hut hinf hzz ⟨g, off, none⟩ n.toNat cap (listOf f n |>.map (Value.int .i64)) (by rw [hsz, hll]; omega) (fun j t hj => ?_) ⟨ub, uoff, none⟩ 1 ucap [Value.int .i64 a] (by rw [hsz]; rfl) hnews (by omega) (by omega) (growslice_fits (by omega) (by rw [hby]; exact eb)), ?_, fun k hk _ => heap_alloc_old w.drew _ hk, rfl, rfl, rfl, by simp, fun g ⟨_, _, _, e, eb⟩ => by cases e; exact .inr (Nat.le_of_eq eb)⟩
        · have hj2 : j < n.toNat := by
            have := (List.getElem?_eq_some_iff.1 hj).1; omega
          rw [hol j (by omega)] at hj; cases hj
          rw [Addr.add_eq _ rfl, cell_of_row w g _ cur E (0, 0) hg]; exact h5 j (by omega)
        · exact grown cap (by omega) _ hll hol
  obtain ⟨q, w', hr, hq, hb1, ht1, ho1, hp1, hs1, hh⟩ := key
  refine ⟨q, w', fun ρ h => ?_, ?_, (Frame.dq.row hq).slh⟩
  · simp [execOp, ho, resolve, invoke, builtin, h _ _ hx, h _ _ hy, hr]
  · rw [set_at hi]
    exact h'.turn hb1 ht1 ho1 hp1 hs1 hq hh
end
end Go.Proofs.Gw
namespace Go.Proofs.YtkichmnjjblodaaGreat
open Go Go.RowKit Go.Proofs.Gw
theorem cl_81 : calledT Tryz.prog 81 = true := by kernel_rfl
theorem pl_137 : plainT Tryz.prog 137 = true := by kernel_rfl
theorem pl_31 : plainT Tryz.prog 31 = true := by kernel_rfl
theorem pl_39 : plainT Tryz.prog 39 = true := by kernel_rfl
theorem bun_rows {E : TypeId} {n : Int} {vv : Int → Value} {ln : Int → Int} {f : Int → Int → Int} {w : World} {l : List Ent} (h : (Frame.bun l).holds w) (i : Nat) (hi : l[i]? = some (.sem (Frame.rows E n vv ln f))) {k : Int} (k0 : 0 ≤ k) (k1 : k < n) : Row w (vv k) 1 (ln k) (ints (f k)) := ((h.1 _ (List.mem_of_getElem? hi)).1 k k0 k1).row
theorem bun_sem {w : World} {l : List Ent} {F : Go.Proofs.Gw.Frame} (h : (Frame.bun l).holds w) (i : Nat) (hi : l[i]? = some (.sem F)) : F.holds w := h.1 _ (List.mem_of_getElem? hi)
theorem c_fcl  : ∀ (t : Tr) {F : Go.Proofs.Gw.Frame} {vL vD : Value} {p : Prob} {b : Int} {gl gs gp gw : Nat} {vp : Value} {q : Int} {f : Int → Int} {pre : List Int} (w0 w : World) (hS : Sat w0 w [.blk gl [.func (.func 16) #[] #[]], .blk gs [.func (.func 13) #[] #[]], .blk gp [vp], .blk gw [.func (.func 81) #[] #[.pointer (some ⟨gl, 0, none⟩), .pointer (some ⟨gs, 0, none⟩), .pointer (some ⟨gp, 0, none⟩), .pointer (some ⟨gw, 0, none⟩)]], .sem (Frame.dq 3 vp q f), .sem F]) (hP : ∀ w1, Below w0.heap.size w0 w1 → F.holds w1 → PAt w1 vL vD p) (hK : KAt w0 t) (hV : LvAt w0 t) (hv : Slh vp q) (hI : IsL q f pre) (hq : q + b ≤ 1001),
    Calls Tryz.prog 81 [.agg #[vL, vD, .int .i64 p.stock, .int .i64 p.kerf, .int .i64 b], .agg #[.int .i64 t.s, t.vK, t.vL], .pointer (some ⟨gl, 0, none⟩), .pointer (some ⟨gs, 0, none⟩), .pointer (some ⟨gp, 0, none⟩), .pointer (some ⟨gw, 0, none⟩)].toArray w fun e w => ∃ v, e = .returned v ∧ ∃ v1 q1 f1, v = B (wrT t p b ≠ none) ∧ Slh v1 q1 ∧ IsL q1 f1 (pre ++ (wrT t p b).getD []) ∧ Sat w0 w [.blk gl [.func (.func 16) #[] #[]], .blk gs [.func (.func 13) #[] #[]], .blk gp [v1], .blk gw [.func (.func 81) #[] #[.pointer (some ⟨gl, 0, none⟩), .pointer (some ⟨gs, 0, none⟩), .pointer (some ⟨gp, 0, none⟩), .pointer (some ⟨gw, 0, none⟩)]], .sem (Frame.dq 3 v1 q1 f1), .sem F] := by
  refine Tr.ind fun t ih => ?_
  intro F vL vD p b gl gs gp gw vp q f pre w0 w hS hP hK hV hv hI hq
  have hn := hK.row.slh.n0; have hn1 := hK.row.slh.n1; have hln := hV.leaf.row.slh.n0; have hln1 := hV.leaf.row.slh.n1
  have h := hP w hS.below (hS.holds _ (List.mem_of_getElem? (i := 5) rfl))
  have hv0 := hv.n0; have hv1 := hv.n1
  refine zenF Tryz.func81 Tryz.ntmps81 ?_
  refine zsr ?_
  refine zla (xbx (cs := [_, _, _, _, _]) hS) ?_; rintro _ w ⟨g1, rfl, hS⟩
  replace hS := hS.n7
  refine zla (xbx (cs := [_, _, _]) hS) ?_; rintro _ w ⟨g2, rfl, hS⟩
  replace hS := hS.n8
  refine zlv xas ?_
  refine zlt <| zsq <| zsr ?_
  refine zlv (xfb 1 fd_54_1) ?_
  refine zlv (xlb 7 pl_52 hS) ?_
  refine zlv (xln sl_52 (hK).row.slh) ?_
  refine zlv xeql ?_
  refine zlt ?_
  refine zcif ?_ ?_ <;> intro hc
  ·
   refine zsr ?_
   refine zlv (xlb 0 pl_39 hS) ?_
   refine zlv (xls 6 st_34 hS) ?_
   refine zlv (xfb 2 fd_54_2) ?_
   refine zlv (xlb 7 pl_22 hS) ?_
   refine zlc (xc0 cl_16) (c_leaf (p := p) (b := b) w (hP _ hS.below (hS.holds _ (List.mem_of_getElem? (i := 5) rfl))) ((hV).leaf.below hS.below) (hV).room) ?_; rintro _ w ⟨rfl, hS'⟩
   replace hS := hS.cmp hS'; clear hS'
   refine zs2 ?_
   refine zlt <| zrt <| ztr <| zf1 ⟨_, rfl, ?_⟩
   have hw9 : t.n = 0 := by omega
   exact ⟨_, _, _, (B_congr (wr_ne hw9)).symm, hv, by rw [wr_nil hw9]; simpa using hI, hS.pk [0, 1, 2, 3, 4, 5]⟩
  refine zsk <| ztn <| zsr ?_
  refine zlv (xlb 1 pl_31 hS) ?_
  refine zlv (xls 6 st_34 hS) ?_
  refine zlv (xfb 0 fd_54_0) ?_
  refine zlv (xlb 7 pl_3 hS) ?_
  refine zlc (xc0 cl_13) (c_split (p := p) (b := b) (wi := t.s) w (hP _ hS.below (hS.holds _ (List.mem_of_getElem? (i := 5) rfl)))) ?_; rintro _ w ⟨vgg3, vvg3, rfl, hvgg3, hS'⟩
  replace hS : Sat w0 w [.blk gl [.func (.func 16) #[] #[]], .blk gs [.func (.func 13) #[] #[]], .blk gp [vp], .blk gw [.func (.func 81) #[] #[.pointer (some ⟨gl, 0, none⟩), .pointer (some ⟨gs, 0, none⟩), .pointer (some ⟨gp, 0, none⟩), .pointer (some ⟨gw, 0, none⟩)]], .sem (Frame.dq 3 vp q f), .sem F, .blk g1 [vL, vD, .int .i64 p.stock, .int .i64 p.kerf, .int .i64 b], .blk g2 [.int .i64 t.s, t.vK, t.vL], .own vgg3 5 34 (partsN p b t.s) (gcells vvg3 p.stock p.kerf (b - 1)), .sem (Frame.rows 3 (2 * (partsN p b t.s)) vvg3 (fun _ => p.m) (gfn p (MX p t.s)))] := hS.comp hS'; clear hS'
  have hrsg3 : ∀ k, 0 ≤ k → k < 2 * (partsN p b t.s) → Slh (vvg3 k) p.m := fun k k0 k1 => hS.slhIn 9 rfl k0 k1
  refine zs5 ?_
  refine zlt <| zsq <| zsr ?_
  refine zs3 ?_
  refine zlb 33 ?_ ?_ <;> intro hc
  ·
   iterate 6 refine zlo ?_
   refine zlv xpt ?_
   refine zlt <| zct <| zsr ?_
   refine zlv xas ?_
   refine zlt <| zrt <| ztr <| zf1 ⟨_, rfl, ?_⟩
   have hw9 : wrT t p b = some [] := wr_bad (by omega) (by rintro ⟨q1, q2⟩; first | exact absurd q1 ‹¬ SplOk p b t.s› | omega)
   exact ⟨_, _, _, (B_true (show wrT t p b ≠ none by rw [hw9]; exact Option.some_ne_none _)).symm, hv, by rw [hw9]; simpa using hI, hS.pk [0, 1, 2, 3, 4, 5]⟩
  refine zlv xmv ?_
  refine zlv (xln sl_29 hvgg3) ?_
  refine zlv (xfb 1 fd_54_1) ?_
  refine zlv (xlb 7 pl_52 hS) ?_
  refine zlv (xln sl_52 (hK).row.slh) ?_
  refine zs2 ?_
  refine zlt ?_
  refine zcif ?_ ?_ <;> intro hc
  ·
   refine zsr ?_
   refine zlv xas ?_
   refine zlt <| zrt <| ztr <| zf1 ⟨_, rfl, ?_⟩
   have hw9 : wrT t p b = some [] := wr_bad (by omega) (by rintro ⟨q1, q2⟩; first | exact absurd q1 ‹¬ SplOk p b t.s› | omega)
   exact ⟨_, _, _, (B_true (show wrT t p b ≠ none by rw [hw9]; exact Option.some_ne_none _)).symm, hv, by rw [hw9]; simpa using hI, hS.pk [0, 1, 2, 3, 4, 5]⟩
  refine zsk <| ztn <| zsq <| zsr ?_
  refine zlv (xfb 1 fd_54_1) ?_
  refine zlv (xlb 7 pl_52 hS) ?_
  refine zlv (xln sl_52 (hK).row.slh) ?_
  refine zlv xmv ?_
  refine zlt <| zbk ?_
  have hsp : SplOk p b t.s := by first | assumption | exact Classical.not_not.1 ‹_›
  have hkn : partsN p b t.s = t.n := by omega
  have hsb := hsp.1.2; have hpn := hvgg3.n1; have hv0 := hv.n0
  refine zlp (fun mm M w => ∃ (vp2 : Value) (q2 : Int) (f2 : Int → Int) (i : Int), mm = ((t.n - i).toNat) ∧ (0 ≤ i) ∧ (i ≤ t.n) ∧ (wrT t p b = fw (kidW t p b) (t.n - i).toNat i) ∧ (Slh vp2 q2) ∧ (IsL q2 f2 pre) ∧ (q2 = q) ∧ M = [(4, .pointer (some ⟨gp, 0, none⟩)), (5, .pointer (some ⟨gw, 0, none⟩)), (9, vgg3), (42, t.vK), (43, .int .i64 t.n), (44, .int .i64 i)] ∧ Sat w0 w [.blk gl [.func (.func 16) #[] #[]], .blk gs [.func (.func 13) #[] #[]], .blk gp [vp2], .blk gw [.func (.func 81) #[] #[.pointer (some ⟨gl, 0, none⟩), .pointer (some ⟨gs, 0, none⟩), .pointer (some ⟨gp, 0, none⟩), .pointer (some ⟨gw, 0, none⟩)]], .sem (Frame.dq 3 vp2 q2 f2), .sem F, .blk g1 [vL, vD, .int .i64 p.stock, .int .i64 p.kerf, .int .i64 b], .blk g2 [.int .i64 t.s, t.vK, t.vL], .own vgg3 5 34 (partsN p b t.s) (gcells vvg3 p.stock p.kerf (b - 1)), .sem (Frame.rows 3 (2 * (partsN p b t.s)) vvg3 (fun _ => p.m) (gfn p (MX p t.s)))]) ⟨vp, q, f, 0, rfl, (by omega), (by omega), ?_, ?_, ?_, ?_, rfl, hS⟩ ?_
  ·
   exact wr_kids (by omega) hsp hkn
  ·
   exact hv
  ·
   exact hI
  ·
   rfl
  clear hS w
  rintro mm M w ⟨vp2, q2, f2, i, rfl, h0, h1, hfw, hvp2, hI2, hq2, rfl, hS⟩
  refine zsr ?_
  refine zlv xlss ?_
  refine zlt <| zsq ?_
  refine zcif ?_ ?_ <;> intro hc
  ·
   refine zsk <| ztn <| zsq <| zbk <| zsr ?_
   refine zlv xmv ?_
   refine zlv (xix (kk := 3 * i) sl_52 (hK).row.slh) ?_
   refine zlv (xlw (cs := [.int .i64 ((t.kid i).s), (t.kid i).vK, (t.kid i).vL]) st_54 ((hK).row.below hS.below) (kcells_at (q := 3 * i) (i := i) _ (by omega))) ?_
   refine zla (xal (cs := [_, _, _]) el_54 hS) ?_; rintro _ w ⟨g4, rfl, hS⟩
   replace hS := hS.n11
   refine zlv xas ?_
   refine zle (xsw 10 st_54 hS (hd := (ones_cons rfl (ones_cons ((hK).sub (i := i) (by omega) (by omega)).row.slh.one (ones_cons ((hV).sub (i := i) (by omega) (by omega)).leaf.row.slh.one ones_nil))))) ?_; clear hS; rintro w hS
   replace hS := hS.n11
   refine zlz ?_
   refine zlv (xlb 2 pl_22 hS) ?_
   refine zlv xmv ?_
   refine zla (xli (n := 1) (len := 1) (pv := [(0, .int .i64 i)]) (cs := [.int .i64 i]) (c := ints (fun _ => i)) sl_22 el_3 hS) ?_; rintro v1 w ⟨hS, hv1⟩
   replace hS := hS.n12
   refine zla (xdqa 4 sl_22 el_3 hS (hS.rowN 11 rfl)) ?_; rintro v2 w ⟨hS, hv2⟩
   replace hS := hS.n12
   refine zle (xsb 2 pl_22 hS (hv := hv2.one)) ?_; clear hS; rintro w hS
   replace hS := hS.n12
   refine zlt <| zsq <| zsq ?_
   refine zdst [0, 1, 3, 5, 6, 7, 8, 9, 10, 11] [0, 1, 3, 5, 6, 7, 8, 9, 10, 11] 1000 mx_ hS ?_; clear hS; intro w hS
   refine zdla 0 (fun w hS => (xlb 2 pl_137 hS)) ?_
   refine zdv 1 (fun _ => xmv) ?_
   refine zdv 2 (fun _ => xmv) ?_
   refine zdv 3 (fun _ => (xix (kk := 5 * i) sl_29 hvgg3)) ?_
   refine zdla 4 (fun w hS => (xlw (cs := [(vvg3 (2 * i)), (vvg3 (2 * i + 1)), .int .i64 p.stock, .int .i64 p.kerf, .int .i64 (b - 1)]) st_34 (hS.rowN 6 rfl) (gcells_at (q := 5 * i) (i := i) vvg3 p.stock p.kerf (b - 1) (by omega)))) ?_
   refine zdla 5 (fun w hS => (xls 8 st_54 hS)) ?_
   refine zdc 6 (xcc (vs := [_, _]) cl_81) (ih i (by omega) (by omega) (pre := pre ++ [i]) (p := (partP p t.s i)) (b := (b - 1)) w0 w (Sat.bundle (l1 := [_, _, _, _, _]) (hS.pk [0, 1, 2, 3, 4, 5, 6, 7, 8, 9, 10, 11])) (fun w1 hb hF => part_at (vv := vvg3) hsp (hP w1 hb (bun_sem hF 0 rfl)) (bun_rows hF 4 rfl (k := 2 * i) (by omega) (by omega)) (bun_rows hF 4 rfl (k := 2 * i + 1) (by omega) (by omega)) (by omega) (by omega)) ((hK).sub (i := i) (by omega) (by omega)) ((hV).sub (i := i) (by omega) (by omega)) hv2 (IsL.snoc hI2) (by omega)) ?_; rintro _ w ⟨v1z1, q1z1, f1z1, rfl, hvz1, hiz1, hS⟩
   replace hS := Sat.unbundle (l1 := [_, _, _, _, _]) (l3 := []) hS
   replace hS := hS.n12
   refine ⟨⟨fun _ => hS.pk [0, 1, 3, 5, 6, 7, 8, 9, 10, 11], hS.pk [0, 1, 3, 5, 6, 7, 8, 9, 10, 11]⟩, ?_⟩
   refine zdd <| ztn ?_
   refine zcif ?_ ?_ <;> intro hc
   ·
    refine zsr ?_
    refine zlv xas ?_
    refine zlt <| zrt <| ztr <| zbr <| ztr <| ztr <| zbr <| ztr <| zf1 ⟨_, rfl, ?_⟩
    obtain ⟨l9, hl9⟩ := Option.ne_none_iff_exists'.1 ‹(wrT (t.kid i) (partP p t.s i) (b - 1)) ≠ none›
    rw [hl9] at hiz1
    have hw9 : wrT t p b = some (i :: l9) := hfw.trans (fw_yes (by omega) hl9)
    exact ⟨_, _, _, (B_true (show wrT t p b ≠ none by rw [hw9]; exact Option.some_ne_none _)).symm, hvz1, by rw [hw9]; rw [List.append_assoc] at hiz1; exact hiz1, hS.pk [0, 1, 2, 3, 4, 5]⟩
   refine zsk <| ztn <| zrg ?_
   iterate 2 refine zlv (xlb 2 pl_22 hS) ?_
   have hqz := hiz1.1; have hqy := hvz1.n1; rw [List.length_append, List.length_append, List.length_singleton] at hqz
   refine zlv (xln sl_22 hvz1) ?_
   refine zlv (xsub (r := q1z1 - 1)) ?_
   refine zlv (xsl_hi (i := q1z1 - 1) (q1z1 - 1).toNat sl_22 hvz1 (Frame.dq.roomy (hS.dqOf 4 rfl))) ?_
   have hdqs1 := (dqpre_slh (e := q1z1 - 1) hvz1 (by omega) (by omega))
   replace hS := hS.dqpre (n := q1z1) 4 (q1z1 - 1).toNat (by omega)
   replace hS := hS.dqn 4 (by omega : ((q1z1 - 1).toNat : Int) = q1z1 - 1)
   replace hS := hS.n12
   refine zle (xsb 2 pl_22 hS (hv := hdqs1.one)) ?_; clear hS; rintro w hS
   replace hS := hS.n12
   refine zln <| zbn <| ztn <| zrg ?_
   refine zlv (xadd (r := i + 1)) ?_
   refine zlv xmv ?_
   refine zln ?_
   rw [show (wrT (t.kid i) (partP p t.s i) (b - 1)) = none from Classical.byContradiction ‹¬ ((wrT (t.kid i) (partP p t.s i) (b - 1)) ≠ none)›] at hiz1
   simp only [Option.getD_none, List.append_nil] at hiz1
   refine zlq ⟨(preV v1z1 (q1z1 - 1).toNat), q1z1 - 1, f1z1, i + 1, rfl, (by omega), (by omega), ?_, ?_, ?_, ?_, rfl, hS.pk [0, 1, 2, 3, 4, 5, 6, 7, 8, 9]⟩
   ·
    rw [hfw]; exact fw_no (by omega) (show kidW t p b i = none from Classical.byContradiction ‹¬ ((wrT (t.kid i) (partP p t.s i) (b - 1)) ≠ none)›)
   ·
    exact hdqs1
   ·
    exact IsL.init (i := i) hiz1
   ·
    have h8 := hiz1.1; have h9 := hI2.1; rw [List.length_append, List.length_singleton] at h8; omega
  refine zxt <| ztx <| ztx <| zbh <| ztn <| zsr ?_
  refine zlv xas ?_
  refine zlt <| zrt <| zf1 ⟨_, rfl, ?_⟩
  have hw9 : wrT t p b = none := hfw.trans (fw_end (by omega))
  exact ⟨_, _, _, (B_false (show ¬ wrT t p b ≠ none by rw [hw9]; exact fun h => h rfl)).symm, hvp2, by rw [hw9]; simpa using hI2, hS.pk [0, 1, 2, 3, 4, 5]⟩
end Go.Proofs.YtkichmnjjblodaaGreat
namespace Go.Proofs.YtkichmnjjblodaaGreat
open Go Go.RowKit Go.Proofs.Gw
theorem cl_50 : calledT Tryz.prog 50 = true := by kernel_rfl
theorem cl_68 : calledT Tryz.prog 68 = true := by kernel_rfl
theorem el_137 : elemT Tryz.prog 137 = some (.nilFunc, 1, 8) := by kernel_rfl
noncomputable def chkE (t : Tr) (p : Prob) (b : Int) : Int := @ite _ (PossP p b ∧ ValidT t) (Classical.propDecidable _) (match wrT t p b with | none => 0 | some _ => 21) 1
noncomputable def chkL (t : Tr) (p : Prob) (b : Int) : List Int := @ite _ (PossP p b ∧ ValidT t) (Classical.propDecidable _) ((wrT t p b).getD []) []
theorem chk_no {t : Tr} {p : Prob} {b : Int} (h : ¬ (PossP p b ∧ ValidT t)) : chkE t p b = 1 ∧ chkL t p b = [] := ⟨if_neg h, if_neg h⟩
theorem chk_bad {t : Tr} {p : Prob} {b : Int} (h1 : PossP p b) (h2 : ValidT t) (h : wrT t p b ≠ none) : chkE t p b = 21 ∧ chkL t p b = (wrT t p b).getD [] := by
  refine ⟨?_, if_pos ⟨h1, h2⟩⟩
  obtain ⟨l, hl⟩ := Option.ne_none_iff_exists'.1 h
  unfold chkE; rw [if_pos ⟨h1, h2⟩, hl]
theorem chk_ok {t : Tr} {p : Prob} {b : Int} (h1 : PossP p b) (h2 : ValidT t) (h : wrT t p b = none) : chkE t p b = 0 ∧ chkL t p b = [] := by
  refine ⟨?_, ?_⟩
  · unfold chkE; rw [if_pos ⟨h1, h2⟩, h]
  · unfold chkL; rw [if_pos ⟨h1, h2⟩, h]; rfl
theorem zfcp {P : Program} {L : List (Nat × Value)} {w : World} {n : Nat} {fn : Func} {R : Ending → World → Prop} {T : TypeId} {s t : Nat} {a1 : Addr} {v1 v2 : Value} (t1 : plainT P T = true) (c1 : w.cell? a1 = some v1) (h : R (.returned (.tuple #[v1, v2])) w)
    (hr : fn.results = #[.cell s T, .tmp t] := by exact rfl) (h1 : lk L s = some (.pointer (some a1)) := by exact rfl) (h2 : lk L t = some v2 := by exact rfl) : Ge n [] (bodyPost P fn R) .ret L w := fun a hF => by
  refine ⟨hF.defers, _, ?_, h⟩
  obtain ⟨⟨_, _, q1⟩, _⟩ := plain_of (w := w) t1
  have e1 := hF.get s _ h1
  have e2 := hF.get t _ h2
  rw [Array.getD_eq_getD_getElem?] at e1 e2
  simp [results, hr, e1, e2, asAddr, loadVar, q1, c1]
theorem c_pchk {t : Tr} {vL vD : Value} {p : Prob} {b : Int} (w0 : World) (h : PAt w0 vL vD p) (hb : PossP p b) (hK : KAt w0 t) (hV : LvAt w0 t) :
    Calls Tryz.prog 50 [.agg #[vL, vD, .int .i64 p.stock, .int .i64 p.kerf, .int .i64 b], .agg #[.int .i64 t.s, t.vK, t.vL], .func (.func 13) #[] #[], .func (.func 16) #[] #[]].toArray w0 fun e w => ∃ v, e = .returned v ∧ ∃ r q f, v = .tuple #[r, .int .i64 (chkE t p b)] ∧ Slh r q ∧ IsL q f (chkL t p b) ∧ Sat w0 w [.sem (Frame.dq 3 r q f)] := by
  have hn := hK.row.slh.n0; have hn1 := hK.row.slh.n1; have hln := hV.leaf.row.slh.n0; have hln1 := hV.leaf.row.slh.n1
  have hm := h.L.slh.n0; have hm1 := h.L.slh.n1; have hd := h.D.slh.n0; have hd1 := h.D.slh.n1; have hs := h.is; have hk := h.ik
  have hb1 := hb.2
  refine zenG Tryz.func50 Tryz.ntmps50 fun w hS => ?_
  refine zsr ?_
  refine zla (xbx (cs := [_, _, _, _, _]) hS) ?_; rintro _ w ⟨g1, rfl, hS⟩
  replace hS := hS.n1
  refine zla (xbx (cs := [_, _, _]) hS) ?_; rintro _ w ⟨g2, rfl, hS⟩
  replace hS := hS.n2
  refine zla (xbx (cs := [_]) hS) ?_; rintro _ w ⟨g3, rfl, hS⟩
  replace hS := hS.n3
  refine zla (xbx (cs := [_]) hS) ?_; rintro _ w ⟨g4, rfl, hS⟩
  replace hS := hS.n4
  refine zla (xal (cs := [_]) el_22 hS) ?_; rintro _ w ⟨g5, rfl, hS⟩
  replace hS := hS.n5
  refine zlv xas ?_
  refine zlt <| zsq <| zsr ?_
  refine zlv (xls 1 st_54 hS) ?_
  refine zlc (xc0 cl_68) (c_valid35 (t := t) w (KAt.below hS.below (hK)) (LvAt.below hS.below (hV))) ?_; rintro _ w ⟨rfl, hS'⟩
  replace hS := hS.cmp hS'; clear hS'
  refine zlv xnot ?_
  refine zlt ?_
  refine zcif ?_ ?_ <;> intro hc
  ·
   refine zsr ?_
   refine zle (xsb 4 pl_22 hS) ?_; clear hS; rintro w hS
   replace hS := hS.n5
   refine zlv xas ?_
   refine zlt <| zrt <| ztr <| zfcp pl_22 (hS.cellN 4 rfl rfl) ⟨_, rfl, ?_⟩
   obtain ⟨h8, h9⟩ := chk_no (t := t) (p := p) (b := b) (fun hh => ‹¬ ValidT t› hh.2)
   exact ⟨_, 0, fun _ => 0, by rw [h8], slh_nil, by rw [h9]; exact IsL.nil, (hS.dqnil 3 (fun _ => 0)).sub (.cons _ (.cons _ (.cons _ (.cons _ (.cons _ (.cons_cons _ .slnil))))))⟩
  refine zsk <| ztn <| zsr ?_
  refine zla (xal (cs := [_]) el_137 hS) ?_; rintro _ w ⟨g6, rfl, hS⟩
  replace hS := hS.n6
  refine zlz ?_
  refine zlv xmf ?_
  refine zle (xsb 5 pl_137 hS) ?_; clear hS; rintro w hS
  replace hS := hS.n6
  refine zlt <| zsq <| zsr ?_
  refine zlv (xlb 5 pl_137 hS) ?_
  replace hS := hS.dqnil 3 (fun _ => 0)
  replace hS := hS.n7
  refine zlv (xls 0 st_34 hS) ?_
  refine zlv (xls 1 st_54 hS) ?_
  refine zlc (xcc (vs := [_, _]) cl_81) (c_fcl t (F := Frame.bun [.blk g1 [vL, vD, .int .i64 p.stock, .int .i64 p.kerf, .int .i64 b], .blk g2 [.int .i64 t.s, t.vK, t.vL]]) (pre := []) (p := p) (b := b) w0 w (Sat.bundle (l1 := [_, _, _, _, _]) (hS.pk [3, 2, 4, 5, 6, 0, 1])) (fun w1 hb _ => h.below hb) hK hV slh_nil IsL.nil (by omega)) ?_; rintro _ w ⟨v1z1, q1z1, f1z1, rfl, hvz1, hiz1, hS⟩
  replace hS := Sat.unbundle (l1 := [_, _, _, _, _]) (l3 := []) hS
  replace hS := hS.n7
  refine zlt ?_
  refine zcif ?_ ?_ <;> intro hc
  ·
   refine zsr ?_
   refine zlv (xlb 2 pl_22 hS) ?_
   refine zle (xsb 2 pl_22 hS (hv := hvz1.one)) ?_; clear hS; rintro w hS
   replace hS := hS.n7
   refine zlv xas ?_
   refine zlt <| zrt <| ztr <| zfcp pl_22 (hS.cellN 2 rfl rfl) ⟨_, rfl, ?_⟩
   obtain ⟨h8, h9⟩ := chk_bad hb (Classical.not_not.1 ‹¬ ¬ ValidT t›) ‹wrT t p b ≠ none›
   exact ⟨_, _, _, by rw [h8], hvz1, by rw [h9]; exact hiz1, hS.pk [4]⟩
  refine zsk <| ztn <| zsr ?_
  refine zle (xsb 2 pl_22 hS) ?_; clear hS; rintro w hS
  replace hS := hS.n7
  refine zlv xas ?_
  refine zlt <| zrt <| zfcp pl_22 (hS.cellN 2 rfl rfl) ⟨_, rfl, ?_⟩
  obtain ⟨h8, h9⟩ := chk_ok hb (Classical.not_not.1 ‹¬ ¬ ValidT t›) (Classical.byContradiction ‹¬ (wrT t p b ≠ none)›)
  exact ⟨_, 0, fun _ => 0, by rw [h8], slh_nil, by rw [h9]; exact IsL.nil, (hS.dqnil 3 (fun _ => 0)).sub (.cons _ (.cons _ (.cons _ (.cons _ (.cons _ (.cons _ (.cons _ (.cons_cons _ .slnil))))))))⟩
theorem c_chk {t : Tr} {vL vD : Value} {p : Prob} {b : Int} (w0 : World) (h : PAt w0 vL vD p) (hK : KAt w0 t) (hV : LvAt w0 t) :
    Calls Tryz.prog 21 [.agg #[vL, vD, .int .i64 p.stock, .int .i64 p.kerf, .int .i64 b], .agg #[.int .i64 t.s, t.vK, t.vL]].toArray w0 fun e w => ∃ v, e = .returned v ∧ ∃ r q f, v = .tuple #[r, .int .i64 (chkE t p b)] ∧ Slh r q ∧ IsL q f (chkL t p b) ∧ Sat w0 w [.sem (Frame.dq 3 r q f)] := by
  have hn := hK.row.slh.n0; have hn1 := hK.row.slh.n1; have hln := hV.leaf.row.slh.n0; have hln1 := hV.leaf.row.slh.n1
  have hm := h.L.slh.n0; have hm1 := h.L.slh.n1; have hd := h.D.slh.n0; have hd1 := h.D.slh.n1; have hs := h.is; have hk := h.ik
  refine zenG Tryz.func21 Tryz.ntmps21 fun w hS => ?_
  refine zsr ?_
  refine zla (xbx (cs := [_, _, _, _, _]) hS) ?_; rintro _ w ⟨g1, rfl, hS⟩
  replace hS := hS.n1
  refine zla (xbx (cs := [_, _, _]) hS) ?_; rintro _ w ⟨g2, rfl, hS⟩
  replace hS := hS.n2
  refine zs2 ?_
  refine zlt <| zsq <| zsr ?_
  refine zlv (xls 0 st_34 hS) ?_
  refine zlc (xc0 cl_43) (c_poss (p := p) (b := b) w (h.below hS.below)) ?_; rintro _ w ⟨rfl, hS'⟩
  replace hS := hS.cmp hS'; clear hS'
  refine zlv xnot ?_
  refine zlt ?_
  refine zcif ?_ ?_ <;> intro hc
  ·
   refine zsr ?_
   refine zs2 ?_
   refine zlt <| zrt <| ztr <| zf2 ⟨_, rfl, ?_⟩
   obtain ⟨h8, h9⟩ := chk_no (t := t) (p := p) (b := b) (fun hh => ‹¬ PossP p b› hh.1)
   exact ⟨_, 0, fun _ => 0, by rw [h8], slh_nil, by rw [h9]; exact IsL.nil, (hS.dqnil 3 (fun _ => 0)).sub (.cons _ (.cons _ (.cons_cons _ .slnil)))⟩
  refine zsk <| ztn <| zsr ?_
  refine zlv (xls 0 st_34 hS) ?_
  refine zlv (xls 1 st_54 hS) ?_
  refine zlc (xc0 cl_50) (c_pchk (t := t) (p := p) (b := b) w (h.below hS.below) (Classical.not_not.1 ‹¬ ¬ PossP p b›) (KAt.below hS.below (hK)) (LvAt.below hS.below (hV))) ?_; rintro _ w ⟨rk1, k1, fk1, rfl, hrk1, hik1, hS'⟩
  replace hS : Sat w0 w [.blk g1 [vL, vD, .int .i64 p.stock, .int .i64 p.kerf, .int .i64 b], .blk g2 [.int .i64 t.s, t.vK, t.vL], .sem (Frame.dq 3 rk1 k1 fk1)] := hS.comp hS'; clear hS'
  refine zs4 ?_
  refine zlt <| zrt <| zf2 ⟨_, rfl, ?_⟩
  exact ⟨_, _, _, rfl, hrk1, hik1, hS.pk [2]⟩
end Go.Proofs.YtkichmnjjblodaaGreat
namespace Go.Proofs.Gw
def PermOn (lo hi : Int) (a b : Int → Int) : Prop := ∃ p q : Int → Int, (∀ k, p (q k) = k ∧ q (p k) = k) ∧ (∀ k, ¬ (lo ≤ k ∧ k < hi) → p k = k) ∧ ∀ k, b k = a (p k)
theorem PermOn.refl (lo hi : Int) (a : Int → Int) : PermOn lo hi a a := ⟨id, id, fun _ => ⟨rfl, rfl⟩, fun _ _ => rfl, fun _ => rfl⟩
theorem PermOn.trans {lo hi : Int} {a b c : Int → Int} (h : PermOn lo hi a b) (k : PermOn lo hi b c) : PermOn lo hi a c := by
  obtain ⟨p, q, h1, h2, h3⟩ := h
  obtain ⟨p', q', k1, k2, k3⟩ := k
  refine ⟨fun x => p (p' x), fun x => q' (q x), fun x => ⟨?_, ?_⟩, fun x hx => ?_, fun x => ?_⟩
  · show p (p' (q' (q x))) = x
    rw [(k1 _).1, (h1 _).1]
  · show q' (q (p (p' x))) = x
    rw [(h1 _).2, (k1 _).2]
  · show p (p' x) = x
    rw [k2 x hx, h2 x hx]
  · rw [k3, h3]
theorem PermOn.mono {lo hi lo' hi' : Int} {a b : Int → Int} (h : PermOn lo hi a b) (h0 : lo' ≤ lo) (h1 : hi ≤ hi') : PermOn lo' hi' a b := by
  obtain ⟨p, q, h2, h3, h4⟩ := h
  exact ⟨p, q, h2, fun k hk => h3 k (by omega), h4⟩
theorem PermOn.out {lo hi : Int} {a b : Int → Int} (h : PermOn lo hi a b) {k : Int} (hk : ¬ (lo ≤ k ∧ k < hi)) : b k = a k := by
  obtain ⟨p, q, h2, h3, h4⟩ := h
  rw [h4, h3 k hk]
theorem PermOn.fr {lo hi : Int} {a b : Int → Int} (h : PermOn lo hi a b) {k : Int} (k0 : lo ≤ k) (k1 : k < hi) : ∃ j, lo ≤ j ∧ j < hi ∧ b k = a j := by
  obtain ⟨p, q, h2, h3, h4⟩ := h
  by_cases hj : lo ≤ p k ∧ p k < hi
  · exact ⟨p k, hj.1, hj.2, h4 k⟩
  · have h5 := h3 (p k) hj
    have h6 : p k = k := by
      have := congrArg q h5
      rw [(h2 _).2, (h2 _).2] at this; exact this
    rw [h6] at hj
    exact absurd ⟨k0, k1⟩ hj
theorem PermOn.symm {lo hi : Int} {a b : Int → Int} (h : PermOn lo hi a b) : PermOn lo hi b a := by
  obtain ⟨p, q, h2, h3, h4⟩ := h
  refine ⟨q, p, fun k => ⟨(h2 k).2, (h2 k).1⟩, fun k hk => ?_, fun k => ?_⟩
  · have := congrArg q (h3 k hk)
    rw [(h2 k).2] at this; exact this.symm
  · rw [h4, (h2 k).1]
def swp (a : Int → Int) (i j : Int) : Int → Int := fun k => if k = i then a j else if k = j then a i else a k
theorem swp_perm {a : Int → Int} {i j lo hi : Int} (i0 : lo ≤ i) (i1 : i < hi) (j0 : lo ≤ j) (j1 : j < hi) : PermOn lo hi a (swp a i j) := by
  have e : ∀ k, (fun k => if k = i then j else if k = j then i else k : Int → Int) ((fun k => if k = i then j else if k = j then i else k : Int → Int) k) = k := fun k => by
    dsimp only; split <;> (try split) <;> (try split) <;> (try split) <;> omega
  refine ⟨fun k => if k = i then j else if k = j then i else k, fun k => if k = i then j else if k = j then i else k, fun k => ⟨e k, e k⟩, fun k hk => ?_, fun k => ?_⟩
  · dsimp only; rw [if_neg (by omega), if_neg (by omega)]
  · unfold swp; dsimp only; split
    · rfl
    · split <;> rfl
def Srt (R : Int → Int → Prop) (lo hi : Int) (a : Int → Int) : Prop := ∀ i j, lo ≤ i → i < j → j < hi → R (a i) (a j)
theorem Srt.mono {R : Int → Int → Prop} {lo hi lo' hi' : Int} {a : Int → Int} (h : Srt R lo hi a) (h0 : lo ≤ lo') (h1 : hi' ≤ hi) : Srt R lo' hi' a := fun i j i0 ij j1 => h i j (by omega) ij (by omega)
theorem Srt.congr {R : Int → Int → Prop} {lo hi : Int} {a b : Int → Int} (h : Srt R lo hi a) (e : ∀ k, lo ≤ k → k < hi → b k = a k) : Srt R lo hi b := fun i j i0 ij j1 => by
  rw [e i i0 (by omega), e j (by omega) j1]; exact h i j i0 ij j1
def Tie (lt : Int → Int → Prop) : Int → Int → Prop := fun x y => lt x y ∨ (¬ lt y x ∧ x < y)
structure Swo (lt : Int → Int → Prop) : Prop where
  asym : ∀ x y, lt x y → ¬ lt y x
  trans : ∀ x y z, lt x y → lt y z → lt x z
  inc : ∀ x y z, ¬ lt x y → ¬ lt y z → ¬ lt x z
theorem Tie.trans {lt : Int → Int → Prop} (h : Swo lt) {x y z : Int} (a : Tie lt x y) (b : Tie lt y z) : Tie lt x z := by
  rcases a with a | ⟨a1, a2⟩ <;> rcases b with b | ⟨b1, b2⟩
  · exact .inl (h.trans _ _ _ a b)
  · left; exact Classical.byContradiction fun hn => h.inc _ _ _ hn b1 a
  · left; exact Classical.byContradiction fun hn => h.inc _ _ _ a1 hn b
  · exact .inr ⟨h.inc _ _ _ b1 a1, by omega⟩
theorem Tie.asym {lt : Int → Int → Prop} (h : Swo lt) {x y : Int} (a : Tie lt x y) : ¬ Tie lt y x := by
  rintro (b | ⟨b1, b2⟩)
  · rcases a with a | ⟨a1, a2⟩
    · exact h.asym _ _ a b
    · exact a1 b
  · rcases a with a | ⟨a1, a2⟩
    · exact b1 a
    · omega
theorem Tie.of {lt : Int → Int → Prop} (h : Swo lt) {x y : Int} (hxy : x < y) (hn : ¬ lt y x) : Tie lt x y := by
  by_cases hl : lt x y
  · exact .inl hl
  · exact .inr ⟨hn, hxy⟩
def Parted (lo c hi : Int) (a : Int → Int) : Prop := ∀ i j, lo ≤ i → i < c → c ≤ j → j < hi → a i < a j
theorem Parted.perm {lo c hi : Int} {a b : Int → Int} (h : Parted lo c hi a) (hp : ∃ m, PermOn lo c a m ∧ PermOn c hi m b) : Parted lo c hi b := fun i j i0 i1 j0 j1 => by
  obtain ⟨m, h1, h2⟩ := hp
  obtain ⟨i', g0, g1, g2⟩ := h1.fr i0 i1
  obtain ⟨j', f0, f1, f2⟩ := h2.fr j0 j1
  rw [h2.out (by omega), g2, f2, h1.out (by omega)]
  exact h i' j' g0 g1 f0 f1
structure Ins (lt : Int → Int → Prop) (lo i j : Int) (a b : Int → Int) : Prop where
  perm : PermOn lo (i + 1) a b
  rest : ∀ p q, lo ≤ p → p < q → q ≤ i → p ≠ j → q ≠ j → Tie lt (b p) (b q)
  less : ∀ q, j < q → q ≤ i → Tie lt (b j) (b q)
  big : ∀ p, lo ≤ p → p < j → b p < b j
theorem Ins.start {lt : Int → Int → Prop} {lo i : Int} {a : Int → Int} (i0 : lo ≤ i) (hs : Srt (Tie lt) lo i a) (hb : ∀ p, lo ≤ p → p < i → a p < a i) : Ins lt lo i i a a :=
  ⟨.refl _ _ _, fun p q p0 pq q1 pi qi => hs p q p0 pq (by omega), fun q q0 q1 => by omega, hb⟩
theorem Ins.step {lt : Int → Int → Prop} {lo i j : Int} {a b : Int → Int} (j0 : lo < j) (j1 : j ≤ i) (h : Ins lt lo i j a b) (hl : lt (b j) (b (j - 1))) : Ins lt lo i (j - 1) a (swp b j (j - 1)) := by
  have e0 : swp b j (j - 1) j = b (j - 1) := by unfold swp; rw [if_pos rfl]
  have e1 : swp b j (j - 1) (j - 1) = b j := by unfold swp; rw [if_neg (by omega), if_pos rfl]
  have e2 : ∀ k, k ≠ j → k ≠ j - 1 → swp b j (j - 1) k = b k := fun k h1 h2 => by unfold swp; rw [if_neg h1, if_neg h2]
  refine ⟨h.perm.trans (swp_perm (by omega) (by omega) (by omega) (by omega)), fun p q p0 pq q1 pj qj => ?_, fun q q0 q1 => ?_, fun p p0 p1 => ?_⟩
  · by_cases hp : p = j
    · rw [hp, e0, e2 q (by omega) qj]; exact h.rest (j - 1) q (by omega) (by omega) q1 (by omega) (by omega)
    · rw [e2 p hp pj]
      by_cases hq : q = j
      · rw [hq, e0]; exact h.rest p (j - 1) p0 (by omega) (by omega) hp (by omega)
      · rw [e2 q hq qj]; exact h.rest p q p0 pq q1 hp hq
  · rw [e1]
    by_cases hq : q = j
    · rw [hq, e0]; exact .inl hl
    · rw [e2 q hq (by omega)]; exact h.less q (by omega) q1
  · rw [e1, e2 p (by omega) (by omega)]; exact h.big p p0 (by omega)
theorem Ins.fin {lt : Int → Int → Prop} (hw : Swo lt) {lo i j : Int} {a b : Int → Int} (j0 : lo ≤ j) (j1 : j ≤ i) (h : Ins lt lo i j a b) (hl : j = lo ∨ ¬ lt (b j) (b (j - 1))) : Srt (Tie lt) lo (i + 1) b := fun p q p0 pq q1 => by
  have hle : ∀ p, lo ≤ p → p < j → Tie lt (b p) (b j) := fun p p0 p1 => by
    rcases hl with hl | hl
    · omega
    · have h1 : Tie lt (b (j - 1)) (b j) := Tie.of hw (h.big (j - 1) (by omega) (by omega)) hl
      by_cases hp : p = j - 1
      · rw [hp]; exact h1
      · exact (h.rest p (j - 1) p0 (by omega) (by omega) (by omega) (by omega)).trans hw h1
  by_cases hp : p = j
  · rw [hp]; exact h.less q (by omega) (by omega)
  · by_cases hq : q = j
    · rw [hq]; exact hle p p0 (by omega)
    · exact h.rest p q p0 pq (by omega) hp hq
structure Halves (lt : Int → Int → Prop) (a s mid e b : Int) (t : Int → Int) : Prop where
  l1 : Srt (Tie lt) a s t
  l2 : Srt (Tie lt) s mid t
  r1 : Srt (Tie lt) mid e t
  r2 : Srt (Tie lt) e b t
  pl : Parted a s mid t
  pr : Parted mid e b t
  cross : ∀ i j, a ≤ i → i < mid → mid ≤ j → j < b → Tie lt (t i) (t j)
theorem Halves.left {lt : Int → Int → Prop} {a s mid e b : Int} {t : Int → Int} (h : Halves lt a s mid e b t) (hn : ¬ (a < s ∧ s < mid)) (s0 : a ≤ s) (s1 : s ≤ mid) : Srt (Tie lt) a mid t := by
  by_cases h1 : a < s
  · obtain rfl : s = mid := by omega
    exact h.l1
  · obtain rfl : a = s := by omega
    exact h.l2
theorem Halves.right {lt : Int → Int → Prop} {a s mid e b : Int} {t : Int → Int} (h : Halves lt a s mid e b t) (hn : ¬ (mid < e ∧ e < b)) (s0 : mid ≤ e) (s1 : e ≤ b) : Srt (Tie lt) mid b t := by
  by_cases h1 : mid < e
  · obtain rfl : e = b := by omega
    exact h.r1
  · obtain rfl : mid = e := by omega
    exact h.r2
theorem Halves.keep {lt : Int → Int → Prop} {a s mid e b : Int} {t u : Int → Int} (h : Halves lt a s mid e b t) (hp : PermOn a mid t u) : Srt (Tie lt) mid e u ∧ Srt (Tie lt) e b u ∧ Parted mid e b u ∨ e < mid := by
  by_cases he : mid ≤ e
  · refine .inl ⟨h.r1.congr fun k k0 k1 => hp.out (by omega), h.r2.congr fun k k0 k1 => hp.out (by omega), fun i j i0 i1 j0 j1 => ?_⟩
    rw [hp.out (by omega), hp.out (by omega)]; exact h.pr i j i0 i1 j0 j1
  · exact .inr (by omega)
theorem Parted.keep {lo c hi x y : Int} {a b : Int → Int} (h : Parted lo c hi a) (hp : PermOn x y a b) (x0 : lo ≤ x) (y0 : y ≤ hi) (hc : y ≤ c ∨ c ≤ x) : Parted lo c hi b := fun i j i0 i1 j0 j1 => by
  have gi : ∃ i', lo ≤ i' ∧ i' < c ∧ b i = a i' := by
    by_cases hx : x ≤ i ∧ i < y
    · obtain ⟨i', g0, g1, g2⟩ := hp.fr hx.1 hx.2
      exact ⟨i', by omega, by omega, g2⟩
    · exact ⟨i, i0, i1, hp.out hx⟩
  have gj : ∃ j', c ≤ j' ∧ j' < hi ∧ b j = a j' := by
    by_cases hx : x ≤ j ∧ j < y
    · obtain ⟨j', g0, g1, g2⟩ := hp.fr hx.1 hx.2
      exact ⟨j', by omega, by omega, g2⟩
    · exact ⟨j, j0, j1, hp.out hx⟩
  obtain ⟨i', a1, a2, a3⟩ := gi
  obtain ⟨j', b1, b2, b3⟩ := gj
  rw [a3, b3]; exact h i' j' a1 a2 b1 b2
def Runs_ (lt : Int → Int → Prop) (s n x y : Int) (t : Int → Int) : Prop := ∀ c, x ≤ c → c < y → s ∣ c → Srt (Tie lt) c (min (c + s) n) t ∧ Parted 0 c n t
theorem Runs_.keep {lt : Int → Int → Prop} {s n x y p q : Int} {t u : Int → Int} (h : Runs_ lt s n x y t) (hp : PermOn p q t u) (p0 : 0 ≤ p) (q0 : q ≤ n) (hc : ∀ c, x ≤ c → c < y → s ∣ c → min (c + s) n ≤ p ∧ c ≤ p ∨ q ≤ c) : Runs_ lt s n x y u := fun c c0 c1 cd => by
  have h1 := h c c0 c1 cd
  have h2 := hc c c0 c1 cd
  exact ⟨h1.1.congr fun k k0 k1 => hp.out (by omega), h1.2.keep hp p0 q0 (by omega)⟩
theorem Halves.after {lt : Int → Int → Prop} {a s mid e b : Int} {t u : Int → Int} (h : Halves lt a s mid e b t) (hp : PermOn a mid t u) (hs : Srt (Tie lt) a mid u) (e0 : mid ≤ e) (e1 : e ≤ b) : Halves lt a a mid e b u := by
  refine ⟨fun i j i0 ij j1 => by omega, hs, h.r1.congr fun k k0 k1 => hp.out (by omega), h.r2.congr fun k k0 k1 => hp.out (by omega), fun i j i0 i1 j0 j1 => by omega, fun i j i0 i1 j0 j1 => ?_, fun i j i0 i1 j0 j1 => ?_⟩
  · rw [hp.out (by omega), hp.out (by omega)]; exact h.pr i j i0 i1 j0 j1
  · obtain ⟨i', g0, g1, g2⟩ := hp.fr i0 i1
    rw [g2, hp.out (k := j) (by omega)]; exact h.cross i' j g0 g1 j0 j1
end Go.Proofs.Gw
namespace Go.Proofs.Gw
def lst (n : Int) (f : Int → Int) : List Int := (List.range n.toNat).map fun (k : Nat) => f (k : Int)
def olt : Option Int → Option Int → Prop
  | none, some _ => True
  | some x, some y => x < y
  | _, _ => False
theorem olt_irr : ∀ a, ¬ olt a a
  | none => id
  | some x => by simp [olt]
theorem olt_trans : ∀ {a b c}, olt a b → olt b c → olt a c
  | none, some _, some _, _, _ => trivial
  | some x, some y, some z, h, k => by simp only [olt] at *; omega
def ahd (a b : List Int) : Prop := ∃ j : Nat, (∀ k < j, a[k]? = b[k]?) ∧ olt b[j]? a[j]?
theorem ahd_asym {a b : List Int} (h : ahd a b) : ¬ ahd b a := by
  rintro ⟨j, h1, h2⟩
  obtain ⟨i, g1, g2⟩ := h
  rcases Nat.lt_trichotomy i j with h | h | h
  · rw [h1 i h] at g2; exact olt_irr _ g2
  · subst h; exact olt_irr _ (olt_trans g2 h2)
  · rw [g1 j h] at h2; exact olt_irr _ h2
abbrev Us := List (List Int × Int)
def addU : Us → List Int × Int → Us
  | [], u => [u]
  | v :: r, u => if v.1 = u.1 then (v.1, v.2 + u.2) :: r else v :: addU r u
def sums (l : Us) : Us := l.foldl addU []
theorem addU_pos : ∀ {a : Us} {u : List Int × Int}, (∀ x ∈ a, 1 ≤ x.2) → 1 ≤ u.2 → ∀ x ∈ addU a u, 1 ≤ x.2
  | [], u, _, hu, x, h => by simp [addU] at h; rw [h]; exact hu
  | v :: r, u, ha, hu, x, h => by
    have hv := ha v (by simp)
    rw [addU] at h
    split at h
    · rcases List.mem_cons.1 h with h | h
      · rw [h]; dsimp only; omega
      · exact ha x (by simp [h])
    · rcases List.mem_cons.1 h with h | h
      · rw [h]; exact hv
      · exact addU_pos (fun y hy => ha y (by simp [hy])) hu x h
theorem foldl_pos : ∀ (l a : Us), (∀ x ∈ a, 1 ≤ x.2) → (∀ x ∈ l, 1 ≤ x.2) → ∀ x ∈ l.foldl addU a, 1 ≤ x.2
  | [], _, h, _ => h
  | u :: l, a, h, hl => foldl_pos l _ (addU_pos h (hl u (by simp))) fun x hx => hl x (by simp [hx])
theorem sums_pos {l : Us} (h : ∀ x ∈ l, 1 ≤ x.2) : ∀ x ∈ sums l, 1 ≤ x.2 := foldl_pos l [] (by simp) h
def NormR (l out : Us) : Prop := out.Perm (sums l) ∧ out.Pairwise (fun u v => ahd u.1 v.1)
theorem NormR.same {l a b : Us} (h : NormR l a) (k : NormR l b) : a = b :=
  (h.1.trans k.1.symm).eq_of_pairwise (le := fun u v => ahd u.1 v.1) (fun x y _ _ h1 h2 => absurd h2 (ahd_asym h1)) h.2 k.2
theorem NormR.pos {l a : Us} (h : NormR l a) (hp : ∀ x ∈ l, 1 ≤ x.2) : ∀ x ∈ a, 1 ≤ x.2 := fun x hx => sums_pos hp x (h.1.mem_iff.1 hx)
end Go.Proofs.Gw
namespace Go.Proofs.Gw
open Go Go.RowKit
theorem PermOn.inj {lo hi : Int} {t : Int → Int} (h : PermOn lo hi (fun k => k) t) {i j : Int} (e : t i = t j) : i = j := by
  obtain ⟨p, q, e1, e2, e3⟩ := h
  rw [e3, e3] at e
  have := congrArg q e
  rwa [(e1 _).2, (e1 _).2] at this
end Go.Proofs.Gw
namespace Go.Proofs.Gw
def psum (f d : Int → Int) : Nat → Int
  | 0 => 0
  | k + 1 => psum f d k + f k * d k
theorem psum_next (f d : Int → Int) {i : Int} (h : 0 ≤ i) : psum f d (i + 1).toNat = psum f d i.toNat + f i * d i := by
  rw [show (i + 1).toNat = i.toNat + 1 by omega, psum, Int.toNat_of_nonneg h]
def puse (sz : Int → Int) (p : List Int) : Int := ((List.range p.length).map fun (k : Nat) => p.getD k 0 * sz k).sum
structure FFOk (m room : Int) (sz : Int → Int) (hist : List Int) (s : Us) : Prop where
  ok : ∀ b ∈ s, b.1.length = m.toNat ∧ puse sz b.1 + b.2 = room ∧ 0 ≤ b.2
  pr : s.Pairwise fun a b => a.2 + b.2 < room
  mt : (s.map fun b => room - b.2).sum = (hist.map sz).sum
  ct : ∀ g : Int → Int, (s.map fun b => puse g b.1).sum = (hist.map g).sum
  ln : s.length ≤ hist.length
  nn : ∀ b ∈ s, ∀ v ∈ b.1, 0 ≤ v
theorem FFOk.nil (m room : Int) (sz : Int → Int) : FFOk m room sz [] [] := ⟨by simp, .nil, rfl, fun _ => rfl, by simp, by simp⟩
end Go.Proofs.Gw
namespace Go.Proofs.YtkichmnjjblodaaGreat
open Go Go.RowKit Go.Proofs.Gw
def PlanOk (p : Prob) (u : Int) (ln : Int → Int) (pt : Int → Int → Int) (cnt : Int → Int) : Prop := p.Ok ∧ u ≤ 1000 ∧ ∀ k, 0 ≤ k → k < u → 1 ≤ cnt k ∧ cnt k ≤ 1000 ∧ FitsP p (ln k) (pt k)
def madeF (u : Int) (pt : Int → Int → Int) (cnt : Int → Int) : Int → Int := fun j => psum (fun k => pt k j) cnt u.toNat
theorem madeF_next {pt : Int → Int → Int} {cnt : Int → Int} {i j : Int} (i0 : 0 ≤ i) : madeF (i + 1) pt cnt j = madeF i pt cnt j + pt i j * cnt i := psum_next _ _ i0
theorem mul_rng3 {a b A B : Int} (a0 : 0 ≤ a) (a1 : a ≤ A) (b0 : 0 ≤ b) (b1 : b ≤ B) : 0 ≤ a * b ∧ a * b ≤ A * B :=
  ⟨Int.mul_nonneg a0 b0, Int.mul_le_mul a1 b1 b0 (by omega)⟩
theorem madeF_rng {p : Prob} {u : Int} {ln cnt : Int → Int} {pt : Int → Int → Int} (h : ∀ k, 0 ≤ k → k < u → 1 ≤ cnt k ∧ cnt k ≤ 1000 ∧ FitsP p (ln k) (pt k)) : ∀ {i : Int}, 0 ≤ i → i ≤ u → ∀ {j : Int}, 0 ≤ j → j < p.m → 0 ≤ madeF i pt cnt j ∧ madeF i pt cnt j ≤ 2000000 * i := by
  intro i i0
  obtain ⟨n, rfl⟩ := Int.eq_ofNat_of_zero_le i0
  induction n with
  | zero => intro _ j _ _; exact ⟨Int.le_refl _, by show (0 : Int) ≤ _; omega⟩
  | succ n ih =>
    intro hi j j0 j1
    have h1 := ih (by omega) (by omega) j0 j1
    obtain ⟨h2, h3, h4⟩ := h n (by omega) (by omega)
    have h5 := h4.all j j0 (by have := h4.eq; omega)
    have h6 := mul_rng3 h5.1 h5.2 (show 0 ≤ cnt n by omega) h3
    have h7 := madeF_next (pt := pt) (cnt := cnt) (i := (n : Int)) (j := j) (by omega)
    rw [show ((n + 1 : Nat) : Int) = (n : Int) + 1 by omega, h7]; omega
end Go.Proofs.YtkichmnjjblodaaGreat
namespace Go.Proofs.YtkichmnjjblodaaGreat
open Go Go.RowKit Go.Proofs.Gw
theorem c_vsound {vV : Value} {u : Int} {pv : Int → Value} {ln : Int → Int} {pt : Int → Int → Int} {cnt : Int → Int} {vL vD : Value} {p : Prob} (w0 : World) (hV : VAt w0 vV u pv ln pt cnt) (h : PAt w0 vL vD p) :
    Calls Tryz.prog 89 [.agg #[vL, vD, .int .i64 p.stock, .int .i64 p.kerf], vV].toArray w0 fun e w => ∃ v, e = .returned v ∧ v = B (PlanOk p u ln pt cnt) ∧ Sat w0 w [] := by
  have hm := h.L.slh.n0; have hm1 := h.L.slh.n1; have hd := h.D.slh.n0; have hd1 := h.D.slh.n1; have hs := h.is; have hk := h.ik
  have hu := hV.row.slh.n0; have hu1 := hV.row.slh.n1
  refine zenG Tryz.func89 Tryz.ntmps89 fun w hS => ?_
  refine zsr ?_
  refine zla (xbx (cs := [_, _, _, _]) hS) ?_; rintro _ w ⟨g1, rfl, hS⟩
  replace hS := hS.n1
  refine zlv xas ?_
  refine zlt <| zsq <| zsr ?_
  refine zlv (xls 0 st_24 hS) ?_
  refine zlc (xc0 cl_28) (c_rvalid28 (p := p) w (h.below hS.below)) ?_; rintro _ w ⟨rfl, hS'⟩
  replace hS := hS.cmp hS'; clear hS'
  refine zs2 ?_
  refine zlb 9 ?_ ?_ <;> intro hc
  ·
   iterate 3 refine zlo ?_
   refine zlv xpt ?_
   refine zlt <| zct <| zsr ?_
   refine zlv xas ?_
   refine zlt <| zrt <| ztr <| zf1 ⟨_, rfl, ?_⟩
   refine ⟨false_B (fun hh => ?_), hS.nl⟩
   first
   | exact absurd hh.1 ‹¬ p.Ok›
   | (have := hh.2.1; omega)
   | (have h9 := hh.2.2 i h0 (by omega); first | exact absurd h9.2.2 ‹_› | omega)
  refine zlv xmv ?_
  refine zlv (xln sl_46 hV.row.slh) ?_
  refine zs2 ?_
  refine zlt ?_
  refine zcif ?_ ?_ <;> intro hc
  ·
   refine zsr ?_
   refine zlv xas ?_
   refine zlt <| zrt <| ztr <| zf1 ⟨_, rfl, ?_⟩
   refine ⟨false_B (fun hh => ?_), hS.nl⟩
   first
   | exact absurd hh.1 ‹¬ p.Ok›
   | (have := hh.2.1; omega)
   | (have h9 := hh.2.2 i h0 (by omega); first | exact absurd h9.2.2 ‹_› | omega)
  refine zsk <| ztn <| zsq <| zsr ?_
  refine zlv xas ?_
  refine zlt <| zbk ?_
  have hok9 : p.Ok := by first | assumption | exact Classical.not_not.1 ‹_›
  refine zlp (fun mm M w => ∃ (i : Int), mm = ((u - i).toNat) ∧ (0 ≤ i) ∧ (i ≤ u) ∧ (∀ k, 0 ≤ k → k < i → 1 ≤ cnt k ∧ cnt k ≤ 1000 ∧ FitsP p (ln k) (pt k)) ∧ M = [(1, vV), (2, .pointer (some ⟨g1, 0, none⟩)), (5, .int .i64 i)] ∧ Sat w0 w [.blk g1 [vL, vD, .int .i64 p.stock, .int .i64 p.kerf]]) ⟨0, rfl, (by omega), (by omega), ?_, rfl, hS⟩ ?_
  ·
   intro k h0 h1; omega
  clear hS w
  rintro mm M w ⟨i, rfl, h0, h1, hall, rfl, hS⟩
  refine zsq <| zsr ?_
  refine zs2 ?_
  refine zlv (xln sl_46 hV.row.slh) ?_
  refine zlv xlss ?_
  refine zlt ?_
  refine zcif ?_ ?_ <;> intro hc
  ·
   refine zsk <| ztn <| zsq <| zbk <| zsq ?_
   refine zdst [0] [0] 1000 mx_ hS ?_; clear hS; intro w hS
   refine zdla 0 (fun w hS => (xls 0 st_24 hS)) ?_
   refine zdv 1 (fun _ => xmv) ?_
   refine zdv 2 (fun _ => xmv) ?_
   refine zdv 3 (fun _ => (xix (kk := 2 * i) sl_46 hV.row.slh)) ?_
   refine zdv 4 (fun _ => (xfc (kk := 2 * i) fd_103_0 hV.row.slh)) ?_
   refine zdla 5 (fun w hS => (xlr (u := (pv i)) pl_22 (hV.row.below hS.below) (e := (ucells0 pv cnt (by omega))))) ?_
   refine zdc 6 (xc0 cl_90) (c_fits (p := p) w (h.below hS.below) ((hV.p i (by omega) (by omega)).below hS.below)) ?_; rintro _ w ⟨rfl, hS'⟩
   replace hS := hS.cmp hS'; clear hS'
   refine ⟨⟨fun _ => hS, hS⟩, ?_⟩
   refine zdv 7 (fun _ => xnot) ?_
   refine zdv 8 (fun _ => xmv) ?_
   refine zdb 28 ?_ ?_ <;> intro hc
   ·
    refine zdof 9 ?_
    refine zdof 10 ?_
    refine zdof 11 ?_
    refine zdof 12 ?_
    refine zdof 13 ?_
    refine zdof 14 ?_
    refine zdv 15 (fun _ => xpt) ?_
    refine zdv 16 (fun _ => xmv) ?_
    refine zdof 17 ?_
    refine zdof 18 ?_
    refine zdof 19 ?_
    refine zdof 20 ?_
    refine zdof 21 ?_
    refine zdof 22 ?_
    refine zdv 23 (fun _ => xpt) ?_
    refine zdd <| ztn <| zct <| zsr ?_
    refine zlv xas ?_
    refine zlt <| zrt <| zbr <| ztr <| ztr <| zbr <| ztr <| zf1 ⟨_, rfl, ?_⟩
    refine ⟨false_B (fun hh => ?_), hS.nl⟩
    first
    | exact absurd hh.1 ‹¬ p.Ok›
    | (have := hh.2.1; omega)
    | (have h9 := hh.2.2 i h0 (by omega); first | exact absurd h9.2.2 ‹_› | omega)
   refine zdv 9 (fun _ => xmv) ?_
   refine zdv 10 (fun _ => xmv) ?_
   refine zdv 11 (fun _ => (xix (kk := 2 * i) sl_46 hV.row.slh)) ?_
   refine zdv 12 (fun _ => (xfc (kk := 2 * i + 1) fd_103_1 hV.row.slh)) ?_
   refine zdla 13 (fun w hS => (xlr (u := .int .i64 (cnt i)) pl_3 (hV.row.below hS.below) (e := (ucells1 pv cnt (by omega))))) ?_
   refine zdv 14 (fun _ => xlss) ?_
   refine zdv 15 (fun _ => xpf) ?_
   refine zdv 16 (fun _ => xmv) ?_
   refine zdb 36 ?_ ?_ <;> intro hc
   ·
    refine zdof 17 ?_
    refine zdof 18 ?_
    refine zdof 19 ?_
    refine zdof 20 ?_
    refine zdof 21 ?_
    refine zdof 22 ?_
    refine zdv 23 (fun _ => xpt) ?_
    refine zdd <| ztn <| zct <| zsr ?_
    refine zlv xas ?_
    refine zlt <| zrt <| zbr <| ztr <| ztr <| zbr <| ztr <| zf1 ⟨_, rfl, ?_⟩
    refine ⟨false_B (fun hh => ?_), hS.nl⟩
    first
    | exact absurd hh.1 ‹¬ p.Ok›
    | (have := hh.2.1; omega)
    | (have h9 := hh.2.2 i h0 (by omega); first | exact absurd h9.2.2 ‹_› | omega)
   refine zdv 17 (fun _ => xmv) ?_
   refine zdv 18 (fun _ => xmv) ?_
   refine zdv 19 (fun _ => (xix (kk := 2 * i) sl_46 hV.row.slh)) ?_
   refine zdv 20 (fun _ => (xfc (kk := 2 * i + 1) fd_103_1 hV.row.slh)) ?_
   refine zdla 21 (fun w hS => (xlr (u := .int .i64 (cnt i)) pl_3 (hV.row.below hS.below) (e := (ucells1 pv cnt (by omega))))) ?_
   refine zdv 22 (fun _ => xgtr) ?_
   refine zdv 23 (fun _ => xpf) ?_
   refine zdd <| ztn ?_
   refine zcif ?_ ?_ <;> intro hc
   ·
    refine zsr ?_
    refine zlv xas ?_
    refine zlt <| zrt <| zbr <| ztr <| ztr <| zbr <| ztr <| zf1 ⟨_, rfl, ?_⟩
    refine ⟨false_B (fun hh => ?_), hS.nl⟩
    first
    | exact absurd hh.1 ‹¬ p.Ok›
    | (have := hh.2.1; omega)
    | (have h9 := hh.2.2 i h0 (by omega); first | exact absurd h9.2.2 ‹_› | omega)
   refine zsk <| zbn <| ztn <| zrg ?_
   refine zlv xmv ?_
   refine zlv (xadd (r := i + 1)) ?_
   refine zlv xas ?_
   refine zln <| zlq ⟨i + 1, rfl, (by omega), (by omega), ?_, rfl, hS⟩
   ·
    intro k h0' h1'; rcases Int.lt_or_eq_of_le (show k ≤ i by omega) with hk | hk; exact hall k h0' hk; rw [hk]; exact ⟨by omega, by omega, by first | assumption | exact Classical.not_not.1 ‹_›⟩
  refine zxt <| ztx <| ztx <| zbh <| ztn <| zsr ?_
  refine zlv xas ?_
  refine zlt <| zrt <| zf1 ⟨_, rfl, ?_⟩
  exact ⟨true_B ⟨hok9, by omega, fun k k0 k1 => hall k k0 (by omega)⟩, hS.nl⟩
theorem c_vmade {vV : Value} {u : Int} {pv : Int → Value} {ln : Int → Int} {pt : Int → Int → Int} {cnt : Int → Int} {vL vD : Value} {p : Prob} (w0 : World) (hV : VAt w0 vV u pv ln pt cnt) (h : PAt w0 vL vD p) :
    Calls Tryz.prog 58 [.agg #[vL, vD, .int .i64 p.stock, .int .i64 p.kerf], vV].toArray w0 fun e w => ∃ v, e = .returned v ∧ ∃ r n f e, v = .tuple #[r, .int .i64 e] ∧ ((¬ PlanOk p u ln pt cnt ∧ n = 0 ∧ e = 1) ∨ (PlanOk p u ln pt cnt ∧ n = p.m ∧ f = madeF u pt cnt ∧ e = 0)) ∧ Slh r n ∧ Sat w0 w [.own r 1 3 n (ints f)] := by
  have hm := h.L.slh.n0; have hm1 := h.L.slh.n1; have hd := h.D.slh.n0; have hd1 := h.D.slh.n1; have hs := h.is; have hk := h.ik
  have hu := hV.row.slh.n0; have hu1 := hV.row.slh.n1
  refine zenG Tryz.func58 Tryz.ntmps58 fun w hS => ?_
  refine zsr ?_
  refine zla (xbx (cs := [_, _, _, _]) hS) ?_; rintro _ w ⟨g1, rfl, hS⟩
  replace hS := hS.n1
  refine zs2 ?_
  refine zlt <| zsq <| zsr ?_
  refine zlv (xls 0 st_24 hS) ?_
  refine zlv xmv ?_
  refine zlc (xc0 cl_89) (c_vsound (u := u) (pv := pv) (ln := ln) (pt := pt) (cnt := cnt) (p := p) w (hV.below hS.below) (h.below hS.below)) ?_; rintro _ w ⟨rfl, hS'⟩
  replace hS := hS.cmp hS'; clear hS'
  refine zlv xnot ?_
  refine zlt ?_
  refine zcif ?_ ?_ <;> intro hc
  ·
   refine zsr ?_
   refine zs2 ?_
   refine zlt <| zrt <| ztr <| zf2 ⟨_, rfl, ?_⟩
   exact ⟨_, 0, fun _ => 0, 1, rfl, .inl ⟨‹¬ PlanOk p u ln pt cnt›, rfl, rfl⟩, slh_nil, (hS.sub (.cons _ .slnil)).addnil 1 3 (ints fun _ => 0)⟩
  refine zsk <| ztn <| zsr ?_
  refine zlv (xfb 0 fd_24_0) ?_
  have hplo : PlanOk p u ln pt cnt := by first | assumption | exact Classical.not_not.1 ‹_›
  have hpm1 := hplo.1.m1; have hpm2 := hplo.1.m2; have hu3 := hplo.2.1
  refine zlv (xlb 0 pl_22 hS) ?_
  refine zlv (xln sl_22 h.L.slh) ?_
  refine zla (xmk sl_22 el_3 hS) ?_; rintro v1 w ⟨hS, hv1⟩
  replace hS := hS.n2
  refine zlv xas ?_
  refine zlt <| zsq <| zsr ?_
  refine zlv xas ?_
  refine zlt <| zbk <| zlp (fun mm M w => ∃ (f : Int → Int) (i : Int), mm = ((u - i).toNat) ∧ (0 ≤ i) ∧ (i ≤ u) ∧ (∀ k, 0 ≤ k → k < p.m → f k = madeF i pt cnt k) ∧ M = [(1, vV), (4, .slice none 0 0), (5, .int .i64 0), (6, v1), (7, .int .i64 i)] ∧ Sat w0 w [.blk g1 [vL, vD, .int .i64 p.stock, .int .i64 p.kerf], .own v1 1 3 p.m (ints f)]) ⟨(fun _ => 0), 0, rfl, (by omega), (by omega), ?_, rfl, hS⟩ ?_
  ·
   intro k _ _; rfl
  clear hS w
  rintro mm M w ⟨f, i, rfl, h0, h1, hf, rfl, hS⟩
  refine zsq <| zsr ?_
  refine zs2 ?_
  refine zlv (xln sl_46 hV.row.slh) ?_
  refine zlv xlss ?_
  refine zlt ?_
  refine zcif ?_ ?_ <;> intro hc
  ·
   refine zsk <| ztn <| zsq <| zbk <| zsr ?_
   refine zlv xas ?_
   refine zlt <| zbk <| zlp (fun mm M w => ∃ (f2 : Int → Int) (j : Int), mm = ((p.m - j).toNat) ∧ (0 ≤ j) ∧ (j ≤ p.m) ∧ (∀ k, 0 ≤ k → k < p.m → f2 k = (if k < j then madeF (i + 1) pt cnt k else madeF i pt cnt k)) ∧ M = [(1, vV), (4, .slice none 0 0), (5, .int .i64 0), (6, v1), (7, .int .i64 i), (8, .int .i64 j)] ∧ Sat w0 w [.blk g1 [vL, vD, .int .i64 p.stock, .int .i64 p.kerf], .own v1 1 3 p.m (ints f2)]) ⟨f, 0, rfl, (by omega), (by omega), ?_, rfl, hS⟩ ?_
   ·
    intro k k0 k1; rw [if_neg (by omega)]; exact hf k k0 k1
   clear hS w
   rintro mm M w ⟨f2, j, rfl, j0, j1, hf2, rfl, hS⟩
   refine zsq <| zsr ?_
   refine zs2 ?_
   refine zlv (xln sl_22 hv1) ?_
   refine zlv xlss ?_
   refine zlt ?_
   refine zcif ?_ ?_ <;> intro hc
   ·
    refine zsk <| ztn <| zsq <| zbk ?_
    refine zdst [0, 1] [0] 20 mx_ hS ?_; clear hS; intro w hS
    refine zdv 0 (fun _ => xmv) ?_
    refine zdv 1 (fun _ => xmv) ?_
    refine zdv 2 (fun _ => (xix (kk := j) sl_22 hv1)) ?_
    refine zdl 3 (fun w hS => (xlr (u := .int .i64 (f2 j)) pl_3 (hS.rowN 1 rfl))) ?_
    obtain ⟨hq1, hq2, hq3⟩ := hplo.2.2 i h0 (by omega)
    have hq4 := hq3.eq
    have hpj := hq3.all j j0 (by omega)
    have hmr := madeF_rng hplo.2.2 h0 (by omega) (j := j) j0 (by omega)
    have hfj := hf2 j j0 (by omega)
    rw [if_neg (by omega)] at hfj
    have hmj := mul_rng3 hpj.1 hpj.2 (show 0 ≤ cnt i by omega) hq2
    refine zdv 4 (fun _ => xmv) ?_
    refine zdv 5 (fun _ => xmv) ?_
    refine zdv 6 (fun _ => (xix (kk := 2 * i) sl_46 hV.row.slh)) ?_
    refine zdv 7 (fun _ => (xfc (kk := 2 * i) fd_103_0 hV.row.slh)) ?_
    refine zdla 8 (fun w hS => (xlr (u := (pv i)) pl_22 (hV.row.below hS.below) (e := (ucells0 pv cnt (by omega))))) ?_
    refine zdv 9 (fun _ => xmv) ?_
    refine zdv 10 (fun _ => (xix (kk := j) sl_22 (hV.p i (by omega) (by omega)).slh)) ?_
    refine zdla 11 (fun w hS => (xlr (u := .int .i64 ((pt i) j)) pl_3 ((hV.p i (by omega) (by omega)).below hS.below))) ?_
    refine zdv 12 (fun _ => xmv) ?_
    refine zdv 13 (fun _ => xmv) ?_
    refine zdv 14 (fun _ => (xix (kk := 2 * i) sl_46 hV.row.slh)) ?_
    refine zdv 15 (fun _ => (xfc (kk := 2 * i + 1) fd_103_1 hV.row.slh)) ?_
    refine zdla 16 (fun w hS => (xlr (u := .int .i64 (cnt i)) pl_3 (hV.row.below hS.below) (e := (ucells1 pv cnt (by omega))))) ?_
    refine zdv 17 (fun _ => (xmul (r := (((pt i) j) * (cnt i))) (e := rfl))) ?_
    refine zdv 18 (fun _ => (xadd (r := f2 j + (((pt i) j) * (cnt i))))) ?_
    refine zdv 19 (fun _ => (xix (kk := j) sl_22 hv1)) ?_
    refine zde 20 (xso 1 pl_3 hS (upd_ints _ _ _)) ?_; clear hS; rintro w hS
    replace hS := hS.n2
    refine ⟨⟨fun h => absurd h (by decide), hS.pk [0]⟩, ?_⟩
    refine zdd <| zbn <| ztn <| zrg ?_
    refine zlv xmv ?_
    refine zlv (xadd (r := j + 1)) ?_
    refine zlv xas ?_
    refine zln <| zlq ⟨(upd f2 j (f2 j + (((pt i) j) * (cnt i)))), j + 1, rfl, (by omega), (by omega), ?_, rfl, hS⟩
    ·
     intro k k0 k1; unfold upd; by_cases e : k = j
     · rw [if_pos e, if_pos (by omega), e, madeF_next h0]; omega
     · rw [if_neg e, hf2 k k0 k1]; by_cases e2 : k < j
       · rw [if_pos e2, if_pos (by omega)]
       · rw [if_neg e2, if_neg (by omega)]
   refine zxt <| ztx <| ztx <| zbh <| zbn <| ztn <| zrg ?_
   refine zlv xmv ?_
   refine zlv (xadd (r := i + 1)) ?_
   refine zlv xas ?_
   refine zln <| zlq ⟨f2, i + 1, rfl, (by omega), (by omega), ?_, rfl, hS⟩
   ·
    intro k k0 k1; rw [hf2 k k0 k1, if_pos (by omega)]
  refine zxt <| ztx <| ztx <| zbh <| ztn <| zsr ?_
  refine zs3 ?_
  refine zlt <| zrt <| zf2 ⟨_, rfl, ?_⟩
  have hiu : i = u := by omega
  rw [hiu] at hf
  replace hS := hS.recont 1 rfl (d := ints (madeF u pt cnt)) (fun k k0 k1 => congrArg (Value.int .i64) (hf k k0 (by omega)))
  exact ⟨_, _, _, 0, rfl, .inr ⟨hplo, rfl, rfl, rfl⟩, hv1, hS.pk [1]⟩
theorem c_vmeets {vV : Value} {u : Int} {pv : Int → Value} {ln : Int → Int} {pt : Int → Int → Int} {cnt : Int → Int} {vL vD : Value} {p : Prob} (w0 : World) (hV : VAt w0 vV u pv ln pt cnt) (h : PAt w0 vL vD p) :
    Calls Tryz.prog 33 [.agg #[vL, vD, .int .i64 p.stock, .int .i64 p.kerf], vV].toArray w0 fun e w => ∃ v, e = .returned v ∧ v = B (PlanOk p u ln pt cnt ∧ ∀ j, 0 ≤ j → j < p.m → p.D j ≤ madeF u pt cnt j) ∧ Sat w0 w [] := by
  have hm := h.L.slh.n0; have hm1 := h.L.slh.n1; have hd := h.D.slh.n0; have hd1 := h.D.slh.n1; have hs := h.is; have hk := h.ik
  refine zenG Tryz.func33 Tryz.ntmps33 fun w hS => ?_
  refine zsr ?_
  refine zla (xbx (cs := [_, _, _, _]) hS) ?_; rintro _ w ⟨g1, rfl, hS⟩
  replace hS := hS.n1
  refine zlv xas ?_
  refine zlz ?_
  refine zlv (xls 0 st_24 hS) ?_
  refine zlv xmv ?_
  refine zlc (xc0 cl_58) (c_vmade (u := u) (pv := pv) (ln := ln) (pt := pt) (cnt := cnt) (p := p) w (hV.below hS.below) (h.below hS.below)) ?_; rintro _ w ⟨vdmd1, ndmd1, fdmd1, edmd1, rfl, hmdmd1, hvdmd1, hS'⟩
  replace hS : Sat w0 w [.blk g1 [vL, vD, .int .i64 p.stock, .int .i64 p.kerf], .own vdmd1 1 3 ndmd1 (ints fdmd1)] := hS.comp hS'; clear hS'
  refine zs5 ?_
  refine zlt <| zsq <| zsr ?_
  refine zs2 ?_
  refine zlt ?_
  refine zcif ?_ ?_ <;> intro hc
  ·
   refine zsr ?_
   refine zlv xas ?_
   refine zlt <| zrt <| ztr <| zf1 ⟨_, rfl, ?_⟩
   refine ⟨false_B ?_, hS.nl⟩
   first
   | (intro hh; have h9 := hh.2 i h0 (by omega); rw [← hA3] at h9; omega)
   | (rcases hmdmd1 with ⟨q1, _⟩ | ⟨_, _, _, q4⟩; exact fun hh => q1 hh.1; omega)
  refine zsk <| ztn <| zsq <| zsr ?_
  refine zlv xas ?_
  refine zlt <| zbk ?_
  obtain ⟨hA1, hA2, hA3⟩ : PlanOk p u ln pt cnt ∧ ndmd1 = p.m ∧ fdmd1 = madeF u pt cnt := by rcases hmdmd1 with ⟨_, _, q3⟩ | ⟨q1, q2, q3, _⟩; omega; exact ⟨q1, q2, q3⟩
  have hpd := hA1.1.d
  refine zlp (fun mm M w => ∃ (i : Int), mm = ((ndmd1 - i).toNat) ∧ (0 ≤ i) ∧ (i ≤ ndmd1) ∧ (∀ k, 0 ≤ k → k < i → p.D k ≤ fdmd1 k) ∧ M = [(2, .pointer (some ⟨g1, 0, none⟩)), (5, vdmd1), (7, .int .i64 i)] ∧ Sat w0 w [.blk g1 [vL, vD, .int .i64 p.stock, .int .i64 p.kerf], .own vdmd1 1 3 ndmd1 (ints fdmd1)]) ⟨0, rfl, (by omega), (by omega), ?_, rfl, hS⟩ ?_
  ·
   intro k h0 h1; omega
  clear hS w
  rintro mm M w ⟨i, rfl, h0, h1, hall, rfl, hS⟩
  refine zsq <| zsr ?_
  refine zs2 ?_
  refine zlv (xln sl_22 hvdmd1) ?_
  refine zlv xlss ?_
  refine zlt ?_
  refine zcif ?_ ?_ <;> intro hc
  ·
   refine zsk <| ztn <| zsq <| zbk <| zsq ?_
   refine zdst [0, 1] [0, 1] 1000 mx_ hS ?_; clear hS; intro w hS
   refine zdv 0 (fun _ => xmv) ?_
   refine zdv 1 (fun _ => xmv) ?_
   refine zdv 2 (fun _ => (xix (kk := i) sl_22 hvdmd1)) ?_
   refine zdla 3 (fun w hS => (xlr (u := .int .i64 (fdmd1 i)) pl_3 (hS.rowN 1 rfl))) ?_
   refine zdv 4 (fun _ => (xfb 1 fd_24_1)) ?_
   refine zdla 5 (fun w hS => (xlb 0 pl_22 hS)) ?_
   refine zdv 6 (fun _ => xmv) ?_
   refine zdv 7 (fun _ => (xix (kk := i) sl_22 h.D.slh)) ?_
   refine zdla 8 (fun w hS => (xlr (u := .int .i64 (p.D i)) pl_3 (h.D.below hS.below))) ?_
   have hbv := h.iD i
   refine zdv 9 (fun _ => xlss) ?_
   refine zdd <| ztn ?_
   refine zcif ?_ ?_ <;> intro hc
   ·
    refine zsr ?_
    refine zlv xas ?_
    refine zlt <| zrt <| zbr <| ztr <| ztr <| zbr <| ztr <| zf1 ⟨_, rfl, ?_⟩
    refine ⟨false_B ?_, hS.nl⟩
    first
    | (intro hh; have h9 := hh.2 i h0 (by omega); rw [← hA3] at h9; omega)
    | (rcases hmdmd1 with ⟨q1, _⟩ | ⟨_, _, _, q4⟩; exact fun hh => q1 hh.1; omega)
   refine zsk <| zbn <| ztn <| zrg ?_
   refine zlv xmv ?_
   refine zlv (xadd (r := i + 1)) ?_
   refine zlv xas ?_
   refine zln <| zlq ⟨i + 1, rfl, (by omega), (by omega), ?_, rfl, hS⟩
   ·
    intro k h0' h1'; rcases Int.lt_or_eq_of_le (show k ≤ i by omega) with hk | hk; exact hall k h0' hk; rw [hk]; omega
  refine zxt <| ztx <| ztx <| zbh <| ztn <| zsr ?_
  refine zlv xas ?_
  refine zlt <| zrt <| zf1 ⟨_, rfl, ?_⟩
  refine ⟨true_B ⟨hA1, fun j j0 j1 => ?_⟩, hS.nl⟩
  have := hall j j0 (by omega); rw [hA3] at this; exact this
theorem c_vbars {vV : Value} {u : Int} {pv : Int → Value} {ln : Int → Int} {pt : Int → Int → Int} {cnt : Int → Int} (w0 : World) (hV : VAt w0 vV u pv ln pt cnt) (hu6 : u ≤ 1000000) (hbc : ∀ k, 0 ≤ k → k < u → 0 ≤ cnt k ∧ cnt k ≤ 1000000000) :
    Calls Tryz.prog 34 [vV].toArray w0 fun e w => ∃ v, e = .returned v ∧ v = .int .i64 (psum (fun _ => 1) cnt u.toNat) ∧ Sat w0 w [] := by
  have hn := hV.row.slh.n0; have hn1 := hV.row.slh.n1
  refine zenG Tryz.func34 Tryz.ntmps34 fun w hS => ?_
  refine zsr ?_
  refine zlv xas ?_
  refine zlz ?_
  refine zlv xas ?_
  refine zlt <| zsq <| zsr ?_
  refine zlv xas ?_
  refine zlt <| zbk <| zlp (fun mm M w => ∃ (s : Int) (i : Int), mm = ((u - i).toNat) ∧ (0 ≤ i) ∧ (i ≤ u) ∧ (s = psum (fun _ => 1) cnt i.toNat) ∧ (0 ≤ s ∧ s ≤ 1000000000 * i) ∧ M = [(0, vV), (2, .int .i64 0), (3, .int .i64 s), (4, .int .i64 i)] ∧ Sat w0 w []) ⟨0, 0, rfl, (by omega), (by omega), ?_, (by omega), rfl, hS⟩ ?_
  ·
   rfl
  clear hS w
  rintro mm M w ⟨s, i, rfl, h0, h1, hs9, hsb, rfl, hS⟩
  refine zsq <| zsr ?_
  refine zs2 ?_
  refine zlv (xln sl_46 hV.row.slh) ?_
  refine zlv xlss ?_
  refine zlt ?_
  refine zcif ?_ ?_ <;> intro hc
  ·
   refine zsk <| ztn <| zsq <| zbk <| zrg ?_
   refine zs3 ?_
   refine zlv (xix (kk := 2 * i) sl_46 hV.row.slh) ?_
   refine zlv (xfc (kk := 2 * i + 1) fd_103_1 hV.row.slh) ?_
   refine zlv (xlr (u := .int .i64 (cnt i)) pl_3 (hV.row.below hS.below) (e := (ucells1 pv cnt (by omega)))) ?_
   have hci := hbc i h0 (by omega)
   refine zlv (xadd (r := s + (cnt i))) ?_
   refine zlv xas ?_
   refine zln <| zbn <| ztn <| zrg ?_
   refine zlv xmv ?_
   refine zlv (xadd (r := i + 1)) ?_
   refine zlv xas ?_
   refine zln <| zlq ⟨s + (cnt i), i + 1, rfl, (by omega), (by omega), ?_, (by omega), rfl, hS⟩
   ·
    rw [psum_next _ _ h0, ← hs9]; omega
  refine zxt <| ztx <| ztx <| zbh <| ztn <| zsr ?_
  refine zs2 ?_
  refine zlt <| zrt <| zf1 ⟨_, rfl, ?_⟩
  obtain rfl : i = u := by omega
  exact ⟨congrArg (Value.int .i64) hs9, hS⟩
end Go.Proofs.YtkichmnjjblodaaGreat
namespace Go.Proofs.YtkichmnjjblodaaGreat
open Go Go.RowKit Go.Proofs.Gw
theorem cl_21 : calledT Tryz.prog 21 = true := by kernel_rfl
theorem cl_33 : calledT Tryz.prog 33 = true := by kernel_rfl
theorem cl_34 : calledT Tryz.prog 34 = true := by kernel_rfl
theorem sim_chkE {t u : Tr} (h : Sim t u) (p : Prob) (b : Int) : Go.Proofs.YtkichmnjjblodaaGreat.chkE u p b = Go.Proofs.YtkichmnjjblodaaGreat.chkE t p b := by
  unfold Go.Proofs.YtkichmnjjblodaaGreat.chkE; rw [Sim.wr t h]; congr 1; rw [h.valid]
theorem sim_chkL {t u : Tr} (h : Sim t u) (p : Prob) (b : Int) : Go.Proofs.YtkichmnjjblodaaGreat.chkL u p b = Go.Proofs.YtkichmnjjblodaaGreat.chkL t p b := by
  unfold Go.Proofs.YtkichmnjjblodaaGreat.chkL; rw [Sim.wr t h]; congr 1; rw [h.valid]
end Go.Proofs.YtkichmnjjblodaaGreat
namespace Go.Proofs.YtkichmnjjblodaaGreat
open Go Go.RowKit Go.Proofs.Gw
theorem cl_19 : calledT Tryz.prog 19 = true := by kernel_rfl
theorem cl_20 : calledT Tryz.prog 20 = true := by kernel_rfl
theorem c_short28 {vV : Value} {u : Int} {pv : Int → Value} {ln : Int → Int} {pt : Int → Int → Int} {cnt : Int → Int} (w0 : World) (hV : VAt w0 vV u pv ln pt cnt) :
    Calls Tryz.prog 20 [vV].toArray w0 fun e w => ∃ v, e = .returned v ∧ v = B (ShortP u ln cnt) ∧ Sat w0 w [] := by
  have hu := hV.row.slh.n0; have hu1 := hV.row.slh.n1
  refine zenG Tryz.func20 Tryz.ntmps20 fun w hS => ?_
  refine zsr ?_
  refine zlv xas ?_
  refine zlt <| zsq <| zsr ?_
  refine zlv xas ?_
  refine zlt <| zbk <| zlp (fun mm M w => ∃ (i : Int), mm = ((u - i).toNat) ∧ (0 ≤ i) ∧ (i ≤ u) ∧ (∀ k, 0 ≤ k → k < i → ln k ≤ 25 ∧ cnt k ≤ 40) ∧ M = [(0, vV), (3, .int .i64 i)] ∧ Sat w0 w []) ⟨0, rfl, (by omega), (by omega), ?_, rfl, hS⟩ ?_
  ·
   intro k h0 h1; omega
  clear hS w
  rintro mm M w ⟨i, rfl, h0, h1, hall, rfl, hS⟩
  refine zsq <| zsr ?_
  refine zs2 ?_
  refine zlv (xln sl_46 hV.row.slh) ?_
  refine zlv xlss ?_
  refine zlt ?_
  refine zcif ?_ ?_ <;> intro hc
  ·
   refine zsk <| ztn <| zsq <| zbk <| zsr ?_
   refine zs2 ?_
   refine zlv (xix (kk := 2 * i) sl_46 hV.row.slh) ?_
   refine zlv (xfc (kk := 2 * i) fd_103_0 hV.row.slh) ?_
   refine zlv (xlr (u := (pv i)) pl_22 (hV.row.below hS.below) (e := (ucells0 pv cnt (by omega)))) ?_
   refine zlv (xln sl_22 (hV.p i (by omega) (by omega)).slh) ?_
   refine zs2 ?_
   refine zlb 17 ?_ ?_ <;> intro hc
   ·
    iterate 6 refine zlo ?_
    refine zlv xpt ?_
    refine zlt <| zct <| zsr ?_
    refine zlv xas ?_
    refine zlt <| zrt <| zbr <| ztr <| ztr <| zbr <| ztr <| zf1 ⟨_, rfl, ?_⟩
    exact ⟨false_B (by intro hk; have := hk.all i (by omega) (by omega); omega), hS⟩
   refine zs2 ?_
   refine zlv (xix (kk := 2 * i) sl_46 hV.row.slh) ?_
   refine zlv (xfc (kk := 2 * i + 1) fd_103_1 hV.row.slh) ?_
   refine zlv (xlr (u := .int .i64 (cnt i)) pl_3 (hV.row.below hS.below) (e := (ucells1 pv cnt (by omega)))) ?_
   refine zs2 ?_
   refine zlt ?_
   refine zcif ?_ ?_ <;> intro hc
   ·
    refine zsr ?_
    refine zlv xas ?_
    refine zlt <| zrt <| zbr <| ztr <| ztr <| zbr <| ztr <| zf1 ⟨_, rfl, ?_⟩
    exact ⟨false_B (by intro hk; have := hk.all i (by omega) (by omega); omega), hS⟩
   refine zsk <| zbn <| ztn <| zrg ?_
   refine zlv xmv ?_
   refine zlv (xadd (r := i + 1)) ?_
   refine zlv xas ?_
   refine zln <| zlq ⟨i + 1, rfl, (by omega), (by omega), ?_, rfl, hS⟩
   ·
    intro k h0' h1'; rcases Int.lt_or_eq_of_le (show k ≤ i by omega) with hk | hk; exact hall k h0' hk; rw [hk]; omega
  refine zxt <| ztx <| ztx <| zbh <| ztn <| zsr ?_
  refine zlv xmv ?_
  refine zlv (xln sl_46 hV.row.slh) ?_
  refine zs2 ?_
  refine zlt <| zrt <| zf1 ⟨_, rfl, ?_⟩
  exact ⟨B_congr (by exact ⟨fun h5 => ⟨fun k k0 k1 => hall k k0 (by omega), h5⟩, fun h5 => h5.few⟩), hS⟩
end Go.Proofs.YtkichmnjjblodaaGreat
