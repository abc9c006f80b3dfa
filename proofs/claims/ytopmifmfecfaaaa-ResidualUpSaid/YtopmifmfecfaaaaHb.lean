/- A loop over a function that hands something over with each round: Gx x is the round's own. Over any program. -/
import Derived.Test.YtopmifmfecfaaaaHa
namespace Go.Proofs.Gw
open Go Go.RowKit
set_option linter.unusedVariables false
set_option linter.unusedSimpArgs false
section
variable {P : Program} {Q : Exit → Act → World → Prop} {w w' w0 : World} {n : Nat} {L : List (Nat × Value)} {ds : List Deferred}
/-- As ItC; with x come the entries Gx x, which the iterator lets go. -/
def ItG {St X Tt : Type} (P : Program) (w0 : World) (gf : FuncId) (lb : List Value) (Sh : List Ent) (enc : X → List Value) (Gx : X → List Ent) (Pre : St → X → Frame → Prop) (Nx : St → X → St → Prop) (Sx : St → X → Tt → Prop) (s0 : St) (Fin : St → Frame → Prop) (FinX : Tt → Frame → Prop) : Prop :=
  ∀ (l : Nat) (C : St → Frame) (D : Tt → Frame) (w : World), Sat w0 w (.sem (C s0) :: Sh) →
    (∀ s x rest w, Pre s x rest → Sat w0 w (.sem (C s) :: (Sh ++ (Gx x ++ [.sem rest]))) → Yld P l (enc x) w fun v w' =>
      (v = .bool true ∧ ∃ s', Nx s x s' ∧ Sat w0 w' (.sem (C s') :: (Sh ++ [.sem rest]))) ∨ (v = .bool false ∧ ∃ t, Sx s x t ∧ Sat w0 w' (.sem (D t) :: (Sh ++ [.sem rest])))) →
    Calls P gf (.func (.yield l) #[] #[] :: lb).toArray w fun e w' => ∃ v, e = .returned v ∧
      ((∃ s rest, Fin s rest ∧ Sat w0 w' (.sem (C s) :: (Sh ++ [.sem rest]))) ∨ (∃ t rest, FinX t rest ∧ Sat w0 w' (.sem (D t) :: (Sh ++ [.sem rest]))))
theorem hrfG {St X Tt : Type} {gf : FuncId} {lb : List Value} {g : Operand} {ps : Array Tmp} {assign body : Code} {Sh : List Ent} {enc : X → List Value} {Gx : X → List Ent} {Pre : St → X → Frame → Prop} {Nx : St → X → St → Prop} {Sx : St → X → Tt → Prop} {Fin : St → Frame → Prop} {FinX : Tt → Frame → Prop}
    (C : St → List Ent) (D : Tt → List Ent) (jc : Tt → Code) (s0 : St) (J : X → List (Nat × Value) → List Ent → Prop) (hit : ItG P w0 gf lb Sh enc Gx Pre Nx Sx s0 Fin FinX) (hS : Sat w0 w (C s0 ++ Sh)) (hcl : calledT P gf = true)
    (hpl : ∀ x, (enc x).length = ps.size) (hjc : ∀ t, jc t = .ret ∨ ∃ id, jc t = .exit id)
    (hassign : ∀ l s x rest w, Pre s x rest → ∀ rest', (∀ w, rest'.holds w → rest.holds w) → Sat w0 w (C s ++ (Sh ++ (.sem rest' :: Gx x))) → Hc P (some l) n (Exit.then (fun a w' => ∃ M es, J x M es ∧ Frd a n [] M ∧ Sat w0 w' (C s ++ (Sh ++ (.sem rest' :: es)))) (fun _ _ _ => False)) assign [] (zipL ps.toList (enc x) L) w)
    (hbody : ∀ l s x M es rest w, Pre s x rest → J x M es → ∀ rest', (∀ w, rest'.holds w → rest.holds w) → Sat w0 w (C s ++ (Sh ++ (.sem rest' :: es))) → Hc P (some l) n (rdQ w0 C D jc Sh (Nx s x) (Sx s x) rest') body [] M w)
    (hdone : ∀ Dk s rest w', Fin s rest → Sat w0 w' (C s ++ (Sh ++ [.sem rest, dfE Dk true])) → He n Q .normal (mrk Dk :: ds) L w')
    (hstop : ∀ Dk t rest w', FinX t rest → Sat w0 w' (D t ++ (Sh ++ [.sem rest, dfE Dk true])) → He n Q (exitOf (jc t)) (mrk Dk :: ds) L w')
    (hg : evL L g = some (.func (.func gf) #[] lb.toArray) := by exact rfl) (hpb : (ps.toList.all fun t => Nat.blt t n) = true := by exact rfl) : Hc P none n Q (.rangeFunc g ps assign body) ds L w := by
  intro a hF
  refine wpIn_rangeFunc ?_
  intro fn hfn
  obtain ⟨rec, hrec⟩ : ∃ rec : LoopState → Option Code → Loop, rec = fun st pe => { state := st, pending := pe, fn, tmps := a.tmps, params := ps, assign, body, defers := w.heap.size } := ⟨_, rfl⟩
  obtain ⟨W1, hW1⟩ : ∃ W1, (w.alloc (.deferred (some []))).alloc (.loop (rec .ready none)) = W1 := ⟨_, rfl⟩
  obtain ⟨l, hl⟩ : ∃ l, w.heap.size + 1 = l := ⟨_, rfl⟩
  obtain ⟨Dk, hDk⟩ : ∃ Dk, w.heap.size = Dk := ⟨_, rfl⟩
  -- the two blocks are laid
  have hS1 : Sat w0 W1 ((C s0 ++ Sh) ++ [dfE Dk true] ++ [.sem (Frame.obj l (.loop (rec .ready none)))]) := by
    rw [← hW1]
    refine (hS.alloc _ (e := dfE Dk true) ?_ ?_).alloc _ (e := .sem (Frame.obj l (.loop (rec .ready none)))) ?_ ?_
    · rw [← hDk]; exact heap_alloc_new w _
    · intro g hg; rw [← hDk] at hg; exact hg
    · have := heap_alloc_new (w.alloc (.deferred (some []))) (.loop (rec .ready none))
      rw [World.size_alloc, hl] at this; exact this
    · intro g hg; rw [World.size_alloc, hl]; exact hg
  have eval : a.eval g = .func (.func gf) #[] lb.toArray := hF.agr _ _ hg
  have hfun : ∃ fnn, P.funcs[gf]? = some fnn ∧ fnn.body.isSome = true ∧ (fnn.name == "runtime.NumGoroutine") = false := by
    unfold calledT at hcl
    cases hf : P.funcs[gf]? with
    | none => simp [hf] at hcl
    | some fnn =>
      simp only [hf, Bool.and_eq_true, Bool.not_eq_true'] at hcl
      exact ⟨fnn, rfl, hcl.1, hcl.2⟩
  obtain ⟨fnn, hf1, hf2, hf3⟩ := hfun
  have hf2' : fnn.body ≠ none := by intro e; rw [e] at hf2; simp at hf2
  have hf3' : fnn.name ≠ "runtime.NumGoroutine" := by simpa using hf3
  let C' : St → Frame := fun s => Frame.bun (C s ++ [.sem (Frame.obj l (.loop (rec .ready none))), dfE Dk true])
  let D' : Tt → Frame := fun t => Frame.bun (D t ++ [.sem (Frame.obj l (.loop (rec .done (some (jc t))))), dfE Dk true])
  have hS2 : Sat w0 W1 (.sem (C' s0) :: Sh) := by
    have h1 : Sat w0 W1 (Sh ++ (C s0 ++ [.sem (Frame.obj l (.loop (rec .ready none))), dfE Dk true])) := hS1.perm (perm_of fun f => by simp only [List.map_append, List.map_cons, List.map_nil, List.sum_append, List.sum_cons, List.sum_nil]; omega)
    have h2 := h1.bundle
    exact h2.perm List.perm_append_comm
  refine ⟨l, [mrk Dk], W1, { target := .fn (.func gf) lb.toArray, args := #[.func (.yield l) #[] #[]] }, W1, gf, #[.func (.yield l) #[] #[]] ++ lb.toArray, W1, ?_, ?_, ?_, ?_, fun h => (by cases h), ?_⟩
  · rw [← hW1, hrec, ← hl, ← hDk]; exact run_enterLoop_outer _ _ _ _ _
  · simp only [resolve, eval]
    simp [go_sem]
  · intro f' hf'; trivial
  · simp [invoke, go_sem, callFunc, hf1, hf2', hf3']
  have eargs : (#[.func (.yield l) #[] #[]] ++ lb.toArray : Array Value) = (.func (.yield l) #[] #[] :: lb).toArray := by simp
  rw [eargs]
  refine FZ_calls ((hit l C' D' W1 hS2 ?_).mono ?_)
  · -- a round
    intro s x rest W hpre hSW
    have h1 : Sat w0 W (C s ++ (Sh ++ (Gx x ++ [.sem rest, .sem (Frame.obj l (.loop (rec .ready none))), dfE Dk true]))) := by
      have := Sat.unbun (l1 := []) hSW
      exact this.perm (perm_of fun f => by simp only [List.map_append, List.map_cons, List.map_nil, List.sum_append, List.sum_cons, List.sum_nil]; omega)
    have hlr : W.heap[l]? = some (.loop (rec .ready none)) := h1.holds (.sem (Frame.obj l (.loop (rec .ready none)))) (by simp)
    have hy := run_yield (P := P) (args := (enc x).toArray) hlr (by rw [hrec]; simp [hpl x])
    rw [hrec] at hy
    refine ⟨fn, _, assign, body, hy, roundIn_of_wpIn trivial ?_⟩
    clear hy
    -- the assignment
    let r1 : Frame := Frame.bun [.sem rest, .sem (Frame.obj l (.loop (rec .ready none))), dfE Dk true]
    have h2 : Sat w0 W (C s ++ (Sh ++ (.sem r1 :: Gx x))) := by
      have h1b : Sat w0 W ((C s ++ (Sh ++ Gx x)) ++ [.sem r1]) := by
        have h1c : Sat w0 W ((C s ++ (Sh ++ Gx x)) ++ [.sem rest, .sem (Frame.obj l (.loop (rec .ready none))), dfE Dk true]) := by
          rw [List.append_assoc, List.append_assoc]; exact h1
        exact h1c.bundle
      exact h1b.perm (perm_of fun f => by simp only [List.map_append, List.map_cons, List.map_nil, List.sum_append, List.sum_cons, List.sum_nil]; omega)
    have hfr : Frd { tmps := (ps.zip (enc x).toArray).foldl (fun t (p, v) => t.setIfInBounds p v) a.tmps, defers := [] } n [] (zipL ps.toList (enc x) L) := by
      have := zipL_fr (a := a) (n := n) ps.toList (enc x) a.tmps (L := L) ⟨hF.size, rfl, hF.get⟩ hpb
      have e : (ps.zip (enc x).toArray).foldl (fun t (p, v) => t.setIfInBounds p v) a.tmps = (ps.toList.zip (enc x)).foldl (fun t (p : Nat × Value) => t.setIfInBounds p.1 p.2) a.tmps := by
        rw [← Array.foldl_toList, Array.toList_zip]
      rw [e]; exact this
    refine Go.wpIn_mono (hassign l s x rest W hpre r1 (fun w h => h.1 (.sem rest) (by simp)) h2 _ hfr) ?_
    intro e a1 Wa hp
    cases e <;> try exact hp.elim
    obtain ⟨M, es, hJ, hFM, hSa⟩ := hp
    have h3 : Sat w0 Wa ((C s ++ (Sh ++ ([.sem rest] ++ es)) ++ [dfE Dk true]) ++ .sem (Frame.obj l (.loop (rec .ready none))) :: []) := by
      have := Sat.unbun (l1 := C s ++ Sh) (l3 := es) (by rw [List.append_assoc]; exact hSa)
      exact this.perm (perm_of fun f => by simp only [List.map_append, List.map_cons, List.map_nil, List.sum_append, List.sum_cons, List.sum_nil]; omega)
    have hlr : Wa.heap[l]? = some (.loop (rec .ready none)) := h3.get
    refine ⟨_, run_beginRound hlr (by rw [hrec]), ?_⟩
    have h4 := h3.putObj (o' := .loop { rec .ready none with state := .busy })
    let r2 : Frame := Frame.bun [.sem rest, .sem (Frame.obj l (.loop { rec .ready none with state := .busy })), dfE Dk true]
    have h5 : Sat w0 (Wa.putObj l (.loop { rec .ready none with state := .busy })) (C s ++ (Sh ++ (.sem r2 :: es))) := by
      have h : Sat w0 (Wa.putObj l (.loop { rec .ready none with state := .busy })) ((C s ++ (Sh ++ es)) ++ [.sem rest, .sem (Frame.obj l (.loop { rec .ready none with state := .busy })), dfE Dk true]) := by
        exact h4.perm (perm_of fun f => by simp only [List.map_append, List.map_cons, List.map_nil, List.sum_append, List.sum_cons, List.sum_nil]; omega)
      have hb : Sat w0 (Wa.putObj l (.loop { rec .ready none with state := .busy })) ((C s ++ (Sh ++ es)) ++ [.sem r2]) := h.bundle
      exact hb.perm (perm_of fun f => by simp only [List.map_append, List.map_cons, List.map_nil, List.sum_append, List.sum_cons, List.sum_nil]; omega)
    refine Go.wpIn_mono (hbody l s x M es rest _ hpre hJ r2 (fun w h => h.1 (.sem rest) (by simp)) h5 _ hFM) ?_
    have fin : ∀ (jump : Option Code) (A : List Ent) (W3 : World), Sat w0 W3 (A ++ (Sh ++ [.sem r2])) →
        (Instr.endRound l jump).run P W3 = .ok (.bool jump.isNone) (W3.putObj l (.loop (rec (if jump.isNone then .ready else .done) jump))) ∧
        Sat w0 (W3.putObj l (.loop (rec (if jump.isNone then .ready else .done) jump))) (.sem (Frame.bun (A ++ [.sem (Frame.obj l (.loop (rec (if jump.isNone then .ready else .done) jump))), dfE Dk true])) :: (Sh ++ [.sem rest])) := fun jump A W3 hA => by
      have h6 : Sat w0 W3 ((Sh ++ [.sem rest] ++ (A ++ [dfE Dk true])) ++ .sem (Frame.obj l (.loop { rec .ready none with state := .busy })) :: []) := by
        have := Sat.unbun (l1 := A ++ Sh) (l3 := []) (by rw [List.append_assoc]; exact hA)
        exact this.perm (perm_of fun f => by simp only [List.map_append, List.map_cons, List.map_nil, List.sum_append, List.sum_cons, List.sum_nil]; omega)
      have hlb : W3.heap[l]? = some (.loop { rec .ready none with state := .busy }) := h6.get
      have hr := run_endRound (P := P) jump hlb
      have h7 := h6.putObj (o' := .loop (rec (if jump.isNone then .ready else .done) jump))
      refine ⟨by rw [hrec] at hr ⊢; exact hr, ?_⟩
      have h8 : Sat w0 (W3.putObj l (.loop (rec (if jump.isNone then .ready else .done) jump))) ((Sh ++ [.sem rest]) ++ (A ++ [.sem (Frame.obj l (.loop (rec (if jump.isNone then .ready else .done) jump))), dfE Dk true])) := by
        exact h7.perm (perm_of fun f => by simp only [List.map_append, List.map_cons, List.map_nil, List.sum_append, List.sum_cons, List.sum_nil]; omega)
      exact h8.bundle.perm List.perm_append_comm
    intro e a3 W3 hp
    cases e with
    | normal =>
      obtain ⟨s', hn, hA⟩ := hp
      obtain ⟨hr, h6⟩ := fin none _ _ hA
      exact ⟨_, _, hr, _, rfl, .inl ⟨rfl, s', hn, h6⟩⟩
    | ret =>
      obtain ⟨t, hn, hj, hA⟩ := hp
      obtain ⟨hr, h6⟩ := fin (some .ret) _ _ hA
      refine ⟨_, _, hr, _, rfl, .inr ⟨rfl, t, hn, ?_⟩⟩
      simp only [D', hj]; exact h6
    | exit id =>
      obtain ⟨t, hn, hj, hA⟩ := hp
      obtain ⟨hr, h6⟩ := fin (some (.exit id)) _ _ hA
      refine ⟨_, _, hr, _, rfl, .inr ⟨rfl, t, hn, ?_⟩⟩
      simp only [D', hj]; exact h6
    | goto t => exact hp.elim
    | panic ch => exact hp.elim
    | outgrown => exact hp.elim
  · -- behind the function that was looped over
    have out : ∀ (st : LoopState) (pe : Option Code) (A : List Ent) (rest : Frame) (W2 : World), st ≠ .busy → Sat w0 W2 (.sem (Frame.bun (A ++ [.sem (Frame.obj l (.loop (rec st pe))), dfE Dk true])) :: (Sh ++ [.sem rest])) →
        (Instr.endLoop l).run P W2 = .ok pe (W2.putObj l (.loop { rec st pe with state := .exhausted })) ∧ Sat w0 (W2.putObj l (.loop { rec st pe with state := .exhausted })) (A ++ (Sh ++ [.sem rest, dfE Dk true])) := fun st pe A rest W2 hst h => by
      have h1 := Sat.unbun (l1 := []) h
      have h2 : Sat w0 W2 ((A ++ (Sh ++ [.sem rest, dfE Dk true])) ++ .sem (Frame.obj l (.loop (rec st pe))) :: []) := by
        exact h1.perm (perm_of fun f => by simp only [List.map_append, List.map_cons, List.map_nil, List.sum_append, List.sum_cons, List.sum_nil]; omega)
      have hl : W2.heap[l]? = some (.loop (rec st pe)) := h2.get
      have h3 := h2.putObj (o' := .loop { rec st pe with state := .exhausted })
      refine ⟨?_, h3.sub (List.sublist_append_left _ _)⟩
      have := run_endLoop (P := P) hl (by rw [hrec]; exact hst)
      rw [hrec] at this ⊢; exact this
    rintro e W2 ⟨v, rfl, h⟩
    have hF' : ∀ {L'}, Frd a n ds L' → Frd { a with defers := [mrk Dk] ++ a.defers } n (mrk Dk :: ds) L' := fun h => ⟨h.size, by rw [← h.defers]; rfl, h.get⟩
    rcases h with ⟨s, rest, hfin, h⟩ | ⟨t, rest, hfin, h⟩
    · obtain ⟨h1, h2⟩ := out .ready none _ rest W2 (by simp) h
      exact ⟨none, _, h1, hdone Dk s rest _ hfin h2 _ (hF' hF)⟩
    · obtain ⟨h1, h2⟩ := out .done (some (jc t)) _ rest W2 (by simp) h
      refine ⟨some (jc t), _, h1, ?_⟩
      have h3 := hstop Dk t rest _ hfin h2 _ (hF' hF)
      rcases hjc t with hj | ⟨id, hj⟩
      · rw [hj] at h3 ⊢; exact wpIn_ret h3
      · rw [hj] at h3 ⊢; exact wpIn_exit h3
end
end Go.Proofs.Gw
