/- A region that draws its order: what only reads is taken first, as long as the one operation that turns what is read ('brk') has not come up. Over any program. -/
import Derived.Test.YtmlfpniaknmmfaaGy
namespace Go.Proofs.Gw
open Go Go.RowKit
set_option linter.unusedVariables false
set_option linter.unusedSimpArgs false

section
variable {P : Program} {ops : Array Oper} {Q : Exit → Act → World → Prop} {S A : World → Prop} {brk : Nat}
/-- S holds as long as number 'brk' has not come up, A always. -/
def SA (S A : World → Prop) (brk : Nat) (listed : Array Bool) (w : World) : Prop := (listed.getD brk false = false → S w) ∧ A w
/-- Whatever order is picked from here on; S holds behind each operation as long as number 'brk' has not come up. -/
def wpB (P : Program) (ops : Array Oper) (Q : Exit → Act → World → Prop) (S A : World → Prop) (brk : Nat) : Nat → Array Bool → Act → World → Prop
  | 0, listed, a, w => Region.ready .any ops listed = [] ∧ Q .normal a w
  | fuel + 1, listed, a, w =>
    (Region.ready .any ops listed = [] → Q .normal a w) ∧
    ∀ i ∈ Region.ready .any ops listed, wpOp P ops Q i (fun a' w' => SA S A brk (listed.setIfInBounds i true) w' ∧ wpB P ops Q S A brk fuel (listed.setIfInBounds i true) a' w') a w
theorem wpAny_of_B : ∀ (fuel : Nat) (listed : Array Bool) (a : Act) (w : World), wpB P ops Q S A brk fuel listed a w → wpAny P .any ops Q fuel listed a w
  | 0, _, _, _, h => h
  | fuel + 1, _, _, _, h => ⟨h.1, fun i hi => wpOp_mono (fun a' w' h' => wpAny_of_B fuel _ a' w' h'.2) (h.2 i hi)⟩
theorem getD_set_ne' {listed : Array Bool} {i j : Nat} (b : Bool) (h : i ≠ j) : (listed.setIfInBounds i true).getD j b = listed.getD j b := by
  simp only [Array.getD_eq_getD_getElem?, Array.getElem?_setIfInBounds_ne h]
/-- What has come up has come up behind what it waits for. -/
def Closed (ops : Array Oper) (listed : Array Bool) : Prop :=
  listed.size = ops.size ∧ ∀ j oj, ops[j]? = some oj → listed.getD j false = true → ∀ e ∈ oj.after, Region.binds .any e = true → listed.getD e.on false = true
theorem Closed.start : Closed ops (Array.replicate ops.size false) := ⟨by simp, fun j oj _ hl => by
  rw [getD_replicate_false] at hl; cases hl⟩
theorem Closed.set {listed : Array Bool} {i : Nat} (h : Closed ops listed) (hi : i ∈ Region.ready .any ops listed) : Closed ops (listed.setIfInBounds i true) := by
  obtain ⟨_, oi, hoi, hall⟩ := mem_ready.1 hi
  refine ⟨by simp [h.1], fun j oj hoj hl e he hb => ?_⟩
  by_cases hij : i = j
  · subst hij
    have : oj = oi := Option.some.inj (hoj.symm.trans hoi)
    subst this
    exact getD_set_true (hall e he hb)
  · rw [getD_set_ne' false hij] at hl
    exact getD_set_true (h.2 j oj hoj hl e he hb)
/-- Number 'brk' waits for number i (at once or over one between). -/
def waitsB (ops : Array Oper) (brk i : Nat) : Bool :=
  Region.waitsFor .any ops brk i || (List.range ops.size).any fun m => Region.waitsFor .any ops brk m && (Region.waitsFor .any ops m i || (List.range ops.size).any fun m' => Region.waitsFor .any ops m m' && Region.waitsFor .any ops m' i)
theorem Closed.wait {listed : Array Bool} (h : Closed ops listed) {j i : Nat} (hw : Region.waitsFor .any ops j i = true) (hj : listed.getD j false = true) : listed.getD i false = true := by
  obtain ⟨oj, hoj, e, he, hb, rfl⟩ := Region.waitsFor_spec hw
  exact h.2 j oj hoj hj e he hb
theorem Closed.waits {listed : Array Bool} (h : Closed ops listed) {j i : Nat} (hw : waitsB ops j i = true) (hj : listed.getD j false = true) : listed.getD i false = true := by
  unfold waitsB at hw
  rw [Bool.or_eq_true] at hw
  rcases hw with hw | hw
  · exact h.wait hw hj
  · obtain ⟨m, _, hm⟩ := List.any_eq_true.1 hw
    rw [Bool.and_eq_true, Bool.or_eq_true] at hm
    have h1 := h.wait hm.1 hj
    rcases hm.2 with h2 | h2
    · exact h.wait h2 h1
    · obtain ⟨m', _, hm'⟩ := List.any_eq_true.1 h2
      rw [Bool.and_eq_true] at hm'
      exact h.wait hm'.2 (h.wait hm'.1 h1)
theorem SA.up {listed : Array Bool} {w : World} {i : Nat} (h : SA S A brk listed w) (hib : i ≠ brk) : SA S A brk (listed.setIfInBounds i true) w := ⟨fun hh => h.1 (by rw [getD_set_ne' false hib] at hh; exact hh), h.2⟩
theorem SA.down {listed : Array Bool} {w : World} {i : Nat} (h : SA S A brk (listed.setIfInBounds i true) w) (hib : i ≠ brk) : SA S A brk listed w := ⟨fun hh => h.1 (by rw [getD_set_ne' false hib]; exact hh), h.2⟩
theorem wpB_first {S' : World → Prop} {i : Nat} {oi : Oper} {v : Value} (hi : ops[i]? = some oi) (hsel : ∀ (j : Nat) (o : Oper) cs b, ops[j]? = some o → o.op ≠ .select cs b)
    (hQ : ∀ c a w, Q (.panic c) (a.put oi.dst v) w → Q (.panic c) a w) (hib : i ≠ brk)
    (hk : ∀ (listed : Array Bool) (w : World), Closed ops listed → listed.getD i true = false → SA S A brk listed w → S' w) :
    ∀ (fuel : Nat) (listed : Array Bool) (a : Act) (w : World),
      (∀ j oj, ops[j]? = some oj → j ≠ i → listed.getD j true = false → (∀ e ∈ oj.after, Region.binds .any e = true → e.on ≠ i) → oi.apart ops oj = true) →
      i ∈ Region.ready .any ops listed → YieldsIf P ops S' oi v a → Closed ops listed → SA S A brk listed w →
      wpB P ops Q S A brk fuel (listed.setIfInBounds i true) (a.put oi.dst v) w → wpB P ops Q S A brk (fuel + 1) listed a w := by
  intro fuel
  induction fuel with
  | zero =>
    intro listed a w _ hr hy hcl hS H
    refine ⟨fun h => (by rw [h] at hr; cases hr), fun j hj => ?_⟩
    by_cases hji : j = i
    · subst hji; exact hy.wpOp hi (hk _ _ hcl (mem_ready.1 hr).1 hS) ⟨hS.up hib, H⟩
    · have := ready_mono hj hji
      rw [H.1] at this
      cases this
  | succ fuel ih =>
    intro listed a w hfree hr hy hcl hS H
    refine ⟨fun h => (by rw [h] at hr; cases hr), fun j hj => ?_⟩
    by_cases hji : j = i
    · subst hji; exact hy.wpOp hi (hk _ _ hcl (mem_ready.1 hr).1 hS) ⟨hS.up hib, H⟩
    · have h1 := H.2 j (ready_mono hj hji)
      obtain ⟨hjun, oj, hoj, hall⟩ := mem_ready.1 hj
      have hnot : ∀ e ∈ oj.after, Region.binds .any e = true → e.on ≠ i := fun e he hb heq => by
        have h1 := hall e he hb
        have h0 := (mem_ready.1 hr).1
        rw [heq] at h1
        rcases Nat.lt_or_ge i listed.size with h' | h'
        · simp [h'] at h0 h1; rw [h0] at h1; cases h1
        · simp [Array.getElem?_eq_none h'] at h1
      have h2 := wpOp_putIf hoj (hfree j oj hoj hji hjun hnot) (fun cs b => hsel i oi cs b hi) (fun cs b => hsel j oj cs b hoj) hQ hy h1
      have hfree' : ∀ k ok, ops[k]? = some ok → k ≠ i → (listed.setIfInBounds j true).getD k true = false →
          (∀ e ∈ ok.after, Region.binds .any e = true → e.on ≠ i) → oi.apart ops ok = true := fun k ok hk hki hun hno => by
        refine hfree k ok hk hki ?_ hno
        by_cases hjk : j = k
        · subst hjk; exact hjun
        · rw [getD_set_ne true hjk] at hun; exact hun
      have hcomm : (listed.setIfInBounds i true).setIfInBounds j true = (listed.setIfInBounds j true).setIfInBounds i true := Array.setIfInBounds_comm _ _ (Ne.symm hji)
      refine wpOp_mono (fun a' w' h3 => ?_) h2
      obtain ⟨hy', hS', h4⟩ := h3
      rw [hcomm] at hS' h4
      have hS2 : SA S A brk (listed.setIfInBounds j true) w' := hS'.down hib
      exact ⟨hS2, ih (listed.setIfInBounds j true) a' w' hfree' (ready_mono hr (Ne.symm hji)) hy' (hcl.set hj) hS2 h4⟩

/-! ### The moves -/
theorem wpB_done {listed : Array Bool} {a : Act} {w : World} (hr : Region.ready .any ops listed = []) (h : Q .normal a w) : ∀ fuel, wpB P ops Q S A brk fuel listed a w
  | 0 => ⟨hr, h⟩
  | _ + 1 => ⟨fun _ => h, by rw [hr]; simp⟩
end

section
variable {P : Program} {l : List Oper} {Q : Exit → Act → World → Prop} {S A : World → Prop} {brk : Nat} {a : Act} {w : World} {n : Nat} {ds : List Deferred} {L : List (Nat × Value)} {o : Oper} {listed : Array Bool} {fuel i : Nat}
/-- The beginning. -/
theorem dr_start {id : Nat} (S A : World → Prop) (brk : Nat) (hm : P.follows .mixedOrders = true) (hS : S w.drew) (hA : A w.drew) (hn : l.length = fuel)
    (h : S w.drew → A w.drew → Closed l.toArray (Array.replicate fuel false) → wpB P l.toArray (NoPanic Q) S A brk fuel (Array.replicate fuel false) a w.drew) : (Code.region id l.toArray true).wp P Q a w := by
  subst hn
  refine wp_region_noPanic (wp_region_any hm ?_)
  have := h hS hA (by have := Closed.start (ops := l.toArray); simpa using this)
  have h2 := wpAny_of_B _ _ _ _ this
  simpa using h2
theorem noPanic_put {v : Value} {dst : Option Tmp} : ∀ c (a : Act) (w : World), NoPanic Q (.panic c) (a.put dst v) w → NoPanic Q (.panic c) a w := fun _ _ _ h => h.elim
/-- One that may come up and no other waits to come before it. -/
def mayB (l : List Oper) (listed : Array Bool) (i : Nat) : Bool := Region.noSelect l.toArray && Region.free .any l.toArray listed i && (Region.ready .any l.toArray listed).contains i
theorem Runs.yields (hF : Fr a n ds L) {S' : World → Prop} (hg : Want l L o true) {v : Value} (hr : ∀ w, S' w → Runs P L w o (.value v) w) : YieldsIf P l.toArray S' o v a :=
  .inl ⟨hg.wanted hF, fun w hS => hr w hS _ hF.agr⟩
theorem closed_set (hc : Closed l.toArray listed) (hm : mayB l listed i = true) : Closed l.toArray (listed.setIfInBounds i true) := by
  unfold mayB at hm
  rw [Bool.and_eq_true, Bool.and_eq_true] at hm
  exact hc.set (by simpa using hm.2)
/-- A pure operation is taken first. -/
theorem dr_val {d : Nat} {v : Value} (hF : Fr a n ds L) (hc : Closed l.toArray listed) (hS : SA S A brk listed w) (i : Nat) (hi : l[i]? = some o) (hg : Want l L o true) (hd : o.dst = some d) (hdn : Nat.blt d n = true) (hm : mayB l listed i = true) (hib : Nat.beq i brk = false)
    (hr : ∀ w, Runs P L w o (.value v) w)
    (K : ∀ a', Fr a' n ds ((d, v) :: L) → Closed l.toArray (listed.setIfInBounds i true) → SA S A brk (listed.setIfInBounds i true) w → wpB P l.toArray (NoPanic Q) S A brk fuel (listed.setIfInBounds i true) a' w) : wpB P l.toArray (NoPanic Q) S A brk (fuel + 1) listed a w := by
  have hib' : i ≠ brk := fun e => by subst e; simp at hib
  have hc2 := closed_set hc hm
  unfold mayB at hm
  rw [Bool.and_eq_true, Bool.and_eq_true] at hm
  have hi' : l.toArray[i]? = some o := by simpa using hi
  refine wpB_first (S' := fun _ => True) hi' (Region.noSelect_spec hm.1.1) noPanic_put hib' (fun _ _ _ _ _ => trivial) fuel listed a w (Region.free_spec hi' hm.1.2) (by simpa using hm.2) (Runs.yields hF hg fun w _ => hr w) hc hS ?_
  have := K _ (hF.put (by simpa [Nat.blt_eq] using hdn) v) hc2 (hS.up hib')
  rw [hd]; exact this
theorem dr_off {d : Nat} (hF : Fr a n ds L) (hc : Closed l.toArray listed) (hS : SA S A brk listed w) (i : Nat) (hi : l[i]? = some o) (hg : Want l L o false) (hd : o.dst = some d) (hdn : Nat.blt d n = true) (hm : mayB l listed i = true) (hib : Nat.beq i brk = false)
    (K : ∀ a', Fr a' n ds ((d, undef) :: L) → Closed l.toArray (listed.setIfInBounds i true) → SA S A brk (listed.setIfInBounds i true) w → wpB P l.toArray (NoPanic Q) S A brk fuel (listed.setIfInBounds i true) a' w) : wpB P l.toArray (NoPanic Q) S A brk (fuel + 1) listed a w := by
  have hib' : i ≠ brk := fun e => by subst e; simp at hib
  have hc2 := closed_set hc hm
  unfold mayB at hm
  rw [Bool.and_eq_true, Bool.and_eq_true] at hm
  have hi' : l.toArray[i]? = some o := by simpa using hi
  refine wpB_first (S' := fun _ => True) hi' (Region.noSelect_spec hm.1.1) noPanic_put hib' (fun _ _ _ _ _ => trivial) fuel listed a w (Region.free_spec hi' hm.1.2) (by simpa using hm.2) (.inr ⟨hg.wanted hF, rfl⟩) hc hS ?_
  have := K _ (hF.put (by simpa [Nat.blt_eq] using hdn) undef) hc2 (hS.up hib')
  rw [hd]; exact this
/-- A load (what yields in every world that meets S) is taken first: number 'brk' waits for it, or there is no such number. -/
theorem dr_load {d : Nat} {v : Value} (hF : Fr a n ds L) (hc : Closed l.toArray listed) (hS : SA S A brk listed w) (i : Nat) (hi : l[i]? = some o) (hg : Want l L o true) (hd : o.dst = some d) (hdn : Nat.blt d n = true) (hm : mayB l listed i = true) (hib : Nat.beq i brk = false)
    (hw : (Nat.ble l.length brk || waitsB l.toArray brk i) = true) (hr : ∀ w, S w → Runs P L w o (.value v) w)
    (K : ∀ a', Fr a' n ds ((d, v) :: L) → Closed l.toArray (listed.setIfInBounds i true) → SA S A brk (listed.setIfInBounds i true) w → wpB P l.toArray (NoPanic Q) S A brk fuel (listed.setIfInBounds i true) a' w) : wpB P l.toArray (NoPanic Q) S A brk (fuel + 1) listed a w := by
  have hib' : i ≠ brk := fun e => by subst e; simp at hib
  have hc2 := closed_set hc hm
  unfold mayB at hm
  rw [Bool.and_eq_true, Bool.and_eq_true] at hm
  have hi' : l.toArray[i]? = some o := by simpa using hi
  refine wpB_first (S' := S) hi' (Region.noSelect_spec hm.1.1) noPanic_put hib' (fun ls w' hcl hun hSw => hSw.1 ?_) fuel listed a w (Region.free_spec hi' hm.1.2) (by simpa using hm.2) (Runs.yields hF hg hr) hc hS ?_
  · rw [Bool.or_eq_true] at hw
    rcases hw with hw | hw
    · have hb : l.length ≤ brk := Nat.le_of_ble_eq_true hw
      have hsz := hcl.1
      rw [Array.getD_eq_getD_getElem?, Array.getElem?_eq_none (by rw [hsz]; simpa using hb)]; rfl
    · cases hq : ls.getD brk false with
      | false => rfl
      | true =>
        have h1 := hcl.waits hw hq
        rcases Nat.lt_or_ge i ls.size with h' | h'
        · simp [h'] at hun h1; rw [hun] at h1; cases h1
        · simp [Array.getElem?_eq_none h'] at h1
  have := K _ (hF.put (by simpa [Nat.blt_eq] using hdn) v) hc2 (hS.up hib')
  rw [hd]; exact this
/-- A load of what does not turn here. -/
theorem dr_loadA {d : Nat} {v : Value} (hF : Fr a n ds L) (hc : Closed l.toArray listed) (hS : SA S A brk listed w) (i : Nat) (hi : l[i]? = some o) (hg : Want l L o true) (hd : o.dst = some d) (hdn : Nat.blt d n = true) (hm : mayB l listed i = true) (hib : Nat.beq i brk = false)
    (hr : ∀ w, A w → Runs P L w o (.value v) w)
    (K : ∀ a', Fr a' n ds ((d, v) :: L) → Closed l.toArray (listed.setIfInBounds i true) → SA S A brk (listed.setIfInBounds i true) w → wpB P l.toArray (NoPanic Q) S A brk fuel (listed.setIfInBounds i true) a' w) : wpB P l.toArray (NoPanic Q) S A brk (fuel + 1) listed a w := by
  have hib' : i ≠ brk := fun e => by subst e; simp at hib
  have hc2 := closed_set hc hm
  unfold mayB at hm
  rw [Bool.and_eq_true, Bool.and_eq_true] at hm
  have hi' : l.toArray[i]? = some o := by simpa using hi
  refine wpB_first (S' := A) hi' (Region.noSelect_spec hm.1.1) noPanic_put hib' (fun ls w' hcl hun hSw => hSw.2) fuel listed a w (Region.free_spec hi' hm.1.2) (by simpa using hm.2) (Runs.yields hF hg hr) hc hS ?_
  have := K _ (hF.put (by simpa [Nat.blt_eq] using hdn) v) hc2 (hS.up hib')
  rw [hd]; exact this
/-- The one operation that may come up now. -/
theorem wpB_one (hc : Closed l.toArray listed) (i : Nat) (hr : Region.ready .any l.toArray listed = [i]) (h : Closed l.toArray (listed.setIfInBounds i true) → wpOp P l.toArray (NoPanic Q) i (fun a' w' => SA S A brk (listed.setIfInBounds i true) w' ∧ wpB P l.toArray (NoPanic Q) S A brk fuel (listed.setIfInBounds i true) a' w') a w) :
    wpB P l.toArray (NoPanic Q) S A brk (fuel + 1) listed a w :=
  ⟨fun h0 => (by rw [hr] at h0; cases h0), fun j hj => by
    rw [hr] at hj
    obtain rfl := List.mem_singleton.1 hj
    exact h (hc.set (by rw [hr]; exact hj))⟩
theorem dr_any {d : Nat} {R : Value → World → Prop} (hF : Fr a n ds L) (hc : Closed l.toArray listed) (i : Nat) (hi : l[i]? = some o) (hg : Want l L o true) (hd : o.dst = some d) (hdn : Nat.blt d n = true) (hrd : Region.ready .any l.toArray listed = [i]) (hr : ∃ v w', Runs P L w o (.value v) w' ∧ R v w')
    (K : ∀ v w', R v w' → ∀ a', Fr a' n ds ((d, v) :: L) → Closed l.toArray (listed.setIfInBounds i true) → SA S A brk (listed.setIfInBounds i true) w' ∧ (SA S A brk (listed.setIfInBounds i true) w' → wpB P l.toArray (NoPanic Q) S A brk fuel (listed.setIfInBounds i true) a' w')) : wpB P l.toArray (NoPanic Q) S A brk (fuel + 1) listed a w := by
  refine wpB_one hc i hrd fun hc2 => ?_
  obtain ⟨v, w', hr, hR⟩ := hr
  have hi' : l.toArray[i]? = some o := by simpa using hi
  unfold wpOp
  rw [hi']
  simp only [hg.wanted hF, if_true]
  refine .inl ?_
  unfold Oper.wp
  rw [hr _ hF.agr, Oper.upon_value, hd]
  have hK := K v w' hR _ (hF.put (by simpa [Nat.blt_eq] using hdn) v) hc2
  exact ⟨hK.1, hK.2 hK.1⟩
theorem dr_effx {R : World → Prop} (hF : Fr a n ds L) (hc : Closed l.toArray listed) (i : Nat) (hi : l[i]? = some o) (hg : Want l L o true) (hd : o.dst = none) (hrd : Region.ready .any l.toArray listed = [i]) (hr : ∃ w', Runs P L w o .skip w' ∧ R w')
    (K : ∀ w', R w' → Closed l.toArray (listed.setIfInBounds i true) → SA S A brk (listed.setIfInBounds i true) w' ∧ (SA S A brk (listed.setIfInBounds i true) w' → wpB P l.toArray (NoPanic Q) S A brk fuel (listed.setIfInBounds i true) a w')) : wpB P l.toArray (NoPanic Q) S A brk (fuel + 1) listed a w := by
  refine wpB_one hc i hrd fun hc2 => ?_
  obtain ⟨w', hr, hR⟩ := hr
  have hi' : l.toArray[i]? = some o := by simpa using hi
  unfold wpOp
  rw [hi']
  simp only [hg.wanted hF, if_true]
  refine .inl ?_
  unfold Oper.wp
  rw [hr _ hF.agr, Oper.upon_skip, hd]
  have hK := K w' hR hc2
  exact ⟨hK.1, hK.2 hK.1⟩
theorem dr_call {d : Nat} {f : FuncId} {args : Array Value} {R : Value → World → Prop} (hF : Fr a n ds L) (hc : Closed l.toArray listed) (i : Nat) (hi : l[i]? = some o) (hg : Want l L o true) (hd : o.dst = some d) (hdn : Nat.blt d n = true) (hrd : Region.ready .any l.toArray listed = [i]) (hr : Runs P L w o (.enter f args) w)
    (hcall : Calls P f args w fun e w' => ∃ v, e = .returned v ∧ R v w')
    (K : ∀ v w', R v w' → ∀ a', Fr a' n ds ((d, v) :: L) → Closed l.toArray (listed.setIfInBounds i true) → SA S A brk (listed.setIfInBounds i true) w' ∧ (SA S A brk (listed.setIfInBounds i true) w' → wpB P l.toArray (NoPanic Q) S A brk fuel (listed.setIfInBounds i true) a' w')) : wpB P l.toArray (NoPanic Q) S A brk (fuel + 1) listed a w := by
  refine wpB_one hc i hrd fun hc2 => ?_
  have hi' : l.toArray[i]? = some o := by simpa using hi
  unfold wpOp
  rw [hi']
  simp only [hg.wanted hF, if_true]
  refine .inl ?_
  unfold Oper.wp
  rw [hr _ hF.agr, Oper.upon_enter]
  refine hcall.mono fun e w' ⟨v, he, hR⟩ => ?_
  subst he
  rw [hd]
  have hK := K v w' hR _ (hF.put (by simpa [Nat.blt_eq] using hdn) v) hc2
  exact ⟨hK.1, hK.2 hK.1⟩
/-! Several effects may come up: each is followed -/
def StepB (P : Program) (l : List Oper) (Q : Exit → Act → World → Prop) (S A : World → Prop) (brk fuel : Nat) (listed : Array Bool) (a : Act) (w : World) (i : Nat) : Prop :=
  Closed l.toArray (listed.setIfInBounds i true) → wpOp P l.toArray (NoPanic Q) i (fun a' w' => SA S A brk (listed.setIfInBounds i true) w' ∧ wpB P l.toArray (NoPanic Q) S A brk fuel (listed.setIfInBounds i true) a' w') a w
def Forks (P : Program) (l : List Oper) (Q : Exit → Act → World → Prop) (S A : World → Prop) (brk fuel : Nat) (listed : Array Bool) (a : Act) (w : World) (r : List Nat) : Prop := ∀ i ∈ r, StepB P l Q S A brk fuel listed a w i
theorem fk_nil : Forks P l Q S A brk fuel listed a w [] := fun i hi => by cases hi
theorem fk_cons {r : List Nat} (h : StepB P l Q S A brk fuel listed a w i) (hr : Forks P l Q S A brk fuel listed a w r) : Forks P l Q S A brk fuel listed a w (i :: r) := fun j hj => by
  rcases List.mem_cons.1 hj with rfl | hj
  · exact h
  · exact hr j hj
theorem dr_fork {r : List Nat} (hc : Closed l.toArray listed) (hn : r ≠ []) (hr : Region.ready .any l.toArray listed = r) (h : Forks P l Q S A brk fuel listed a w r) : wpB P l.toArray (NoPanic Q) S A brk (fuel + 1) listed a w :=
  ⟨fun h0 => absurd (hr.symm.trans h0) hn, fun j hj => h j (hr ▸ hj) (hc.set hj)⟩
theorem fk_any {d : Nat} {R : Value → World → Prop} (hF : Fr a n ds L) (i : Nat) (hi : l[i]? = some o) (hg : Want l L o true) (hd : o.dst = some d) (hdn : Nat.blt d n = true) (hr : ∃ v w', Runs P L w o (.value v) w' ∧ R v w')
    (K : ∀ v w', R v w' → ∀ a', Fr a' n ds ((d, v) :: L) → Closed l.toArray (listed.setIfInBounds i true) → SA S A brk (listed.setIfInBounds i true) w' ∧ (SA S A brk (listed.setIfInBounds i true) w' → wpB P l.toArray (NoPanic Q) S A brk fuel (listed.setIfInBounds i true) a' w')) : StepB P l Q S A brk fuel listed a w i := fun hc2 => by
  obtain ⟨v, w', hr, hR⟩ := hr
  have hi' : l.toArray[i]? = some o := by simpa using hi
  unfold wpOp
  rw [hi']
  simp only [hg.wanted hF, if_true]
  refine .inl ?_
  unfold Oper.wp
  rw [hr _ hF.agr, Oper.upon_value, hd]
  have hK := K v w' hR _ (hF.put (by simpa [Nat.blt_eq] using hdn) v) hc2
  exact ⟨hK.1, hK.2 hK.1⟩
theorem fk_effx {R : World → Prop} (hF : Fr a n ds L) (i : Nat) (hi : l[i]? = some o) (hg : Want l L o true) (hd : o.dst = none) (hr : ∃ w', Runs P L w o .skip w' ∧ R w')
    (K : ∀ w', R w' → Closed l.toArray (listed.setIfInBounds i true) → SA S A brk (listed.setIfInBounds i true) w' ∧ (SA S A brk (listed.setIfInBounds i true) w' → wpB P l.toArray (NoPanic Q) S A brk fuel (listed.setIfInBounds i true) a w')) : StepB P l Q S A brk fuel listed a w i := fun hc2 => by
  obtain ⟨w', hr, hR⟩ := hr
  have hi' : l.toArray[i]? = some o := by simpa using hi
  unfold wpOp
  rw [hi']
  simp only [hg.wanted hF, if_true]
  refine .inl ?_
  unfold Oper.wp
  rw [hr _ hF.agr, Oper.upon_skip, hd]
  have hK := K w' hR hc2
  exact ⟨hK.1, hK.2 hK.1⟩
theorem fk_call {d : Nat} {f : FuncId} {args : Array Value} {R : Value → World → Prop} (hF : Fr a n ds L) (i : Nat) (hi : l[i]? = some o) (hg : Want l L o true) (hd : o.dst = some d) (hdn : Nat.blt d n = true) (hr : Runs P L w o (.enter f args) w)
    (hcall : Calls P f args w fun e w' => ∃ v, e = .returned v ∧ R v w')
    (K : ∀ v w', R v w' → ∀ a', Fr a' n ds ((d, v) :: L) → Closed l.toArray (listed.setIfInBounds i true) → SA S A brk (listed.setIfInBounds i true) w' ∧ (SA S A brk (listed.setIfInBounds i true) w' → wpB P l.toArray (NoPanic Q) S A brk fuel (listed.setIfInBounds i true) a' w')) : StepB P l Q S A brk fuel listed a w i := fun hc2 => by
  have hi' : l.toArray[i]? = some o := by simpa using hi
  unfold wpOp
  rw [hi']
  simp only [hg.wanted hF, if_true]
  refine .inl ?_
  unfold Oper.wp
  rw [hr _ hF.agr, Oper.upon_enter]
  refine hcall.mono fun e w' ⟨v, he, hR⟩ => ?_
  subst he
  rw [hd]
  have hK := K v w' hR _ (hF.put (by simpa [Nat.blt_eq] using hdn) v) hc2
  exact ⟨hK.1, hK.2 hK.1⟩
theorem dr_done (hr : Region.ready .any l.toArray listed = []) (h : Q .normal a w) : wpB P l.toArray (NoPanic Q) S A brk fuel listed a w := wpB_done hr (NoPanic.normal h) fuel
end
end Go.Proofs.Gw
