/- The moves of a printed walk, said of frames that hold a list of slots: what can be found by unifying is found by itself. Over any program. -/
import Derived.Test.YtmlfpniaknmmfaaGt
namespace Go.Proofs.Gw
open Go Go.RowKit
set_option linter.unusedVariables false
set_option linter.unusedSimpArgs false

/-! ## Goals over frames -/
section
variable {P : Program} {l rest : List Oper} {Q Q' : Exit → Act → World → Prop} {w w' w0 : World} {o : Oper} {n d : Nat} {ds : List Deferred} {L M : List (Nat × Value)} {x y : Code} {c : Operand} {e : Exit} {p : Prop}
def Gl (P : Program) (n : Nat) (ds : List Deferred) (l : List Oper) (Q : Exit → Act → World → Prop) (rest : List Oper) (L : List (Nat × Value)) (w : World) : Prop := ∀ a, Fr a n ds L → wpList P l.toArray Q rest a w
def Gc (P : Program) (n : Nat) (ds : List Deferred) (Q : Exit → Act → World → Prop) (x : Code) (L : List (Nat × Value)) (w : World) : Prop := ∀ a, Fr a n ds L → x.wp P Q a w
def Ge (n : Nat) (ds : List Deferred) (Q : Exit → Act → World → Prop) (e : Exit) (L : List (Nat × Value)) (w : World) : Prop := ∀ a, Fr a n ds L → Q e a w
/-- Does the operation come up? -/
def gdB (l : List Oper) (L : List (Nat × Value)) (o : Oper) : Option Bool :=
  match o.guard with
  | none => some true
  | some (j, p) =>
    match l[j]? with
    | none => none
    | some oj =>
      match oj.dst with
      | none => none
      | some dj =>
        match lk L dj with
        | some (.bool t) => some (t == p)
        | some (.tuple t) => if t.size = 0 then some false else none
        | _ => none
theorem gdB_want {b : Bool} (h : gdB l L o = some b) : Want l L o b := by
  unfold gdB at h
  split at h
  · rename_i hg; cases h; exact .free hg
  · rename_i j p hg
    split at h
    · cases h
    · rename_i oj hj
      split at h
      · cases h
      · rename_i dj hd
        split at h
        · rename_i t ht; exact .on hg hj hd ht (by injection h)
        · rename_i t ht
          split at h
          · rename_i hs
            injection h with h; subst h
            have : t = #[] := Array.eq_empty_of_size_eq_zero hs
            subst this
            exact .off hg hj hd ht
          · cases h
        · cases h
theorem zlv {v : Value} (hr : Runs P L w o (.value v) w') (K : Gl P n ds l Q rest ((d, v) :: L) w') (hg : gdB l L o = some true := by exact rfl) (hd : o.dst = some d := by exact rfl) (hdn : Nat.blt d n = true := by exact rfl) : Gl P n ds l Q (o :: rest) L w :=
  fun _ hF => ls_val hF (gdB_want hg) hd hdn hr K
theorem zlvr {v : Value} (hg : gdB l L o = some true) (hd : o.dst = some d) (hdn : Nat.blt d n = true) (hr : Runs P L w o (.value v) w') (K : Gl P n ds l Q rest ((d, v) :: L) w') : Gl P n ds l Q (o :: rest) L w := zlv hr K hg hd hdn
theorem zlo (K : Gl P n ds l Q rest ((d, undef) :: L) w) (hg : gdB l L o = some false := by exact rfl) (hd : o.dst = some d := by exact rfl) (hdn : Nat.blt d n = true := by exact rfl) : Gl P n ds l Q (o :: rest) L w :=
  fun _ hF => ls_off hF (gdB_want hg) hd hdn K
theorem zla {R : Value → World → Prop} (hr : ∃ v w', Runs P L w o (.value v) w' ∧ R v w') (K : ∀ v w', R v w' → Gl P n ds l Q rest ((d, v) :: L) w') (hg : gdB l L o = some true := by exact rfl) (hd : o.dst = some d := by exact rfl) (hdn : Nat.blt d n = true := by exact rfl) : Gl P n ds l Q (o :: rest) L w :=
  fun _ hF => ls_any hF (gdB_want hg) hd hdn hr K
theorem zlar {R : Value → World → Prop} (hg : gdB l L o = some true) (hd : o.dst = some d) (hdn : Nat.blt d n = true) (hr : ∃ v w', Runs P L w o (.value v) w' ∧ R v w') (K : ∀ v w', R v w' → Gl P n ds l Q rest ((d, v) :: L) w') : Gl P n ds l Q (o :: rest) L w := zla hr K hg hd hdn
theorem zle {R : World → Prop} (hr : ∃ w', Runs P L w o .skip w' ∧ R w') (K : ∀ w', R w' → Gl P n ds l Q rest L w') (hg : gdB l L o = some true := by exact rfl) (hd : o.dst = none := by exact rfl) : Gl P n ds l Q (o :: rest) L w :=
  fun a hF => ls_effx hF (gdB_want hg) hd hr fun w' h => K w' h a hF
theorem zler {R : World → Prop} (hg : gdB l L o = some true) (hd : o.dst = none) (hr : ∃ w', Runs P L w o .skip w' ∧ R w') (K : ∀ w', R w' → Gl P n ds l Q rest L w') : Gl P n ds l Q (o :: rest) L w := zle hr K hg hd
theorem zlc {f : FuncId} {args : Array Value} {R : Value → World → Prop} (hr : Runs P L w o (.enter f args) w) (hc : Calls P f args w fun e w' => ∃ v, e = .returned v ∧ R v w') (K : ∀ v w', R v w' → Gl P n ds l Q rest ((d, v) :: L) w')
    (hg : gdB l L o = some true := by exact rfl) (hd : o.dst = some d := by exact rfl) (hdn : Nat.blt d n = true := by exact rfl) : Gl P n ds l Q (o :: rest) L w :=
  fun _ hF => ls_call hF (gdB_want hg) hd hdn hr hc K
theorem zln (K : Ge n ds Q .normal L w) : Gl P n ds l Q [] L w := K
/-- A slot's truth is asked. -/
theorem zlb (d : Nat) (ht : p → Gl P n ds l Q rest ((d, .bool true) :: L) w) (hf : ¬ p → Gl P n ds l Q rest ((d, .bool false) :: L) w) (hd : lk L d = some (B p) := by exact rfl) : Gl P n ds l Q rest L w :=
  fun _ hF => by_slot hF hd (fun hp h => ht hp _ h) (fun hp h => hf hp _ h)
theorem zlas (d : Nat) {u v : Value} (e : v = u) (K : Gl P n ds l Q rest ((d, u) :: L) w) (hd : lk L d = some v := by exact rfl) : Gl P n ds l Q rest L w := fun a hF => K a (hF.as hd e)

/-! ## Control -/
def Sub (L M : List (Nat × Value)) : Prop := ∀ t v, lk M t = some v → lk L t = some v
theorem zpk0 : Sub L [] := fun t v h => by simp [lk] at h
theorem zpk {t : Nat} {v : Value} (h : lk L t = some v) (hM : Sub L M) : Sub L ((t, v) :: M) := fun s u hs => by
  simp only [lk] at hs
  by_cases e : t = s
  · subst e
    rw [Nat.beq_refl] at hs
    simp only [cond_true, Option.some.injEq] at hs
    subst hs; exact h
  · rw [nbeq e] at hs
    exact hM s u hs
theorem Fr.sub {a : Act} (h : Fr a n ds L) (hM : Sub L M) : Fr a n ds M := ⟨h.size, h.defers, fun t v ht => h.get t v (hM t v ht)⟩
theorem zsq (h : Gc P n ds (Exit.then (y.wp P Q) Q) x L w) : Gc P n ds Q (.seq x y) L w := fun a hF => wp_seq (h a hF)
theorem zrg {id : Nat} (h : Gl P n ds l Q l L w) : Gc P n ds Q (.region id l.toArray false) L w := fun a hF => wp_region_lit (h a hF)
theorem zcif (ht : p → Gc P n ds Q x L w) (hf : ¬ p → Gc P n ds Q y L w) (hc : evL L c = some (B p) := by exact rfl) : Gc P n ds Q (.cond c x y) L w := fun a hF => cw_if hF hc (fun h => ht h a hF) fun h => hf h a hF
theorem zct (h : Gc P n ds Q x L w) (hc : evL L c = some (.bool true) := by exact rfl) : Gc P n ds Q (.cond c x y) L w := fun a hF => cw_t hF hc (h a hF)
theorem zcf (h : Gc P n ds Q y L w) (hc : evL L c = some (.bool false) := by exact rfl) : Gc P n ds Q (.cond c x y) L w := fun a hF => cw_f hF hc (h a hF)
theorem zsk (h : Ge n ds Q .normal L w) : Gc P n ds Q .skip L w := fun a hF => wp_skip (h a hF)
theorem zrt (h : Ge n ds Q .ret L w) : Gc P n ds Q .ret L w := fun a hF => wp_ret (h a hF)
theorem zxt {id : Nat} (h : Ge n ds Q (.exit id) L w) : Gc P n ds Q (.exit id) L w := fun a hF => wp_exit (h a hF)
theorem zbk {id : Nat} (h : Gc P n ds (Exit.inBlock id Q) x L w) : Gc P n ds Q (.block id x) L w := fun a hF => wp_block (h a hF)
theorem ztn (h : Gc P n ds Q y L w) : Ge n ds (Exit.then (y.wp P Q) Q') .normal L w := h
theorem ztx {id : Nat} {K : Act → World → Prop} (h : Ge n ds Q (.exit id) L w) : Ge n ds (Exit.then K Q) (.exit id) L w := h
theorem ztr {K : Act → World → Prop} (h : Ge n ds Q .ret L w) : Ge n ds (Exit.then K Q) .ret L w := h
theorem zbn {id : Nat} (h : Ge n ds Q .normal L w) : Ge n ds (Exit.inBlock id Q) .normal L w := h
theorem zbr {id : Nat} (h : Ge n ds Q .ret L w) : Ge n ds (Exit.inBlock id Q) .ret L w := h
theorem zbh {id : Nat} (h : Ge n ds Q .normal L w) : Ge n ds (Exit.inBlock id Q) (.exit id) L w := fun a hF => inb_hit (h a hF)
theorem zbm {id j : Nat} (h : Ge n ds Q (.exit j) L w) (hne : Nat.beq j id = false := by exact rfl) : Ge n ds (Exit.inBlock id Q) (.exit j) L w := fun a hF => inb_miss hne (h a hF)
theorem zlp (J : Nat → List (Nat × Value) → World → Prop) {m : Nat} (h0 : J m M w) (round : ∀ m M w, J m M w → Gc P n ds (Exit.then (fun a w => ∃ m', m' < m ∧ ∃ M', J m' M' w ∧ Fr a n ds M') Q) x M w)
    (hM : Sub L M := by repeat' first | exact zpk0 | refine zpk rfl ?_) : Gc P n ds Q (.loop x) L w := fun a hF =>
  cw_loop (fun m a w => ∃ M, J m M w ∧ Fr a n ds M) ⟨M, h0, hF.sub hM⟩ fun m a w ⟨M', hJ, hF'⟩ => round m M' w hJ a hF'
theorem zlq {J : Nat → List (Nat × Value) → World → Prop} {m m' : Nat} (hJ : J m' M w) (hlt : m' < m := by omega) (hM : Sub L M := by repeat' first | exact zpk0 | refine zpk rfl ?_) : Ge n ds (Exit.then (fun a w => ∃ m', m' < m ∧ ∃ M', J m' M' w ∧ Fr a n ds M') Q) .normal L w :=
  fun a hF => ⟨m', hlt, M, hJ, hF.sub hM⟩
theorem zgcut (J : List (Nat × Value) → World → Prop) (h : Gc P n ds (Exit.then (fun a w => ∃ M, J M w ∧ Fr a n ds M) (fun e a w => e ≠ .normal ∧ Q e a w)) x L w) (k : ∀ M w, J M w → Ge n ds Q .normal M w) : Gc P n ds Q x L w :=
  fun a hF => cw_cut (fun a w => ∃ M, J M w ∧ Fr a n ds M) (h a hF) fun a w ⟨M, hJ, hF'⟩ => k M w hJ a hF'
theorem zgj {J : List (Nat × Value) → World → Prop} (hJ : J M w) (hM : Sub L M := by repeat' first | exact zpk0 | refine zpk rfl ?_) : Ge n ds (Exit.then (fun a w => ∃ M, J M w ∧ Fr a n ds M) Q) .normal L w := fun a hF => ⟨M, hJ, hF.sub hM⟩

theorem zcr {K : Act → World → Prop} (h : Ge n ds Q .ret L w) : Ge n ds (Exit.then K (fun e a w => e ≠ .normal ∧ Q e a w)) .ret L w := fun a hF => ⟨by simp, h a hF⟩
theorem zcx {id : Nat} {K : Act → World → Prop} (h : Ge n ds Q (.exit id) L w) : Ge n ds (Exit.then K (fun e a w => e ≠ .normal ∧ Q e a w)) (.exit id) L w := fun a hF => ⟨by simp, h a hF⟩

/-! ## Beginning and end -/
theorem zenG {f : FuncId} {fn : Func} {vs : List Value} {R : Ending → World → Prop} (hf : P.funcs[f]? = some fn) (hn : fn.ntmps = n) (K : ∀ w, Sat w0 w [] → Gc P n [] (bodyPost P fn R) x (num 0 vs) w) (hb : fn.body = some x := by exact rfl) (hv : Nat.ble vs.length n = true := by exact rfl) : Calls P f vs.toArray w0 R :=
  enterS hf hb hn hv fun a w hS hF => K w hS a hF
theorem zenF {f : FuncId} {fn : Func} {vs : List Value} {R : Ending → World → Prop} (hf : P.funcs[f]? = some fn) (hn : fn.ntmps = n) (K : Gc P n [] (bodyPost P fn R) x (num 0 vs) w) (hb : fn.body = some x := by exact rfl) (hv : Nat.ble vs.length n = true := by exact rfl) : Calls P f vs.toArray w R :=
  enter hf hb hn hv fun a hF => K a hF
variable {fn : Func} {R : Ending → World → Prop}
theorem zfn0 (h : R (.returned (.tuple #[])) w) (hr : fn.results = #[] := by exact rfl) : Ge n [] (bodyPost P fn R) .normal L w := fun _ hF => fin0 hF hr h
theorem zf0 (h : R (.returned (.tuple #[])) w) (hr : fn.results = #[] := by exact rfl) : Ge n [] (bodyPost P fn R) .ret L w := fun _ hF => fin0 hF hr h
theorem zf1 {t : Nat} {v : Value} (h : R (.returned v) w) (hr : fn.results = #[.tmp t] := by exact rfl) (hv : lk L t = some v := by exact rfl) : Ge n [] (bodyPost P fn R) .ret L w := fun _ hF => fin1 hF hr hv h
theorem zf2 {t u : Nat} {v z : Value} (h : R (.returned (.tuple #[v, z])) w) (hr : fn.results = #[.tmp t, .tmp u] := by exact rfl) (hv : lk L t = some v := by exact rfl) (hz : lk L u = some z := by exact rfl) : Ge n [] (bodyPost P fn R) .ret L w := fun _ hF => fin2 hF hr hv hz h
theorem zf3 {t u s : Nat} {v z y : Value} (h : R (.returned (.tuple #[v, z, y])) w) (hr : fn.results = #[.tmp t, .tmp u, .tmp s] := by exact rfl) (hv : lk L t = some v := by exact rfl) (hz : lk L u = some z := by exact rfl) (hy : lk L s = some y := by exact rfl) : Ge n [] (bodyPost P fn R) .ret L w := fun _ hF => fin3 hF hr hv hz hy h
theorem zf4 {t u s r : Nat} {v z y q : Value} (h : R (.returned (.tuple #[v, z, y, q])) w) (hr : fn.results = #[.tmp t, .tmp u, .tmp s, .tmp r] := by exact rfl) (hv : lk L t = some v := by exact rfl) (hz : lk L u = some z := by exact rfl) (hy : lk L s = some y := by exact rfl) (hq : lk L r = some q := by exact rfl) : Ge n [] (bodyPost P fn R) .ret L w := fun _ hF => fin4 hF hr hv hz hy hq h
variable {E : List Ent}
theorem zfct (i : Nat) {s t g k : Nat} {T : TypeId} {v : Value} {cs : List Value} (ht : structT P T = some k) (hS : Sat w0 w E) (h : R (.returned (.tuple #[.agg cs.toArray, v])) w) (hr : fn.results = #[.cell s T, .tmp t] := by exact rfl) (hs : lk L s = some (.pointer (some ⟨g, 0, none⟩)) := by exact rfl) (hv : lk L t = some v := by exact rfl)
    (hi : E[i]? = some (.blk g cs) := by exact rfl) (hk : cs.length = k := by exact rfl) : Ge n [] (bodyPost P fn R) .ret L w := fun _ hF => fin_ct i hF hr hs hv ht hS hi hk h
theorem zfc (i : Nat) {s g k : Nat} {T : TypeId} {cs : List Value} (ht : structT P T = some k) (hS : Sat w0 w E) (h : R (.returned (.agg cs.toArray)) w) (hr : fn.results = #[.cell s T] := by exact rfl) (hs : lk L s = some (.pointer (some ⟨g, 0, none⟩)) := by exact rfl)
    (hi : E[i]? = some (.blk g cs) := by exact rfl) (hk : cs.length = k := by exact rfl) : Ge n [] (bodyPost P fn R) .ret L w := fun _ hF => fin_c i hF hr hs ht hS hi hk h
theorem zftct (i : Nat) {r s t g k : Nat} {T : TypeId} {u v : Value} {cs : List Value} (ht : structT P T = some k) (hS : Sat w0 w E) (h : R (.returned (.tuple #[u, .agg cs.toArray, v])) w) (hr : fn.results = #[.tmp r, .cell s T, .tmp t] := by exact rfl) (hu : lk L r = some u := by exact rfl) (hs : lk L s = some (.pointer (some ⟨g, 0, none⟩)) := by exact rfl) (hv : lk L t = some v := by exact rfl)
    (hi : E[i]? = some (.blk g cs) := by exact rfl) (hk : cs.length = k := by exact rfl) : Ge n [] (bodyPost P fn R) .ret L w := fun _ hF => fin_tct i hF hr hu hs hv ht hS hi hk h
end

/-! ## Regions that draw -/
section
variable {P : Program} {l : List Oper} {Q : Exit → Act → World → Prop} {S A : World → Prop} {brk : Nat} {w : World} {n d : Nat} {ds : List Deferred} {L : List (Nat × Value)} {listed : Array Bool} {fuel : Nat} {p : Prop}
def opAt (l : List Oper) (i : Nat) : Oper := match l[i]? with
  | some o => o
  | none => { op := .move (.const undef), pos := "", dst := none, type := 0, guard := none, after := #[] }
theorem opAt_eq {i : Nat} (h : Nat.blt i l.length = true) : l[i]? = some (opAt l i) := by
  unfold opAt
  have : i < l.length := by simpa [Nat.blt_eq] using h
  simp [this]
def Gd (P : Program) (n : Nat) (ds : List Deferred) (l : List Oper) (Q : Exit → Act → World → Prop) (S A : World → Prop) (brk fuel : Nat) (listed : Array Bool) (L : List (Nat × Value)) (w : World) : Prop :=
  Closed l.toArray listed → SA S A brk listed w → ∀ a, Fr a n ds L → wpB P l.toArray (NoPanic Q) S A brk fuel listed a w
theorem zdv (i : Nat) {v : Value} (hr : ∀ w, Runs P L w (opAt l i) (.value v) w) (K : Gd P n ds l Q S A brk fuel (listed.setIfInBounds i true) ((d, v) :: L) w) (hi : Nat.blt i l.length = true := by exact rfl) (hg : gdB l L (opAt l i) = some true := by exact rfl) (hd : (opAt l i).dst = some d := by exact rfl) (hdn : Nat.blt d n = true := by exact rfl)
    (hm : mayB l listed i = true := by kernel_rfl) (hib : Nat.beq i brk = false := by exact rfl) : Gd P n ds l Q S A brk (fuel + 1) listed L w := fun hc hS a hF => dr_val hF hc hS i (opAt_eq hi) (gdB_want hg) hd hdn hm hib hr fun a' h1 h2 h3 => K h2 h3 a' h1
theorem zdof (i : Nat) (K : Gd P n ds l Q S A brk fuel (listed.setIfInBounds i true) ((d, undef) :: L) w) (hi : Nat.blt i l.length = true := by exact rfl) (hg : gdB l L (opAt l i) = some false := by exact rfl) (hd : (opAt l i).dst = some d := by exact rfl) (hdn : Nat.blt d n = true := by exact rfl)
    (hm : mayB l listed i = true := by kernel_rfl) (hib : Nat.beq i brk = false := by exact rfl) : Gd P n ds l Q S A brk (fuel + 1) listed L w := fun hc hS a hF => dr_off hF hc hS i (opAt_eq hi) (gdB_want hg) hd hdn hm hib fun a' h1 h2 h3 => K h2 h3 a' h1
theorem zdl (i : Nat) {v : Value} (hr : ∀ w, S w → Runs P L w (opAt l i) (.value v) w) (K : Gd P n ds l Q S A brk fuel (listed.setIfInBounds i true) ((d, v) :: L) w) (hi : Nat.blt i l.length = true := by exact rfl) (hg : gdB l L (opAt l i) = some true := by exact rfl) (hd : (opAt l i).dst = some d := by exact rfl) (hdn : Nat.blt d n = true := by exact rfl)
    (hm : mayB l listed i = true := by kernel_rfl) (hib : Nat.beq i brk = false := by exact rfl) (hw : (Nat.ble l.length brk || waitsB l.toArray brk i) = true := by kernel_rfl) : Gd P n ds l Q S A brk (fuel + 1) listed L w := fun hc hS a hF => dr_load hF hc hS i (opAt_eq hi) (gdB_want hg) hd hdn hm hib hw hr fun a' h1 h2 h3 => K h2 h3 a' h1
theorem zdla (i : Nat) {v : Value} (hr : ∀ w, A w → Runs P L w (opAt l i) (.value v) w) (K : Gd P n ds l Q S A brk fuel (listed.setIfInBounds i true) ((d, v) :: L) w) (hi : Nat.blt i l.length = true := by exact rfl) (hg : gdB l L (opAt l i) = some true := by exact rfl) (hd : (opAt l i).dst = some d := by exact rfl) (hdn : Nat.blt d n = true := by exact rfl)
    (hm : mayB l listed i = true := by kernel_rfl) (hib : Nat.beq i brk = false := by exact rfl) : Gd P n ds l Q S A brk (fuel + 1) listed L w := fun hc hS a hF => dr_loadA hF hc hS i (opAt_eq hi) (gdB_want hg) hd hdn hm hib hr fun a' h1 h2 h3 => K h2 h3 a' h1
theorem zda (i : Nat) {R : Value → World → Prop} (hr : ∃ v w', Runs P L w (opAt l i) (.value v) w' ∧ R v w') (K : ∀ v w', R v w' → SA S A brk (listed.setIfInBounds i true) w' ∧ Gd P n ds l Q S A brk fuel (listed.setIfInBounds i true) ((d, v) :: L) w') (hi : Nat.blt i l.length = true := by exact rfl) (hg : gdB l L (opAt l i) = some true := by exact rfl) (hd : (opAt l i).dst = some d := by exact rfl) (hdn : Nat.blt d n = true := by exact rfl)
    (hrd : Region.ready .any l.toArray listed = [i] := by kernel_rfl) : Gd P n ds l Q S A brk (fuel + 1) listed L w := fun hc hS a hF => dr_any hF hc i (opAt_eq hi) (gdB_want hg) hd hdn hrd hr fun v w' h a' h1 h2 => ⟨(K v w' h).1, fun h3 => (K v w' h).2 h2 h3 a' h1⟩
theorem zde (i : Nat) {R : World → Prop} (hr : ∃ w', Runs P L w (opAt l i) .skip w' ∧ R w') (K : ∀ w', R w' → SA S A brk (listed.setIfInBounds i true) w' ∧ Gd P n ds l Q S A brk fuel (listed.setIfInBounds i true) L w') (hi : Nat.blt i l.length = true := by exact rfl) (hg : gdB l L (opAt l i) = some true := by exact rfl) (hd : (opAt l i).dst = none := by exact rfl)
    (hrd : Region.ready .any l.toArray listed = [i] := by kernel_rfl) : Gd P n ds l Q S A brk (fuel + 1) listed L w := fun hc hS a hF => dr_effx hF hc i (opAt_eq hi) (gdB_want hg) hd hrd hr fun w' h h2 => ⟨(K w' h).1, fun h3 => (K w' h).2 h2 h3 a hF⟩
theorem zdc (i : Nat) {f : FuncId} {args : Array Value} {R : Value → World → Prop} (hr : Runs P L w (opAt l i) (.enter f args) w) (hcall : Calls P f args w fun e w' => ∃ v, e = .returned v ∧ R v w') (K : ∀ v w', R v w' → SA S A brk (listed.setIfInBounds i true) w' ∧ Gd P n ds l Q S A brk fuel (listed.setIfInBounds i true) ((d, v) :: L) w')
    (hi : Nat.blt i l.length = true := by exact rfl) (hg : gdB l L (opAt l i) = some true := by exact rfl) (hd : (opAt l i).dst = some d := by exact rfl) (hdn : Nat.blt d n = true := by exact rfl) (hrd : Region.ready .any l.toArray listed = [i] := by kernel_rfl) : Gd P n ds l Q S A brk (fuel + 1) listed L w :=
  fun hc hS a hF => dr_call hF hc i (opAt_eq hi) (gdB_want hg) hd hdn hrd hr hcall fun v w' h a' h1 h2 => ⟨(K v w' h).1, fun h3 => (K v w' h).2 h2 h3 a' h1⟩
theorem zdar (i : Nat) {R : Value → World → Prop} (hi : Nat.blt i l.length = true) (hg : gdB l L (opAt l i) = some true) (hd : (opAt l i).dst = some d) (hdn : Nat.blt d n = true) (hrd : Region.ready .any l.toArray listed = [i]) (hr : ∃ v w', Runs P L w (opAt l i) (.value v) w' ∧ R v w') (K : ∀ v w', R v w' → SA S A brk (listed.setIfInBounds i true) w' ∧ Gd P n ds l Q S A brk fuel (listed.setIfInBounds i true) ((d, v) :: L) w') : Gd P n ds l Q S A brk (fuel + 1) listed L w := zda i hr K hi hg hd hdn hrd
theorem zder (i : Nat) {R : World → Prop} (hi : Nat.blt i l.length = true) (hg : gdB l L (opAt l i) = some true) (hd : (opAt l i).dst = none) (hrd : Region.ready .any l.toArray listed = [i]) (hr : ∃ w', Runs P L w (opAt l i) .skip w' ∧ R w') (K : ∀ w', R w' → SA S A brk (listed.setIfInBounds i true) w' ∧ Gd P n ds l Q S A brk fuel (listed.setIfInBounds i true) L w') : Gd P n ds l Q S A brk (fuel + 1) listed L w := zde i hr K hi hg hd hrd
theorem zdvr (i : Nat) {v : Value} (hi : Nat.blt i l.length = true) (hg : gdB l L (opAt l i) = some true) (hd : (opAt l i).dst = some d) (hdn : Nat.blt d n = true) (hm : mayB l listed i = true) (hib : Nat.beq i brk = false) (hr : ∀ w, Runs P L w (opAt l i) (.value v) w) (K : Gd P n ds l Q S A brk fuel (listed.setIfInBounds i true) ((d, v) :: L) w) : Gd P n ds l Q S A brk (fuel + 1) listed L w := zdv i hr K hi hg hd hdn hm hib
def Gs (P : Program) (n : Nat) (ds : List Deferred) (l : List Oper) (Q : Exit → Act → World → Prop) (S A : World → Prop) (brk fuel : Nat) (listed : Array Bool) (L : List (Nat × Value)) (w : World) (r : List Nat) : Prop := ∀ a, Fr a n ds L → Forks P l Q S A brk fuel listed a w r
theorem zdn0 : Gs P n ds l Q S A brk fuel listed L w [] := fun _ _ => fk_nil
def G1 (P : Program) (n : Nat) (ds : List Deferred) (l : List Oper) (Q : Exit → Act → World → Prop) (S A : World → Prop) (brk fuel : Nat) (listed : Array Bool) (L : List (Nat × Value)) (w : World) (i : Nat) : Prop := ∀ a, Fr a n ds L → StepB P l Q S A brk fuel listed a w i
theorem zdn1 {i : Nat} {r : List Nat} (h : G1 P n ds l Q S A brk fuel listed L w i) (hr : Gs P n ds l Q S A brk fuel listed L w r) : Gs P n ds l Q S A brk fuel listed L w (i :: r) := fun a hF => fk_cons (h a hF) (hr a hF)
theorem zdfk {r : List Nat} (h : Gs P n ds l Q S A brk fuel listed L w r) (hn : r ≠ [] := by decide) (hr : Region.ready .any l.toArray listed = r := by kernel_rfl) : Gd P n ds l Q S A brk (fuel + 1) listed L w := fun hc _ a hF => dr_fork hc hn hr (h a hF)
theorem zka {i : Nat} {R : Value → World → Prop} (hr : ∃ v w', Runs P L w (opAt l i) (.value v) w' ∧ R v w') (K : ∀ v w', R v w' → SA S A brk (listed.setIfInBounds i true) w' ∧ Gd P n ds l Q S A brk fuel (listed.setIfInBounds i true) ((d, v) :: L) w') (hi : Nat.blt i l.length = true := by exact rfl) (hg : gdB l L (opAt l i) = some true := by exact rfl) (hd : (opAt l i).dst = some d := by exact rfl) (hdn : Nat.blt d n = true := by exact rfl) :
    G1 P n ds l Q S A brk fuel listed L w i := fun a hF => fk_any hF i (opAt_eq hi) (gdB_want hg) hd hdn hr fun v w' h a' h1 h2 => ⟨(K v w' h).1, fun h3 => (K v w' h).2 h2 h3 a' h1⟩
theorem zkar {i : Nat} {R : Value → World → Prop} (hi : Nat.blt i l.length = true) (hg : gdB l L (opAt l i) = some true) (hd : (opAt l i).dst = some d) (hdn : Nat.blt d n = true) (hr : ∃ v w', Runs P L w (opAt l i) (.value v) w' ∧ R v w') (K : ∀ v w', R v w' → SA S A brk (listed.setIfInBounds i true) w' ∧ Gd P n ds l Q S A brk fuel (listed.setIfInBounds i true) ((d, v) :: L) w') :
    G1 P n ds l Q S A brk fuel listed L w i := zka hr K hi hg hd hdn
theorem zke {i : Nat} {R : World → Prop} (hr : ∃ w', Runs P L w (opAt l i) .skip w' ∧ R w') (K : ∀ w', R w' → SA S A brk (listed.setIfInBounds i true) w' ∧ Gd P n ds l Q S A brk fuel (listed.setIfInBounds i true) L w') (hi : Nat.blt i l.length = true := by exact rfl) (hg : gdB l L (opAt l i) = some true := by exact rfl) (hd : (opAt l i).dst = none := by exact rfl) :
    G1 P n ds l Q S A brk fuel listed L w i := fun a hF => fk_effx hF i (opAt_eq hi) (gdB_want hg) hd hr fun w' h h2 => ⟨(K w' h).1, fun h3 => (K w' h).2 h2 h3 a hF⟩
theorem zker {i : Nat} {R : World → Prop} (hi : Nat.blt i l.length = true) (hg : gdB l L (opAt l i) = some true) (hd : (opAt l i).dst = none) (hr : ∃ w', Runs P L w (opAt l i) .skip w' ∧ R w') (K : ∀ w', R w' → SA S A brk (listed.setIfInBounds i true) w' ∧ Gd P n ds l Q S A brk fuel (listed.setIfInBounds i true) L w') :
    G1 P n ds l Q S A brk fuel listed L w i := zke hr K hi hg hd
theorem zkc {i : Nat} {f : FuncId} {args : Array Value} {R : Value → World → Prop} (hr : Runs P L w (opAt l i) (.enter f args) w) (hcall : Calls P f args w fun e w' => ∃ v, e = .returned v ∧ R v w') (K : ∀ v w', R v w' → SA S A brk (listed.setIfInBounds i true) w' ∧ Gd P n ds l Q S A brk fuel (listed.setIfInBounds i true) ((d, v) :: L) w')
    (hi : Nat.blt i l.length = true := by exact rfl) (hg : gdB l L (opAt l i) = some true := by exact rfl) (hd : (opAt l i).dst = some d := by exact rfl) (hdn : Nat.blt d n = true := by exact rfl) : G1 P n ds l Q S A brk fuel listed L w i := fun a hF => fk_call hF i (opAt_eq hi) (gdB_want hg) hd hdn hr hcall fun v w' h a' h1 h2 => ⟨(K v w' h).1, fun h3 => (K v w' h).2 h2 h3 a' h1⟩
theorem zkv {i : Nat} {v : Value} (hr : Runs P L w (opAt l i) (.value v) w) (hSA : SA S A brk (listed.setIfInBounds i true) w) (K : Gd P n ds l Q S A brk fuel (listed.setIfInBounds i true) ((d, v) :: L) w) (hi : Nat.blt i l.length = true := by exact rfl) (hg : gdB l L (opAt l i) = some true := by exact rfl) (hd : (opAt l i).dst = some d := by exact rfl) (hdn : Nat.blt d n = true := by exact rfl) :
    G1 P n ds l Q S A brk fuel listed L w i := zka (R := fun u w' => u = v ∧ w' = w) ⟨v, w, hr, rfl, rfl⟩ (fun u w' h => by obtain ⟨rfl, rfl⟩ := h; exact ⟨hSA, K⟩) hi hg hd hdn
theorem zdw (i : Nat) {v : Value} (hr : Runs P L w (opAt l i) (.value v) w) (hSA : SA S A brk (listed.setIfInBounds i true) w) (K : Gd P n ds l Q S A brk fuel (listed.setIfInBounds i true) ((d, v) :: L) w) (hi : Nat.blt i l.length = true := by exact rfl) (hg : gdB l L (opAt l i) = some true := by exact rfl) (hd : (opAt l i).dst = some d := by exact rfl) (hdn : Nat.blt d n = true := by exact rfl)
    (hrd : Region.ready .any l.toArray listed = [i] := by kernel_rfl) : Gd P n ds l Q S A brk (fuel + 1) listed L w := zda i (R := fun u w' => u = v ∧ w' = w) ⟨v, w, hr, rfl, rfl⟩ (fun u w' h => by obtain ⟨rfl, rfl⟩ := h; exact ⟨hSA, K⟩) hi hg hd hdn hrd
theorem zdd (h : Ge n ds Q .normal L w) (hr : Region.ready .any l.toArray listed = [] := by kernel_rfl) : Gd P n ds l Q S A brk fuel listed L w := fun _ _ a hF => dr_done hr (h a hF)
theorem zdb (d : Nat) (ht : p → Gd P n ds l Q S A brk fuel listed ((d, .bool true) :: L) w) (hf : ¬ p → Gd P n ds l Q S A brk fuel listed ((d, .bool false) :: L) w) (hd : lk L d = some (B p) := by exact rfl) : Gd P n ds l Q S A brk fuel listed L w :=
  fun hc hS _ hF => by_slot hF hd (fun hp h => ht hp hc hS _ h) (fun hp h => hf hp hc hS _ h)
theorem zdas (d : Nat) {u v : Value} (e : v = u) (K : Gd P n ds l Q S A brk fuel listed ((d, u) :: L) w) (hd : lk L d = some v := by exact rfl) : Gd P n ds l Q S A brk fuel listed L w := fun hc hS a hF => K hc hS a (hF.as hd e)
/-- Entries by their numbers. -/
def pkL : List Ent → List Nat → List Ent
  | _, [] => []
  | l, i :: is => match l[i]? with
    | some e => e :: pkL l is
    | none => pkL l is
theorem pkL_mem {E : List Ent} : ∀ {is : List Nat} {e : Ent}, e ∈ pkL E is → ∃ i ∈ is, E[i]? = some e
  | i :: is, e, h => by
    unfold pkL at h
    split at h
    · rename_i x hx
      rcases List.mem_cons.1 h with rfl | h
      · exact ⟨i, by simp, hx⟩
      · obtain ⟨j, hj, h⟩ := pkL_mem h; exact ⟨j, by simp [hj], h⟩
    · obtain ⟨j, hj, h⟩ := pkL_mem h; exact ⟨j, by simp [hj], h⟩
theorem apart_at {E : List Ent} (h : E.Pairwise Apart) {i j : Nat} {d e : Ent} (hi : E[i]? = some d) (hj : E[j]? = some e) (hij : i ≠ j) : Apart d e := by
  rw [List.pairwise_iff_getElem] at h
  obtain ⟨h1, rfl⟩ := List.getElem?_eq_some_iff.1 hi
  obtain ⟨h2, rfl⟩ := List.getElem?_eq_some_iff.1 hj
  rcases Nat.lt_or_ge i j with hlt | hlt
  · exact h i j h1 h2 hlt
  · exact fun g a b => h j i h2 h1 (by omega) g b a
theorem Sat.pk {w0 w : World} {E : List Ent} (h : Sat w0 w E) (is : List Nat) (hn : is.Nodup := by decide) : Sat w0 w (pkL E is) := by
  refine ⟨h.below, fun e he => ?_, fun e he => ?_, ?_⟩
  · obtain ⟨i, _, hi⟩ := pkL_mem he; exact h.holds e (List.mem_of_getElem? hi)
  · obtain ⟨i, _, hi⟩ := pkL_mem he; exact h.new e (List.mem_of_getElem? hi)
  · skip
    induction is with
    | nil => exact .nil
    | cons i is ih =>
      rw [List.nodup_cons] at hn
      unfold pkL
      split
      · rename_i x hx
        refine List.pairwise_cons.2 ⟨fun e he => ?_, ih hn.2⟩
        obtain ⟨j, hj, he⟩ := pkL_mem he
        exact apart_at h.sep hx he (fun e' => hn.1 (e' ▸ hj))
      · exact ih hn.2
theorem Sat.nl {w0 w : World} {E : List Ent} (h : Sat w0 w E) : Sat w0 w [] := h.pk []
theorem Sat.cmp {w0 w w' : World} {E : List Ent} (h : Sat w0 w E) (k : Sat w w' []) : Sat w0 w' E := by simpa using h.comp k
theorem zdst {w0 : World} {id : Nat} {m m0 m1 : List Ent} (is js : List Nat) (brk : Nat) (hm : P.follows .mixedOrders = true) (hS : Sat w0 w m) (K : ∀ w', Sat w0 w' m → Gd P n ds l Q (fun w' => Sat w0 w' m0) (fun w' => Sat w0 w' m1) brk fuel (Array.replicate fuel false) L w')
    (h0 : pkL m is = m0 := by exact rfl) (h1 : pkL m js = m1 := by exact rfl) (hn0 : is.Nodup := by decide) (hn1 : js.Nodup := by decide) (hn : l.length = fuel := by exact rfl) : Gc P n ds Q (.region id l.toArray true) L w := fun a hF => by
  subst h0; subst h1
  exact dr_start (fun w' => Sat w0 w' (pkL m is)) (fun w' => Sat w0 w' (pkL m js)) brk hm (hS.draw.pk is hn0) (hS.draw.pk js hn1) hn fun h1 h2 h3 => K _ hS.draw h3 ⟨fun _ => h1, h2⟩ a hF
end

/-! ## What the operations yield -/
section
variable {P : Program} {L : List (Nat × Value)} {w w0 : World} {o : Oper} {x y z : Operand} {T T' : TypeId} {l : List Ent} {v u : Value} {m n r i : Int} {k : IntKind} {p : Prop}
theorem xmv (ho : o.op = .move x := by exact rfl) (hx : evL L x = some v := by exact rfl) : Runs P L w o (.value v) w := ex_move ho hx
theorem xas (ho : o.op = .assign x := by exact rfl) (hx : evL L x = some v := by exact rfl) : Runs P L w o (.value v) w := ex_assign ho hx
theorem xpt (ho : o.op = .pick x y z := by exact rfl) (hx : evL L x = some (.bool true) := by exact rfl) (hy : evL L y = some v := by exact rfl) : Runs P L w o (.value v) w := ex_pick_t ho hx hy
theorem xpf (ho : o.op = .pick x y z := by exact rfl) (hx : evL L x = some (.bool false) := by exact rfl) (hz : evL L z = some v := by exact rfl) : Runs P L w o (.value v) w := ex_pick_f ho hx hz
theorem xadd (ho : o.op = .binOp .add T x y T' := by exact rfl) (hx : evL L x = some (.int .i64 m) := by exact rfl) (hy : evL L y = some (.int .i64 n) := by exact rfl) (e : r = m + n := by omega) (hr : I64 r := by unfold I64; omega) : Runs P L w o (.value (.int .i64 r)) w := ex_add ho hx hy e hr
theorem xsub (ho : o.op = .binOp .sub T x y T' := by exact rfl) (hx : evL L x = some (.int .i64 m) := by exact rfl) (hy : evL L y = some (.int .i64 n) := by exact rfl) (e : r = m - n := by omega) (hr : I64 r := by unfold I64; omega) : Runs P L w o (.value (.int .i64 r)) w := ex_sub ho hx hy e hr
theorem xmul (ho : o.op = .binOp .mul T x y T' := by exact rfl) (hx : evL L x = some (.int .i64 m) := by exact rfl) (hy : evL L y = some (.int .i64 n) := by exact rfl) (e : r = m * n := by omega) (hr : I64 r := by unfold I64; omega) : Runs P L w o (.value (.int .i64 r)) w := ex_mul ho hx hy e hr
theorem xneg (ho : o.op = .unOp .neg T x := by exact rfl) (hx : evL L x = some (.int .i64 m) := by exact rfl) (e : r = -m := by omega) (hr : I64 r := by unfold I64; omega) : Runs P L w o (.value (.int .i64 r)) w := ex_neg ho hx e hr
theorem xlss (ho : o.op = .binOp .lss T x y T' := by exact rfl) (hx : evL L x = some (.int k m) := by exact rfl) (hy : evL L y = some (.int k n) := by exact rfl) : Runs P L w o (.value (B (m < n))) w := ex_lss ho hx hy
theorem xleq (ho : o.op = .binOp .leq T x y T' := by exact rfl) (hx : evL L x = some (.int k m) := by exact rfl) (hy : evL L y = some (.int k n) := by exact rfl) : Runs P L w o (.value (B (m ≤ n))) w := ex_leq ho hx hy
theorem xgtr (ho : o.op = .binOp .gtr T x y T' := by exact rfl) (hx : evL L x = some (.int k m) := by exact rfl) (hy : evL L y = some (.int k n) := by exact rfl) : Runs P L w o (.value (B (n < m))) w := ex_gtr ho hx hy
theorem xgeq (ho : o.op = .binOp .geq T x y T' := by exact rfl) (hx : evL L x = some (.int k m) := by exact rfl) (hy : evL L y = some (.int k n) := by exact rfl) : Runs P L w o (.value (B (n ≤ m))) w := ex_geq ho hx hy
theorem xeql (ho : o.op = .binOp .eql T x y T' := by exact rfl) (hx : evL L x = some (.int k m) := by exact rfl) (hy : evL L y = some (.int k n) := by exact rfl) : Runs P L w o (.value (B (m = n))) w := ex_eql ho hx hy
theorem xneq (ho : o.op = .binOp .neq T x y T' := by exact rfl) (hx : evL L x = some (.int k m) := by exact rfl) (hy : evL L y = some (.int k n) := by exact rfl) : Runs P L w o (.value (B (m ≠ n))) w := ex_neq ho hx hy
theorem xnot (ho : o.op = .unOp .not T x := by exact rfl) (hx : evL L x = some (B p) := by exact rfl) : Runs P L w o (.value (B (¬ p))) w := ex_not ho hx
theorem xnt (ho : o.op = .unOp .not T x := by exact rfl) (hx : evL L x = some (.bool true) := by exact rfl) : Runs P L w o (.value (.bool false)) w := ex_not_t ho hx
theorem xnf (ho : o.op = .unOp .not T x := by exact rfl) (hx : evL L x = some (.bool false) := by exact rfl) : Runs P L w o (.value (.bool true)) w := ex_not_f ho hx
theorem xkt {w' : World} (h : Runs P L w o (.value (B p)) w') (hp : p := by omega) : Runs P L w o (.value (.bool true)) w' := known_t h hp
theorem xkf {w' : World} (h : Runs P L w o (.value (B p)) w') (hp : ¬ p := by omega) : Runs P L w o (.value (.bool false)) w' := known_f h hp
theorem xfb (k' : Nat) {g q off f : Nat} (ht : fieldT P T f = some off) (ho : o.op = .fieldAddr T x f := by exact rfl) (hx : evL L x = some (.pointer (some ⟨g, q, none⟩)) := by exact rfl) (hk : q + off = k' := by exact rfl) : Runs P L w o (.value (.pointer (some ⟨g, k', none⟩))) w :=
  ex_field ho ht hx (by rw [Addr.add_eq _ rfl, hk])
theorem xfc {kk q : Int} {off f : Nat} (ht : fieldT P T f = some off) (hv : Slh v n) (ho : o.op = .fieldAddr T x f := by exact rfl) (hx : evL L x = some (.pointer (some (cad v q))) := by exact rfl) (h0 : 0 ≤ q := by omega) (h1 : 0 < n := by omega) (hk : q + off = kk := by omega) : Runs P L w o (.value (.pointer (some (cad v kk)))) w :=
  ex_field ho ht hx (by rw [cad_add hv h0 h1, hk])
theorem xix {kk : Int} {E : TypeId} {s : Nat} (ht : sliceT P T = some (E, s)) (hv : Slh v n) (ho : o.op = .indexAddr T x y := by exact rfl) (hx : evL L x = some v := by exact rfl) (hy : evL L y = some (.int .i64 i) := by exact rfl) (h0 : 0 ≤ i := by omega) (h1 : i < n := by omega) (e : kk = i * s := by omega) : Runs P L w o (.value (.pointer (some (cad v kk)))) w := ex_index ho ht hx hy hv h0 h1 e
theorem xlb (j : Nat) {g q : Nat} {cs : List Value} (ht : plainT P T = true) (hS : Sat w0 w l) (ho : o.op = .load T x := by exact rfl) (hx : evL L x = some (.pointer (some ⟨g, q, none⟩)) := by exact rfl) (hi : l[j]? = some (.blk g cs) := by exact rfl) (hk : cs[q]? = some v := by exact rfl) : Runs P L w o (.value v) w := ex_load_blk j ho ht hx hS hi hk
theorem xls (j : Nat) {g q : Nat} {cs : List Value} (ht : structT P T = some q) (hS : Sat w0 w l) (ho : o.op = .load T x := by exact rfl) (hx : evL L x = some (.pointer (some ⟨g, 0, none⟩)) := by exact rfl) (hi : l[j]? = some (.blk g cs) := by exact rfl) (hk : cs.length = q := by exact rfl) : Runs P L w o (.value (.agg cs.toArray)) w := ex_loads_blk j ho ht hx hS hi hk
theorem xlr {s : Nat} {q : Int} {c : Int → Value} (ht : plainT P T = true) (hR : Row w v s n c) (ho : o.op = .load T x := by exact rfl) (hx : evL L x = some (.pointer (some (cad v q))) := by exact rfl) (h0 : 0 ≤ q := by omega) (h1 : q < n * s := by omega) (e : c q = u := by exact rfl) : Runs P L w o (.value u) w := ex_load_row ho ht hx hR h0 h1 e
theorem xln {E : TypeId} {s : Nat} (ht : sliceT P T = some (E, s)) (hv : Slh v n) (ho : o.op = .call { callee := .builtin .len, args := #[x], argTypes := #[T] } := by exact rfl) (hx : evL L x = some v := by exact rfl) : Runs P L w o (.value (.int .i64 n)) w := ex_len ho ht hx hv
theorem xc0 {g : FuncId} {xs : Array Operand} {ts : Array TypeId} {vs : List Value} (ht : calledT P g = true) (ho : o.op = .call { callee := .value x, args := xs, argTypes := ts } := by exact rfl) (hx : evL L x = some (.func (.func g) #[] #[]) := by exact rfl) (ha : Args L xs vs := by repeat' first | exact args0 | apply args_cons rfl) : Runs P L w o (.enter g vs.toArray) w := ex_call0 ho hx ht ha
theorem xex {j : Nat} {vs : List Value} (ho : o.op = .extract x j := by exact rfl) (hx : evL L x = some (.tuple vs.toArray) := by exact rfl) (hv : vs[j]? = some v := by exact rfl) : Runs P L w o (.value v) w := ex_extract ho hx hv
theorem xmf {f : Fn} {vs : List Value} {xs : Array Operand} (ho : o.op = .makeFunc f #[] xs := by exact rfl) (ha : Args L xs vs := by repeat' first | exact args0 | apply args_cons rfl) : Runs P L w o (.value (.func f #[] vs.toArray)) w := ex_makeFunc ho ha
theorem xany (ho : ∀ cs b, o.op ≠ .select cs b := by intro _ _ h; cases h) (hx : (o.op.operands.toList.all fun x => (evL L x).isSome) = true := by exact rfl) (hr : (execOp (fun x => (evL L x).getD undef) o).run P w = .ok (.value v) w := by kernel_rfl) : Runs P L w o (.value v) w := ex_any ho hx hr
theorem xbx {cs : List Value} (hS : Sat w0 w l) (ho : o.op = .box T x := by exact rfl) (hx : evL L x = some v := by exact rfl) (hc : v.cells = cs.toArray := by exact rfl) : ∃ u w', Runs P L w o (.value u) w' ∧ ∃ g, u = .pointer (some ⟨g, 0, none⟩) ∧ Sat w0 w' (l ++ [.blk g cs]) := ex_box ho hS hx hc
theorem xal {s b : Nat} {cs : List Value} (ht : elemT P T = some (v, s, b)) (hS : Sat w0 w l) (ho : o.op = .alloc T := by exact rfl) (hc : v.cells = cs.toArray := by exact rfl) : ∃ u w', Runs P L w o (.value u) w' ∧ ∃ g, u = .pointer (some ⟨g, 0, none⟩) ∧ Sat w0 w' (l ++ [.blk g cs]) := ex_alloc ho ht hS hc
theorem xl0 {E : TypeId} {s : Nat} {c : Int → Value} (ht : sliceT P T = some (E, s)) (hS : Sat w0 w l) (ho : o.op = .buildSlice T 0 #[] := by exact rfl) : ∃ u w', Runs P L w o (.value u) w' ∧ Sat w0 w' (l ++ [.own u s E 0 c]) ∧ Slh u 0 := ex_lit0 ho ht hS
theorem xsb (j : Nat) {g q : Nat} {cs : List Value} (ht : plainT P T = true) (hS : Sat w0 w l) (ho : o.op = .store T x y := by exact rfl) (hi : l[j]? = some (.blk g cs) := by exact rfl) (hx : evL L x = some (.pointer (some ⟨g, q, none⟩)) := by exact rfl) (hy : evL L y = some v := by exact rfl) (hv : v.oneCell' = true := by exact rfl) (hk : cs[q]? = some u := by exact rfl) : ∃ w', Runs P L w o .skip w' ∧ Sat w0 w' (l.set j (.blk g (cs.set q v))) := st_blk j ho ht hS hi hx hy hv hk
theorem xsw (j : Nat) {g q : Nat} {cs ds : List Value} (ht : structT P T = some q) (hS : Sat w0 w l) (ho : o.op = .store T x y := by exact rfl) (hi : l[j]? = some (.blk g cs) := by exact rfl) (hx : evL L x = some (.pointer (some ⟨g, 0, none⟩)) := by exact rfl) (hy : evL L y = some (.agg ds.toArray) := by exact rfl) (hl : (cs.length, ds.length) = (q, q) := by exact rfl)
    (hd : ∀ v ∈ ds, v.oneCell' = true := by repeat' first | exact ones_nil | apply ones_cons rfl) : ∃ w', Runs P L w o .skip w' ∧ Sat w0 w' (l.set j (.blk g ds)) := st_blks j ho ht hS hi hx hy hl hd
theorem xso (j : Nat) {s : Nat} {E : TypeId} {q : Int} {c d : Int → Value} (ht : plainT P T = true) (hS : Sat w0 w l) (e : upd c q u = d) (ho : o.op = .store T x y := by exact rfl) (hi : l[j]? = some (.own v s E n c) := by exact rfl) (hx : evL L x = some (.pointer (some (cad v q))) := by exact rfl) (hy : evL L y = some u := by exact rfl) (hv : u.oneCell' = true := by exact rfl) (h0 : 0 ≤ q := by omega) (h1 : q < n * s := by omega) : ∃ w', Runs P L w o .skip w' ∧ Sat w0 w' (l.set j (.own v s E n d)) := st_own j ho ht hS hi hx hy hv h0 h1 e
theorem xmk {E : TypeId} {s b : Nat} {zv : Value} (ht : sliceT P T = some (E, s)) (he : elemT P E = some (zv, s, b)) (hS : Sat w0 w l) (ho : o.op = .makeSlice T x y := by exact rfl) (hz : zv.cells = #[zv] := by exact rfl) (hs : s = 1 := by exact rfl) (hx : evL L x = some (.int .i64 n) := by exact rfl) (hy : evL L y = some (.int .i64 n) := by exact rfl) (h0 : 0 ≤ n := by omega) (hb : b * n ≤ 140737488355328 := by omega) (h1 : n ≤ 140737488355328 := by omega) :
    ∃ u w', Runs P L w o (.value u) w' ∧ Sat w0 w' (l ++ [.own u s E n (fun _ => zv)]) ∧ Slh u n := ex_make ho ht he hz hs hS hx hy h0 hb h1
theorem xquo (ho : o.op = .binOp .quo T x y T' := by exact rfl) (hx : evL L x = some (.int .i64 m) := by exact rfl) (hy : evL L y = some (.int .i64 n) := by exact rfl) (hn : n ≠ 0 := by omega) (e : r = m.tdiv n := by exact rfl) (hr : I64 r := by unfold I64; omega) : Runs P L w o (.value (.int .i64 r)) w := ex_quo ho hx hy hn e hr
theorem xrem (ho : o.op = .binOp .rem T x y T' := by exact rfl) (hx : evL L x = some (.int .i64 m) := by exact rfl) (hy : evL L y = some (.int .i64 n) := by exact rfl) (hn : n ≠ 0 := by omega) (e : r = m.tmod n := by exact rfl) : Runs P L w o (.value (.int .i64 r)) w := ex_rem ho hx hy hn e
theorem xmax {ts : Array TypeId} (ho : o.op = .call { callee := .builtin .max, args := #[x, y], argTypes := ts } := by exact rfl) (hx : evL L x = some (.int k m) := by exact rfl) (hy : evL L y = some (.int k n) := by exact rfl) (e : r = max m n := by exact rfl) : Runs P L w o (.value (.int k r)) w := ex_max ho hx hy e
theorem xmin {ts : Array TypeId} (ho : o.op = .call { callee := .builtin .min, args := #[x, y], argTypes := ts } := by exact rfl) (hx : evL L x = some (.int k m) := by exact rfl) (hy : evL L y = some (.int k n) := by exact rfl) (e : r = min m n := by exact rfl) : Runs P L w o (.value (.int k r)) w := ex_min ho hx hy e
theorem xlp (j : Nat) {g q m : Nat} {cs ds : List Value} (ht : structT P T = some m) (hS : Sat w0 w l) (ho : o.op = .load T x := by exact rfl) (hx : evL L x = some (.pointer (some ⟨g, q, none⟩)) := by exact rfl) (hi : l[j]? = some (.blk g cs) := by exact rfl) (hm : ds.length = m := by exact rfl) (hd : (cs.drop q).take m = ds := by exact rfl) : Runs P L w o (.value (.agg ds.toArray)) w := ex_loads_part j ho ht hx hS hi hm hd
theorem xlw {s : Nat} {q : Int} {c : Int → Value} {cs : List Value} {m : Nat} (ht : structT P T = some m) (hR : Row w v s n c) (e : ∀ (j : Nat) u, cs[j]? = some u → c (q + j) = u) (ho : o.op = .load T x := by exact rfl) (hx : evL L x = some (.pointer (some (cad v q))) := by exact rfl) (h0 : 0 ≤ q := by omega) (h1 : q + m ≤ n * s := by omega) (hm : cs.length = m := by exact rfl) (hm0 : 0 < m := by omega) : Runs P L w o (.value (.agg cs.toArray)) w := ex_loads_row ho ht hx hR h0 h1 hm hm0 e
theorem xlf {a : Addr} (ht : plainT P T = true) (hc : w0.cell? a = some v) (hS : Sat w0 w l) (ho : o.op = .load T x := by exact rfl) (hx : evL L x = some (.pointer (some a)) := by exact rfl) : Runs P L w o (.value v) w := ex_load_ref ho ht hx hc hS
theorem xap (j : Nat) {E : TypeId} {s b : Nat} {c d f : Int → Value} {zv : Value} (ht : sliceT P T = some (E, s)) (he : elemT P E = some (zv, s, b)) (hS : Sat w0 w l) (hu : Row w u s m d) (e : cat (n * s) c d = f) (ho : o.op = .call { callee := .builtin .append, args := #[x, y], argTypes := #[T, T] } := by exact rfl) (hz : zv.cells.size = s := by exact rfl) (hs : 0 < s := by decide)
    (hi : l[j]? = some (.own v s E n c) := by exact rfl) (hx : evL L x = some v := by exact rfl) (hy : evL L y = some u := by exact rfl) (h1 : ∀ k, 0 ≤ k → k < m * s → (d k).oneCell' = true := by intros; rfl) (hr : r = n + m := by omega) (hb : b * (n + m) ≤ 140737488355328 := by omega) (hnm : n + m ≤ 140737488355328 := by omega) :
    ∃ q w', Runs P L w o (.value q) w' ∧ Sat w0 w' (l.set j (.own q s E r f)) ∧ Slh q r := ap_own j ho ht he hz hs hS hi hx hy hu h1 hr hb hnm e
theorem xsr (q : Nat) {E : TypeId} {vv : Int → Value} {zln : Int → Int} {f f' : Int → Int → Int} {kk j a : Int} (ht : plainT P T = true) (hS : Sat w0 w l) (e : upd f kk (upd (f kk) j a) = f') (ho : o.op = .store T x y := by exact rfl) (hi : l[q]? = some (.sem (Frame.rows E n vv zln f)) := by exact rfl) (hx : evL L x = some (.pointer (some (cad (vv kk) j))) := by exact rfl) (hy : evL L y = some (.int .i64 a) := by exact rfl)
    (k0 : 0 ≤ kk := by omega) (k1 : kk < n := by omega) (j0 : 0 ≤ j := by omega) (j1 : j < zln kk := by omega) : ∃ w', Runs P L w o .skip w' ∧ Sat w0 w' (l.set q (.sem (Frame.rows E n vv zln f'))) := st_rows q ho ht hS hi hx hy k0 k1 j0 j1 e
theorem xcc {g : FuncId} {xs : Array Operand} {ts : Array TypeId} {vs cap : List Value} (ht : calledT P g = true) (ho : o.op = .call { callee := .value x, args := xs, argTypes := ts } := by exact rfl) (hx : evL L x = some (.func (.func g) #[] cap.toArray) := by exact rfl) (ha : Args L xs vs := by repeat' first | exact args0 | apply args_cons rfl) : Runs P L w o (.enter g (vs ++ cap).toArray) w := ex_callc ho hx ht ha
theorem xiv {g : FuncId} {t : TypeId} {name : String} {xs : Array Operand} {ts : Array TypeId} {vs : List Value} (ht : methodT P t name g) (ho : o.op = .call { callee := .invoke x name, args := xs, argTypes := ts } := by exact rfl) (hx : evL L x = some (.iface t v) := by exact rfl) (ha : Args L xs vs := by repeat' first | exact args0 | apply args_cons rfl) : Runs P L w o (.enter g (v :: vs).toArray) w := ex_invoke ho hx ht ha
theorem xcv {S D : TypeId} {k' : IntKind} (hs : (P.underlying S).isSome = true) (hd : P.underlying D = some (.int k')) (ho : o.op = .convert S D x := by exact rfl) (hx : evL L x = some (.int k n) := by exact rfl) (hr : InK k' n := by unfold InK; omega) : Runs P L w o (.value (.int k' n)) w := ex_conv ho hs hd hx hr
theorem xli {E : TypeId} {s b len : Nat} {ps : List (Nat × Operand)} {pv : List (Nat × Value)} {cs : List Value} {c : Int → Value} {zv : Value} (ht : sliceT P T = some (E, s)) (he : elemT P E = some (zv, s, b)) (hS : Sat w0 w l) (ho : o.op = .buildSlice T len ps.toArray := by exact rfl) (hp : Parts L ps pv := by repeat' first | exact parts0 | apply parts_cons rfl)
    (hf : Instr.fill (fun i => some (i * s, s)) ((Array.range (len * s)).map fun j => zv.cells[j % zv.cells.size]!) pv = some cs.toArray := by kernel_rfl) (hl : len * s ≤ 16777216 := by decide) (hl0 : len * s ≠ 0 := by decide) (hn : n = len := by exact rfl) (hcs : cs.length = len * s := by exact rfl)
    (hc : ∀ k : Nat, (k : Int) < n * s → cs[k]? = some (c k) := by intro k hk; rcases k with _ | _ | _ | _ | _ | _ | _ | _ | k <;> first | rfl | (exfalso; omega)) (h1 : n ≤ 140737488355328 := by omega) : ∃ u w', Runs P L w o (.value u) w' ∧ Sat w0 w' (l ++ [.own u s E n c]) ∧ Slh u n :=
  ex_lit ho ht he hS (fun ρ h => by simpa using hp ρ h) hf hl hl0 hn hcs hc h1
end
end Go.Proofs.Gw
