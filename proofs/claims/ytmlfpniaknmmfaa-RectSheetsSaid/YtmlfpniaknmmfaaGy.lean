/- More steps of a printed walk: calls, new blocks, append; a region that draws its order. Over any program. -/
import Derived.Test.YtmlfpniaknmmfaaGx
import Derived.Deep.RegionHeld3
namespace Go.Proofs.Gw
open Go Go.RowKit
set_option linter.unusedVariables false
set_option linter.unusedSimpArgs false

section
variable {P : Program} {l : List Oper} {Q : Exit → Act → World → Prop} {a : Act} {w : World} {rest : List Oper} {o : Oper} {n : Nat} {ds : List Deferred} {L : List (Nat × Value)}
theorem ls_any {d : Nat} {R : Value → World → Prop} (hF : Fr a n ds L) (hg : Want l L o true) (hd : o.dst = some d) (hdn : Nat.blt d n = true) (hr : ∃ v w', Runs P L w o (.value v) w' ∧ R v w')
    (K : ∀ v w', R v w' → ∀ a', Fr a' n ds ((d, v) :: L) → wpList P l.toArray Q rest a' w') : wpList P l.toArray Q (o :: rest) a w := by
  obtain ⟨v, w', hr, hR⟩ := hr
  exact ls_val hF hg hd hdn hr (K v w' hR)
theorem ls_effx {R : World → Prop} (hF : Fr a n ds L) (hg : Want l L o true) (hd : o.dst = none) (hr : ∃ w', Runs P L w o .skip w' ∧ R w')
    (K : ∀ w', R w' → wpList P l.toArray Q rest a w') : wpList P l.toArray Q (o :: rest) a w := by
  obtain ⟨w', hr, hR⟩ := hr
  exact ls_eff hF hg hd hr (K w' hR)
/-- A slot's truth is asked: one way for each. -/
theorem by_slot {p : Prop} {d : Nat} {G : Prop} (hF : Fr a n ds L) (hd : lk L d = some (B p)) (ht : p → Fr a n ds ((d, .bool true) :: L) → G) (hf : ¬ p → Fr a n ds ((d, .bool false) :: L) → G) : G := by
  by_cases hp : p
  · exact ht hp (hF.known hd (B_true hp))
  · exact hf hp (hF.known hd (B_false hp))
end

/-! ## Calls -/
section
variable {P : Program} {L : List (Nat × Value)} {w w0 : World} {o : Oper} {x y z : Operand} {T T' : TypeId}
def Args (L : List (Nat × Value)) (xs : Array Operand) (vs : List Value) : Prop := ∀ ρ, Agr L ρ → xs.map ρ = vs.toArray
theorem args0 : Args L #[] [] := fun _ _ => by simp
theorem args_cons {xs : List Operand} {v : Value} {vs : List Value} (hx : evL L x = some v) (h : Args L xs.toArray vs) : Args L (x :: xs).toArray (v :: vs) := fun ρ hρ => by
  have h1 := congrArg Array.toList (h ρ hρ)
  have h2 := hρ x v hx
  simp only [List.map_toArray] at h1 ⊢
  rw [List.map_cons, h2, h1]
theorem ex_call {g : FuncId} {xs : Array Operand} {ts : Array TypeId} {vs : List Value} {cap : Array Value} {as : Array Value} (ho : o.op = .call { callee := .value x, args := xs, argTypes := ts }) (hx : evL L x = some (.func (.func g) #[] cap)) (ht : calledT P g = true) (ha : Args L xs vs)
    (e : vs.toArray ++ cap = as) : Runs P L w o (.enter g as) w := fun ρ h => by
  subst e
  have h1 := ha ρ h
  unfold calledT at ht
  cases hf : P.funcs[g]? with
  | none => simp [hf] at ht
  | some fn =>
    simp only [hf, Bool.and_eq_true, Bool.not_eq_true'] at ht
    obtain ⟨hb, hn⟩ := ht
    have hb' : fn.body ≠ none := by intro e; rw [e] at hb; simp at hb
    have hn' : fn.name ≠ "runtime.NumGoroutine" := by simpa using hn
    simp [execOp, ho, resolve, h _ _ hx, Deferred.ofValue, invoke, callFunc, hf, hn', hb', h1]
theorem ex_extract {k : Nat} {vs : List Value} {v : Value} (ho : o.op = .extract x k) (hx : evL L x = some (.tuple vs.toArray)) (hv : vs[k]? = some v) : Runs P L w o (.value v) w := fun ρ h => by
  simp [execOp, ho, h _ _ hx, Instr.extract, hv]
theorem ex_makeFunc {f : Fn} {vs : List Value} {xs : Array Operand} (ho : o.op = .makeFunc f #[] xs) (ha : Args L xs vs) : Runs P L w o (.value (.func f #[] vs.toArray)) w := fun ρ h => by
  have h1 := ha ρ h
  simp [execOp, ho, Instr.makeFunc, h1]
/-- Whatever only reckons with its operands: by the kernel. -/
theorem ex_any {r : Next} {w' : World} (hs : ∀ cs b, o.op ≠ .select cs b) (hx : (o.op.operands.toList.all fun x => (evL L x).isSome) = true) (hr : (execOp (fun x => (evL L x).getD undef) o).run P w = .ok r w') : Runs P L w o r w' := fun ρ h => by
  rw [← hr, execOp_congr o hs fun x hx' => ?_]
  have := List.all_eq_true.1 hx x (by simpa using hx')
  obtain ⟨v, hv⟩ := Option.isSome_iff_exists.1 this
  rw [hv, h x v hv]; rfl

/-! ## Append to a slice of the call's own -/
theorem cat_cells {s : Nat} {n m : Int} {c d : Int → Value} (h0 : 0 ≤ n) (h1 : 0 ≤ m) : cellsOf c (n.toNat * s) ++ cellsOf d (m.toNat * s) = cellsOf (cat (n * s) c d) ((n + m).toNat * s) := by
  have e : (n + m).toNat * s = n.toNat * s + m.toNat * s := by rw [← Nat.add_mul]; congr 1; omega
  have e' : ((n.toNat * s : Nat) : Int) = n * s := by rw [Int.natCast_mul, Int.toNat_of_nonneg h0]
  apply List.ext_getElem?
  intro k
  rw [List.getElem?_append, cellsOf_get, cellsOf_get, cellsOf_get, cellsOf_length, e]
  by_cases hk : k < n.toNat * s
  · rw [if_pos hk, if_pos hk, if_pos (by omega)]
    simp only [cat]; rw [if_pos (by omega)]
  · rw [if_neg hk]
    by_cases hk2 : k < n.toNat * s + m.toNat * s
    · rw [if_pos (by omega), if_pos hk2]
      simp only [cat]; rw [if_neg (by omega)]
      congr 2; omega
    · rw [if_neg (by omega), if_neg hk2]
/-- The library's law on append, and where the new slice lies: in the old block, or in a new one. -/
theorem append_where (w : World) (base : Nat) (t e : TypeId) (i : TypeInfo) (z : Value) (size bytes : Nat) (ht : P.underlying t = some (.slice e)) (hi : P.info? e = some i) (hz : i.zero = some z)
    (hsize : i.size = size) (hby : i.bytes = bytes) (hzs : z.cells.size = size) (hsz : 0 < size)
    (v : Value) (n : Nat) (xs : List Value) (hown : w.ownsRow base e size v n xs)
    (a : Addr) (m c : Nat) (news : List Value) (hl : news.length = m * size) (hnews : ∀ j u, news[j]? = some u → w.cell? (a.add j) = some u) (h1 : ∀ u ∈ news, u.oneCell' = true)
    (h63 : n + m ≤ maxLen) (hbytes : (n + m) * bytes ≤ 140737488355328) (hbase : base ≤ w.heap.size) (ty : TypeId) :
    ∃ v' w', (Builtin.append_ #[t, t] ty #[v, .slice (some a) m c]).run P w = .ok v' w' ∧ w'.ownsRow base e size v' (n + m) (xs ++ news) ∧ w.grownBy w' v.ownBlock ∧
      (v'.ownBlock = v.ownBlock ∨ ∀ g, v'.ownBlock = some g → w.heap.size ≤ g) := by
  obtain ⟨v', w', hr, h2, h3, _⟩ := run_append_own (P := P) w base t ty e i z size bytes ht hi hz hsize hby hzs hsz v n xs hown a m c news hl hnews h1 h63 hbytes hbase
  refine ⟨v', w', hr, h2, h3, ?_⟩
  rcases hown.2 with ⟨rfl, rfl⟩ | ⟨g, cap, cur, rfl, hbg, hg, hnc, hcm, hcs, htake⟩
  · obtain ⟨v2, w2, hr2, h4, _⟩ := run_append_own (P := P) w w.heap.size t ty e i z size bytes ht hi hz hsize hby hzs hsz (.slice none 0 0) 0 xs ⟨hown.1, .inl ⟨rfl, rfl⟩⟩ a m c news hl hnews h1 h63 hbytes (Nat.le_refl _)
    rw [hr] at hr2
    cases hr2
    exact .inr fun g hg => (h4.lt g hg).1
  · subst hsize
    by_cases hroom : n + m ≤ cap
    · have hfit : n * i.size + news.length ≤ cur.size := by rw [hl, hcs, ← Nat.add_mul]; exact Nat.mul_le_mul_right _ hroom
      have hr2 := run_append_room (P := P) w t ty e i ht hi g n cap cur hg a m c news hl hnews h1 hroom hfit
      rw [hr] at hr2
      cases hr2
      exact .inl rfl
    · subst hby
      have hsmall : n + m ≤ 9223372036854775807 := by simp only [maxLen] at h63; omega
      have holds : ∀ j u, xs[j]? = some u → w.cell? ((⟨g, 0, none⟩ : Addr).add j) = some u := hown.cells (g := g) rfl
      have hr2 := run_append_grow (P := P) w t ty e i z ht hi hz ⟨g, 0, none⟩ n cap xs hown.1 holds a m c news hl hnews (by omega) (by omega) (growslice_fits (by omega) hbytes)
      rw [hr] at hr2
      cases hr2
      exact .inr fun g hg => by simp [Value.ownBlock] at hg; omega
theorem Apart.symm {d e : Ent} (h : Apart d e) : Apart e d := fun g he hd => h g hd he
theorem Sat.perm {l m : List Ent} (h : Sat w0 w l) (hp : l.Perm m) : Sat w0 w m :=
  ⟨h.below, fun e he => h.holds e (hp.mem_iff.2 he), fun e he => h.new e (hp.mem_iff.2 he), (hp.pairwise_iff (fun h => Apart.symm h)).1 h.sep⟩
theorem ex_append {l1 l2 : List Ent} {v u : Value} {E : TypeId} {s b : Nat} {n m : Int} {c d : Int → Value} {zv : Value} (ho : o.op = .call { callee := .builtin .append, args := #[x, y], argTypes := #[T, T] }) (ht : sliceT P T = some (E, s)) (he : elemT P E = some (zv, s, b)) (hz : zv.cells.size = s) (hs : 0 < s)
    (hS : Sat w0 w (l1 ++ .own v s E n c :: l2)) (hx : evL L x = some v) (hy : evL L y = some u) (hu : Row w u s m d) (h1 : ∀ k, 0 ≤ k → k < m * s → (d k).oneCell' = true) (hb : b * (n + m) ≤ 140737488355328) (hnm : n + m ≤ 140737488355328) :
    ∃ r w', Runs P L w o (.value r) w' ∧ Sat w0 w' (l1 ++ .own r s E (n + m) (cat (n * s) c d) :: l2) ∧ Slh r (n + m) := by
  obtain ⟨hut, _⟩ := slice_of ht
  obtain ⟨i, hi, hzz, hsz, hby⟩ := elem_of he
  have hg := hS.get
  obtain ⟨hn0, hn1, _⟩ := hg
  have hm0 := hu.slh.n0
  have hown := hS.get.owns w0.heap.size (fun g hg => hS.new (.own v s E n c) (by simp) g hg)
  have en : n.toNat + m.toNat = (n + m).toNat := by omega
  have eb : (n.toNat + m.toNat) * b ≤ 140737488355328 := by
    have : (((n.toNat + m.toNat) * b : Nat) : Int) = b * (n + m) := by rw [Int.natCast_mul, Int.natCast_add, Int.toNat_of_nonneg hn0, Int.toNat_of_nonneg hm0, Int.mul_comm]
    omega
  -- the second operand is nil or lies at an address
  have key : ∃ r w', (∀ (ty : TypeId), (Builtin.append_ #[T, T] ty #[v, u]).run P w = .ok r w') ∧ w'.ownsRow w0.heap.size E s r (n.toNat + m.toNat) (cellsOf c (n.toNat * s) ++ cellsOf d (m.toNat * s)) ∧ w.grownBy w' v.ownBlock ∧ (r.ownBlock = v.ownBlock ∨ ∀ g, r.ownBlock = some g → w.heap.size ≤ g) := by
    obtain ⟨_, hm1, a, cap, rfl, h⟩ := hu.slh
    have hcl : (cellsOf d (m.toNat * s)).length = m.toNat * s := cellsOf_length _ _
    cases a with
    | some ad =>
      have hcells : ∀ j t, (cellsOf d (m.toNat * s))[j]? = some t → w.cell? (ad.add j) = some t := by
        intro j t hj
        rw [cellsOf_get] at hj
        split at hj
        · rename_i hlt
          have e' : ((m.toNat * s : Nat) : Int) = m * s := by rw [Int.natCast_mul, Int.toNat_of_nonneg hm0]
          have := hu.2 j (by omega)
          cases hj
          rw [← this]
          rcases h with h | ⟨b', off, h⟩
          · subst h; simp at hlt
          · cases h; rw [Addr.add_eq _ rfl]; simp [cad]
        · cases hj
      have hone : ∀ t ∈ cellsOf d (m.toNat * s), t.oneCell' = true := by
        intro t ht
        obtain ⟨j, hj⟩ := List.getElem?_of_mem ht
        rw [cellsOf_get] at hj
        split at hj
        · rename_i hlt
          have e' : ((m.toNat * s : Nat) : Int) = m * s := by rw [Int.natCast_mul, Int.toNat_of_nonneg hm0]
          cases hj; exact h1 j (by omega) (by omega)
        · cases hj
      obtain ⟨r, w', hr, h2, h3, h4⟩ := append_where (P := P) w w0.heap.size T E i zv s b hut hi hzz hsz hby hz hs v n.toNat _ hown ad m.toNat cap _ hcl hcells hone (by unfold maxLen; omega) eb hS.size 0
      refine ⟨r, w', fun ty => ?_, h2, h3, h4⟩
      rw [← hr]; rfl
    | none =>
      have hm : m = 0 := by rcases h with h | ⟨_, _, h⟩; exact h; cases h
      subst hm
      refine ⟨v, w, fun ty => ?_, by simpa [cellsOf] using hown, ⟨rfl, rfl, rfl, Nat.le_refl _, fun _ _ _ => rfl⟩, .inl rfl⟩
      obtain ⟨_, ⟨rfl, _⟩ | ⟨g, cp, cur, rfl, _, hg, hnc, _⟩⟩ := hown
      · simp [Builtin.append_, run_underlying hut, sizeOf, typeInfo, hi, Builtin.lenOf, Builtin.firstCells]
      · simp [Builtin.append_, run_underlying hut, sizeOf, typeInfo, hi, Builtin.lenOf, Builtin.firstCells, hnc, storeCells]
  obtain ⟨r, w', hr, h2, h3, h4⟩ := key
  rw [cat_cells hn0 hm0, en] at h2
  have hE : (Ent.own r s E (n + m) (cat (n * s) c d)).holds w' := Ent.holds.of_owns (by omega) hnm h2
  refine ⟨r, w', fun ρ h => ?_, ?_, hE.row.slh⟩
  · simp [execOp, ho, resolve, invoke, builtin, h _ _ hx, h _ _ hy, hr]
  · exact hS.turn (fun k hl hk => h3.block k hl (fun e => hk e.symm)) h3.tape h3.os h3.output h3.size hE (fun g hg => by
      simp only [Ent.has] at hg ⊢
      rcases h4 with h4 | h4
      · exact .inl (by rw [← h4]; exact hg)
      · exact .inr (h4 g hg))
end
end Go.Proofs.Gw
