/- From how any argument reads as data to what the walks are told of it: ints, structs, arrays, slices, however they lie in one another. Over any program. -/
import Derived.Test.YtmlfpniaknmmfaaRw
namespace Go.Proofs.Gw
open Go Go.RowKit Go.ChangeShapes Go.WideShapes Go.ChangeAt
set_option linter.unusedVariables false
set_option linter.unusedSimpArgs false

section
variable {H : Type} {enc : TypeId × Value → H} {P : Program} {w : World} {held : Bool}
/-- These cells read as data of the type, and no part outweighs what memory bears. -/
def Rd {H : Type} (enc : TypeId × Value → H) (P : Program) (w : World) (held : Bool) (t : TypeId) (cs : List Value) : Prop := ∃ fuel y, DataW.trod enc P w 0 (fun _ => true) held fuel t cs = some y ∧ Small P t y.1
theorem Rd.int {k : IntKind} {t : TypeId} {cs : List Value} (h : Rd enc P w held t cs) (ht : P.underlying t = some (.int k)) : ∃ n, cs = [.int k n] ∧ (Lit.int k n).wf = true := by
  obtain ⟨fuel, y, h, _⟩ := h
  obtain ⟨n, h1, _, h2⟩ := DataW.trod_int ht h
  exact ⟨n, h1, h2⟩
theorem Rd.intv {k : IntKind} {t : TypeId} {v : Value} (h : Rd enc P w held t [v]) (ht : P.underlying t = some (.int k)) : ∃ n, v = .int k n ∧ (Lit.int k n).wf = true := by
  obtain ⟨n, h1, h2⟩ := h.int ht
  exact ⟨n, by simpa using h1, h2⟩
theorem Rd.boolv {t : TypeId} {v : Value} (h : Rd enc P w held t [v]) (ht : P.underlying t = some .bool) : ∃ b, v = .bool b := by
  obtain ⟨fuel, y, h, _⟩ := h
  obtain ⟨n, h1, _⟩ := DataW.trod_bool ht h
  exact ⟨n, by simpa using h1⟩
theorem Rd.struct {fs : Array Field} {t : TypeId} {cs : List Value} (h : Rd enc P w held t cs) (ht : P.underlying t = some (.struct fs)) : ∀ (j : Nat) (f : Field), fs[j]? = some f → Rd enc P w held f.type ((cs.drop f.offset).take (P.cellsOf f.type)) := fun j f hf => by
  obtain ⟨fuel, y, h, hs⟩ := h
  obtain ⟨xs, n, _, rfl, hl, hlen, hx⟩ := DataW.trod_struct ht h
  have hj : j < xs.length := by rw [hlen]; exact (Array.getElem?_eq_some_iff.1 hf).1
  have h1 := hx j f hf
  rw [List.getElem?_eq_getElem hj] at h1
  exact ⟨n, _, h1, small_struct (j := j) hs ht (by simp [hf]) (by simp [hj])⟩
theorem Rd.len {fs : Array Field} {t : TypeId} {cs : List Value} (h : Rd enc P w held t cs) (ht : P.underlying t = some (.struct fs)) : cs.length = P.cellsOf t := by
  obtain ⟨fuel, y, h, hs⟩ := h
  obtain ⟨xs, n, _, rfl, hl, hlen, hx⟩ := DataW.trod_struct ht h
  exact hl
theorem Rd.slice {t e : TypeId} {s b : Nat} {v : Value} (h : Rd enc P w held t [v]) (ht : P.underlying t = some (.slice e)) (ce : P.cellsOf e = s) (be : P.bytesOf e = b) (hs1 : 1 ≤ s) (hsb : s ≤ b) :
    ∃ (n : Int) (c : Int → Value), Row w v s n c ∧ b * n ≤ 140737488351232 ∧ ∀ i : Int, 0 ≤ i → i < n → Rd enc P w held e ((List.range s).map fun j : Nat => c (i * s + j)) := by
  obtain ⟨fuel, y, h, hs⟩ := h
  rcases Go.Deep.open_slice ht h with ⟨hcs, _⟩ | ⟨a, len, cap, m, n, D, Pl, hcs, _, hl, hm, hmm, hy, hx⟩
  · simp only [List.cons.injEq, and_true] at hcs
    subst hcs
    exact ⟨0, fun _ => undef, ⟨⟨by omega, by omega, none, 0, rfl, .inl rfl⟩, fun k hk => by rw [Int.zero_mul] at hk; omega⟩, by omega, fun i a0 a1 => by omega⟩
  · simp only [List.cons.injEq, and_true] at hcs
    subst hcs
    simp only [if_true] at hmm
    subst hmm
    rw [hy] at hs
    have hsm := small_slice hs ht
    have hb1 := hsm.1
    rw [be] at hb1
    simp only [List.length_map, List.length_range] at hb1
    have h2 : len * b ≤ (len + (m - len)) * b := Nat.mul_le_mul_right _ (by omega)
    have h3 : len * b ≤ 140737488351232 := by unfold reachBytes at hb1; omega
    have h4 : len * 1 ≤ len * b := Nat.mul_le_mul_left _ (by omega)
    rw [ce] at hx
    have e0 : ∀ i : Nat, ∃ cs' : List Value, i < len → w.cells? 0 (a.add (i * s)) s = some cs' ∧ DataW.trod enc P w 0 (fun _ => true) held n e cs' = some (D i, Pl i) := fun i => by
      by_cases hi : i < len
      · obtain ⟨cs', h5, h6⟩ := hx i (by omega)
        exact ⟨cs', fun _ => ⟨h5, h6⟩⟩
      · exact ⟨[], fun h => absurd h hi⟩
    obtain ⟨C, hC⟩ := Classical.axiomOfChoice e0
    have hsp0 : 0 < len → a.spot = none := fun h0 => by
      obtain ⟨_, h7, h8⟩ := World.cells?_some (hC 0 h0).1
      have h9 := h8 0 (by omega)
      rw [List.getElem?_eq_getElem (by omega)] at h9
      have h10 := spot_none h9
      simpa [Addr.add] using h10
    refine ⟨len, fun k => (C (k / s).toNat).getD (k % s).toNat undef, ⟨⟨by omega, by omega, some a, m, by simp, ?_⟩, fun j hj => ?_⟩, ?_, fun i i0 i1 => ?_⟩
    · by_cases hl0 : len = 0
      · left; omega
      · right
        have hsp := hsp0 (by omega)
        exact ⟨a.block, a.off, by cases a; simp at hsp; simp [hsp]⟩
    · have hjs : j < len * s := by rw [← Int.natCast_mul] at hj; omega
      have hi : j / s < len := (Nat.div_lt_iff_lt_mul (by omega)).2 hjs
      have hlen0 : 0 < len := Nat.lt_of_le_of_lt (Nat.zero_le _) hi
      have hsp := hsp0 hlen0
      obtain ⟨_, h7, h8⟩ := World.cells?_some (hC (j / s) hi).1
      have hr : j % s < s := Nat.mod_lt _ (by omega)
      have h9 := h8 (j % s) hr
      rw [Addr.add_eq a hsp, Addr.add_eq _ rfl] at h9
      have e1 : ((j : Int) / (s : Int)).toNat = j / s := by rw [← Int.natCast_ediv, Int.toNat_natCast]
      have e2 : ((j : Int) % (s : Int)).toNat = j % s := by rw [← Int.natCast_emod, Int.toNat_natCast]
      have e3 : a.off + j / s * s + j % s = a.off + j := by rw [Nat.add_assoc, Nat.mul_comm, Nat.div_add_mod]
      rw [List.getElem?_eq_getElem (by omega)] at h9
      simp only [e1, e2, List.getD_eq_getElem?_getD]
      rw [List.getElem?_eq_getElem (by omega)]
      simp only [cad, Int.toNat_natCast, Option.getD_some]
      simp only [e3] at h9
      exact h9
    · have : ((len * b : Nat) : Int) = b * len := by rw [Int.natCast_mul, Int.mul_comm]
      omega
    · obtain ⟨k, rfl⟩ := Int.eq_ofNat_of_zero_le i0
      have hk : k < len := by omega
      obtain ⟨h5, h6⟩ := hC k hk
      obtain ⟨_, h7, h8⟩ := World.cells?_some h5
      have e : ((List.range s).map fun j : Nat => (C (((k : Int) * (s : Int) + (j : Int)) / (s : Int)).toNat).getD (((k : Int) * (s : Int) + (j : Int)) % (s : Int)).toNat undef) = C k := by
        apply List.ext_getElem
        · simp [h7]
        · intro j hj1 hj2
          rw [List.getElem_map, List.getElem_range]
          have hjs : j < s := by simpa using hj1
          have e0 : ((k : Int) * (s : Int) + (j : Int)) = ((k * s + j : Nat) : Int) := by rw [Int.natCast_add, Int.natCast_mul]
          have e1 : (((k * s + j : Nat) : Int) / (s : Int)).toNat = k := by
            rw [← Int.natCast_ediv, Int.toNat_natCast, Nat.mul_comm, Nat.mul_add_div (by omega), Nat.div_eq_of_lt hjs, Nat.add_zero]
          have e2 : (((k * s + j : Nat) : Int) % (s : Int)).toNat = j := by
            rw [← Int.natCast_emod, Int.toNat_natCast, Nat.mul_comm, Nat.mul_add_mod, Nat.mod_eq_of_lt hjs]
          rw [e0, e1, e2, List.getD_eq_getElem?_getD, List.getElem?_eq_getElem hj2, Option.getD_some]
      rw [e]
      exact ⟨n, _, h6, hsm.2 (D k) (List.mem_map.2 ⟨k, List.mem_range.2 hk, rfl⟩)⟩
theorem Rd.array {n : Nat} {t e : TypeId} {cs : List Value} (h : Rd enc P w held t cs) (ht : P.underlying t = some (.array n e)) : ∀ i, i < n → Rd enc P w held e ((cs.drop (i * P.cellsOf e)).take (P.cellsOf e)) := fun i hi => by
  obtain ⟨fuel, y, h, hs⟩ := h
  obtain ⟨xs, m, _, rfl, _, hl, hel⟩ := DataW.trod_array ht h
  have h1 := hel i hi
  rw [List.getElem?_eq_getElem (by omega)] at h1
  refine ⟨m, _, h1, ?_⟩
  unfold Small at hs
  simp only [DataW.weights, ht] at hs
  exact small_all hs _ (List.mem_map.2 ⟨xs[i], List.getElem_mem _, rfl⟩)
theorem Rd.field {fs : Array Field} {t u : TypeId} {cs ds : List Value} (h : Rd enc P w held t cs) (ht : P.underlying t = some (.struct fs)) (j : Nat) {f : Field} (hf : fs[j]? = some f) {k : Nat} (hu : f.type = u) (hk : P.cellsOf u = k) (hd : (cs.drop f.offset).take k = ds) : Rd enc P w held u ds := by
  subst hu; subst hd; rw [← hk]; exact h.struct ht j f hf
theorem Rd.elem {n : Nat} {t e : TypeId} {cs ds : List Value} (h : Rd enc P w held t cs) (ht : P.underlying t = some (.array n e)) (i : Nat) (hi : i < n) {k : Nat} (hk : P.cellsOf e = k) (hd : (cs.drop (i * k)).take k = ds) : Rd enc P w held e ds := by
  subst hd; rw [← hk]; exact h.array ht i hi
theorem Rd.lenA {n : Nat} {t e : TypeId} {cs : List Value} (h : Rd enc P w held t cs) (ht : P.underlying t = some (.array n e)) : cs.length = P.cellsOf t := by
  obtain ⟨fuel, y, h, hs⟩ := h
  obtain ⟨xs, m, _, rfl, hl, _⟩ := DataW.trod_array ht h
  exact hl
theorem okWide_array {r : Reach} {b0 : Nat} {n : Nat} {e t : TypeId} {v : Value} (ht : P.underlying t = some (.array n e)) (h : Value.okWide P w r b0 t v) : ∃ cs, v = .agg cs ∧ cs.size = P.cellsOf t := by
  simp only [Value.okWide, ht] at h
  obtain ⟨cs, h1, h2, _⟩ := h
  exact ⟨cs, h1, h2⟩
theorem toList_inj {cs : Array Value} {l : List Value} (h : cs.toList = l) : cs = l.toArray := by subst h; simp
/-- From an argument. -/
theorem Rd.arg {t : TypeId} {v : Value} {d : DataW H} {p : List MemPlace} (h : DataW.Trod enc P w 0 (fun _ => true) held t v d p) (hs : Small P t d) : Rd enc P w held t v.cells.toList := by
  obtain ⟨fuel, hf⟩ := h
  exact ⟨fuel, _, hf, hs⟩
theorem list1 {cs : List Value} (h : cs.length = 1) : ∃ a, cs = [a] := by match cs, h with | [a], _ => exact ⟨_, rfl⟩
theorem list2 {cs : List Value} (h : cs.length = 2) : ∃ a b, cs = [a, b] := by match cs, h with | [a, b], _ => exact ⟨_, _, rfl⟩
theorem list3 {cs : List Value} (h : cs.length = 3) : ∃ a b c, cs = [a, b, c] := by match cs, h with | [a, b, c], _ => exact ⟨_, _, _, rfl⟩
theorem list4 {cs : List Value} (h : cs.length = 4) : ∃ a b c d, cs = [a, b, c, d] := by match cs, h with | [a, b, c, d], _ => exact ⟨_, _, _, _, rfl⟩
theorem list5 {cs : List Value} (h : cs.length = 5) : ∃ a b c d e, cs = [a, b, c, d, e] := by match cs, h with | [a, b, c, d, e], _ => exact ⟨_, _, _, _, _, rfl⟩
theorem list6 {cs : List Value} (h : cs.length = 6) : ∃ a b c d e f, cs = [a, b, c, d, e, f] := by match cs, h with | [a, b, c, d, e, f], _ => exact ⟨_, _, _, _, _, _, rfl⟩
theorem list7 {cs : List Value} (h : cs.length = 7) : ∃ a b c d e f g, cs = [a, b, c, d, e, f, g] := by match cs, h with | [a, b, c, d, e, f, g], _ => exact ⟨_, _, _, _, _, _, _, rfl⟩
/-- Numbers of one cell each, by choice. -/
theorem Rd.nums {k : IntKind} {t e : TypeId} {b : Nat} {v : Value} (h : Rd enc P w held t [v]) (ht : P.underlying t = some (.slice e)) (he : P.underlying e = some (.int k)) (hc : P.cellsOf e = 1) (hb : P.bytesOf e = b) (hb1 : 1 ≤ b) :
    ∃ (n : Int) (f : Int → Int), Row w v 1 n (fun j => .int k (f j)) ∧ b * n ≤ 140737488351232 ∧ ∀ j, (Lit.int k (f j)).wf = true := by
  obtain ⟨n, c, h1, h2, h3⟩ := h.slice ht hc hb (by omega) hb1
  have h0 : (Lit.int k 0).wf = true := by cases k <;> decide
  have e0 : ∀ i : Int, ∃ x : Int, (Lit.int k x).wf = true ∧ (0 ≤ i → i < n → c i = .int k x) := fun i => by
    by_cases hi : 0 ≤ i ∧ i < n
    · have h4 := h3 i hi.1 hi.2
      simp only [List.range_one, List.map_cons, List.map_nil] at h4
      obtain ⟨x, hx, hw⟩ := h4.intv he
      refine ⟨x, hw, fun _ _ => ?_⟩
      rw [← hx]; congr 1; omega
    · exact ⟨0, h0, fun a0 a1 => absurd ⟨a0, a1⟩ hi⟩
  obtain ⟨f, hf⟩ := Classical.axiomOfChoice e0
  exact ⟨n, f, h1.congr fun i i0 i1 => (hf i).2 i0 (by omega), h2, fun j => (hf j).1⟩
theorem Rd.ints {t e : TypeId} {v : Value} (h : Rd enc P w held t [v]) (ht : P.underlying t = some (.slice e)) (he : P.underlying e = some (.int .i64)) (hc : P.cellsOf e = 1) (hb : P.bytesOf e = 8) : ∃ (n : Int) (f : Int → Int), IAt w v n f := by
  obtain ⟨n, f, h1, _, h2⟩ := h.nums ht he hc hb (by omega)
  exact ⟨n, f, h1, fun k => wf_i64 (h2 k)⟩
/-- Structs of two ints, of three ints, by choice. -/
theorem Rd.trip {t e : TypeId} {f0 f1 f2 : Field} {b : Nat} {v : Value} (h : Rd enc P w held t [v]) (ht : P.underlying t = some (.slice e)) (he : P.underlying e = some (.struct #[f0, f1, f2])) (ce : P.cellsOf e = 3) (be : P.bytesOf e = b) (hb : 3 ≤ b)
    (o0 : f0.offset = 0) (o1 : f1.offset = 1) (o2 : f2.offset = 2) (c0 : P.cellsOf f0.type = 1) (c1 : P.cellsOf f1.type = 1) (c2 : P.cellsOf f2.type = 1) (u0 : P.underlying f0.type = some (.int .i64)) (u1 : P.underlying f1.type = some (.int .i64)) (u2 : P.underlying f2.type = some (.int .i64)) :
    ∃ (n : Int) (c : Int → Value) (X Y Z : Int → Int), Row w v 3 n c ∧ (∀ i, 0 ≤ i → i < n → c (3 * i) = .int .i64 (X i) ∧ c (3 * i + 1) = .int .i64 (Y i) ∧ c (3 * i + 2) = .int .i64 (Z i)) ∧
      (∀ i, -9223372036854775808 ≤ X i ∧ X i ≤ 9223372036854775807) ∧ (∀ i, -9223372036854775808 ≤ Y i ∧ Y i ≤ 9223372036854775807) ∧ (∀ i, -9223372036854775808 ≤ Z i ∧ Z i ≤ 9223372036854775807) := by
  obtain ⟨n, c, h1, h2, h3⟩ := h.slice ht ce be (by omega) hb
  have e0 : ∀ i : Int, ∃ x : Int × Int × Int, (0 ≤ i → i < n → c (3 * i) = .int .i64 x.1 ∧ c (3 * i + 1) = .int .i64 x.2.1 ∧ c (3 * i + 2) = .int .i64 x.2.2) ∧ (-9223372036854775808 ≤ x.1 ∧ x.1 ≤ 9223372036854775807) ∧ (-9223372036854775808 ≤ x.2.1 ∧ x.2.1 ≤ 9223372036854775807) ∧ (-9223372036854775808 ≤ x.2.2 ∧ x.2.2 ≤ 9223372036854775807) := fun i => by
    by_cases hi : 0 ≤ i ∧ i < n
    · have h4 := h3 i hi.1 hi.2
      have e : ((List.range 3).map fun j : Nat => c (i * (3 : Nat) + j)) = [c (3 * i), c (3 * i + 1), c (3 * i + 2)] := by
        simp [List.range_succ]
        exact ⟨by congr 1; omega, by congr 1; omega, by congr 1; omega⟩
      rw [e] at h4
      obtain ⟨x, hx, wx⟩ := (h4.field he 0 rfl rfl c0 (ds := [c (3 * i)]) (by show List.take 1 (List.drop f0.offset _) = _; rw [o0]; rfl)).intv u0
      obtain ⟨y, hy, wy⟩ := (h4.field he 1 rfl rfl c1 (ds := [c (3 * i + 1)]) (by show List.take 1 (List.drop f1.offset _) = _; rw [o1]; rfl)).intv u1
      obtain ⟨z, hz, wz⟩ := (h4.field he 2 rfl rfl c2 (ds := [c (3 * i + 2)]) (by show List.take 1 (List.drop f2.offset _) = _; rw [o2]; rfl)).intv u2
      exact ⟨(x, y, z), fun _ _ => ⟨hx, hy, hz⟩, wf_i64 wx, wf_i64 wy, wf_i64 wz⟩
    · exact ⟨(0, 0, 0), fun a0 a1 => absurd ⟨a0, a1⟩ hi, by dsimp only; omega, by dsimp only; omega, by dsimp only; omega⟩
  obtain ⟨f, hf⟩ := Classical.axiomOfChoice e0
  exact ⟨n, c, fun i => (f i).1, fun i => (f i).2.1, fun i => (f i).2.2, h1, fun i i0 i1 => (hf i).1 i0 i1, fun i => (hf i).2.1, fun i => (hf i).2.2.1, fun i => (hf i).2.2.2⟩
end
end Go.Proofs.Gw
