/- The walks of what the normal form compares by. -/
import Derived.Test.YtopmifmfecfaaaaGv
import Derived.Test.YtopmifmfecfaaaaM1
namespace Go.Proofs.Ytopmifmfecfaaaa
open Go Go.RowKit Go.Proofs.Gw
set_option linter.unusedVariables false

theorem cl_103 : calledT Try.prog 103 = true := by kernel_rfl
theorem cl_117 : calledT Try.prog 117 = true := by kernel_rfl
theorem cl_127 : calledT Try.prog 127 = true := by kernel_rfl
theorem fd_50_0 : fieldT Try.prog 50 0 = some 0 := by kernel_rfl
theorem Sat.oldblk {w0 w : World} {l : List Ent} {g : Nat} {cs : List Value} (hS : Sat w0 w l) (h : (Ent.blk g cs).holds w0) : (Ent.blk g cs).holds w := by
  obtain ⟨T, h⟩ := h
  exact ⟨T, by rw [hS.below.block g (by rw [Array.getElem?_eq_some_iff] at h; exact h.1)]; exact h⟩
theorem xlfs {L : List (Nat × Value)} {w0 w : World} {l : List Ent} {o : Oper} {x : Operand} {T : TypeId} {k g : Nat} {cs : List Value} (ht : structT Try.prog T = some k) (h : (Ent.blk g cs).holds w0) (hS : Sat w0 w l) (ho : o.op = .load T x := by exact rfl)
    (hx : evL L x = some (.pointer (some ⟨g, 0, none⟩)) := by exact rfl) (hk : cs.length = k := by exact rfl) : Runs Try.prog L w o (.value (.agg cs.toArray)) w := ex_loads ho (by rw [ht, hk]) hx (Sat.oldblk hS h).cells

theorem c_isnan {x : Int} (w0 : World) :
    Calls Try.prog 127 [.int .i64 x].toArray w0 fun e w => ∃ v, e = .returned v ∧ v = .bool false ∧ Sat w0 w [] := by
  refine zenG Try.func127 Try.ntmps127 fun w hS => ?_
  refine zsr ?_
  refine zlv xas ?_
  refine zlz ?_
  refine zs2 ?_
  refine zlv (xkf xneq) ?_
  refine zlv xas ?_
  refine zlt <| zrt <| zf1 ⟨_, rfl, ?_⟩
  exact ⟨rfl, hS⟩

def CmpR (x y c : Int) : Prop := (c = -1 ∧ x < y) ∨ (c = 0 ∧ x = y) ∨ (c = 1 ∧ y < x)
theorem c_cmpi {x y : Int} (w0 : World) :
    Calls Try.prog 117 [.int .i64 x, .int .i64 y].toArray w0 fun e w => ∃ v, e = .returned v ∧ ∃ c : Int, v = .int .i64 c ∧ CmpR x y c ∧ Sat w0 w [] := by
  refine zenG Try.func117 Try.ntmps117 fun w hS => ?_
  refine zsr ?_
  refine zlv xas ?_
  refine zlz ?_
  refine zlv xmv ?_
  refine zlc (xc0 cl_127) (c_isnan (x := x) w) ?_; rintro _ w ⟨rfl, hS'⟩
  replace hS := hS.cmp hS'; clear hS'
  refine zlv xas ?_
  refine zlz ?_
  refine zlv xmv ?_
  refine zlc (xc0 cl_127) (c_isnan (x := y) w) ?_; rintro _ w ⟨rfl, hS'⟩
  replace hS := hS.cmp hS'; clear hS'
  refine zlv xas ?_
  refine zlt <| zsq <| zsr ?_
  refine zlv xmv ?_
  refine zlt <| zcf <| zsk <| ztn <| zsq <| zsr ?_
  refine zlv xmv ?_
  refine zlt <| zcf <| zsk <| ztn <| zsq <| zsr ?_
  refine zs3 ?_
  refine zlt ?_
  refine zcif ?_ ?_ <;> intro hc
  ·
   refine zsr ?_
   refine zlv xas ?_
   refine zlt <| zrt <| ztr <| zf1 ⟨_, rfl, ?_⟩
   exact ⟨(-1), rfl, by unfold CmpR; omega, hS⟩
  refine zsk <| ztn <| zsq <| zsr ?_
  refine zs3 ?_
  refine zlt ?_
  refine zcif ?_ ?_ <;> intro hc
  ·
   refine zsr ?_
   refine zlv xas ?_
   refine zlt <| zrt <| ztr <| zf1 ⟨_, rfl, ?_⟩
   exact ⟨1, rfl, by unfold CmpR; omega, hS⟩
  refine zsk <| ztn <| zsr ?_
  refine zlv xas ?_
  refine zlt <| zrt <| zf1 ⟨_, rfl, ?_⟩
  exact ⟨0, rfl, by unfold CmpR; omega, hS⟩

set_option maxRecDepth 20000 in
theorem c_scmp {vA vB : Value} {n m : Int} {f g : Int → Int} (w0 : World) (hA : Row w0 vA 1 n (ints f)) (hB : Row w0 vB 1 m (ints g)) :
    Calls Try.prog 103 [vA, vB].toArray w0 fun e w => ∃ v, e = .returned v ∧ ∃ c : Int, v = .int .i64 c ∧ (c < 0 ↔ ahd (lst m g) (lst n f)) ∧ Sat w0 w [] := by
  have hn := hA.slh.n0; have hn1 := hA.slh.n1; have hm := hB.slh.n0; have hm1 := hB.slh.n1
  refine zenG Try.func103 Try.ntmps103 fun w hS => ?_
  refine zsr ?_
  refine zlv xas ?_
  refine zlt <| zsq <| zsr ?_
  refine zlv xmv ?_
  refine zlv (xln sl_22 hA.slh) ?_
  refine zlv xmv ?_
  refine zlt <| zbk <| zlp (fun mm M w => ∃ (i : Int), mm = ((n - i).toNat) ∧ (0 ≤ i) ∧ (i ≤ n) ∧ (i ≤ m) ∧ (∀ k, 0 ≤ k → k < i → f k = g k) ∧ M = [(0, vA), (1, vB), (9, vA), (10, .int .i64 n), (11, .int .i64 i)] ∧ Sat w0 w []) ⟨0, rfl, (by omega), (by omega), (by omega), ?_, rfl, hS⟩ ?_
  ·
   intro k h0 h1; omega
  clear hS w
  rintro mm M w ⟨i, rfl, h0, h1, h2, hall, rfl, hS⟩
  refine zsr ?_
  refine zlv xlss ?_
  refine zlt <| zsq ?_
  refine zcif ?_ ?_ <;> intro hc
  ·
   refine zsk <| ztn <| zsq <| zbk <| zsr ?_
   refine zlv xmv ?_
   refine zlv (xix (kk := i) sl_22 hA.slh) ?_
   refine zlv (xlr (u := .int .i64 (f i)) pl_3 (hA.below hS.below)) ?_
   refine zs2 ?_
   refine zlt <| zsq <| zsr ?_
   refine zs2 ?_
   refine zlv (xln sl_22 hB.slh) ?_
   refine zlv xgeq ?_
   refine zlt ?_
   refine zcif ?_ ?_ <;> intro hc
   ·
    refine zsr ?_
    refine zlv xas ?_
    refine zlt <| zrt <| ztr <| zbr <| ztr <| ztr <| zbr <| ztr <| zf1 ⟨_, rfl, ?_⟩
    exact ⟨1, rfl, ⟨fun h => by omega, fun h => absurd h (ahd_asym (ahd_long (by omega) (by omega) (fun k k0 k1 => hall k k0 (by omega))))⟩, hS⟩
   refine zsk <| ztn <| zsr ?_
   refine zs2 ?_
   refine zlv (xix (kk := i) sl_22 hB.slh) ?_
   refine zlv (xlr (u := .int .i64 (g i)) pl_3 (hB.below hS.below)) ?_
   refine zlv xas ?_
   refine zlz ?_
   refine zs2 ?_
   refine zlc (xc0 cl_117) (c_cmpi (x := (f i)) (y := (g i)) w) ?_; rintro _ w ⟨c1, rfl, hc1, hS'⟩
   replace hS := hS.cmp hS'; clear hS'
   refine zlv xas ?_
   refine zlz ?_
   refine zs2 ?_
   refine zlt ?_
   refine zcif ?_ ?_ <;> intro hc
   ·
    refine zsr ?_
    refine zs2 ?_
    refine zlt <| zrt <| zbr <| ztr <| ztr <| zbr <| ztr <| zf1 ⟨_, rfl, ?_⟩
    exact ⟨c1, rfl, ⟨fun h => ahd_gt (j := i) (by omega) (by omega) (by omega) (fun k k0 k1 => (hall k k0 k1).symm) (by unfold CmpR at hc1; omega), fun h => by
        unfold CmpR at hc1
        by_cases h9 : c1 < 0
        · exact h9
        · exact absurd h (ahd_asym (ahd_gt (j := i) (by omega) (by omega) (by omega) (fun k k0 k1 => hall k k0 k1) (by omega)))⟩, hS⟩
   refine zsk <| zbn <| ztn <| zrg ?_
   refine zlv (xadd (r := i + 1)) ?_
   refine zlv xmv ?_
   refine zln <| zlq ⟨i + 1, rfl, (by omega), (by omega), (by omega), ?_, rfl, hS⟩
   ·
    intro k h0' h1'; rcases Int.lt_or_eq_of_le (show k ≤ i by omega) with hk | hk; exact hall k h0' hk; rw [hk]; (unfold CmpR at hc1; omega)
  refine zxt <| ztx <| ztx <| zbh <| ztn <| zsq <| zsr ?_
  refine zlv xmv ?_
  refine zlv (xln sl_22 hA.slh) ?_
  refine zlv xmv ?_
  refine zlv (xln sl_22 hB.slh) ?_
  refine zlv xlss ?_
  refine zlt ?_
  refine zcif ?_ ?_ <;> intro hc
  ·
   refine zsr ?_
   refine zlv xas ?_
   refine zlt <| zrt <| ztr <| zf1 ⟨_, rfl, ?_⟩
   exact ⟨(-1), rfl, ⟨fun _ => ahd_long (by omega) (by omega) (fun k k0 k1 => (hall k k0 (by omega)).symm), fun _ => by omega⟩, hS⟩
  refine zsk <| ztn <| zsr ?_
  refine zlv xas ?_
  refine zlt <| zrt <| zf1 ⟨_, rfl, ?_⟩
  exact ⟨0, rfl, ⟨fun h => by omega, fun h => absurd h (by rw [show n = m by omega]; exact ahd_same (fun k k0 k1 => (hall k k0 (by omega)).symm))⟩, hS⟩

set_option maxRecDepth 20000 in
theorem c_ncmp {vA vB : Value} {n m : Int} {f g : Int → Int} {a b : Int} (w0 : World) (hA : Row w0 vA 1 n (ints f)) (hB : Row w0 vB 1 m (ints g)) :
    Calls Try.prog 102 [.agg #[vA, .int .i64 a], .agg #[vB, .int .i64 b]].toArray w0 fun e w => ∃ v, e = .returned v ∧ ∃ c : Int, v = .int .i64 c ∧ (c < 0 ↔ ahd (lst n f) (lst m g)) ∧ Sat w0 w [] := by
  refine zenG Try.func102 Try.ntmps102 fun w hS => ?_
  refine zsr ?_
  refine zla (xbx (cs := [_, _]) hS) ?_; rintro _ w ⟨g1, rfl, hS⟩
  replace hS := hS.n1
  refine zla (xbx (cs := [_, _]) hS) ?_; rintro _ w ⟨g2, rfl, hS⟩
  replace hS := hS.n2
  refine zlv xas ?_
  refine zlz ?_
  refine zlv (xfb 0 fd_50_0) ?_
  refine zlv (xlb 1 pl_22 hS) ?_
  refine zlv (xfb 0 fd_50_0) ?_
  refine zlv (xlb 0 pl_22 hS) ?_
  refine zlc (xc0 cl_103) (c_scmp (n := m) (f := g) (m := n) (g := f) w (hB.below hS.below) (hA.below hS.below)) ?_; rintro _ w ⟨c1, rfl, hc1, hS'⟩
  replace hS := hS.cmp hS'; clear hS'
  refine zlv xas ?_
  refine zlt <| zrt <| zf1 ⟨_, rfl, ?_⟩
  exact ⟨_, rfl, hc1, hS.nl⟩

set_option maxRecDepth 20000 in
theorem c_eqs {vA vB : Value} {n m : Int} {f g : Int → Int} (w0 : World) (hA : Row w0 vA 1 n (ints f)) (hB : Row w0 vB 1 m (ints g)) :
    Calls Try.prog 98 [vA, vB].toArray w0 fun e w => ∃ v, e = .returned v ∧ v = B (lst n f = lst m g) ∧ Sat w0 w [] := by
  have hn := hA.slh.n0; have hn1 := hA.slh.n1; have hm := hB.slh.n0; have hm1 := hB.slh.n1
  refine zenG Try.func98 Try.ntmps98 fun w hS => ?_
  refine zsr ?_
  refine zlv xas ?_
  refine zlt <| zsq <| zsr ?_
  refine zlv xmv ?_
  refine zlv (xln sl_22 hA.slh) ?_
  refine zlv xmv ?_
  refine zlv (xln sl_22 hB.slh) ?_
  refine zlv xneq ?_
  refine zlt ?_
  refine zcif ?_ ?_ <;> intro hc
  ·
   refine zsr ?_
   refine zlv xas ?_
   refine zlt <| zrt <| ztr <| zf1 ⟨_, rfl, ?_⟩
   exact ⟨false_B (by intro hh; have h9 := (lst_eq hn hm).1 hh; first | omega | (have := h9.2 i h0 (by omega); omega)), hS⟩
  refine zsk <| ztn <| zsq <| zsr ?_
  refine zlv xmv ?_
  refine zlv (xln sl_22 hA.slh) ?_
  refine zlv xmv ?_
  refine zlt <| zbk <| zlp (fun mm M w => ∃ (i : Int), mm = ((n - i).toNat) ∧ (0 ≤ i) ∧ (i ≤ n) ∧ (∀ k, 0 ≤ k → k < i → f k = g k) ∧ M = [(0, vA), (1, vB), (12, .int .i64 n), (13, .int .i64 i)] ∧ Sat w0 w []) ⟨0, rfl, (by omega), (by omega), ?_, rfl, hS⟩ ?_
  ·
   intro k h0 h1; omega
  clear hS w
  rintro mm M w ⟨i, rfl, h0, h1, hall, rfl, hS⟩
  refine zsr ?_
  refine zlv xlss ?_
  refine zlt <| zsq ?_
  refine zcif ?_ ?_ <;> intro hc
  ·
   refine zsk <| ztn <| zsq <| zbk <| zsr ?_
   refine zs2 ?_
   refine zlt <| zsq ?_
   refine zdst [] [] 1000 mx_ hS ?_; clear hS; intro w hS
   refine zdv 0 (fun _ => xmv) ?_
   refine zdv 1 (fun _ => xmv) ?_
   refine zdv 2 (fun _ => (xix (kk := i) sl_22 hA.slh)) ?_
   refine zdla 3 (fun w hS => (xlr (u := .int .i64 (f i)) pl_3 (hA.below hS.below))) ?_
   refine zdv 4 (fun _ => xmv) ?_
   refine zdv 5 (fun _ => xmv) ?_
   refine zdv 6 (fun _ => (xix (kk := i) sl_22 hB.slh)) ?_
   refine zdla 7 (fun w hS => (xlr (u := .int .i64 (g i)) pl_3 (hB.below hS.below))) ?_
   refine zdv 8 (fun _ => xneq) ?_
   refine zdd <| ztn ?_
   refine zcif ?_ ?_ <;> intro hc
   ·
    refine zsr ?_
    refine zlv xas ?_
    refine zlt <| zrt <| zbr <| ztr <| ztr <| zbr <| ztr <| zf1 ⟨_, rfl, ?_⟩
    exact ⟨false_B (by intro hh; have h9 := (lst_eq hn hm).1 hh; first | omega | (have := h9.2 i h0 (by omega); omega)), hS⟩
   refine zsk <| zbn <| ztn <| zrg ?_
   refine zlv (xadd (r := i + 1)) ?_
   refine zlv xmv ?_
   refine zln <| zlq ⟨i + 1, rfl, (by omega), (by omega), ?_, rfl, hS⟩
   ·
    intro k h0' h1'; rcases Int.lt_or_eq_of_le (show k ≤ i by omega) with hk | hk; exact hall k h0' hk; rw [hk]; omega
  refine zxt <| ztx <| ztx <| zbh <| ztn <| zsr ?_
  refine zlv xas ?_
  refine zlt <| zrt <| zf1 ⟨_, rfl, ?_⟩
  exact ⟨true_B (by exact (lst_eq hn hm).2 ⟨by omega, fun k k0 k1 => hall k k0 (by omega)⟩), hS⟩

end Go.Proofs.Ytopmifmfecfaaaa
