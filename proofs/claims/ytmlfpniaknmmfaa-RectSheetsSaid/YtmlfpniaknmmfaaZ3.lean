/- The walk of Counts. -/
import Derived.Test.YtmlfpniaknmmfaaGv
import Derived.Test.YtmlfpniaknmmfaaZ2
namespace Go.Proofs.Ytmlfpniaknmmfaa
open Go Go.RowKit Go.Proofs.Gw
set_option linter.unusedVariables false

theorem cl_31 : calledT Try.prog 31 = true := by kernel_rfl
theorem cnt_inI {t : Tree} {m i : Int} (h0 : 0 ≤ i) (h : t.piece m i) : t.cnt m (i + 1).toNat = bump (t.cnt m i.toNat) (t.K i) := by
  obtain ⟨k, rfl⟩ := Int.eq_ofNat_of_zero_le h0
  rw [show ((k : Int) + 1).toNat = k + 1 by omega, Int.toNat_natCast]; exact cnt_in h
theorem cnt_outI {t : Tree} {m i : Int} (h0 : 0 ≤ i) (h : ¬ t.piece m i) : t.cnt m (i + 1).toNat = t.cnt m i.toNat := by
  obtain ⟨k, rfl⟩ := Int.eq_ofNat_of_zero_le h0
  rw [show ((k : Int) + 1).toNat = k + 1 by omega, Int.toNat_natCast]; exact cnt_out h
theorem cnt_round {t : Tree} {m i : Int} {fs : Int → Int} (hfs : ∀ j, 0 ≤ j → j < m → fs j = t.cnt m i.toNat j) (h0 : 0 ≤ i) (h : t.piece m i) : ∀ j, 0 ≤ j → j < m → upd fs (t.K i) (fs (t.K i) + 1) j = t.cnt m (i + 1).toNat j := fun j j0 j1 => by
  rw [cnt_inI h0 h]
  unfold bump
  by_cases e : j = t.K i
  · rw [e, upd_self, upd_self, hfs _ h.2.1 h.2.2]
  · rw [upd_ne _ _ e, upd_ne _ _ e, hfs j j0 j1]

set_option maxRecDepth 20000 in
theorem c_counts {vT : Value} {t : Tree} {m : Int} (w0 : World) (hT : TrAt w0 vT t) (hm0 : 0 ≤ m) (hm1 : m ≤ 20) :
    Calls Try.prog 20 [vT, .int .i64 m].toArray w0 fun e w => ∃ v, e = .returned v ∧ ∃ r f, v = r ∧ Slh r m ∧ (∀ j, 0 ≤ j → j < m → f j = t.cnt m t.n.toNat j) ∧ Sat w0 w [.own r 1 3 m (ints f)] := by
  have hn0 := hT.row.slh.n0; have hn1 := hT.row.slh.n1
  refine zenG Try.func20 Try.ntmps20 fun w hS => ?_
  refine zsr ?_
  refine zlv xas ?_
  refine zlt <| zsq <| zsr ?_
  refine zs3 ?_
  refine zlb 10 ?_ ?_ <;> intro hc
  ·
   iterate 2 refine zlo ?_
   refine zlv xpt ?_
   refine zlt <| zct <| zsr ?_
   refine zlv xas ?_
   refine zlt <| zrt <| ztr <| zf1 ⟨_, rfl, ?_⟩
   exfalso; omega
  refine zs3 ?_
  refine zlt ?_
  refine zcif ?_ ?_ <;> intro hc
  ·
   refine zsr ?_
   refine zlv xas ?_
   refine zlt <| zrt <| ztr <| zf1 ⟨_, rfl, ?_⟩
   exfalso; omega
  refine zsk <| ztn <| zsr ?_
  refine zlv xmv ?_
  refine zla (xmk sl_52 el_3 hS) ?_; rintro v1 w ⟨hS, hv1⟩
  replace hS := hS.n1
  refine zlv xas ?_
  refine zlt <| zsq <| zsr ?_
  refine zlv xas ?_
  refine zlt <| zbk <| zlp (fun mm M w => ∃ (i : Int) (fs : Int → Int), mm = ((t.n - i).toNat) ∧ (0 ≤ i) ∧ (i ≤ t.n) ∧ (∀ j, 0 ≤ j → j < m → fs j = t.cnt m i.toNat j) ∧ (∀ j, 0 ≤ j → j < m → 0 ≤ fs j ∧ fs j ≤ i) ∧ M = [(0, vT), (1, .int .i64 m), (4, .slice none 0 0), (5, v1), (6, .int .i64 i)] ∧ Sat w0 w [.own v1 1 3 m (ints fs)]) ⟨0, (fun _ => 0), rfl, (by omega), (by omega), ?_, ?_, rfl, hS⟩ ?_
  ·
   intro j _ _; rfl
  ·
   intro j _ _; dsimp only; omega
  clear hS w
  rintro mm M w ⟨i, fs, rfl, h0, h1, hfs, hbd, rfl, hS⟩
  refine zsq <| zsr ?_
  refine zs2 ?_
  refine zlv (xln sl_54 hT.row.slh) ?_
  refine zlv xlss ?_
  refine zlt ?_
  refine zcif ?_ ?_ <;> intro hc
  ·
   refine zsk <| ztn <| zsq <| zbk <| zsr ?_
   refine zs2 ?_
   refine zlv (xix (kk := 5 * i) sl_54 hT.row.slh) ?_
   refine zlv (xfc (kk := 5 * i + 4) fd_84_4 hT.row.slh) ?_
   refine zlv (xlr (u := .int .i64 (t.K i)) pl_3 (hT.row.below hS.below) (e := (ncells4 t.V t.A t.F t.S t.K (by omega)))) ?_
   have hbv := hT.bK i
   refine zlv xas ?_
   refine zlz ?_
   refine zs2 ?_
   refine zlv (xix (kk := 5 * i) sl_54 hT.row.slh) ?_
   refine zlv (xlw (cs := [B ((t.V i)), .int .i64 (t.A i), .int .i64 (t.F i), .int .i64 (t.S i), .int .i64 (t.K i)]) st_84 (hT.row.below hS.below) (ncells_at (k := 5 * i) (i := i) t.V t.A t.F t.S t.K (by omega))) ?_
   have hbv := hT.bA i
   have hbv := hT.bF i
   have hbv := hT.bS i
   have hbv := hT.bK i
   refine zlc (xc0 cl_31) (c_piece37 (bv := (t.V i)) (na := (t.A i)) (nf := (t.F i)) (ns := (t.S i)) (nk := (t.K i)) w) ?_; rintro _ w ⟨rfl, hS'⟩
   replace hS := hS.cmp hS'; clear hS'
   refine zlv xmv ?_
   refine zlb 32 ?_ ?_ <;> intro hc
   ·
    refine zs4 ?_
    refine zlb 36 ?_ ?_ <;> intro hc
    ·
     refine zs4 ?_
     refine zlt ?_
     refine zcif ?_ ?_ <;> intro hc
     ·
      refine zrg ?_
      refine zs2 ?_
      refine zlv (xix (kk := (t.K i)) sl_52 hv1) ?_
      refine zlv (xlr (u := .int .i64 (fs (t.K i))) pl_3 (hS.rowN 0 rfl)) ?_
      have hb9 := hbd (t.K i) (by omega) (by omega)
      refine zlv (xadd (r := fs (t.K i) + 1)) ?_
      refine zlv (xix (kk := (t.K i)) sl_52 hv1) ?_
      refine zle (xso 0 pl_3 hS (upd_ints _ _ _)) ?_; clear hS; rintro w hS
      replace hS := hS.n1
      refine zln <| zbn <| ztn <| zrg ?_
      refine zlv xmv ?_
      refine zlv (xadd (r := i + 1)) ?_
      refine zlv xas ?_
      refine zln <| zlq ⟨i + 1, (upd fs (t.K i) (fs (t.K i) + 1)), rfl, (by omega), (by omega), ?_, ?_, rfl, hS⟩
      ·
       first
       | exact cnt_round hfs h0 (show t.piece m i from ⟨‹(t.F i = -1 ∧ t.S i = -1) ∧ t.A i = 0 ∧ ¬ t.V i›, by omega⟩)
       | (intro j j0 j1; rw [cnt_outI h0 (fun hh => by first | (have := hh.2; omega) | exact absurd hh.1 ‹_›)]; exact hfs j j0 j1)
      ·
       first
       | (intro j j0 j1; have := hbd j j0 j1; omega)
       | (intro j j0 j1; have h9 := hbd j j0 j1; unfold upd; split <;> omega)
     refine zsk <| zbn <| ztn <| zrg ?_
     refine zlv xmv ?_
     refine zlv (xadd (r := i + 1)) ?_
     refine zlv xas ?_
     refine zln <| zlq ⟨i + 1, fs, rfl, (by omega), (by omega), ?_, ?_, rfl, hS⟩
     ·
      first
      | exact cnt_round hfs h0 (show t.piece m i from ⟨‹(t.F i = -1 ∧ t.S i = -1) ∧ t.A i = 0 ∧ ¬ t.V i›, by omega⟩)
      | (intro j j0 j1; rw [cnt_outI h0 (fun hh => by first | (have := hh.2; omega) | exact absurd hh.1 ‹_›)]; exact hfs j j0 j1)
     ·
      first
      | (intro j j0 j1; have := hbd j j0 j1; omega)
      | (intro j j0 j1; have h9 := hbd j j0 j1; unfold upd; split <;> omega)
    iterate 3 refine zlo ?_
    refine zlv xpf ?_
    refine zlt <| zcf <| zsk <| zbn <| ztn <| zrg ?_
    refine zlv xmv ?_
    refine zlv (xadd (r := i + 1)) ?_
    refine zlv xas ?_
    refine zln <| zlq ⟨i + 1, fs, rfl, (by omega), (by omega), ?_, ?_, rfl, hS⟩
    ·
     first
     | exact cnt_round hfs h0 (show t.piece m i from ⟨‹(t.F i = -1 ∧ t.S i = -1) ∧ t.A i = 0 ∧ ¬ t.V i›, by omega⟩)
     | (intro j j0 j1; rw [cnt_outI h0 (fun hh => by first | (have := hh.2; omega) | exact absurd hh.1 ‹_›)]; exact hfs j j0 j1)
    ·
     first
     | (intro j j0 j1; have := hbd j j0 j1; omega)
     | (intro j j0 j1; have h9 := hbd j j0 j1; unfold upd; split <;> omega)
   iterate 2 refine zlo ?_
   refine zs2 ?_
   iterate 3 refine zlo ?_
   refine zlv xpf ?_
   refine zlt <| zcf <| zsk <| zbn <| ztn <| zrg ?_
   refine zlv xmv ?_
   refine zlv (xadd (r := i + 1)) ?_
   refine zlv xas ?_
   refine zln <| zlq ⟨i + 1, fs, rfl, (by omega), (by omega), ?_, ?_, rfl, hS⟩
   ·
    first
    | exact cnt_round hfs h0 (show t.piece m i from ⟨‹(t.F i = -1 ∧ t.S i = -1) ∧ t.A i = 0 ∧ ¬ t.V i›, by omega⟩)
    | (intro j j0 j1; rw [cnt_outI h0 (fun hh => by first | (have := hh.2; omega) | exact absurd hh.1 ‹_›)]; exact hfs j j0 j1)
   ·
    first
    | (intro j j0 j1; have := hbd j j0 j1; omega)
    | (intro j j0 j1; have h9 := hbd j j0 j1; unfold upd; split <;> omega)
  refine zxt <| ztx <| ztx <| zbh <| ztn <| zsr ?_
  refine zs2 ?_
  refine zlt <| zrt <| zf1 ⟨_, rfl, ?_⟩
  have hiN : i = t.n := by omega
  rw [hiN] at hfs
  exact ⟨_, _, rfl, hv1, hfs, hS⟩

end Go.Proofs.Ytmlfpniaknmmfaa
