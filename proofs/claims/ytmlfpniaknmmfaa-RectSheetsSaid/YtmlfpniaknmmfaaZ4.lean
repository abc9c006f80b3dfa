/- The walk of Places. -/
import Derived.Test.YtmlfpniaknmmfaaGv
import Derived.Test.YtmlfpniaknmmfaaZ3
namespace Go.Proofs.Ytmlfpniaknmmfaa
open Go Go.RowKit Go.Proofs.Gw
set_option linter.unusedVariables false

theorem cl_39 : calledT Try.prog 39 = true := by kernel_rfl
theorem cl_40 : calledT Try.prog 40 = true := by kernel_rfl
theorem cl_41 : calledT Try.prog 41 = true := by kernel_rfl
theorem el_103 : elemT Try.prog 103 = some (.agg #[.int .i64 0, .int .i64 0, .int .i64 0], 3, 24) := by kernel_rfl
theorem sl_80 : sliceT Try.prog 80 = some (103, 3) := by kernel_rfl
set_option maxHeartbeats 4000000 in
set_option maxRecDepth 20000 in
theorem c_places {vT : Value} {t : Tree} {vQ : Value} {q : Kinds} {s : Sht} (w0 : World) (hT : TrAt w0 vT t) (hQ : DAt w0 vQ q.m q.w q.h q.v) (hs : (-9223372036854775808 ≤ s.w ∧ s.w ≤ 9223372036854775807) ∧ (-9223372036854775808 ≤ s.h ∧ s.h ≤ 9223372036854775807) ∧ (-9223372036854775808 ≤ s.kf ∧ s.kf ≤ 9223372036854775807)) :
    Calls Try.prog 30 [vT, vQ, .int .i64 s.w, .int .i64 s.h, .int .i64 s.kf].toArray w0 fun e w => ∃ v, e = .returned v ∧ ∃ r e, v = .tuple #[r, .int .i64 e] ∧ (e = 0 ↔ t.Ok q s) ∧ (e = 0 ∨ e = 1) ∧ Sat w0 w [] := by
  have hn0 := hT.row.slh.n0; have hn1 := hT.row.slh.n1; have hq0 := hQ.row.slh.n0; have hq1 := hQ.row.slh.n1
  refine zenG Try.func30 Try.ntmps30 fun w hS => ?_
  refine zsr ?_
  refine zs2 ?_
  refine zlt <| zsq <| zsr ?_
  refine zs4 ?_
  refine zlc (xc0 cl_39) (c_prob37 (q := q) (s := s) w (hQ.below hS.below) hs) ?_; rintro _ w ⟨rfl, hS'⟩
  replace hS := hS.cmp hS'; clear hS'
  refine zs2 ?_
  refine zlb 23 ?_ ?_ <;> intro hc
  ·
   iterate 3 refine zlo ?_
   refine zlv xpt ?_
   refine zlt <| zct <| zsr ?_
   refine zs2 ?_
   refine zlt <| zrt <| ztr <| zf2 ⟨_, rfl, ?_⟩
   refine ⟨_, 1, rfl, ⟨fun h => absurd h (by decide), fun hk => ?_⟩, .inr rfl, hS⟩
   exfalso
   first | exact absurd hk.p ‹_› | exact absurd hk.sh ‹_› | exact absurd (hbxbx1.2 hk.bx) ‹_› | (have h9 := hk.pl i h0 (by omega) (show t.leaf i from Classical.not_not.1 ‹_›) (by omega); have h8 := (hWH i h0 (by omega)).1; have h7 := (hWH i h0 (by omega)).2; omega)
  refine zlv xmv ?_
  refine zlc (xc0 cl_40) (c_shaped (t := t) w (hT.below hS.below)) ?_; rintro _ w ⟨rfl, hS'⟩
  replace hS := hS.cmp hS'; clear hS'
  refine zs2 ?_
  refine zlt ?_
  refine zcif ?_ ?_ <;> intro hc
  ·
   refine zsr ?_
   refine zs2 ?_
   refine zlt <| zrt <| ztr <| zf2 ⟨_, rfl, ?_⟩
   refine ⟨_, 1, rfl, ⟨fun h => absurd h (by decide), fun hk => ?_⟩, .inr rfl, hS⟩
   exfalso
   first | exact absurd hk.p ‹_› | exact absurd hk.sh ‹_› | exact absurd (hbxbx1.2 hk.bx) ‹_› | (have h9 := hk.pl i h0 (by omega) (show t.leaf i from Classical.not_not.1 ‹_›) (by omega); have h8 := (hWH i h0 (by omega)).1; have h7 := (hWH i h0 (by omega)).2; omega)
  refine zsk <| ztn <| zsr ?_
  refine zlv xmv ?_
  have hpp : Prob37 q s := (by first | assumption | exact Classical.not_not.1 ‹_› : Prob37 q s)
  have hsh : t.Shaped := (by first | assumption | exact Classical.not_not.1 ‹_› : t.Shaped)
  have hsb : 1 ≤ s.w ∧ s.w ≤ 2000 ∧ 1 ≤ s.h ∧ s.h ≤ 2000 ∧ 0 ≤ s.kf ∧ s.kf ≤ 50 := ⟨hpp.w1, hpp.w2, hpp.h1, hpp.h2, hpp.k1, hpp.k2⟩
  have hsn := hsh.n2; have hqf := hpp.few
  refine zs3 ?_
  refine zlc (xc0 cl_41) (c_boxes (t := t) (s := s) w (hT.below hS.below) hsh hsb) ?_; rintro _ w ⟨vbbx1, nbx1, Xbx1, Ybx1, Wbx1, Hbx1, okbx1, rfl, hbxbx1, hbobx1, hvbbx1, hS'⟩
  replace hS : Sat w0 w [.own vbbx1 4 101 nbx1 (bcells Xbx1 Ybx1 Wbx1 Hbx1)] := hS.comp hS'; clear hS'
  refine zs5 ?_
  refine zlt <| zsq <| zsr ?_
  refine zs2 ?_
  refine zlt ?_
  refine zcif ?_ ?_ <;> intro hc
  ·
   refine zsr ?_
   refine zs2 ?_
   refine zlt <| zrt <| ztr <| zf2 ⟨_, rfl, ?_⟩
   refine ⟨_, 1, rfl, ⟨fun h => absurd h (by decide), fun hk => ?_⟩, .inr rfl, hS.nl⟩
   exfalso
   first | exact absurd hk.p ‹_› | exact absurd hk.sh ‹_› | exact absurd (hbxbx1.2 hk.bx) ‹_› | (have h9 := hk.pl i h0 (by omega) (show t.leaf i from Classical.not_not.1 ‹_›) (by omega); have h8 := (hWH i h0 (by omega)).1; have h7 := (hWH i h0 (by omega)).2; omega)
  refine zsk <| ztn <| zsr ?_
  refine zlv xas ?_
  have hbt : okbx1 := (by first | assumption | exact Classical.not_not.1 ‹_› : okbx1)
  have hbxd := hbxbx1.1 hbt
  obtain ⟨hnb, hWH⟩ := hbobx1 hbt
  refine zlt <| zsq <| zsr ?_
  refine zlv xas ?_
  refine zlt <| zbk ?_
  replace hS := hS.addnil 3 103 (dcells (fun _ => 0) (fun _ => 0) (fun _ => 0))
  replace hS := hS.n2
  refine zlp (fun mm M w => ∃ (PA : Int → Int) (PB : Int → Int) (PC : Int → Int) (no : Int) (i : Int) (vo : Value), mm = ((t.n - i).toNat) ∧ (0 ≤ i) ∧ (i ≤ t.n) ∧ (0 ≤ no ∧ no ≤ i) ∧ (∀ k, 0 ≤ k → k < i → t.plc q.m q.w q.h s.w s.h s.kf k) ∧ (Slh vo no) ∧ M = [(0, vT), (1, vQ), (12, vbbx1), (14, vo), (15, .int .i64 i)] ∧ Sat w0 w [.own vbbx1 4 101 nbx1 (bcells Xbx1 Ybx1 Wbx1 Hbx1), .own vo 3 103 no (dcells PA PB PC)]) ⟨(fun _ => 0), (fun _ => 0), (fun _ => 0), 0, 0, (.slice none 0 0), rfl, (by omega), (by omega), (by omega), ?_, ?_, rfl, hS⟩ ?_
  ·
   intro k k0 k1; omega
  ·
   exact slh_nil
  clear hS w
  rintro mm M w ⟨PA, PB, PC, no, i, vo, rfl, h0, h1, hno, hpl, hvo, rfl, hS⟩
  refine zsq <| zsr ?_
  refine zs2 ?_
  refine zlv (xln sl_54 hT.row.slh) ?_
  refine zlv xlss ?_
  refine zlt ?_
  refine zcif ?_ ?_ <;> intro hc
  ·
   refine zsk <| ztn <| zsq <| zbk <| zsr ?_
   refine zs2 ?_
   refine zlv (xix (kk := 5 * i) sl_54 hT.row.slh) ?_
   refine zlv (xfc (kk := 5 * i + 4) fd_84_4 hT.row.slh) ?_
   refine zlv (xlr (u := .int .i64 (t.K i)) pl_3 (hT.row.below hS.below) (e := (ncells4 t.V t.A t.F t.S t.K (by omega)))) ?_
   have hbv := hT.bK i
   refine zlv xas ?_
   refine zlt <| zsq <| zsr ?_
   refine zs2 ?_
   refine zlv (xix (kk := 5 * i) sl_54 hT.row.slh) ?_
   refine zlv (xlw (cs := [B ((t.V i)), .int .i64 (t.A i), .int .i64 (t.F i), .int .i64 (t.S i), .int .i64 (t.K i)]) st_84 (hT.row.below hS.below) (ncells_at (k := 5 * i) (i := i) t.V t.A t.F t.S t.K (by omega))) ?_
   have hbv := hT.bA i
   have hbv := hT.bF i
   have hbv := hT.bS i
   have hbv := hT.bK i
   refine zlc (xc0 cl_42) (c_leaf37 (bv := (t.V i)) (na := (t.A i)) (nf := (t.F i)) (ns := (t.S i)) (nk := (t.K i)) w) ?_; rintro _ w ⟨rfl, hS'⟩
   replace hS := hS.cmp hS'; clear hS'
   refine zs2 ?_
   refine zlb 55 ?_ ?_ <;> intro hc
   ·
    iterate 2 refine zlo ?_
    refine zlv xpt ?_
    refine zlt <| zct <| zxt <| ztx <| zbh <| ztn <| zrg ?_
    refine zlv xmv ?_
    refine zlv (xadd (r := i + 1)) ?_
    refine zlv xas ?_
    refine zln <| zlq ⟨PA, PB, PC, no, i + 1, vo, rfl, (by omega), (by omega), (by omega), ?_, ?_, rfl, hS⟩
    ·
     intro k k0 k1; rcases Int.lt_or_eq_of_le (show k ≤ i by omega) with hk | hk
     · exact hpl k k0 hk
     · rw [hk]; intro hl9 hk9
       first | exact absurd hl9 ‹_› | omega | (have h8 := (hWH i h0 (by omega)).1; have h7 := (hWH i h0 (by omega)).2; exact ⟨by omega, by omega, by omega⟩)
    ·
     exact hvo
   refine zs3 ?_
   refine zlt ?_
   refine zcif ?_ ?_ <;> intro hc
   ·
    refine zxt <| ztx <| zbh <| ztn <| zrg ?_
    refine zlv xmv ?_
    refine zlv (xadd (r := i + 1)) ?_
    refine zlv xas ?_
    refine zln <| zlq ⟨PA, PB, PC, no, i + 1, vo, rfl, (by omega), (by omega), (by omega), ?_, ?_, rfl, hS⟩
    ·
     intro k k0 k1; rcases Int.lt_or_eq_of_le (show k ≤ i by omega) with hk | hk
     · exact hpl k k0 hk
     · rw [hk]; intro hl9 hk9
       first | exact absurd hl9 ‹_› | omega | (have h8 := (hWH i h0 (by omega)).1; have h7 := (hWH i h0 (by omega)).2; exact ⟨by omega, by omega, by omega⟩)
    ·
     exact hvo
   refine zsk <| ztn <| zsq <| zsq ?_
   refine zdst [0, 1] [0, 1] 1000 mx_ hS ?_; clear hS; intro w hS
   refine zdv 0 (fun _ => xmv) ?_
   refine zdv 1 (fun _ => xlss) ?_
   refine zdv 2 (fun _ => xmv) ?_
   refine zdb 61 ?_ ?_ <;> intro hc
   ·
    refine zdof 3 ?_
    refine zdof 4 ?_
    refine zdof 5 ?_
    refine zdof 6 ?_
    refine zdv 7 (fun _ => xpt) ?_
    refine zdv 8 (fun _ => xmv) ?_
    refine zdof 9 ?_
    refine zdof 10 ?_
    refine zdof 11 ?_
    refine zdof 12 ?_
    refine zdof 13 ?_
    refine zdof 14 ?_
    refine zdof 15 ?_
    refine zdof 16 ?_
    refine zdof 17 ?_
    refine zdof 18 ?_
    refine zdof 19 ?_
    refine zdv 20 (fun _ => xpt) ?_
    refine zdv 21 (fun _ => xmv) ?_
    refine zdof 22 ?_
    refine zdof 23 ?_
    refine zdof 24 ?_
    refine zdof 25 ?_
    refine zdof 26 ?_
    refine zdof 27 ?_
    refine zdof 28 ?_
    refine zdof 29 ?_
    refine zdof 30 ?_
    refine zdof 31 ?_
    refine zdof 32 ?_
    refine zdv 33 (fun _ => xpt) ?_
    refine zdd <| ztn <| zct <| zsr ?_
    refine zs2 ?_
    refine zlt <| zrt <| ztr <| zbr <| ztr <| ztr <| zbr <| ztr <| zf2 ⟨_, rfl, ?_⟩
    refine ⟨_, 1, rfl, ⟨fun h => absurd h (by decide), fun hk => ?_⟩, .inr rfl, hS.nl⟩
    exfalso
    first | exact absurd hk.p ‹_› | exact absurd hk.sh ‹_› | exact absurd (hbxbx1.2 hk.bx) ‹_› | (have h9 := hk.pl i h0 (by omega) (show t.leaf i from Classical.not_not.1 ‹_›) (by omega); have h8 := (hWH i h0 (by omega)).1; have h7 := (hWH i h0 (by omega)).2; omega)
   refine zdv 3 (fun _ => xmv) ?_
   refine zdv 4 (fun _ => xmv) ?_
   refine zdv 5 (fun _ => (xln sl_47 hQ.row.slh)) ?_
   refine zdv 6 (fun _ => xgeq) ?_
   refine zdv 7 (fun _ => xpf) ?_
   refine zdv 8 (fun _ => xmv) ?_
   refine zdb 67 ?_ ?_ <;> intro hc
   ·
    refine zdof 9 ?_
    refine zdof 10 ?_
    refine zdof 11 ?_
    refine zdof 12 ?_
    refine zdof 13 ?_
    refine zdof 14 ?_
    refine zdof 15 ?_
    refine zdof 16 ?_
    refine zdof 17 ?_
    refine zdof 18 ?_
    refine zdof 19 ?_
    refine zdv 20 (fun _ => xpt) ?_
    refine zdv 21 (fun _ => xmv) ?_
    refine zdof 22 ?_
    refine zdof 23 ?_
    refine zdof 24 ?_
    refine zdof 25 ?_
    refine zdof 26 ?_
    refine zdof 27 ?_
    refine zdof 28 ?_
    refine zdof 29 ?_
    refine zdof 30 ?_
    refine zdof 31 ?_
    refine zdof 32 ?_
    refine zdv 33 (fun _ => xpt) ?_
    refine zdd <| ztn <| zct <| zsr ?_
    refine zs2 ?_
    refine zlt <| zrt <| ztr <| zbr <| ztr <| ztr <| zbr <| ztr <| zf2 ⟨_, rfl, ?_⟩
    refine ⟨_, 1, rfl, ⟨fun h => absurd h (by decide), fun hk => ?_⟩, .inr rfl, hS.nl⟩
    exfalso
    first | exact absurd hk.p ‹_› | exact absurd hk.sh ‹_› | exact absurd (hbxbx1.2 hk.bx) ‹_› | (have h9 := hk.pl i h0 (by omega) (show t.leaf i from Classical.not_not.1 ‹_›) (by omega); have h8 := (hWH i h0 (by omega)).1; have h7 := (hWH i h0 (by omega)).2; omega)
   refine zdv 9 (fun _ => xmv) ?_
   refine zdv 10 (fun _ => xmv) ?_
   refine zdv 11 (fun _ => (xix (kk := 3 * (t.K i)) sl_47 hQ.row.slh)) ?_
   refine zdv 12 (fun _ => (xfc (kk := 3 * (t.K i)) fd_58_0 hQ.row.slh)) ?_
   refine zdla 13 (fun w hS => (xlr (u := .int .i64 (q.w (t.K i))) pl_3 (hQ.row.below hS.below) (e := (dcells0 q.w q.h q.v (by omega))))) ?_
   have hbv := hQ.bw (t.K i)
   refine zdv 14 (fun _ => xmv) ?_
   refine zdv 15 (fun _ => xmv) ?_
   refine zdv 16 (fun _ => (xix (kk := 4 * i) sl_97 hvbbx1)) ?_
   refine zdv 17 (fun _ => (xfc (kk := 4 * i + 2) fd_101_2 hvbbx1)) ?_
   refine zdla 18 (fun w hS => (xlr (u := .int .i64 (Wbx1 i)) pl_3 (hS.rowN 0 rfl) (e := (bcells2 Xbx1 Ybx1 Wbx1 Hbx1 (by omega))))) ?_
   refine zdv 19 (fun _ => xneq) ?_
   refine zdv 20 (fun _ => xpf) ?_
   refine zdv 21 (fun _ => xmv) ?_
   refine zdb 80 ?_ ?_ <;> intro hc
   ·
    refine zdof 22 ?_
    refine zdof 23 ?_
    refine zdof 24 ?_
    refine zdof 25 ?_
    refine zdof 26 ?_
    refine zdof 27 ?_
    refine zdof 28 ?_
    refine zdof 29 ?_
    refine zdof 30 ?_
    refine zdof 31 ?_
    refine zdof 32 ?_
    refine zdv 33 (fun _ => xpt) ?_
    refine zdd <| ztn <| zct <| zsr ?_
    refine zs2 ?_
    refine zlt <| zrt <| ztr <| zbr <| ztr <| ztr <| zbr <| ztr <| zf2 ⟨_, rfl, ?_⟩
    refine ⟨_, 1, rfl, ⟨fun h => absurd h (by decide), fun hk => ?_⟩, .inr rfl, hS.nl⟩
    exfalso
    first | exact absurd hk.p ‹_› | exact absurd hk.sh ‹_› | exact absurd (hbxbx1.2 hk.bx) ‹_› | (have h9 := hk.pl i h0 (by omega) (show t.leaf i from Classical.not_not.1 ‹_›) (by omega); have h8 := (hWH i h0 (by omega)).1; have h7 := (hWH i h0 (by omega)).2; omega)
   refine zdv 22 (fun _ => xmv) ?_
   refine zdv 23 (fun _ => xmv) ?_
   refine zdv 24 (fun _ => (xix (kk := 3 * (t.K i)) sl_47 hQ.row.slh)) ?_
   refine zdv 25 (fun _ => (xfc (kk := 3 * (t.K i) + 1) fd_58_1 hQ.row.slh)) ?_
   refine zdla 26 (fun w hS => (xlr (u := .int .i64 (q.h (t.K i))) pl_3 (hQ.row.below hS.below) (e := (dcells1 q.w q.h q.v (by omega))))) ?_
   have hbv := hQ.bh (t.K i)
   refine zdv 27 (fun _ => xmv) ?_
   refine zdv 28 (fun _ => xmv) ?_
   refine zdv 29 (fun _ => (xix (kk := 4 * i) sl_97 hvbbx1)) ?_
   refine zdv 30 (fun _ => (xfc (kk := 4 * i + 3) fd_101_3 hvbbx1)) ?_
   refine zdla 31 (fun w hS => (xlr (u := .int .i64 (Hbx1 i)) pl_3 (hS.rowN 0 rfl) (e := (bcells3 Xbx1 Ybx1 Wbx1 Hbx1 (by omega))))) ?_
   refine zdv 32 (fun _ => xneq) ?_
   refine zdv 33 (fun _ => xpf) ?_
   refine zdd <| ztn ?_
   refine zcif ?_ ?_ <;> intro hc
   ·
    refine zsr ?_
    refine zs2 ?_
    refine zlt <| zrt <| ztr <| zbr <| ztr <| ztr <| zbr <| ztr <| zf2 ⟨_, rfl, ?_⟩
    refine ⟨_, 1, rfl, ⟨fun h => absurd h (by decide), fun hk => ?_⟩, .inr rfl, hS.nl⟩
    exfalso
    first | exact absurd hk.p ‹_› | exact absurd hk.sh ‹_› | exact absurd (hbxbx1.2 hk.bx) ‹_› | (have h9 := hk.pl i h0 (by omega) (show t.leaf i from Classical.not_not.1 ‹_›) (by omega); have h8 := (hWH i h0 (by omega)).1; have h7 := (hWH i h0 (by omega)).2; omega)
   refine zsk <| ztn ?_
   refine zdst [0] [0] 1000 mx_ hS ?_; clear hS; intro w hS
   refine zdv 0 (fun _ => xmv) ?_
   refine zdv 1 (fun _ => xmv) ?_
   refine zdv 2 (fun _ => xmv) ?_
   refine zdv 3 (fun _ => xmv) ?_
   refine zdv 4 (fun _ => (xix (kk := 4 * i) sl_97 hvbbx1)) ?_
   refine zdv 5 (fun _ => (xfc (kk := 4 * i) fd_101_0 hvbbx1)) ?_
   refine zdla 6 (fun w hS => (xlr (u := .int .i64 (Xbx1 i)) pl_3 (hS.rowN 0 rfl) (e := (bcells0 Xbx1 Ybx1 Wbx1 Hbx1 (by omega))))) ?_
   refine zdv 7 (fun _ => xmv) ?_
   refine zdv 8 (fun _ => xmv) ?_
   refine zdv 9 (fun _ => (xix (kk := 4 * i) sl_97 hvbbx1)) ?_
   refine zdv 10 (fun _ => (xfc (kk := 4 * i + 1) fd_101_1 hvbbx1)) ?_
   refine zdla 11 (fun w hS => (xlr (u := .int .i64 (Ybx1 i)) pl_3 (hS.rowN 0 rfl) (e := (bcells1 Xbx1 Ybx1 Wbx1 Hbx1 (by omega))))) ?_
   refine zdv 12 (fun _ => (xany (v := .agg #[.int .i64 (t.K i), .int .i64 (Xbx1 i), .int .i64 (Ybx1 i)]))) ?_
   refine zda 13 (xli (n := 1) (len := 1) (pv := [(0, .agg #[.int .i64 (t.K i), .int .i64 (Xbx1 i), .int .i64 (Ybx1 i)])]) (cs := [.int .i64 (t.K i), .int .i64 (Xbx1 i), .int .i64 (Ybx1 i)]) (c := dcells (fun _ => (t.K i)) (fun _ => (Xbx1 i)) (fun _ => (Ybx1 i))) sl_80 el_103 hS) ?_; rintro v1 w ⟨hS, hv1⟩
   replace hS := hS.n3
   refine ⟨⟨fun _ => hS.pk [0], hS.pk [0]⟩, ?_⟩
   refine zda 14 (xap 1 (r := no + 1) sl_80 el_103 hS (hS.rowN 2 rfl) (cat_demand ..) (h1 := (fun k _ _ => dcells_one _ _ _ k))) ?_; rintro v2 w ⟨hS, hv2⟩
   replace hS := hS.n3
   refine ⟨⟨fun _ => hS.pk [0], hS.pk [0]⟩, ?_⟩
   refine zdv 15 (fun _ => xas) ?_
   have hbt : okbx1 := (by first | assumption | exact Classical.not_not.1 ‹_› : okbx1)
   have hbxd := hbxbx1.1 hbt
   obtain ⟨hnb, hWH⟩ := hbobx1 hbt
   refine zdd <| zbn <| ztn <| zrg ?_
   refine zlv xmv ?_
   refine zlv (xadd (r := i + 1)) ?_
   refine zlv xas ?_
   refine zln <| zlq ⟨(snoc PA no (t.K i)), (snoc PB no (Xbx1 i)), (snoc PC no (Ybx1 i)), no + 1, i + 1, v2, rfl, (by omega), (by omega), (by omega), ?_, ?_, rfl, hS.pk [0, 1]⟩
   ·
    intro k k0 k1; rcases Int.lt_or_eq_of_le (show k ≤ i by omega) with hk | hk
    · exact hpl k k0 hk
    · rw [hk]; intro hl9 hk9
      first | exact absurd hl9 ‹_› | omega | (have h8 := (hWH i h0 (by omega)).1; have h7 := (hWH i h0 (by omega)).2; exact ⟨by omega, by omega, by omega⟩)
   ·
    exact hv2
  refine zxt <| ztx <| ztx <| zbh <| ztn <| zsr ?_
  refine zs3 ?_
  refine zlt <| zrt <| zf2 ⟨_, rfl, ?_⟩
  have hiN : i = t.n := by omega
  exact ⟨_, 0, rfl, ⟨fun _ => ⟨hpp, hsh, hbxd, fun k k0 k1 => hpl k k0 (by omega)⟩, fun _ => rfl⟩, .inl rfl, hS.nl⟩

end Go.Proofs.Ytmlfpniaknmmfaa
