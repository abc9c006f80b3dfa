/- The walk of RectSheets. -/
import Derived.Test.YtmlfpniaknmmfaaGv
import Derived.Test.YtmlfpniaknmmfaaZ5
import Derived.Test.YtmlfpniaknmmfaaRt
namespace Go.Proofs.Ytmlfpniaknmmfaa
open Go Go.RowKit Go.Proofs.Gw
set_option linter.unusedVariables false

theorem cl_18 : calledT Try.prog 18 = true := by kernel_rfl
theorem cl_19 : calledT Try.prog 19 = true := by kernel_rfl
theorem cl_20 : calledT Try.prog 20 = true := by kernel_rfl
theorem fd_50_0 : fieldT Try.prog 50 0 = some 0 := by kernel_rfl
theorem fd_50_1 : fieldT Try.prog 50 1 = some 1 := by kernel_rfl
theorem fd_50_2 : fieldT Try.prog 50 2 = some 2 := by kernel_rfl
theorem fd_50_3 : fieldT Try.prog 50 3 = some 3 := by kernel_rfl
theorem pl_54 : plainT Try.prog 54 = true := by kernel_rfl
theorem sl_48 : sliceT Try.prog 48 = some (54, 1) := by kernel_rfl
theorem sheets_i64 {q : Kinds} {s : Sht} {nn : Int} {c : Int → Int} {d : Dem} {a e fa fp fb fq : Int} (h : Cnts q s nn c) (hn : 1 ≤ nn) (hn4 : nn ≤ 4) (hd : DemL q c q.m d.n d.W d.H d.N)
    (hB : BestR d s a (fa, fp) (fb, fq) e) : (-9223372036854775808 ≤ fa ∧ fa ≤ 9223372036854775807) ∧ (-9223372036854775808 ≤ fp ∧ fp ≤ 9223372036854775807) ∧ (-9223372036854775808 ≤ fb ∧ fb ≤ 9223372036854775807) ∧ (-9223372036854775808 ≤ fq ∧ fq ≤ 9223372036854775807) := by
  obtain ⟨hk, hg, _⟩ := sheets_val h hn hn4 hd
  rcases hB with ⟨h1, _⟩ | ⟨_, h1, _⟩ | ⟨_, _, he, hA, hBB, hO⟩
  · exact absurd hk h1
  · exact absurd h1 hg
  · obtain ⟨hv1, i, j, hi, hj⟩ := hO.is
    have hp := h.p hn
    have w1 := hp.w1; have w2 := hp.w2; have h3 := hp.h1; have h2 := hp.h2; have k1 := hp.k1; have k2 := hp.k2
    exact crt_i64 (ok_of hA hBB hi hj) (by omega) (by omega) (by omega) (by omega)

set_option maxHeartbeats 4000000 in
set_option maxRecDepth 20000 in
theorem law_sheets {vQ : Value} {q : Kinds} {vTs : Value} {nT : Int} {vv : Int → Value} {tr : Int → Tree} {s : Sht} {x : Crt} (w0 : World) (hQ : DAt w0 vQ q.m q.w q.h q.v) (hTs : TrsAt w0 vTs nT vv tr) (hs : (-9223372036854775808 ≤ s.w ∧ s.w ≤ 9223372036854775807) ∧ (-9223372036854775808 ≤ s.h ∧ s.h ≤ 9223372036854775807) ∧ (-9223372036854775808 ≤ s.kf ∧ s.kf ≤ 9223372036854775807)) (hx : (-9223372036854775808 ≤ x.a ∧ x.a ≤ 9223372036854775807) ∧ (-9223372036854775808 ≤ x.p ∧ x.p ≤ 9223372036854775807) ∧ (-9223372036854775808 ≤ x.b ∧ x.b ≤ 9223372036854775807) ∧ (-9223372036854775808 ≤ x.q ∧ x.q ≤ 9223372036854775807)) :
    Calls Try.prog 5 [vQ, vTs, .agg #[.int .i64 s.w, .int .i64 s.h, .int .i64 s.kf, .int .i64 x.a, .int .i64 x.p, .int .i64 x.b, .int .i64 x.q]].toArray w0 fun e w => ∃ v, e = .returned v ∧ v = .bool true ∧ Sat w0 w [] := by
  have hq0 := hQ.row.slh.n0; have hq1 := hQ.row.slh.n1; have hT0 := hTs.row.slh.n0; have hT1 := hTs.row.slh.n1
  refine zenG Try.func5 Try.ntmps5 fun w hS => ?_
  refine zsr ?_
  refine zla (xbx (cs := [_, _, _, _, _, _, _]) hS) ?_; rintro _ w ⟨g1, rfl, hS⟩
  replace hS := hS.n1
  refine zlv xas ?_
  refine zlt <| zsq <| zsr ?_
  refine zlc (xc0 cl_10) (c_awake w) ?_; rintro _ w ⟨rfl, hS'⟩
  replace hS := hS.cmp hS'; clear hS'
  refine zlv xnt ?_
  refine zlt <| zcf <| zsk <| ztn <| zsq <| zsr ?_
  refine zlv xmv ?_
  refine zlv (xln sl_48 hTs.row.slh) ?_
  refine zs2 ?_
  refine zlb 28 ?_ ?_ <;> intro hc
  ·
   iterate 7 refine zlo ?_
   refine zlv xpt ?_
   refine zlt <| zct <| zsr ?_
   refine zlv xas ?_
   refine zlt <| zrt <| ztr <| zf1 ⟨_, rfl, ?_⟩
   exact ⟨rfl, hS.nl⟩
  refine zlv xmv ?_
  refine zlv (xfb 0 fd_50_0) ?_
  refine zlv (xlb 0 pl_3 hS) ?_
  refine zlv (xfb 1 fd_50_1) ?_
  refine zlv (xlb 0 pl_3 hS) ?_
  refine zlc (xc0 cl_18) (c_few37 (q := q) (x := s.w) (y := s.h) w (hQ.below hS.below)) ?_; rintro _ w ⟨rfl, hS'⟩
  replace hS := hS.cmp hS'; clear hS'
  refine zs2 ?_
  refine zlt ?_
  refine zcif ?_ ?_ <;> intro hc
  ·
   refine zsr ?_
   refine zlv xas ?_
   refine zlt <| zrt <| ztr <| zf1 ⟨_, rfl, ?_⟩
   exact ⟨rfl, hS.nl⟩
  refine zsk <| ztn <| zsr ?_
  refine zlv xas ?_
  refine zlz ?_
  refine zlv xmv ?_
  refine zlv (xln sl_47 hQ.row.slh) ?_
  refine zla (xmk sl_52 el_3 hS) ?_; rintro v1 w ⟨hS, hv1⟩
  replace hS := hS.n2
  refine zlv xas ?_
  refine zlt <| zsq <| zsr ?_
  refine zlv xmv ?_
  refine zlv (xln sl_48 hTs.row.slh) ?_
  refine zlv xmv ?_
  refine zlt <| zbk <| zlp (fun mm M w => ∃ (nn : Int) (i : Int) (cs : Int → Int), mm = ((nT - i).toNat) ∧ (0 ≤ i) ∧ (i ≤ nT) ∧ (0 ≤ nn ∧ nn ≤ i) ∧ (Cnts q s nn cs) ∧ M = [(0, vQ), (5, .pointer (some ⟨g1, 0, none⟩)), (6, .bool false), (7, .int .i64 nn), (8, v1), (40, vTs), (41, .int .i64 nT), (42, .int .i64 i)] ∧ Sat w0 w [.blk g1 [.int .i64 s.w, .int .i64 s.h, .int .i64 s.kf, .int .i64 x.a, .int .i64 x.p, .int .i64 x.b, .int .i64 x.q], .own v1 1 3 q.m (ints cs)]) ⟨0, 0, (fun _ => 0), rfl, (by omega), (by omega), (by omega), ?_, rfl, hS⟩ ?_
  ·
   exact Cnts.start q s fun j j0 j1 => rfl
  clear hS w
  rintro mm M w ⟨nn, i, cs, rfl, h0, h1, hnn, hC, rfl, hS⟩
  refine zsr ?_
  refine zlv xlss ?_
  refine zlt <| zsq ?_
  refine zcif ?_ ?_ <;> intro hc
  ·
   refine zsk <| ztn <| zsq <| zbk <| zsr ?_
   refine zlv (xix (kk := i) sl_48 hTs.row.slh) ?_
   refine zlv (xlr (u := (vv i)) pl_54 (hTs.row.below hS.below)) ?_
   refine zlv xas ?_
   refine zlt <| zsq <| zsr ?_
   refine zlv xmv ?_
   refine zlv (xln sl_54 (hTs.p i (by omega) (by omega)).row.slh) ?_
   refine zs2 ?_
   refine zlb 49 ?_ ?_ <;> intro hc
   ·
    iterate 10 refine zlo ?_
    refine zlv xpt ?_
    refine zlt <| zct <| zxt <| ztx <| zbh <| ztn <| zrg ?_
    refine zlv (xadd (r := i + 1)) ?_
    refine zlv xmv ?_
    refine zln <| zlq ⟨nn, i + 1, cs, rfl, (by omega), (by omega), (by omega), ?_, rfl, hS⟩
    ·
     first | exact hC | exact hC.more ((by first | assumption | exact Classical.not_not.1 ‹_› : (tr i).Ok q s)) (by omega) (fun j j0 j1 => by rw [hc2 j j0 j1, if_pos (by omega), hfccn1 j j0 j1])
   refine zs2 ?_
   refine zlv (xfb 0 fd_50_0) ?_
   refine zlv (xlb 0 pl_3 hS) ?_
   refine zlv (xfb 1 fd_50_1) ?_
   refine zlv (xlb 0 pl_3 hS) ?_
   refine zlv (xfb 2 fd_50_2) ?_
   refine zlv (xlb 0 pl_3 hS) ?_
   refine zlc (xc0 cl_19) (c_valid37 (t := (tr i)) (q := q) (s := s) w ((hTs.p i (by omega) (by omega)).below hS.below) (hQ.below hS.below) hs) ?_; rintro _ w ⟨rfl, hS'⟩
   replace hS := hS.cmp hS'; clear hS'
   refine zs2 ?_
   refine zlt ?_
   refine zcif ?_ ?_ <;> intro hc
   ·
    refine zxt <| ztx <| zbh <| ztn <| zrg ?_
    refine zlv (xadd (r := i + 1)) ?_
    refine zlv xmv ?_
    refine zln <| zlq ⟨nn, i + 1, cs, rfl, (by omega), (by omega), (by omega), ?_, rfl, hS⟩
    ·
     first | exact hC | exact hC.more ((by first | assumption | exact Classical.not_not.1 ‹_› : (tr i).Ok q s)) (by omega) (fun j j0 j1 => by rw [hc2 j j0 j1, if_pos (by omega), hfccn1 j j0 j1])
   refine zsk <| ztn <| zsr ?_
   refine zlv xmv ?_
   have hok9 : (tr i).Ok q s := (by first | assumption | exact Classical.not_not.1 ‹_› : (tr i).Ok q s)
   refine zlv (xadd (r := nn + 1)) ?_
   refine zlv xas ?_
   refine zlz ?_
   refine zs2 ?_
   refine zlv (xln sl_47 hQ.row.slh) ?_
   refine zlc (xc0 cl_20) (c_counts (t := (tr i)) (m := q.m) w ((hTs.p i (by omega) (by omega)).below hS.below) (by omega) (by omega)) ?_; rintro vccn1 w ⟨_, fcn1, rfl, hvccn1, hfccn1, hS'⟩
   replace hS : Sat w0 w [.blk g1 [.int .i64 s.w, .int .i64 s.h, .int .i64 s.kf, .int .i64 x.a, .int .i64 x.p, .int .i64 x.b, .int .i64 x.q], .own v1 1 3 q.m (ints cs), .own vccn1 1 3 q.m (ints fcn1)] := hS.comp hS'; clear hS'
   refine zlv (xln sl_52 hvccn1) ?_
   refine zlv xmv ?_
   refine zlt <| zbk <| zlp (fun mm M w => ∃ (k : Int) (c2 : Int → Int), mm = ((q.m - k).toNat) ∧ (0 ≤ k) ∧ (k ≤ q.m) ∧ (∀ j, 0 ≤ j → j < q.m → c2 j = cs j + if j < k then fcn1 j else 0) ∧ M = [(0, vQ), (5, .pointer (some ⟨g1, 0, none⟩)), (6, .bool false), (7, .int .i64 (nn + 1)), (8, v1), (40, vTs), (41, .int .i64 nT), (42, .int .i64 i), (66, vccn1), (67, .int .i64 q.m), (68, .int .i64 k)] ∧ Sat w0 w [.blk g1 [.int .i64 s.w, .int .i64 s.h, .int .i64 s.kf, .int .i64 x.a, .int .i64 x.p, .int .i64 x.b, .int .i64 x.q], .own v1 1 3 q.m (ints c2), .own vccn1 1 3 q.m (ints fcn1)]) ⟨0, cs, rfl, (by omega), (by omega), ?_, rfl, hS⟩ ?_
   ·
    intro j j0 j1; rw [if_neg (by omega)]; omega
   clear hS w
   rintro mm M w ⟨k, c2, rfl, k0, k1, hc2, rfl, hS⟩
   refine zsr ?_
   refine zlv xlss ?_
   refine zlt <| zsq ?_
   refine zcif ?_ ?_ <;> intro hc
   ·
    refine zsk <| ztn <| zsq <| zbk <| zsr ?_
    refine zlv xmv ?_
    refine zlv (xix (kk := k) sl_52 hvccn1) ?_
    refine zlv (xlr (u := .int .i64 (fcn1 k)) pl_3 (hS.rowN 2 rfl)) ?_
    refine zs2 ?_
    refine zlt <| zrg ?_
    refine zs2 ?_
    refine zlv (xix (kk := k) sl_52 hv1) ?_
    refine zlv (xlr (u := .int .i64 (c2 k)) pl_3 (hS.rowN 1 rfl)) ?_
    have hb1 := hC.rng k k0 (by omega)
    have hb2 := hfccn1 k k0 (by omega)
    have hb3 := cnt_nn (tr i) q.m (tr i).n.toNat k
    have hb4 := cnt_few hok9.sh q.m k
    have hb5 := hc2 k k0 (by omega)
    rw [if_neg (by omega)] at hb5
    refine zlv xmv ?_
    refine zlv (xadd (r := c2 k + (fcn1 k))) ?_
    refine zlv (xix (kk := k) sl_52 hv1) ?_
    refine zle (xso 1 pl_3 hS (upd_ints _ _ _)) ?_; clear hS; rintro w hS
    replace hS := hS.n3
    refine zln <| zbn <| ztn <| zrg ?_
    refine zlv (xadd (r := k + 1)) ?_
    refine zlv xmv ?_
    refine zln <| zlq ⟨k + 1, (upd c2 k (c2 k + (fcn1 k))), rfl, (by omega), (by omega), ?_, rfl, hS⟩
    ·
     intro j j0 j1; have h9 := hc2 j j0 j1; unfold upd; by_cases e : j = k
     · rw [if_pos e, if_pos (by omega), e]; rw [e, if_neg (by omega)] at h9; omega
     · rw [if_neg e, h9]; by_cases e2 : j < k
       · rw [if_pos e2, if_pos (by omega)]
       · rw [if_neg e2, if_neg (by omega)]
   refine zxt <| ztx <| ztx <| zbh <| zbn <| ztn <| zrg ?_
   refine zlv (xadd (r := i + 1)) ?_
   refine zlv xmv ?_
   refine zln <| zlq ⟨nn + 1, i + 1, c2, rfl, (by omega), (by omega), (by omega), ?_, rfl, hS.pk [0, 1]⟩
   ·
    first | exact hC | exact hC.more ((by first | assumption | exact Classical.not_not.1 ‹_› : (tr i).Ok q s)) (by omega) (fun j j0 j1 => by rw [hc2 j j0 j1, if_pos (by omega), hfccn1 j j0 j1])
  refine zxt <| ztx <| ztx <| zbh <| ztn <| zsq <| zsr ?_
  refine zs2 ?_
  refine zlt ?_
  refine zcif ?_ ?_ <;> intro hc
  ·
   refine zsr ?_
   refine zlv xas ?_
   refine zlt <| zrt <| ztr <| zf1 ⟨_, rfl, ?_⟩
   exact ⟨rfl, hS.nl⟩
  refine zsk <| ztn <| zsr ?_
  refine zlv xas ?_
  refine zlt <| zsq <| zsr ?_
  refine zlv xmv ?_
  refine zlv (xln sl_47 hQ.row.slh) ?_
  refine zlv xmv ?_
  refine zlt <| zbk ?_
  replace hS := hS.addnil 3 60 (dcells (fun _ => 0) (fun _ => 0) (fun _ => 0))
  replace hS := hS.n3
  refine zlp (fun mm M w => ∃ (LW : Int → Int) (LH : Int → Int) (LN : Int → Int) (nL : Int) (i : Int) (vl : Value), mm = ((q.m - i).toNat) ∧ (0 ≤ i) ∧ (i ≤ q.m) ∧ (DemL q cs i nL LW LH LN) ∧ ((∀ k, -9223372036854775808 ≤ LW k ∧ LW k ≤ 9223372036854775807) ∧ (∀ k, -9223372036854775808 ≤ LH k ∧ LH k ≤ 9223372036854775807) ∧ (∀ k, -9223372036854775808 ≤ LN k ∧ LN k ≤ 9223372036854775807)) ∧ (Slh vl nL) ∧ M = [(5, .pointer (some ⟨g1, 0, none⟩)), (6, .bool false), (7, .int .i64 nn), (8, v1), (13, vl), (84, vQ), (85, .int .i64 q.m), (86, .int .i64 i)] ∧ Sat w0 w [.blk g1 [.int .i64 s.w, .int .i64 s.h, .int .i64 s.kf, .int .i64 x.a, .int .i64 x.p, .int .i64 x.b, .int .i64 x.q], .own v1 1 3 q.m (ints cs), .own vl 3 60 nL (dcells LW LH LN)]) ⟨(fun _ => 0), (fun _ => 0), (fun _ => 0), 0, 0, (.slice none 0 0), rfl, (by omega), (by omega), ?_, ?_, ?_, rfl, hS⟩ ?_
  ·
   exact DemL.start _ _ _ _ _
  ·
   refine ⟨fun k => ?_, fun k => ?_, fun k => ?_⟩ <;> (try dsimp only) <;> omega
  ·
   exact slh_nil
  clear hS w
  rintro mm M w ⟨LW, LH, LN, nL, i, vl, rfl, h30, h31, hD, hbl, hvl, rfl, hS⟩
  have hL9 := hD.len
  refine zsr ?_
  refine zlv xlss ?_
  refine zlt <| zsq ?_
  refine zcif ?_ ?_ <;> intro hc
  ·
   refine zsk <| ztn <| zsq <| zbk <| zsr ?_
   refine zlv xmv ?_
   refine zlv (xix (kk := 3 * i) sl_47 hQ.row.slh) ?_
   refine zlv (xlw (cs := [.int .i64 (q.w i), .int .i64 (q.h i), .int .i64 (q.v i)]) st_58 (hQ.row.below hS.below) (dcells_at (k := 3 * i) (i := i) q.w q.h q.v (by omega))) ?_
   have hbv := hQ.bw i
   have hbv := hQ.bh i
   have hbv := hQ.bn i
   refine zla (xal (cs := [_, _, _]) el_58 hS) ?_; rintro _ w ⟨g2, rfl, hS⟩
   replace hS := hS.n4
   refine zlv xas ?_
   refine zle (xsw 3 st_58 hS) ?_; clear hS; rintro w hS
   replace hS := hS.n4
   refine zlz ?_
   refine zs2 ?_
   refine zlv (xix (kk := i) sl_52 hv1) ?_
   refine zlv (xlr (u := .int .i64 (cs i)) pl_3 (hS.rowN 1 rfl)) ?_
   refine zlv xgtr ?_
   refine zlt ?_
   refine zcif ?_ ?_ <;> intro hc
   ·
    refine zdst [0, 1, 3] [0, 1, 3] 1000 mx_ hS ?_; clear hS; intro w hS
    refine zdv 0 (fun _ => xmv) ?_
    refine zdv 1 (fun _ => (xfb 0 fd_58_0)) ?_
    refine zdla 2 (fun w hS => (xlb 2 pl_3 hS)) ?_
    refine zdv 3 (fun _ => (xfb 1 fd_58_1)) ?_
    refine zdla 4 (fun w hS => (xlb 2 pl_3 hS)) ?_
    refine zdv 5 (fun _ => xmv) ?_
    refine zdv 6 (fun _ => xmv) ?_
    refine zdv 7 (fun _ => (xix (kk := i) sl_52 hv1)) ?_
    refine zdla 8 (fun w hS => (xlr (u := .int .i64 (cs i)) pl_3 (hS.rowN 1 rfl))) ?_
    refine zdv 9 (fun _ => (xany (v := .agg #[.int .i64 (q.w i), .int .i64 (q.h i), .int .i64 (cs i)]))) ?_
    refine zda 10 (xli (n := 1) (len := 1) (pv := [(0, .agg #[.int .i64 (q.w i), .int .i64 (q.h i), .int .i64 (cs i)])]) (cs := [.int .i64 (q.w i), .int .i64 (q.h i), .int .i64 (cs i)]) (c := dcells (fun _ => (q.w i)) (fun _ => (q.h i)) (fun _ => cs i)) sl_38 el_60 hS) ?_; rintro v2 w ⟨hS, hv2⟩
    replace hS := hS.n5
    refine ⟨⟨fun _ => hS.pk [0, 1, 3], hS.pk [0, 1, 3]⟩, ?_⟩
    refine zda 11 (xap 2 (r := nL + 1) sl_38 el_60 hS (hS.rowN 4 rfl) (cat_demand ..) (h1 := (fun k _ _ => dcells_one _ _ _ k))) ?_; rintro v3 w ⟨hS, hv3⟩
    replace hS := hS.n5
    refine ⟨⟨fun _ => hS.pk [0, 1, 3], hS.pk [0, 1, 3]⟩, ?_⟩
    refine zdv 12 (fun _ => xas) ?_
    refine zdd <| zbn <| ztn <| zrg ?_
    refine zlv (xadd (r := i + 1)) ?_
    refine zlv xmv ?_
    refine zln <| zlq ⟨(snoc LW nL (q.w i)), (snoc LH nL (q.h i)), (snoc LN nL (cs i)), nL + 1, i + 1, v3, rfl, (by omega), (by omega), ?_, ?_, ?_, rfl, hS.pk [0, 1, 2]⟩
    ·
     first | exact hD.add (by omega) rfl rfl rfl | exact hD.skip (by have := (hC.rng i h30 (by omega)).1; omega)
    ·
     first | exact hbl | (have g0 := hC.rng i h30 (by omega); have g1 := hQ.bw i; have g2 := hQ.bh i; exact ⟨fun k => by (have g := hbl.1 k; unfold snoc; split <;> omega), fun k => by (have g := hbl.2.1 k; unfold snoc; split <;> omega), fun k => by (have g := hbl.2.2 k; unfold snoc; split <;> omega)⟩)
    ·
     exact hv3
   refine zsk <| zbn <| ztn <| zrg ?_
   refine zlv (xadd (r := i + 1)) ?_
   refine zlv xmv ?_
   refine zln <| zlq ⟨LW, LH, LN, nL, i + 1, vl, rfl, (by omega), (by omega), ?_, ?_, ?_, rfl, hS.pk [0, 1, 2]⟩
   ·
    first | exact hD.add (by omega) rfl rfl rfl | exact hD.skip (by have := (hC.rng i h30 (by omega)).1; omega)
   ·
    first | exact hbl | (have g0 := hC.rng i h30 (by omega); have g1 := hQ.bw i; have g2 := hQ.bh i; exact ⟨fun k => by (have g := hbl.1 k; unfold snoc; split <;> omega), fun k => by (have g := hbl.2.1 k; unfold snoc; split <;> omega), fun k => by (have g := hbl.2.2 k; unfold snoc; split <;> omega)⟩)
   ·
    exact hvl
  refine zxt <| ztx <| ztx <| zbh <| ztn <| zsr ?_
  refine zlv xmv ?_
  refine zlv (xfb 0 fd_50_0) ?_
  refine zlv (xlb 0 pl_3 hS) ?_
  refine zlv (xfb 1 fd_50_1) ?_
  refine zlv (xlb 0 pl_3 hS) ?_
  refine zlv (xfb 2 fd_50_2) ?_
  refine zlv (xlb 0 pl_3 hS) ?_
  refine zlc (xc0 cl_16) (c_Best (d := ⟨nL, LW, LH, LN⟩) (s := s) w (⟨(hS.rowN 2 rfl), hbl.1, hbl.2.1, hbl.2.2⟩ : DAt _ _ nL LW LH LN) hs) ?_; rintro _ w ⟨ab1, fab1, fpb1, fbb1, fqb1, eb1, rfl, hrb1, hS'⟩
  replace hS := hS.cmp hS'; clear hS'
  refine zs4 ?_
  refine zla (xal (cs := [_, _, _, _]) el_36 hS) ?_; rintro _ w ⟨g3, rfl, hS⟩
  replace hS := hS.n4
  refine zlv xas ?_
  refine zle (xsw 3 st_36 hS) ?_; clear hS; rintro w hS
  replace hS := hS.n4
  refine zlv xas ?_
  refine zlz ?_
  refine zlv (xls 3 st_36 hS) ?_
  have hiq : i = q.m := by omega
  rw [hiq] at hD
  obtain ⟨g91, g92, g93, g94⟩ := sheets_i64 (d := ⟨nL, LW, LH, LN⟩) hC (by omega) (by omega) hD hrb1
  refine zlv xmv ?_
  refine zlv (xfb 0 fd_50_0) ?_
  refine zlv (xlb 0 pl_3 hS) ?_
  refine zlv (xfb 1 fd_50_1) ?_
  refine zlv (xlb 0 pl_3 hS) ?_
  refine zlv (xfb 2 fd_50_2) ?_
  refine zlv (xlb 0 pl_3 hS) ?_
  refine zlc (xc0 cl_12) (c_Value (x := ⟨fab1, fpb1, fbb1, fqb1⟩) (d := ⟨nL, LW, LH, LN⟩) (s := s) w (⟨(hS.rowN 2 rfl), hbl.1, hbl.2.1, hbl.2.2⟩ : DAt _ _ nL LW LH LN) hs (by (try dsimp only); omega)) ?_; rintro _ w ⟨az1, ez1, rfl, hrz1, hS'⟩
  replace hS := hS.cmp hS'; clear hS'
  refine zs5 ?_
  refine zlt <| zsq ?_
  refine zdst [0, 1, 2, 3] [0, 1, 2, 3] 1000 mx_ hS ?_; clear hS; intro w hS
  refine zdv 0 (fun _ => (xfb 3 fd_50_3)) ?_
  refine zdla 1 (fun w hS => (xlp 0 (ds := [.int .i64 x.a, .int .i64 x.p, .int .i64 x.b, .int .i64 x.q]) st_28 hS)) ?_
  refine zdv 3 (fun _ => xmv) ?_
  refine zdv 4 (fun _ => (xfb 0 fd_50_0)) ?_
  refine zdla 5 (fun w hS => (xlb 0 pl_3 hS)) ?_
  refine zdv 6 (fun _ => (xfb 1 fd_50_1)) ?_
  refine zdla 7 (fun w hS => (xlb 0 pl_3 hS)) ?_
  refine zdv 8 (fun _ => (xfb 2 fd_50_2)) ?_
  refine zdla 9 (fun w hS => (xlb 0 pl_3 hS)) ?_
  refine zdc 2 (xc0 cl_13) (c_cert (x := x) w) ?_; rintro _ w ⟨rfl, hS'⟩
  replace hS := hS.cmp hS'; clear hS'
  refine ⟨⟨fun _ => hS, hS⟩, ?_⟩
  refine zdc 10 (xc0 cl_12) (c_Value (x := x) (d := ⟨nL, LW, LH, LN⟩) (s := s) w (⟨(hS.rowN 2 rfl), hbl.1, hbl.2.1, hbl.2.2⟩ : DAt _ _ nL LW LH LN) hs hx) ?_; rintro _ w ⟨az2, ez2, rfl, hrz2, hS'⟩
  replace hS := hS.cmp hS'; clear hS'
  refine ⟨⟨fun _ => hS, hS⟩, ?_⟩
  refine zdv 11 (fun _ => xmv) ?_
  refine zdv 12 (fun _ => xex) ?_
  refine zdv 13 (fun _ => xex) ?_
  refine zdv 14 (fun _ => xas) ?_
  refine zdv 15 (fun _ => xas) ?_
  refine zdd <| ztn <| zsr ?_
  refine zlv xmv ?_
  obtain ⟨w1, w2, w3, w4, w5⟩ := sheets_law hC (by omega) (by omega) hD hrb1 hrz1 hrz2
  refine zs2 ?_
  refine zlb 149 ?_ ?_ <;> intro hc
  ·
   refine zs4 ?_
   refine zlb 153 ?_ ?_ <;> intro hc
   ·
    refine zs5 ?_
    refine zlb 158 ?_ ?_ <;> intro hc
    ·
     refine zs5 ?_
     refine zlb 163 ?_ ?_ <;> intro hc
     ·
      refine zs3 ?_
      refine zlb 166 ?_ ?_ <;> intro hc
      ·
       iterate 3 refine zlo ?_
       refine zs3 ?_
       refine zlt <| zrt <| zf1 ⟨_, rfl, ?_⟩
       exact ⟨rfl, hS.nl⟩
      refine zs6 ?_
      refine zlt <| zrt <| zf1 ⟨_, rfl, ?_⟩
      exact ⟨(true_B (by first | omega | exact w5 (by omega))).symm, hS.nl⟩
     iterate 7 refine zlo ?_
     refine zs2 ?_
     refine zlt <| zrt <| zf1 ⟨_, rfl, ?_⟩
     exfalso
     omega
    iterate 3 refine zlo ?_
    refine zs2 ?_
    iterate 7 refine zlo ?_
    refine zs2 ?_
    refine zlt <| zrt <| zf1 ⟨_, rfl, ?_⟩
    exfalso
    omega
   iterate 3 refine zlo ?_
   refine zs2 ?_
   iterate 3 refine zlo ?_
   refine zs2 ?_
   iterate 7 refine zlo ?_
   refine zs2 ?_
   refine zlt <| zrt <| zf1 ⟨_, rfl, ?_⟩
   exfalso
   omega
  iterate 2 refine zlo ?_
  refine zs2 ?_
  iterate 3 refine zlo ?_
  refine zs2 ?_
  iterate 3 refine zlo ?_
  refine zs2 ?_
  iterate 7 refine zlo ?_
  refine zs2 ?_
  refine zlt <| zrt <| zf1 ⟨_, rfl, ?_⟩
  exfalso
  omega

end Go.Proofs.Ytmlfpniaknmmfaa
