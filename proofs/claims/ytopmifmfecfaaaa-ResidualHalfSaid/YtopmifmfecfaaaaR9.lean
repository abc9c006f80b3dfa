/- The walk of ResidualHalf. -/
import Derived.Test.YtopmifmfecfaaaaGv
import Derived.Test.YtopmifmfecfaaaaR8
namespace Go.Proofs.Ytopmifmfecfaaaa
open Go Go.RowKit Go.Proofs.Gw
set_option linter.unusedVariables false

theorem cl_16 : calledT Try.prog 16 = true := by kernel_rfl
theorem cl_17 : calledT Try.prog 17 = true := by kernel_rfl
theorem cl_19 : calledT Try.prog 19 = true := by kernel_rfl
theorem cl_8 : calledT Try.prog 8 = true := by kernel_rfl
set_option maxHeartbeats 4000000 in
set_option maxRecDepth 20000 in
theorem law_half {vL vD : Value} {p : Prob} (w0 : World) (h : PAt w0 vL vD p) :
    Calls Try.prog 4 [.agg #[vL, vD, .int .i64 p.stock, .int .i64 p.kerf]].toArray w0 fun e w => ∃ v, e = .returned v ∧ v = .bool true ∧ Sat w0 w [] := by
  have hm := h.L.slh.n0; have hm1 := h.L.slh.n1; have hd := h.D.slh.n0; have hd1 := h.D.slh.n1; have hs := h.is; have hk := h.ik
  refine zenG Try.func4 Try.ntmps4 fun w hS => ?_
  refine zsr ?_
  refine zla (xbx (cs := [_, _, _, _]) hS) ?_; rintro _ w ⟨g1, rfl, hS⟩
  replace hS := hS.n1
  refine zlv xas ?_
  refine zlt <| zsq <| zsr ?_
  refine zlc (xc0 cl_17) (c_awake34 w) ?_; rintro _ w ⟨rfl, hS'⟩
  replace hS := hS.cmp hS'; clear hS'
  refine zs2 ?_
  refine zlv (xls 0 st_24 hS) ?_
  refine zlc (xc0 cl_8) (c_few28 (p := p) w (h.below hS.below)) ?_; rintro _ w ⟨rfl, hS'⟩
  replace hS := hS.cmp hS'; clear hS'
  refine zs3 ?_
  refine zlb 20 ?_ ?_ <;> intro hc
  ·
   iterate 3 refine zlo ?_
   refine zlv xpt ?_
   refine zlt <| zct <| zsr ?_
   refine zlc (xc0 cl_17) (c_awake34 w) ?_; rintro _ w ⟨rfl, hS'⟩
   replace hS := hS.cmp hS'; clear hS'
   refine zlv xas ?_
   refine zlt <| zrt <| ztr <| zf1 ⟨_, rfl, ?_⟩
   exact ⟨rfl, hS.nl⟩
  refine zlv (xls 0 st_24 hS) ?_
  refine zlc (xc0 cl_10) (c_rvalid28 (p := p) w (h.below hS.below)) ?_; rintro _ w ⟨rfl, hS'⟩
  replace hS := hS.cmp hS'; clear hS'
  refine zs2 ?_
  refine zlt ?_
  refine zcif ?_ ?_ <;> intro hc
  ·
   refine zsr ?_
   refine zlc (xc0 cl_17) (c_awake34 w) ?_; rintro _ w ⟨rfl, hS'⟩
   replace hS := hS.cmp hS'; clear hS'
   refine zlv xas ?_
   refine zlt <| zrt <| ztr <| zf1 ⟨_, rfl, ?_⟩
   exact ⟨rfl, hS.nl⟩
  refine zsk <| ztn <| zsr ?_
  refine zlv (xls 0 st_24 hS) ?_
  have hp : p.Ok := by first | assumption | exact Classical.not_not.1 ‹_›
  have hpm := hp.m1; have hpm2 := hp.m2; have hpd := hp.d; have hs1 := hp.s1; have hs2 := hp.s2; have hk1 := hp.k1; have hk2 := hp.k2
  have hfew : Few28 p := Classical.not_not.1 ‹¬ ¬ (Few28 p)›
  have hdd := (hfew.2.2 hp).1
  refine zlc (xc0 cl_18) (c_ffit (p := p) w (h.below hS.below)) ?_; rintro _ w ⟨vnff1, nnff1, pnff1, lnff1, gnff1, cnff1, enff1, rfl, hffff1, hfcff1, hfnff1, hvnff1, hS'⟩
  replace hS : Sat w0 w [.blk g1 [vL, vD, .int .i64 p.stock, .int .i64 p.kerf], .own vnff1 2 50 nnff1 (ucells pnff1 cnff1), .sem (Frame.rows 3 nnff1 pnff1 lnff1 gnff1)] := hS.comp hS'; clear hS'
  have hrnff1 := fun k (k0 : 0 ≤ k) (k1 : k < nnff1) => hS.slhIn 2 rfl k0 k1
  have he0 : enff1 = 0 := ffit_ok hp (fun k k0 k1 => hdd k k0 (by omega)) hffff1
  have hshp := hffff1.shape hp he0 fun k k0 k1 => (hrnff1 k k0 k1).n0
  have hnn := hvnff1.n0
  refine zs5 ?_
  refine zlz ?_
  refine zlv (xfb 2 fd_24_2) ?_
  refine zlv (xlb 0 pl_3 hS) ?_
  refine zlv (xfb 3 fd_24_3) ?_
  refine zlv (xlb 0 pl_3 hS) ?_
  refine zlv (xadd (r := p.stock + p.kerf)) ?_
  refine zs2 ?_
  refine zlt <| zsq <| zsr ?_
  refine zlv xmv ?_
  refine zlv (xln sl_43 hvnff1) ?_
  refine zlv xmv ?_
  refine zlt <| zbk <| zlp (fun mm M w => ∃ (lt : Int) (i : Int), mm = ((nnff1 - i).toNat) ∧ (0 ≤ i) ∧ (i ≤ nnff1) ∧ (lt = psum (fun k => if 2 * puse (szP p) (lst (lnff1 k) (gnff1 k)) ≤ p.stock + p.kerf then 1 else 0) cnff1 i.toNat) ∧ (0 ≤ lt ∧ lt ≤ 1000000 * i) ∧ M = [(1, .pointer (some ⟨g1, 0, none⟩)), (2, .bool false), (3, vnff1), (4, .int .i64 enff1), (5, .int .i64 (p.stock + p.kerf)), (6, .int .i64 lt), (36, vnff1), (37, .int .i64 nnff1), (38, .int .i64 i)] ∧ Sat w0 w [.blk g1 [vL, vD, .int .i64 p.stock, .int .i64 p.kerf], .own vnff1 2 50 nnff1 (ucells pnff1 cnff1), .sem (Frame.rows 3 nnff1 pnff1 lnff1 gnff1)]) ⟨0, 0, rfl, (by omega), (by omega), ?_, (by omega), rfl, hS⟩ ?_
  ·
   rfl
  clear hS w
  rintro mm M w ⟨lt, i, rfl, h0, h1, hlt, hlb, rfl, hS⟩
  refine zsr ?_
  refine zlv xlss ?_
  refine zlt <| zsq ?_
  refine zcif ?_ ?_ <;> intro hc
  ·
   refine zsk <| ztn <| zsq <| zbk <| zsr ?_
   refine zlv (xix (kk := 2 * i) sl_43 hvnff1) ?_
   refine zlv (xlw (cs := [(pnff1 i), .int .i64 (cnff1 i)]) st_50 (hS.rowN 1 rfl) (ucells_at (k := 2 * i) (i := i) pnff1 cnff1 (by omega))) ?_
   obtain ⟨hsi1, hsi2⟩ := hshp i h0 (by omega)
   have hci := hfcff1 i h0 (by omega)
   refine zla (xal (cs := [_, _]) el_50 hS) ?_; rintro _ w ⟨g2, rfl, hS⟩
   replace hS := hS.n4
   refine zle (xsw 3 st_50 hS (hd := (ones_cons (hrnff1 i (by omega) (by omega)).one (ones_cons rfl ones_nil)))) ?_; clear hS; rintro w hS
   replace hS := hS.n4
   refine zlz ?_
   refine zlv xas ?_
   refine zlt <| zsq <| zsr ?_
   refine zlv (xfb 0 fd_50_0) ?_
   refine zlv (xlb 3 pl_22 hS) ?_
   refine zlv (xln sl_22 (hrnff1 i (by omega) (by omega))) ?_
   refine zlv xmv ?_
   refine zlt <| zbk <| zlp (fun mm M w => ∃ (s : Int) (j : Int), mm = ((lnff1 i - j).toNat) ∧ (0 ≤ j) ∧ (j ≤ lnff1 i) ∧ (s = psum (szP p) (gnff1 i) j.toNat) ∧ (0 ≤ s ∧ s ≤ 10000000 * j) ∧ M = [(1, .pointer (some ⟨g1, 0, none⟩)), (2, .bool false), (3, vnff1), (4, .int .i64 enff1), (5, .int .i64 (p.stock + p.kerf)), (6, .int .i64 lt), (8, .pointer (some ⟨g2, 0, none⟩)), (9, .int .i64 s), (36, vnff1), (37, .int .i64 nnff1), (38, .int .i64 i), (44, .int .i64 (lnff1 i)), (45, .int .i64 j)] ∧ Sat w0 w [.blk g1 [vL, vD, .int .i64 p.stock, .int .i64 p.kerf], .own vnff1 2 50 nnff1 (ucells pnff1 cnff1), .sem (Frame.rows 3 nnff1 pnff1 lnff1 gnff1), .blk g2 [(pnff1 i), .int .i64 (cnff1 i)]]) ⟨0, 0, rfl, (by omega), (by omega), ?_, (by omega), rfl, hS⟩ ?_
   ·
    rfl
   clear hS w
   rintro mm M w ⟨s, j, rfl, j0, j1, hs9, hsb, rfl, hS⟩
   refine zsr ?_
   refine zlv xlss ?_
   refine zlt <| zsq ?_
   refine zcif ?_ ?_ <;> intro hc
   ·
    refine zsk <| ztn <| zsq <| zbk <| zsr ?_
    refine zlv xmv ?_
    have hej := hp.all j j0 (by omega); unfold Prob.each at hej
    have hgj := hsi2 j j0 (by omega)
    have hmj := mul_rng (A := 2100) (B := 2100) hgj.1 (by omega) (show 0 ≤ p.L j + p.kerf by omega) (by omega)
    refine zlv xas ?_
    refine zlt ?_
    refine zdst [0, 1, 2, 3] [0, 1, 2, 3] 1000 mx_ hS ?_; clear hS; intro w hS
    refine zdv 0 (fun _ => xmv) ?_
    refine zdv 1 (fun _ => (xfb 0 fd_50_0)) ?_
    refine zdla 2 (fun w hS => (xlb 3 pl_22 hS)) ?_
    refine zdv 3 (fun _ => xmv) ?_
    refine zdv 4 (fun _ => (xix (kk := j) sl_22 (hrnff1 i (by omega) (by omega)))) ?_
    refine zdla 5 (fun w hS => (xlr (u := .int .i64 (gnff1 i j)) pl_3 (hS.rowIn (k := i) 2 rfl (by omega) (by omega)))) ?_
    refine zdv 6 (fun _ => (xfb 0 fd_24_0)) ?_
    refine zdla 7 (fun w hS => (xlb 0 pl_22 hS)) ?_
    refine zdv 8 (fun _ => xmv) ?_
    refine zdv 9 (fun _ => (xix (kk := j) sl_22 h.L.slh)) ?_
    refine zdla 10 (fun w hS => (xlr (u := .int .i64 (p.L j)) pl_3 (h.L.below hS.below))) ?_
    have hbv := h.iL j
    refine zdv 11 (fun _ => (xfb 3 fd_24_3)) ?_
    refine zdla 12 (fun w hS => (xlb 0 pl_3 hS)) ?_
    refine zdv 13 (fun _ => (xadd (r := p.L j + p.kerf))) ?_
    refine zdv 14 (fun _ => (xmul (r := ((gnff1 i j) * (p.L j + p.kerf))) (e := rfl) (hr := (by unfold I64; omega)))) ?_
    refine zdv 15 (fun _ => (xadd (r := s + ((gnff1 i j) * (p.L j + p.kerf))) (hr := (by unfold I64; omega)))) ?_
    refine zdv 16 (fun _ => xas) ?_
    refine zdd <| zbn <| ztn <| zrg ?_
    refine zlv (xadd (r := j + 1)) ?_
    refine zlv xmv ?_
    refine zln <| zlq ⟨s + ((gnff1 i j) * (p.L j + p.kerf)), j + 1, rfl, (by omega), (by omega), ?_, (by omega), rfl, hS⟩
    ·
     rw [psum_next _ _ j0, ← hs9, Int.mul_comm (szP p j)]
   refine zxt <| ztx <| ztx <| zbh <| ztn <| zsr ?_
   refine zlv xmv ?_
   refine zlv (xmul (r := 2 * s)) ?_
   refine zs2 ?_
   refine zlt ?_
   refine zcif ?_ ?_ <;> intro hc
   ·
    refine zrg ?_
    refine zlv xmv ?_
    refine zlv (xfb 1 fd_50_1) ?_
    refine zlv (xlb 3 pl_3 hS) ?_
    refine zlv (xadd (r := lt + (cnff1 i))) ?_
    refine zlv xas ?_
    refine zln <| zbn <| ztn <| zrg ?_
    refine zlv (xadd (r := i + 1)) ?_
    refine zlv xmv ?_
    refine zln <| zlq ⟨lt + (cnff1 i), i + 1, rfl, (by omega), (by omega), ?_, (by omega), rfl, hS.pk [0, 1, 2]⟩
    ·
     have hu9 : s = puse (szP p) (lst (lnff1 i) (gnff1 i)) := by rw [puse_lst' _ _ (by omega), hs9, show j = lnff1 i by omega]
     rw [psum_next _ _ h0, ← hlt, ← hu9]; (first | rw [if_pos (by omega)] | rw [if_neg (by omega)]); omega
   refine zsk <| zbn <| ztn <| zrg ?_
   refine zlv (xadd (r := i + 1)) ?_
   refine zlv xmv ?_
   refine zln <| zlq ⟨lt, i + 1, rfl, (by omega), (by omega), ?_, (by omega), rfl, hS.pk [0, 1, 2]⟩
   ·
    have hu9 : s = puse (szP p) (lst (lnff1 i) (gnff1 i)) := by rw [puse_lst' _ _ (by omega), hs9, show j = lnff1 i by omega]
    rw [psum_next _ _ h0, ← hlt, ← hu9]; (first | rw [if_pos (by omega)] | rw [if_neg (by omega)]); omega
  refine zxt <| ztx <| ztx <| zbh <| ztn <| zsr ?_
  refine zlv (xls 0 st_24 hS) ?_
  refine zlc (xc0 cl_19) (c_mat28 (p := p) w (h.below hS.below) (fun _ k k0 k1 => by have := hdd k k0 (by omega); have he := hp.all k k0 k1; unfold Prob.each at he; omega)) ?_; rintro _ w ⟨mmt1, emt1, rfl, hmt1, hS'⟩
  replace hS := hS.cmp hS'; clear hS'
  have hiN : i = nnff1 := by omega
  rw [hiN] at hlt
  obtain ⟨q1, q2⟩ := half_law hp hffff1 he0 hnn
  rw [← hlt] at q1
  have q3 := hmt1.resolve_left fun hh => hh.1 hp
  rw [← q3.2.1] at q2
  have hub := used_bound hp (a := p.D) (fun k k0 k1 => by have := hdd k k0 (by omega); have he := hp.all k k0 k1; unfold Prob.each at he; omega) (n := p.m) (by omega) (by omega)
  have hqd := tdiv_abs (a := Used p p.D p.m.toNat + (p.stock + p.kerf) - 1) (d := p.stock + p.kerf) (A := 1000000000000) (by omega) (by omega)
  rw [← q3.2.1] at hqd
  refine zs5 ?_
  refine zlz ?_
  refine zs3 ?_
  refine zlb 81 ?_ ?_ <;> intro hc
  ·
   refine zs4 ?_
   refine zlb 85 ?_ ?_ <;> intro hc
   ·
    refine zs4 ?_
    refine zlb 89 ?_ ?_ <;> intro hc
    ·
     refine zlv xmv ?_
     refine zlc (xc0 cl_16) (c_pbars (u := nnff1) (pv := pnff1) (ln := lnff1) (pt := gnff1) (cnt := cnff1) w (⟨(hS.rowN 1 rfl), fun k k0 k1 => hS.rowIn 2 rfl k0 k1, fun k k0 k1 => hS.roomIn 2 rfl k0 k1⟩ : VAt _ vnff1 nnff1 pnff1 lnff1 gnff1 cnff1) (by omega) (fun k k0 k1 => by have := hfcff1 k k0 k1; omega)) ?_; rintro _ w ⟨rfl, hS'⟩
     replace hS := hS.cmp hS'; clear hS'
     refine zlv xmv ?_
     refine zlv (xmul (r := 2 * mmt1)) ?_
     refine zlv (xadd (r := 2 * mmt1 + 1)) ?_
     refine zs3 ?_
     refine zlt <| zrt <| zf1 ⟨_, rfl, ?_⟩
     exact ⟨(true_B (by omega)).symm, hS.nl⟩
    iterate 6 refine zlo ?_
    refine zs2 ?_
    refine zlt <| zrt <| zf1 ⟨_, rfl, ?_⟩
    exfalso
    omega
   iterate 2 refine zlo ?_
   refine zs2 ?_
   iterate 6 refine zlo ?_
   refine zs2 ?_
   refine zlt <| zrt <| zf1 ⟨_, rfl, ?_⟩
   exfalso
   omega
  iterate 2 refine zlo ?_
  refine zs2 ?_
  iterate 2 refine zlo ?_
  refine zs2 ?_
  iterate 6 refine zlo ?_
  refine zs2 ?_
  refine zlt <| zrt <| zf1 ⟨_, rfl, ?_⟩
  exfalso
  omega

end Go.Proofs.Ytopmifmfecfaaaa
