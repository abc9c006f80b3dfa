/- The walk of TableauIdentity. -/
import Derived.Test.YtkcmbndnhcofpaaGv
import Derived.Test.YtkcmbndnhcofpaaT1
namespace Go.Proofs.Ytkcmbndnhcofpaa
open Go Go.RowKit Go.Proofs.Gw
set_option linter.unusedVariables false

theorem cl_5 : calledT Try.prog 5 = true := by kernel_rfl
theorem cl_6 : calledT Try.prog 6 = true := by kernel_rfl
theorem cl_7 : calledT Try.prog 7 = true := by kernel_rfl
theorem cl_9 : calledT Try.prog 9 = true := by kernel_rfl
theorem it_3 : Try.prog.underlying 3 = some (.int .i64) := by kernel_rfl
theorem pl_5 : plainT Try.prog 5 = true := by kernel_rfl
theorem sl_26 : sliceT Try.prog 26 = some (5, 1) := by kernel_rfl
theorem so_5 : (Try.prog.underlying 5).isSome = true := by kernel_rfl
set_option maxHeartbeats 16000000 in
set_option maxRecDepth 20000 in
theorem law_tid {vc vA vb : Value} {vq : Int → Value} {p : Lp} {vp : Value} {np : Int} {fp : Int → Int} {vx : Value} {nx : Int} {fx : Int → Int} (w0 : World) (hL : LAt w0 vc vA vb vq p) (hP : Row w0 vp 1 np (fun k => .int .u8 (fp k))) (hpb : ∀ k, 0 ≤ fp k ∧ fp k ≤ 255) (hX : Row w0 vx 1 nx (fun k => .int .u8 (fx k))) (hxb : ∀ k, 0 ≤ fx k ∧ fx k ≤ 255) :
    Calls Try.prog 3 [.agg #[vc, vA, vb], vp, vx].toArray w0 fun e w => ∃ v, e = .returned v ∧ v = .bool true ∧ Sat w0 w [] := by
  have hn := hL.c.slh.n0; have hn1 := hL.c.slh.n1; have hm := hL.A.row.slh.n0; have hm1 := hL.A.row.slh.n1; have hk := hL.b.slh.n0; have hk1 := hL.b.slh.n1
  have hnp := hP.slh.n0; have hnp1 := hP.slh.n1; have hnx := hX.slh.n0
  refine zenG Try.func3 Try.ntmps3 fun w hS => ?_
  refine zsr ?_
  refine zla (xbx (cs := [_, _, _]) hS) ?_; rintro _ w ⟨g1, rfl, hS⟩
  replace hS := hS.n1
  refine zlv xas ?_
  refine zlt <| zsq <| zsr ?_
  refine zlc (xc0 cl_5) (c_awake w) ?_; rintro _ w ⟨rfl, hS'⟩
  replace hS := hS.cmp hS'; clear hS'
  refine zs2 ?_
  refine zlv (xls 0 st_25 hS) ?_
  refine zlc (xc0 cl_6) (c_few (p := p) w (hL.below hS.below)) ?_; rintro _ w ⟨rfl, hS'⟩
  replace hS := hS.cmp hS'; clear hS'
  refine zs3 ?_
  refine zlb 34 ?_ ?_ <;> intro hc
  ·
   iterate 3 refine zlo ?_
   refine zs2 ?_
   iterate 3 refine zlo ?_
   refine zlv xpt ?_
   refine zlt <| zct <| zsr ?_
   refine zlc (xc0 cl_5) (c_awake w) ?_; rintro _ w ⟨rfl, hS'⟩
   replace hS := hS.cmp hS'; clear hS'
   refine zlv xas ?_
   refine zlt <| zrt <| ztr <| zf1 ⟨_, rfl, ?_⟩
   exact ⟨rfl, hS.nl⟩
  refine zlv (xls 0 st_25 hS) ?_
  refine zlc (xc0 cl_7) (c_rvalid (p := p) w (hL.below hS.below)) ?_; rintro _ w ⟨rfl, hS'⟩
  replace hS := hS.cmp hS'; clear hS'
  refine zs3 ?_
  refine zlb 39 ?_ ?_ <;> intro hc
  ·
   iterate 3 refine zlo ?_
   refine zlv xpt ?_
   refine zlt <| zct <| zsr ?_
   refine zlc (xc0 cl_5) (c_awake w) ?_; rintro _ w ⟨rfl, hS'⟩
   replace hS := hS.cmp hS'; clear hS'
   refine zlv xas ?_
   refine zlt <| zrt <| ztr <| zf1 ⟨_, rfl, ?_⟩
   exact ⟨rfl, hS.nl⟩
  refine zlv xmv ?_
  refine zlv (xln sl_26 hP.slh) ?_
  refine zs2 ?_
  refine zlt ?_
  refine zcif ?_ ?_ <;> intro hc
  ·
   refine zsr ?_
   refine zlc (xc0 cl_5) (c_awake w) ?_; rintro _ w ⟨rfl, hS'⟩
   replace hS := hS.cmp hS'; clear hS'
   refine zlv xas ?_
   refine zlt <| zrt <| ztr <| zf1 ⟨_, rfl, ?_⟩
   exact ⟨rfl, hS.nl⟩
  refine zsk <| ztn <| zsr ?_
  refine zlv (xls 0 st_25 hS) ?_
  have hl : LOk p := by first | assumption | exact Classical.not_not.1 ‹¬ ¬ (LOk p)›
  have b1 := hl.n1; have b2 := hl.n2; have b3 := hl.m2; have b4 := hl.k
  refine zlc (xc0 cl_9) (c_own (p := p) w (hL.below hS.below)) ?_; rintro _ w ⟨rfl, hS'⟩
  replace hS := hS.cmp hS'; clear hS'
  refine zlc (xc0 cl_8) (c_start (p := p) w (hL.below hS.below)) ?_; rintro _ w ⟨vBk1, vFk1, vCk1, vvk1, tk1, ek1, rfl, hstk1, hsBk1, hsFk1, hsCk1, hS'⟩
  replace hS : Sat w0 w [.blk g1 [vc, vA, vb], .own vBk1 1 3 tk1.nb (ints tk1.B), .own vFk1 1 3 tk1.nf (ints tk1.F), .own vCk1 1 22 tk1.nc vvk1, .sem (Frame.rows 3 tk1.nc vvk1 tk1.ln tk1.C)] := hS.comp hS'; clear hS'
  have hrsk1 := fun k (k0 : 0 ≤ k) (k1 : k < tk1.nc) => hS.slhIn 4 rfl k0 k1
  refine zs3 ?_
  refine zla (xal (cs := [_, _, _, _, _]) el_30 hS) ?_; rintro _ w ⟨g2, rfl, hS⟩
  replace hS := hS.n6
  refine zle (xsw 5 st_30 hS (hd := (ones_cons rfl (ones_cons rfl (ones_cons hsBk1.one (ones_cons hsFk1.one (ones_cons hsCk1.one ones_nil))))))) ?_; clear hS; rintro w hS
  replace hS := hS.n6
  refine zlv xas ?_
  refine zlt <| zsq <| zsr ?_
  refine zlv xmv ?_
  have hst0 : tk1 = startT p ∧ ek1 = 0 := by
    rcases hstk1 with ⟨h9, _⟩ | ⟨_, h9, h8⟩
    · exact absurd hl h9
    · exact ⟨h9, h8⟩
  refine zlv xneq ?_
  refine zlt ?_
  refine zcif ?_ ?_ <;> intro hc
  ·
   refine zsr ?_
   refine zlv xas ?_
   refine zlt <| zrt <| ztr <| zf1 ⟨_, rfl, ?_⟩
   exfalso
   omega
  refine zsk <| ztn <| zsq <| zsr ?_
  refine zlv xmv ?_
  refine zlv (xln sl_26 hP.slh) ?_
  refine zlv xmv ?_
  refine zlt <| zbk <| zlp (fun mm M w => ∃ (t : Tb) (vB : Value) (vF : Value) (vC : Value) (vv : Int → Value) (i0 : Int), mm = ((np - i0).toNat) ∧ (TRch p t) ∧ (Slh vB t.nb) ∧ (Slh vF t.nf) ∧ (Slh vC t.nc) ∧ (0 ≤ i0) ∧ (i0 ≤ np) ∧ M = [(2, vx), (3, .pointer (some ⟨g1, 0, none⟩)), (7, .pointer (some ⟨g2, 0, none⟩)), (53, vp), (54, .int .i64 np), (55, .int .i64 i0)] ∧ Sat w0 w [.blk g1 [vc, vA, vb], .blk g2 [.int .i64 t.vars, .int .i64 t.den, vB, vF, vC], .own vB 1 3 t.nb (ints t.B), .own vF 1 3 t.nf (ints t.F), .own vC 1 22 t.nc vv, .sem (Frame.rows 3 t.nc vv t.ln t.C)]) ⟨tk1, vBk1, vFk1, vCk1, vvk1, 0, rfl, ?_, ?_, ?_, ?_, (by omega), (by omega), rfl, hS.pk [0, 5, 1, 2, 3, 4]⟩ ?_
  ·
   rw [hst0.1]; exact TRch.start hl hm
  ·
   exact hsBk1
  ·
   exact hsFk1
  ·
   exact hsCk1
  clear hS w
  rintro mm M w ⟨t, vB, vF, vC, vv, i0, rfl, hRc, hsB, hsF, hsC, h00, h01, rfl, hS⟩
  have hrs := fun k (k0 : 0 ≤ k) (k1 : k < t.nc) => hS.slhIn 5 rfl k0 k1
  have hp1 := hRc.1; have hnb0 := hsB.n0; have hnf1 := hp1.n1; have hnb16 := hp1.m2; have hnf60 := hp1.n2; have hnb := hRc.2.2.2.1; have hnf := hRc.2.2.2.2; have hnc := hp1.c; have hd1 := hp1.d1; have hd2 := hp1.d2
  obtain ⟨hpF, hpB⟩ := hRc.perm hm
  refine zsr ?_
  refine zlv xlss ?_
  refine zlt <| zsq ?_
  refine zcif ?_ ?_ <;> intro hc
  ·
   refine zsk <| ztn <| zsq <| zbk <| zsr ?_
   refine zlv (xix (kk := i0) sl_26 hP.slh) ?_
   refine zlv (xlr (u := .int .u8 (fp i0)) pl_5 (hP.below hS.below)) ?_
   have hpi := hpb i0
   have hq0 := Int.tdiv_nonneg (a := fp i0) (b := 16) hpi.1 (by omega); have hq1 := tdiv_abs (a := fp i0) (d := 16) (A := 255) (by omega) (by omega)
   refine zlv xas ?_
   refine zlt <| zsq <| zsr ?_
   refine zlv (xfb 2 fd_30_2) ?_
   refine zlv (xlb 1 pl_22 hS) ?_
   refine zlv (xln sl_22 hsB) ?_
   refine zlv xeql ?_
   refine zlt ?_
   refine zcif ?_ ?_ <;> intro hc
   ·
    refine zxt <| ztx <| zbm <| ztx <| ztx <| zbh <| ztn <| zsr ?_
    refine zlv (xfb 0 fd_25_0) ?_
    refine zlv (xlb 0 pl_22 hS) ?_
    refine zlv (xln sl_22 hL.c.slh) ?_
    refine zlv (xfb 1 fd_25_1) ?_
    refine zlv (xlb 0 pl_23 hS) ?_
    refine zlv (xln sl_23 hL.A.row.slh) ?_
    refine zlv (xadd (r := p.n + p.m)) ?_
    refine zla (xmk sl_22 el_3 hS) ?_; rintro v1 w ⟨hS, hv1⟩
    replace hS := hS.n7
    refine zlv xas ?_
    refine zlz ?_
    refine zlv xas ?_
    refine zlt <| zsq <| zsr ?_
    refine zlv (xfb 0 fd_25_0) ?_
    refine zlv (xlb 0 pl_22 hS) ?_
    refine zlv (xln sl_22 hL.c.slh) ?_
    refine zlv xmv ?_
    refine zlt <| zbk <| zlp (fun mm M w => ∃ (cost : Int) (i : Int) (fv : Int → Int), mm = ((p.n - i).toNat) ∧ (0 ≤ i) ∧ (i ≤ p.n) ∧ (∀ q, 0 ≤ q → q < p.n + p.m → fv q = if q < i then (xx nx fx) q else 0) ∧ (cost = dotp p.c (xx nx fx) i.toNat) ∧ (0 ≤ cost ∧ cost ≤ 99000000 * i) ∧ M = [(2, vx), (3, .pointer (some ⟨g1, 0, none⟩)), (7, .pointer (some ⟨g2, 0, none⟩)), (13, v1), (14, .int .i64 cost), (101, .int .i64 p.n), (102, .int .i64 i)] ∧ Sat w0 w [.blk g1 [vc, vA, vb], .blk g2 [.int .i64 t.vars, .int .i64 t.den, vB, vF, vC], .own vB 1 3 t.nb (ints t.B), .own vF 1 3 t.nf (ints t.F), .own vC 1 22 t.nc vv, .sem (Frame.rows 3 t.nc vv t.ln t.C), .own v1 1 3 (p.n + p.m) (ints fv)]) ⟨0, 0, (fun _ => 0), rfl, (by omega), (by omega), ?_, ?_, (by omega), rfl, hS⟩ ?_
    ·
     intro q q0 q1; rw [if_neg (by omega)]
    ·
     rfl
    clear hS w
    rintro mm M w ⟨cost, i, fv, rfl, i0_, i1_, hz2, hcost, hcb, rfl, hS⟩
    refine zsr ?_
    refine zlv xlss ?_
    refine zlt <| zsq ?_
    refine zcif ?_ ?_ <;> intro hc
    ·
     refine zsk <| ztn <| zsq <| zbk <| zsr ?_
     refine zs2 ?_
     refine zlt <| zsq <| zsr ?_
     refine zs2 ?_
     refine zlv (xln sl_26 hX.slh) ?_
     refine zlv xlss ?_
     refine zlt ?_
     refine zcif ?_ ?_ <;> intro hc
     ·
      refine zrg ?_
      refine zs4 ?_
      refine zlv (xix (kk := i) sl_26 hX.slh) ?_
      refine zlv (xlr (u := .int .u8 (fx i)) pl_5 (hX.below hS.below)) ?_
      have hxi := hxb i
      refine zlv (xcv so_5 it_3) ?_
      refine zlv (xrem (r := (Int.tmod (fx i) 100))) ?_
      refine zlv (xix (kk := i) sl_22 hv1) ?_
      refine zle (xso 6 pl_3 hS (upd_ints _ _ _)) ?_; clear hS; rintro w hS
      replace hS := hS.n7
      refine zlt ?_
      refine zdst [0, 1, 2, 3, 4, 5, 6] [0, 1, 2, 3, 4, 5, 6] 1000 mx_ hS ?_; clear hS; intro w hS
      refine zdv 0 (fun _ => xmv) ?_
      refine zdv 1 (fun _ => (xfb 0 fd_25_0)) ?_
      refine zdla 2 (fun w hS => (xlb 0 pl_22 hS)) ?_
      refine zdv 3 (fun _ => xmv) ?_
      refine zdv 4 (fun _ => (xix (kk := i) sl_22 hL.c.slh)) ?_
      refine zdla 5 (fun w hS => (xlr (u := .int .i64 (p.c i)) pl_3 (hL.c.below hS.below))) ?_
      refine zdv 6 (fun _ => xmv) ?_
      refine zdv 7 (fun _ => xmv) ?_
      refine zdv 8 (fun _ => (xix (kk := i) sl_22 hv1)) ?_
      refine zdla 9 (fun w hS => (xlr (u := .int .i64 ((upd fv i (Int.tmod (fx i) 100)) i)) pl_3 (hS.rowN 6 rfl))) ?_
      have hzi : (upd fv i (Int.tmod (fx i) 100)) i = (xx nx fx) i := by first | (rw [upd_self]; unfold xx; rw [if_pos (by omega)]) | (rw [hz2 i (by omega) (by omega), if_neg (by omega)]; unfold xx; rw [if_neg (by omega)])
      have hxr := xx_rng hxb (nx := nx) i
      have hci := hl.c i i0_ (by omega)
      have hcr := mul_rng (a := p.c i) (b := (xx nx fx) i) (A := 1000000) (B := 99) (by omega) (by omega) (by omega) (by omega)
      rw [← hzi] at hcr
      refine zdv 10 (fun _ => (xmul (r := ((p.c i) * ((upd fv i (Int.tmod (fx i) 100)) i))) (e := rfl))) ?_
      refine zdv 11 (fun _ => (xadd (r := cost + ((p.c i) * ((upd fv i (Int.tmod (fx i) 100)) i))))) ?_
      refine zdv 12 (fun _ => xas) ?_
      refine zdd <| zbn <| ztn <| zrg ?_
      refine zlv (xadd (r := i + 1)) ?_
      refine zlv xmv ?_
      refine zln <| zlq ⟨cost + ((p.c i) * ((upd fv i (Int.tmod (fx i) 100)) i)), i + 1, (upd fv i (Int.tmod (fx i) 100)), rfl, (by omega), (by omega), ?_, ?_, (by omega), rfl, hS⟩
      ·
       intro q q0 q1; by_cases e : q = i
       · rw [e, hzi, if_pos (by omega)]
       · first | rw [upd_ne _ _ e] | skip
         rw [hz2 q q0 q1]
         by_cases e2 : q < i
         · rw [if_pos e2, if_pos (by omega)]
         · rw [if_neg e2, if_neg (by omega)]
      ·
       rw [dotp_next _ _ i0_, ← hcost, ← hzi]
     refine zsk <| ztn ?_
     refine zdst [0, 1, 2, 3, 4, 5, 6] [0, 1, 2, 3, 4, 5, 6] 1000 mx_ hS ?_; clear hS; intro w hS
     refine zdv 0 (fun _ => xmv) ?_
     refine zdv 1 (fun _ => (xfb 0 fd_25_0)) ?_
     refine zdla 2 (fun w hS => (xlb 0 pl_22 hS)) ?_
     refine zdv 3 (fun _ => xmv) ?_
     refine zdv 4 (fun _ => (xix (kk := i) sl_22 hL.c.slh)) ?_
     refine zdla 5 (fun w hS => (xlr (u := .int .i64 (p.c i)) pl_3 (hL.c.below hS.below))) ?_
     refine zdv 6 (fun _ => xmv) ?_
     refine zdv 7 (fun _ => xmv) ?_
     refine zdv 8 (fun _ => (xix (kk := i) sl_22 hv1)) ?_
     refine zdla 9 (fun w hS => (xlr (u := .int .i64 (fv i)) pl_3 (hS.rowN 6 rfl))) ?_
     have hzi : fv i = (xx nx fx) i := by first | (rw [upd_self]; unfold xx; rw [if_pos (by omega)]) | (rw [hz2 i (by omega) (by omega), if_neg (by omega)]; unfold xx; rw [if_neg (by omega)])
     have hxr := xx_rng hxb (nx := nx) i
     have hci := hl.c i i0_ (by omega)
     have hcr := mul_rng (a := p.c i) (b := (xx nx fx) i) (A := 1000000) (B := 99) (by omega) (by omega) (by omega) (by omega)
     rw [← hzi] at hcr
     refine zdv 10 (fun _ => (xmul (r := ((p.c i) * (fv i))) (e := rfl))) ?_
     refine zdv 11 (fun _ => (xadd (r := cost + ((p.c i) * (fv i))))) ?_
     refine zdv 12 (fun _ => xas) ?_
     refine zdd <| zbn <| ztn <| zrg ?_
     refine zlv (xadd (r := i + 1)) ?_
     refine zlv xmv ?_
     refine zln <| zlq ⟨cost + ((p.c i) * (fv i)), i + 1, fv, rfl, (by omega), (by omega), ?_, ?_, (by omega), rfl, hS⟩
     ·
      intro q q0 q1; by_cases e : q = i
      · rw [e, hzi, if_pos (by omega)]
      · first | rw [upd_ne _ _ e] | skip
        rw [hz2 q q0 q1]
        by_cases e2 : q < i
        · rw [if_pos e2, if_pos (by omega)]
        · rw [if_neg e2, if_neg (by omega)]
     ·
      rw [dotp_next _ _ i0_, ← hcost, ← hzi]
    refine zxt <| ztx <| ztx <| zbh <| ztn <| zsq <| zsr ?_
    refine zlv (xfb 1 fd_25_1) ?_
    have hcost9 : cost = dotp p.c (xx nx fx) p.n.toNat := by rw [hcost, show i = p.n by omega]
    refine zlv (xlb 0 pl_23 hS) ?_
    refine zlv (xln sl_23 hL.A.row.slh) ?_
    refine zlv xmv ?_
    refine zlt <| zbk <| zlp (fun mm M w => ∃ (r : Int) (fv3 : Int → Int), mm = ((p.m - r).toNat) ∧ (0 ≤ r) ∧ (r ≤ p.m) ∧ (∀ q, 0 ≤ q → q < p.n + p.m → fv3 q = if q < p.n + r then allv p (xx nx fx) 1 q else 0) ∧ M = [(3, .pointer (some ⟨g1, 0, none⟩)), (7, .pointer (some ⟨g2, 0, none⟩)), (13, v1), (14, .int .i64 cost), (132, vA), (133, .int .i64 p.m), (134, .int .i64 r)] ∧ Sat w0 w [.blk g1 [vc, vA, vb], .blk g2 [.int .i64 t.vars, .int .i64 t.den, vB, vF, vC], .own vB 1 3 t.nb (ints t.B), .own vF 1 3 t.nf (ints t.F), .own vC 1 22 t.nc vv, .sem (Frame.rows 3 t.nc vv t.ln t.C), .own v1 1 3 (p.n + p.m) (ints fv3)]) ⟨0, fv, rfl, (by omega), (by omega), ?_, rfl, hS⟩ ?_
    ·
     intro q q0 q1; rw [hz2 q q0 q1]
     by_cases e2 : q < i
     · rw [if_pos e2, if_pos (by omega), allv_low (by omega)]
     · rw [if_neg e2, if_neg (by omega)]
    clear hS w
    rintro mm M w ⟨r, fv3, rfl, r0, r1, hz3, rfl, hS⟩
    refine zsr ?_
    refine zlv xlss ?_
    refine zlt <| zsq ?_
    refine zcif ?_ ?_ <;> intro hc
    ·
     refine zsk <| ztn <| zsq <| zbk <| zsr ?_
     refine zlv xmv ?_
     refine zlv (xix (kk := r) sl_23 hL.A.row.slh) ?_
     refine zlv (xlr (u := (vq r)) pl_22 (hL.A.row.below hS.below)) ?_
     refine zs2 ?_
     refine zlt <| zsq <| zsr ?_
     refine zlv xmv ?_
     refine zlv (xln sl_22 (hL.A.p r (by omega) (by omega)).slh) ?_
     refine zlv xmv ?_
     refine zlt <| zbk <| zlp (fun mm M w => ∃ (j : Int) (fv4 : Int → Int), mm = ((p.n - j).toNat) ∧ (0 ≤ j) ∧ (j ≤ p.n) ∧ (∀ q, q ≠ p.n + r → fv4 q = fv3 q) ∧ (fv4 (p.n + r) = dotp (p.A r) (xx nx fx) j.toNat) ∧ (-99000000 * j ≤ fv4 (p.n + r) ∧ fv4 (p.n + r) ≤ 99000000 * j) ∧ M = [(3, .pointer (some ⟨g1, 0, none⟩)), (7, .pointer (some ⟨g2, 0, none⟩)), (13, v1), (14, .int .i64 cost), (16, .int .i64 r), (17, (vq r)), (132, vA), (133, .int .i64 p.m), (134, .int .i64 r), (140, .int .i64 (p.ln r)), (141, .int .i64 j)] ∧ Sat w0 w [.blk g1 [vc, vA, vb], .blk g2 [.int .i64 t.vars, .int .i64 t.den, vB, vF, vC], .own vB 1 3 t.nb (ints t.B), .own vF 1 3 t.nf (ints t.F), .own vC 1 22 t.nc vv, .sem (Frame.rows 3 t.nc vv t.ln t.C), .own v1 1 3 (p.n + p.m) (ints fv4)]) ⟨0, fv3, rfl, (by omega), (by omega), ?_, ?_, ?_, rfl, hS⟩ ?_
     ·
      intro q _; rfl
     ·
      rw [hz3 _ (by omega) (by omega), if_neg (by omega)]; rfl
     ·
      rw [hz3 _ (by omega) (by omega), if_neg (by omega)]; omega
     clear hS w
     rintro mm M w ⟨j, fv4, rfl, j0, j1, hz4, hz5, hz5b, rfl, hS⟩
     have hlr := (hl.rows r r0 (by omega)).1
     refine zsr ?_
     refine zlv xlss ?_
     refine zlt <| zsq ?_
     refine zcif ?_ ?_ <;> intro hc
     ·
      refine zsk <| ztn <| zsq <| zbk <| zsr ?_
      refine zs2 ?_
      refine zlt ?_
      refine zdst [0, 1, 2, 3, 4, 5, 6] [0, 1, 2, 3, 4, 5] 19 mx_ hS ?_; clear hS; intro w hS
      refine zdv 0 (fun _ => xmv) ?_
      refine zdv 1 (fun _ => (xfb 0 fd_25_0)) ?_
      refine zdla 2 (fun w hS => (xlb 0 pl_22 hS)) ?_
      refine zdv 3 (fun _ => (xln sl_22 hL.c.slh)) ?_
      refine zdv 4 (fun _ => xmv) ?_
      refine zdv 5 (fun _ => (xadd (r := p.n + r))) ?_
      refine zdv 6 (fun _ => (xix (kk := p.n + r) sl_22 hv1)) ?_
      refine zdl 7 (fun w hS => (xlr (u := .int .i64 (fv4 (p.n + r))) pl_3 (hS.rowN 6 rfl))) ?_
      refine zdv 8 (fun _ => xmv) ?_
      refine zdv 9 (fun _ => xmv) ?_
      refine zdv 10 (fun _ => (xix (kk := j) sl_22 (hL.A.p r (by omega) (by omega)).slh)) ?_
      refine zdla 11 (fun w hS => (xlr (u := .int .i64 ((p.A r) j)) pl_3 ((hL.A.p r (by omega) (by omega)).below hS.below))) ?_
      refine zdv 12 (fun _ => xmv) ?_
      refine zdv 13 (fun _ => xmv) ?_
      refine zdv 14 (fun _ => (xix (kk := j) sl_22 hv1)) ?_
      refine zdl 15 (fun w hS => (xlr (u := .int .i64 (fv4 j)) pl_3 (hS.rowN 6 rfl))) ?_
      have hzj : fv4 j = (xx nx fx) j := by rw [hz4 j (by omega), hz3 j (by omega) (by omega), if_pos (by omega), allv_low (by omega)]
      have hxr := xx_rng hxb (nx := nx) j
      have har := (hl.rows r r0 (by omega)).2 j j0 (by omega)
      have hcr := mul_abs (a := p.A r j) (b := (xx nx fx) j) (A := 1000000) (B := 99) (by omega) (by omega)
      rw [← hzj] at hcr
      refine zdv 16 (fun _ => (xmul (r := (((p.A r) j) * (fv4 j))) (e := rfl))) ?_
      refine zdv 17 (fun _ => (xadd (r := fv4 (p.n + r) + (((p.A r) j) * (fv4 j))))) ?_
      refine zdv 18 (fun _ => (xix (kk := p.n + r) sl_22 hv1)) ?_
      refine zde 19 (xso 6 pl_3 hS (upd_ints _ _ _)) ?_; clear hS; rintro w hS
      replace hS := hS.n7
      refine ⟨⟨fun h => absurd h (by decide), hS.pk [0, 1, 2, 3, 4, 5]⟩, ?_⟩
      refine zdd <| zbn <| ztn <| zrg ?_
      refine zlv (xadd (r := j + 1)) ?_
      refine zlv xmv ?_
      refine zln <| zlq ⟨j + 1, (upd fv4 (p.n + r) (fv4 (p.n + r) + (((p.A r) j) * (fv4 j)))), rfl, (by omega), (by omega), ?_, ?_, ?_, rfl, hS⟩
      ·
       intro q hq; rw [upd_ne _ _ hq]; exact hz4 q hq
      ·
       rw [upd_self, dotp_next _ _ j0, ← hz5, ← hzj]
      ·
       rw [upd_self]; omega
     refine zxt <| ztx <| ztx <| zbh <| ztn ?_
     refine zdst [0, 1, 2, 3, 4, 5, 6] [0, 1, 2, 3, 4, 5] 15 mx_ hS ?_; clear hS; intro w hS
     refine zdv 0 (fun _ => xmv) ?_
     refine zdv 1 (fun _ => (xfb 0 fd_25_0)) ?_
     refine zdla 2 (fun w hS => (xlb 0 pl_22 hS)) ?_
     refine zdv 3 (fun _ => (xln sl_22 hL.c.slh)) ?_
     refine zdv 4 (fun _ => xmv) ?_
     refine zdv 5 (fun _ => (xadd (r := p.n + r))) ?_
     refine zdv 6 (fun _ => (xix (kk := p.n + r) sl_22 hv1)) ?_
     refine zdl 7 (fun w hS => (xlr (u := .int .i64 (fv4 (p.n + r))) pl_3 (hS.rowN 6 rfl))) ?_
     have hbr := hl.b r r0 (by omega)
     refine zdv 8 (fun _ => (xfb 2 fd_25_2)) ?_
     refine zdla 9 (fun w hS => (xlb 0 pl_22 hS)) ?_
     refine zdv 10 (fun _ => xmv) ?_
     refine zdv 11 (fun _ => (xix (kk := r) sl_22 hL.b.slh)) ?_
     refine zdla 12 (fun w hS => (xlr (u := .int .i64 (p.b r)) pl_3 (hL.b.below hS.below))) ?_
     refine zdv 13 (fun _ => (xsub (r := fv4 (p.n + r) - (p.b r)))) ?_
     refine zdv 14 (fun _ => (xix (kk := p.n + r) sl_22 hv1)) ?_
     refine zde 15 (xso 6 pl_3 hS (upd_ints _ _ _)) ?_; clear hS; rintro w hS
     replace hS := hS.n7
     refine ⟨⟨fun h => absurd h (by decide), hS.pk [0, 1, 2, 3, 4, 5]⟩, ?_⟩
     refine zdd <| zbn <| ztn <| zrg ?_
     refine zlv (xadd (r := r + 1)) ?_
     refine zlv xmv ?_
     refine zln <| zlq ⟨r + 1, (upd fv4 (p.n + r) (fv4 (p.n + r) - (p.b r))), rfl, (by omega), (by omega), ?_, rfl, hS⟩
     ·
      intro q q0 q1; by_cases e : q = p.n + r
      · rw [e, upd_self, hz5, if_pos (by omega), allv_high r0, show j = p.n by omega]
      · rw [upd_ne _ _ e, hz4 q e, hz3 q q0 q1]
        by_cases e2 : q < p.n + r
        · rw [if_pos e2, if_pos (by omega)]
        · rw [if_neg e2, if_neg (by omega)]
    refine zxt <| ztx <| ztx <| zbh <| ztn <| zsq <| zsr ?_
    refine zlv xmv ?_
    refine zla (xli (n := 1) (len := 1) (pv := [(0, .int .i64 cost)]) (cs := [.int .i64 cost]) (c := ints (fun _ => cost)) sl_22 el_3 hS) ?_; rintro v2 w ⟨hS, hv2⟩
    replace hS := hS.n8
    refine zlv (xfb 2 fd_25_2) ?_
    refine zlv (xlb 0 pl_22 hS) ?_
    refine zla (xap 7 (r := p.k + 1) (f := cat (1 * 1) (ints (fun _ => cost)) (ints p.b)) sl_22 el_3 hS (hL.b.below hS.below) rfl) ?_; rintro v3 w ⟨hS, hv3⟩
    replace hS := hS.n8
    refine zlv xmv ?_
    refine zla (xap 7 (r := p.k + p.n + p.m + 1) (f := cat ((p.k + 1) * 1) (cat (1 * 1) (ints (fun _ => cost)) (ints p.b)) (ints fv3)) sl_22 el_3 hS (hS.rowN 6 rfl) rfl) ?_; rintro v4 w ⟨hS, hv4⟩
    replace hS := hS.n8
    refine zlv (xln sl_22 hv4) ?_
    refine zlv xmv ?_
    refine zlt <| zbk ?_
    obtain ⟨cc, hcc⟩ : ∃ cc : Int → Int, cc = (cat (p.k + 1) (cat 1 (fun _ => cost) p.b) fv3) := ⟨_, rfl⟩
    replace hS := hS.recont 7 rfl (d := ints cc) (fun k k0 k1 => by rw [hcc]; unfold ints cat; simp only [Int.mul_one]; split; (split <;> rfl); rfl)
    replace hS := hS.n8
    refine zlp (fun mm M w => ∃ (k : Int), mm = ((1 + p.k + (p.n + p.m) - k).toNat) ∧ (0 ≤ k) ∧ (k ≤ 1 + p.k + (p.n + p.m)) ∧ (∀ q, 0 ≤ q → q < k → -16777216 ≤ cc q ∧ cc q ≤ 16777216) ∧ M = [(7, .pointer (some ⟨g2, 0, none⟩)), (13, v1), (14, .int .i64 cost), (186, v4), (187, .int .i64 (p.k + p.n + p.m + 1)), (188, .int .i64 k)] ∧ Sat w0 w [.blk g1 [vc, vA, vb], .blk g2 [.int .i64 t.vars, .int .i64 t.den, vB, vF, vC], .own vB 1 3 t.nb (ints t.B), .own vF 1 3 t.nf (ints t.F), .own vC 1 22 t.nc vv, .sem (Frame.rows 3 t.nc vv t.ln t.C), .own v1 1 3 (p.n + p.m) (ints fv3), .own v4 1 3 (p.k + p.n + p.m + 1) (ints cc)]) ⟨0, rfl, (by omega), (by omega), ?_, rfl, hS⟩ ?_
    ·
     intro q q0 q1; omega
    clear hS w
    rintro mm M w ⟨k, rfl, k0, k1, hkk, rfl, hS⟩
    refine zsr ?_
    refine zlv xlss ?_
    refine zlt <| zsq ?_
    refine zcif ?_ ?_ <;> intro hc
    ·
     refine zsk <| ztn <| zsq <| zbk <| zsr ?_
     refine zlv (xix (kk := k) sl_22 hv4) ?_
     refine zlv (xlr (u := .int .i64 (cc k)) pl_3 (hS.rowN 7 rfl)) ?_
     refine zlv xas ?_
     refine zlz ?_
     refine zs3 ?_
     refine zlb 194 ?_ ?_ <;> intro hc
     ·
      iterate 2 refine zlo ?_
      refine zlv xpt ?_
      refine zlt <| zct <| zsr ?_
      refine zlv xas ?_
      refine zlt <| zrt <| zbr <| ztr <| ztr <| zbr <| ztr <| zf1 ⟨_, rfl, ?_⟩
      exact ⟨rfl, hS.nl⟩
     refine zs3 ?_
     refine zlt ?_
     refine zcif ?_ ?_ <;> intro hc
     ·
      refine zsr ?_
      refine zlv xas ?_
      refine zlt <| zrt <| zbr <| ztr <| ztr <| zbr <| ztr <| zf1 ⟨_, rfl, ?_⟩
      exact ⟨rfl, hS.nl⟩
     refine zsk <| zbn <| ztn <| zrg ?_
     refine zlv (xadd (r := k + 1)) ?_
     refine zlv xmv ?_
     refine zln <| zlq ⟨k + 1, rfl, (by omega), (by omega), ?_, rfl, hS⟩
     ·
      intro q q0 q1; by_cases e : q = k
      · rw [e]; omega
      · exact hkk q q0 (by omega)
    refine zxt <| ztx <| ztx <| zbh <| ztn <| zsq <| zsr ?_
    refine zlv (xfb 4 fd_30_4) ?_
    have hc24 : -16777216 ≤ cost ∧ cost ≤ 16777216 := by
      have h9 := hkk 0 (by omega) (by omega)
      rw [hcc] at h9; unfold cat at h9; rw [if_pos (by omega), if_pos (by omega)] at h9; exact h9
    have hv24 : ∀ q, 0 ≤ q → q < p.n + p.m → -16777216 ≤ fv3 q ∧ fv3 q ≤ 16777216 := fun q q0 q1 => by
      have h9 := hkk (1 + p.k + q) (by omega) (by omega)
      rw [hcc] at h9; unfold cat at h9; rw [if_neg (by omega), show 1 + p.k + q - (p.k + 1) = q by omega] at h9; exact h9
    have hva : ∀ q, 0 ≤ q → q < p.n + p.m → fv3 q = allv p (xx nx fx) 1 q := fun q q0 q1 => by rw [hz3 q q0 q1, if_pos (by omega)]
    refine zlv (xlb 1 pl_23 hS) ?_
    refine zlv (xln sl_23 hsC) ?_
    refine zlv xmv ?_
    refine zlt <| zbk <| zlp (fun mm M w => ∃ (i6 : Int), mm = ((t.nc - i6).toNat) ∧ (0 ≤ i6) ∧ (i6 ≤ t.nc) ∧ M = [(7, .pointer (some ⟨g2, 0, none⟩)), (13, v1), (14, .int .i64 cost), (200, vC), (201, .int .i64 t.nc), (202, .int .i64 i6)] ∧ Sat w0 w [.blk g1 [vc, vA, vb], .blk g2 [.int .i64 t.vars, .int .i64 t.den, vB, vF, vC], .own vB 1 3 t.nb (ints t.B), .own vF 1 3 t.nf (ints t.F), .own vC 1 22 t.nc vv, .sem (Frame.rows 3 t.nc vv t.ln t.C), .own v1 1 3 (p.n + p.m) (ints fv3), .own v4 1 3 (p.k + p.n + p.m + 1) (ints cc)]) ⟨0, rfl, (by omega), (by omega), rfl, hS⟩ ?_
    clear hS w
    rintro mm M w ⟨i6, rfl, h60, h61, rfl, hS⟩
    refine zsr ?_
    refine zlv xlss ?_
    refine zlt <| zsq ?_
    refine zcif ?_ ?_ <;> intro hc
    ·
     refine zsk <| ztn <| zsq <| zbk <| zsr ?_
     refine zlv xmv ?_
     refine zlv (xix (kk := i6) sl_23 hsC) ?_
     refine zlv (xlr (u := (vv i6)) pl_22 (hS.rowN 4 rfl)) ?_
     have hln := hp1.len h60 (by omega)
     have hc0 := hp1.cell (i := i6) (j := 0) h60 (by omega) (by omega) (by omega)
     refine zs2 ?_
     refine zlz ?_
     refine zlv xmv ?_
     refine zlv (xix (kk := 0) sl_22 (hrs i6 (by omega) (by omega))) ?_
     refine zlv (xlr (u := .int .i64 (t.C i6 0)) pl_3 (hS.rowIn (k := i6) 5 rfl (by omega) (by omega))) ?_
     refine zlv xas ?_
     refine zlt <| zsq <| zsr ?_
     refine zlv (xfb 3 fd_30_3) ?_
     refine zlv (xlb 1 pl_22 hS) ?_
     refine zlv (xln sl_22 hsF) ?_
     refine zlv xmv ?_
     refine zlt <| zbk <| zlp (fun mm M w => ∃ (z : Int) (j7 : Int), mm = ((t.nf - j7).toNat) ∧ (0 ≤ j7) ∧ (j7 ≤ t.nf) ∧ (z = t.C i6 0 + sumTo (fun j => t.C i6 (j + 1) * fv3 (t.F j)) j7.toNat) ∧ (-1073741824 - 18014398509481984 * j7 ≤ z ∧ z ≤ 1073741824 + 18014398509481984 * j7) ∧ M = [(7, .pointer (some ⟨g2, 0, none⟩)), (13, v1), (14, .int .i64 cost), (21, .int .i64 i6), (22, (vv i6)), (23, .int .i64 z), (200, vC), (201, .int .i64 t.nc), (202, .int .i64 i6), (211, vF), (212, .int .i64 t.nf), (213, .int .i64 j7)] ∧ Sat w0 w [.blk g1 [vc, vA, vb], .blk g2 [.int .i64 t.vars, .int .i64 t.den, vB, vF, vC], .own vB 1 3 t.nb (ints t.B), .own vF 1 3 t.nf (ints t.F), .own vC 1 22 t.nc vv, .sem (Frame.rows 3 t.nc vv t.ln t.C), .own v1 1 3 (p.n + p.m) (ints fv3), .own v4 1 3 (p.k + p.n + p.m + 1) (ints cc)]) ⟨(t.C i6 0), 0, rfl, (by omega), (by omega), ?_, (by omega), rfl, hS⟩ ?_
     ·
      show _ = _ + 0; omega
     clear hS w
     rintro mm M w ⟨z, j7, rfl, h70, h71, hzz, hzb, rfl, hS⟩
     refine zsr ?_
     refine zlv xlss ?_
     refine zlt <| zsq ?_
     refine zcif ?_ ?_ <;> intro hc
     ·
      refine zsk <| ztn <| zsq <| zbk <| zsr ?_
      refine zlv xmv ?_
      refine zlv (xix (kk := j7) sl_22 hsF) ?_
      refine zlv (xlr (u := .int .i64 (t.F j7)) pl_3 (hS.rowN 3 rfl)) ?_
      have hfj := hpF j7 h70 (by omega)
      refine zs2 ?_
      refine zlt ?_
      refine zdst [0, 1, 2, 3, 4, 5, 6, 7] [0, 1, 2, 3, 4, 5, 6, 7] 1000 mx_ hS ?_; clear hS; intro w hS
      refine zdv 0 (fun _ => xmv) ?_
      refine zdv 1 (fun _ => xmv) ?_
      refine zdv 2 (fun _ => xmv) ?_
      refine zdv 3 (fun _ => (xadd (r := j7 + 1))) ?_
      refine zdv 4 (fun _ => (xix (kk := j7 + 1) sl_22 (hrs i6 (by omega) (by omega)))) ?_
      refine zdla 5 (fun w hS => (xlr (u := .int .i64 (t.C i6 (j7 + 1))) pl_3 (hS.rowIn (k := i6) 5 rfl (by omega) (by omega)))) ?_
      refine zdv 6 (fun _ => xmv) ?_
      refine zdv 7 (fun _ => xmv) ?_
      refine zdv 8 (fun _ => (xix (kk := (t.F j7)) sl_22 hv1)) ?_
      refine zdla 9 (fun w hS => (xlr (u := .int .i64 (fv3 (t.F j7))) pl_3 (hS.rowN 6 rfl))) ?_
      have hcl := hp1.cell (i := i6) (j := j7 + 1) h60 (by omega) (by omega) (by omega)
      have hvq := hv24 (t.F j7) (by omega) (by omega)
      have hmm := mul_abs (a := t.C i6 (j7 + 1)) (b := fv3 (t.F j7)) (A := 1073741824) (B := 16777216) (by omega) (by omega)
      refine zdv 10 (fun _ => (xmul (r := ((t.C i6 (j7 + 1)) * (fv3 (t.F j7)))) (e := rfl))) ?_
      refine zdv 11 (fun _ => (xadd (r := z + ((t.C i6 (j7 + 1)) * (fv3 (t.F j7)))))) ?_
      refine zdv 12 (fun _ => xas) ?_
      refine zdd <| zbn <| ztn <| zrg ?_
      refine zlv (xadd (r := j7 + 1)) ?_
      refine zlv xmv ?_
      refine zln <| zlq ⟨z + ((t.C i6 (j7 + 1)) * (fv3 (t.F j7))), j7 + 1, rfl, (by omega), (by omega), ?_, (by omega), rfl, hS⟩
      ·
       rw [sumTo_next _ h70, hzz]; omega
     refine zxt <| ztx <| ztx <| zbh <| ztn <| zsr ?_
     refine zs2 ?_
     refine zlt <| zsq <| zsr ?_
     refine zs2 ?_
     refine zlt ?_
     refine zcif ?_ ?_ <;> intro hc
     ·
      refine zrg ?_
      refine zlv xmv ?_
      refine zlv (xfb 2 fd_30_2) ?_
      refine zlv (xlb 1 pl_22 hS) ?_
      refine zlv xmv ?_
      refine zlv (xsub (r := i6 - 1)) ?_
      refine zlv (xix (kk := i6 - 1) sl_22 hsB) ?_
      refine zlv (xlr (u := .int .i64 (t.B (i6 - 1))) pl_3 (hS.rowN 2 rfl)) ?_
      have hbj := hpB (i6 - 1) (by omega) (by omega)
      have hvb := hv24 (t.B (i6 - 1)) (by omega) (by omega)
      refine zlv (xix (kk := (t.B (i6 - 1))) sl_22 hv1) ?_
      refine zlv (xlr (u := .int .i64 (fv3 (t.B (i6 - 1)))) pl_3 (hS.rowN 6 rfl)) ?_
      refine zlv xas ?_
      refine zlz ?_
      refine zs2 ?_
      refine zlv (xfb 1 fd_30_1) ?_
      refine zlv (xlb 1 pl_3 hS) ?_
      have hwd := mul_abs (a := (fv3 (t.B (i6 - 1)))) (b := t.den) (A := 16777216) (B := 1073741824) (by omega) (by omega)
      refine zlv (xmul (r := ((fv3 (t.B (i6 - 1))) * t.den)) (e := rfl)) ?_
      refine zlv xneq ?_
      have hrow := hRc.row hm hva (i := i6) h60 (by omega)
      rw [show j7 = t.nf by omega] at hzz
      first | rw [if_neg (by omega)] at hrow | rw [if_pos (by omega), ← hcost9] at hrow
      refine zlt ?_
      refine zcif ?_ ?_ <;> intro hc
      ·
       refine zsr ?_
       refine zlv xas ?_
       refine zlt <| zrt <| zbr <| ztr <| ztr <| zbr <| ztr <| zf1 ⟨_, rfl, ?_⟩
       exfalso
       omega
      refine zsk <| zbn <| ztn <| zrg ?_
      refine zlv (xadd (r := i6 + 1)) ?_
      refine zlv xmv ?_
      refine zln <| zlq ⟨i6 + 1, rfl, (by omega), (by omega), rfl, hS⟩
     refine zsk <| ztn <| zsr ?_
     refine zs2 ?_
     refine zlv (xfb 1 fd_30_1) ?_
     refine zlv (xlb 1 pl_3 hS) ?_
     have hwd := mul_abs (a := cost) (b := t.den) (A := 16777216) (B := 1073741824) (by omega) (by omega)
     refine zlv (xmul (r := (cost * t.den)) (e := rfl)) ?_
     refine zlv xneq ?_
     have hrow := hRc.row hm hva (i := i6) h60 (by omega)
     rw [show j7 = t.nf by omega] at hzz
     first | rw [if_neg (by omega)] at hrow | rw [if_pos (by omega), ← hcost9] at hrow
     refine zlt ?_
     refine zcif ?_ ?_ <;> intro hc
     ·
      refine zsr ?_
      refine zlv xas ?_
      refine zlt <| zrt <| zbr <| ztr <| ztr <| zbr <| ztr <| zf1 ⟨_, rfl, ?_⟩
      exfalso
      omega
     refine zsk <| zbn <| ztn <| zrg ?_
     refine zlv (xadd (r := i6 + 1)) ?_
     refine zlv xmv ?_
     refine zln <| zlq ⟨i6 + 1, rfl, (by omega), (by omega), rfl, hS⟩
    refine zxt <| ztx <| ztx <| zbh <| ztn <| zsr ?_
    refine zlv xas ?_
    refine zlt <| zrt <| zf1 ⟨_, rfl, ?_⟩
    exact ⟨rfl, hS.nl⟩
   refine zsk <| ztn <| zsq ?_
   refine zdst [0, 1, 2, 3, 4, 5] [0, 1, 2, 3, 4, 5] 19 mx_ hS ?_; clear hS; intro w hS
   refine zdla 0 (fun w hS => (xls 1 st_30 hS)) ?_
   have hq2 := Int.tmod_nonneg t.nb hpi.1; have hq3 := Int.tmod_lt_of_pos (fp i0) (show 0 < t.nb by omega); have hq4 := Int.tmod_nonneg t.nf hq0; have hq5 := Int.tmod_lt_of_pos ((fp i0).tdiv 16) (show 0 < t.nf by omega)
   refine zdv 1 (fun _ => xmv) ?_
   refine zdv 2 (fun _ => (xcv so_5 it_3)) ?_
   refine zdv 3 (fun _ => (xfb 2 fd_30_2)) ?_
   refine zdla 4 (fun w hS => (xlb 1 pl_22 hS)) ?_
   refine zdv 5 (fun _ => (xln sl_22 hsB)) ?_
   refine zdv 6 (fun _ => (xrem (r := (Int.tmod (fp i0) t.nb)))) ?_
   refine zdv 7 (fun _ => xmv) ?_
   refine zdv 8 (fun _ => (xquo8 (r := (Int.tdiv (fp i0) 16)))) ?_
   refine zdv 9 (fun _ => (xcv so_5 it_3)) ?_
   refine zdv 10 (fun _ => (xfb 3 fd_30_3)) ?_
   refine zdla 11 (fun w hS => (xlb 1 pl_22 hS)) ?_
   refine zdv 12 (fun _ => (xln sl_22 hsF)) ?_
   refine zdv 13 (fun _ => (xrem (r := (Int.tmod (Int.tdiv (fp i0) 16) t.nf)))) ?_
   refine zdfk (r := [14, 18]) ((zdn1 ?_ (zdn1 ?_ zdn0)))
   ·
    refine zkc (xc0 cl_10) (c_pivot (t := t) (row := (Int.tmod (fp i0) t.nb)) (col := (Int.tmod (Int.tdiv (fp i0) 16) t.nf)) w (⟨(hS.rowN 2 rfl), (hS.rowN 3 rfl), (⟨(hS.rowN 4 rfl), fun k k0 k1 => hS.rowIn 5 rfl k0 k1, fun k k0 k1 => hS.roomIn 5 rfl k0 k1⟩ : MAt _ vC t.nc vv t.ln t.C)⟩ : TAt _ vB vF vC vv t) (by omega) (by omega)) ?_; rintro _ w ⟨vBk2, vFk2, vCk2, vvk2, tk2, ek2, rfl, hpvk2, hsBk2, hsFk2, hsCk2, hS'⟩
    replace hS : Sat w0 w [.blk g1 [vc, vA, vb], .blk g2 [.int .i64 t.vars, .int .i64 t.den, vB, vF, vC], .own vB 1 3 t.nb (ints t.B), .own vF 1 3 t.nf (ints t.F), .own vC 1 22 t.nc vv, .sem (Frame.rows 3 t.nc vv t.ln t.C), .own vBk2 1 3 tk2.nb (ints tk2.B), .own vFk2 1 3 tk2.nf (ints tk2.F), .own vCk2 1 22 tk2.nc vvk2, .sem (Frame.rows 3 tk2.nc vvk2 tk2.ln tk2.C)] := hS.comp hS'; clear hS'
    have hrsk2 := fun k (k0 : 0 ≤ k) (k1 : k < tk2.nc) => hS.slhIn 9 rfl k0 k1
    refine ⟨⟨fun _ => hS.pk [0, 1, 2, 3, 4, 5], hS.pk [0, 1, 2, 3, 4, 5]⟩, ?_⟩
    refine zdv 15 (fun _ => xmv) ?_
    refine zdv 16 (fun _ => xex) ?_
    refine zdv 17 (fun _ => xex) ?_
    refine zda 18 (xal (cs := [_, _, _, _, _]) el_30 hS) ?_; rintro _ w ⟨g3, rfl, hS⟩
    replace hS := hS.n11
    refine ⟨⟨fun _ => hS.pk [0, 1, 2, 3, 4, 5], hS.pk [0, 1, 2, 3, 4, 5]⟩, ?_⟩
    refine zde 19 (xsw 10 st_30 hS (hd := (ones_cons rfl (ones_cons rfl (ones_cons hsBk2.one (ones_cons hsFk2.one (ones_cons hsCk2.one ones_nil))))))) ?_; clear hS; rintro w hS
    replace hS := hS.n11
    refine ⟨⟨fun h => absurd h (by decide), hS.pk [0, 1, 2, 3, 4, 5]⟩, ?_⟩
    refine zdv 20 (fun _ => xas) ?_
    refine zdd <| ztn <| zsr ?_
    refine zlv xmv ?_
    have her := hRc.errs hpvk2
    refine zlv xeql ?_
    refine zlt ?_
    refine zcif ?_ ?_ <;> intro hc
    ·
     refine zrg ?_
     refine zlv (xls 10 st_30 hS) ?_
     refine zle (xsw 1 st_30 hS (hd := (ones_cons rfl (ones_cons rfl (ones_cons hsBk2.one (ones_cons hsFk2.one (ones_cons hsCk2.one ones_nil))))))) ?_; clear hS; rintro w hS
     replace hS := hS.n11
     refine zln <| zbn <| ztn <| zrg ?_
     refine zlv (xadd (r := i0 + 1)) ?_
     refine zlv xmv ?_
     refine zln <| zlq ⟨tk2, vBk2, vFk2, vCk2, vvk2, i0 + 1, rfl, ?_, ?_, ?_, ?_, (by omega), (by omega), rfl, hS.pk [0, 1, 6, 7, 8, 9]⟩
     ·
      exact hRc.piv hpvk2 (by omega)
     ·
      exact hsBk2
     ·
      exact hsFk2
     ·
      exact hsCk2
    refine zsr ?_
    refine zs3 ?_
    refine zlb 86 ?_ ?_ <;> intro hc
    ·
     refine zs3 ?_
     refine zlt ?_
     refine zcif ?_ ?_ <;> intro hc
     ·
      refine zsr ?_
      refine zlv xas ?_
      refine zlt <| zrt <| zbr <| ztr <| ztr <| zbr <| ztr <| zf1 ⟨_, rfl, ?_⟩
      exfalso
      omega
     refine zsk <| zbn <| ztn <| zrg ?_
     refine zlv (xadd (r := i0 + 1)) ?_
     refine zlv xmv ?_
     refine zln <| zlq ⟨t, vB, vF, vC, vv, i0 + 1, rfl, ?_, ?_, ?_, ?_, (by omega), (by omega), rfl, hS.pk [0, 1, 2, 3, 4, 5]⟩
     ·
      exact hRc
     ·
      exact hsB
     ·
      exact hsF
     ·
      exact hsC
    iterate 2 refine zlo ?_
    refine zlv xpf ?_
    refine zlt <| zcf <| zsk <| zbn <| ztn <| zrg ?_
    refine zlv (xadd (r := i0 + 1)) ?_
    refine zlv xmv ?_
    refine zln <| zlq ⟨t, vB, vF, vC, vv, i0 + 1, rfl, ?_, ?_, ?_, ?_, (by omega), (by omega), rfl, hS.pk [0, 1, 2, 3, 4, 5]⟩
    ·
     exact hRc
    ·
     exact hsB
    ·
     exact hsF
    ·
     exact hsC
   refine zka (xal (cs := [_, _, _, _, _]) el_30 hS) ?_; rintro _ w ⟨g3, rfl, hS⟩
   replace hS := hS.n7
   refine ⟨⟨fun _ => hS.pk [0, 1, 2, 3, 4, 5], hS.pk [0, 1, 2, 3, 4, 5]⟩, ?_⟩
   refine zdc 14 (xc0 cl_10) (c_pivot (t := t) (row := (Int.tmod (fp i0) t.nb)) (col := (Int.tmod (Int.tdiv (fp i0) 16) t.nf)) w (⟨(hS.rowN 2 rfl), (hS.rowN 3 rfl), (⟨(hS.rowN 4 rfl), fun k k0 k1 => hS.rowIn 5 rfl k0 k1, fun k k0 k1 => hS.roomIn 5 rfl k0 k1⟩ : MAt _ vC t.nc vv t.ln t.C)⟩ : TAt _ vB vF vC vv t) (by omega) (by omega)) ?_; rintro _ w ⟨vBk2, vFk2, vCk2, vvk2, tk2, ek2, rfl, hpvk2, hsBk2, hsFk2, hsCk2, hS'⟩
   replace hS : Sat w0 w [.blk g1 [vc, vA, vb], .blk g2 [.int .i64 t.vars, .int .i64 t.den, vB, vF, vC], .own vB 1 3 t.nb (ints t.B), .own vF 1 3 t.nf (ints t.F), .own vC 1 22 t.nc vv, .sem (Frame.rows 3 t.nc vv t.ln t.C), .blk g3 [.int .i64 0, .int .i64 0, .slice none 0 0, .slice none 0 0, .slice none 0 0], .own vBk2 1 3 tk2.nb (ints tk2.B), .own vFk2 1 3 tk2.nf (ints tk2.F), .own vCk2 1 22 tk2.nc vvk2, .sem (Frame.rows 3 tk2.nc vvk2 tk2.ln tk2.C)] := hS.comp hS'; clear hS'
   have hrsk2 := fun k (k0 : 0 ≤ k) (k1 : k < tk2.nc) => hS.slhIn 10 rfl k0 k1
   refine ⟨⟨fun _ => hS.pk [0, 1, 2, 3, 4, 5], hS.pk [0, 1, 2, 3, 4, 5]⟩, ?_⟩
   refine zdv 15 (fun _ => xmv) ?_
   refine zdv 16 (fun _ => xex) ?_
   refine zdv 17 (fun _ => xex) ?_
   refine zde 19 (xsw 6 st_30 hS (hd := (ones_cons rfl (ones_cons rfl (ones_cons hsBk2.one (ones_cons hsFk2.one (ones_cons hsCk2.one ones_nil))))))) ?_; clear hS; rintro w hS
   replace hS := hS.n11
   refine ⟨⟨fun h => absurd h (by decide), hS.pk [0, 1, 2, 3, 4, 5]⟩, ?_⟩
   refine zdv 20 (fun _ => xas) ?_
   refine zdd <| ztn <| zsr ?_
   refine zlv xmv ?_
   have her := hRc.errs hpvk2
   refine zlv xeql ?_
   refine zlt ?_
   refine zcif ?_ ?_ <;> intro hc
   ·
    refine zrg ?_
    refine zlv (xls 6 st_30 hS) ?_
    refine zle (xsw 1 st_30 hS (hd := (ones_cons rfl (ones_cons rfl (ones_cons hsBk2.one (ones_cons hsFk2.one (ones_cons hsCk2.one ones_nil))))))) ?_; clear hS; rintro w hS
    replace hS := hS.n11
    refine zln <| zbn <| ztn <| zrg ?_
    refine zlv (xadd (r := i0 + 1)) ?_
    refine zlv xmv ?_
    refine zln <| zlq ⟨tk2, vBk2, vFk2, vCk2, vvk2, i0 + 1, rfl, ?_, ?_, ?_, ?_, (by omega), (by omega), rfl, hS.pk [0, 1, 7, 8, 9, 10]⟩
    ·
     exact hRc.piv hpvk2 (by omega)
    ·
     exact hsBk2
    ·
     exact hsFk2
    ·
     exact hsCk2
   refine zsr ?_
   refine zs3 ?_
   refine zlb 86 ?_ ?_ <;> intro hc
   ·
    refine zs3 ?_
    refine zlt ?_
    refine zcif ?_ ?_ <;> intro hc
    ·
     refine zsr ?_
     refine zlv xas ?_
     refine zlt <| zrt <| zbr <| ztr <| ztr <| zbr <| ztr <| zf1 ⟨_, rfl, ?_⟩
     exfalso
     omega
    refine zsk <| zbn <| ztn <| zrg ?_
    refine zlv (xadd (r := i0 + 1)) ?_
    refine zlv xmv ?_
    refine zln <| zlq ⟨t, vB, vF, vC, vv, i0 + 1, rfl, ?_, ?_, ?_, ?_, (by omega), (by omega), rfl, hS.pk [0, 1, 2, 3, 4, 5]⟩
    ·
     exact hRc
    ·
     exact hsB
    ·
     exact hsF
    ·
     exact hsC
   iterate 2 refine zlo ?_
   refine zlv xpf ?_
   refine zlt <| zcf <| zsk <| zbn <| ztn <| zrg ?_
   refine zlv (xadd (r := i0 + 1)) ?_
   refine zlv xmv ?_
   refine zln <| zlq ⟨t, vB, vF, vC, vv, i0 + 1, rfl, ?_, ?_, ?_, ?_, (by omega), (by omega), rfl, hS.pk [0, 1, 2, 3, 4, 5]⟩
   ·
    exact hRc
   ·
    exact hsB
   ·
    exact hsF
   ·
    exact hsC
  refine zxt <| ztx <| ztx <| zbh <| ztn <| zsr ?_
  refine zlv (xfb 0 fd_25_0) ?_
  refine zlv (xlb 0 pl_22 hS) ?_
  refine zlv (xln sl_22 hL.c.slh) ?_
  refine zlv (xfb 1 fd_25_1) ?_
  refine zlv (xlb 0 pl_23 hS) ?_
  refine zlv (xln sl_23 hL.A.row.slh) ?_
  refine zlv (xadd (r := p.n + p.m)) ?_
  refine zla (xmk sl_22 el_3 hS) ?_; rintro v1 w ⟨hS, hv1⟩
  replace hS := hS.n7
  refine zlv xas ?_
  refine zlz ?_
  refine zlv xas ?_
  refine zlt <| zsq <| zsr ?_
  refine zlv (xfb 0 fd_25_0) ?_
  refine zlv (xlb 0 pl_22 hS) ?_
  refine zlv (xln sl_22 hL.c.slh) ?_
  refine zlv xmv ?_
  refine zlt <| zbk <| zlp (fun mm M w => ∃ (cost : Int) (i : Int) (fv : Int → Int), mm = ((p.n - i).toNat) ∧ (0 ≤ i) ∧ (i ≤ p.n) ∧ (∀ q, 0 ≤ q → q < p.n + p.m → fv q = if q < i then (xx nx fx) q else 0) ∧ (cost = dotp p.c (xx nx fx) i.toNat) ∧ (0 ≤ cost ∧ cost ≤ 99000000 * i) ∧ M = [(2, vx), (3, .pointer (some ⟨g1, 0, none⟩)), (7, .pointer (some ⟨g2, 0, none⟩)), (13, v1), (14, .int .i64 cost), (101, .int .i64 p.n), (102, .int .i64 i)] ∧ Sat w0 w [.blk g1 [vc, vA, vb], .blk g2 [.int .i64 t.vars, .int .i64 t.den, vB, vF, vC], .own vB 1 3 t.nb (ints t.B), .own vF 1 3 t.nf (ints t.F), .own vC 1 22 t.nc vv, .sem (Frame.rows 3 t.nc vv t.ln t.C), .own v1 1 3 (p.n + p.m) (ints fv)]) ⟨0, 0, (fun _ => 0), rfl, (by omega), (by omega), ?_, ?_, (by omega), rfl, hS⟩ ?_
  ·
   intro q q0 q1; rw [if_neg (by omega)]
  ·
   rfl
  clear hS w
  rintro mm M w ⟨cost, i, fv, rfl, i0_, i1_, hz2, hcost, hcb, rfl, hS⟩
  refine zsr ?_
  refine zlv xlss ?_
  refine zlt <| zsq ?_
  refine zcif ?_ ?_ <;> intro hc
  ·
   refine zsk <| ztn <| zsq <| zbk <| zsr ?_
   refine zs2 ?_
   refine zlt <| zsq <| zsr ?_
   refine zs2 ?_
   refine zlv (xln sl_26 hX.slh) ?_
   refine zlv xlss ?_
   refine zlt ?_
   refine zcif ?_ ?_ <;> intro hc
   ·
    refine zrg ?_
    refine zs4 ?_
    refine zlv (xix (kk := i) sl_26 hX.slh) ?_
    refine zlv (xlr (u := .int .u8 (fx i)) pl_5 (hX.below hS.below)) ?_
    have hxi := hxb i
    refine zlv (xcv so_5 it_3) ?_
    refine zlv (xrem (r := (Int.tmod (fx i) 100))) ?_
    refine zlv (xix (kk := i) sl_22 hv1) ?_
    refine zle (xso 6 pl_3 hS (upd_ints _ _ _)) ?_; clear hS; rintro w hS
    replace hS := hS.n7
    refine zlt ?_
    refine zdst [0, 1, 2, 3, 4, 5, 6] [0, 1, 2, 3, 4, 5, 6] 1000 mx_ hS ?_; clear hS; intro w hS
    refine zdv 0 (fun _ => xmv) ?_
    refine zdv 1 (fun _ => (xfb 0 fd_25_0)) ?_
    refine zdla 2 (fun w hS => (xlb 0 pl_22 hS)) ?_
    refine zdv 3 (fun _ => xmv) ?_
    refine zdv 4 (fun _ => (xix (kk := i) sl_22 hL.c.slh)) ?_
    refine zdla 5 (fun w hS => (xlr (u := .int .i64 (p.c i)) pl_3 (hL.c.below hS.below))) ?_
    refine zdv 6 (fun _ => xmv) ?_
    refine zdv 7 (fun _ => xmv) ?_
    refine zdv 8 (fun _ => (xix (kk := i) sl_22 hv1)) ?_
    refine zdla 9 (fun w hS => (xlr (u := .int .i64 ((upd fv i (Int.tmod (fx i) 100)) i)) pl_3 (hS.rowN 6 rfl))) ?_
    have hzi : (upd fv i (Int.tmod (fx i) 100)) i = (xx nx fx) i := by first | (rw [upd_self]; unfold xx; rw [if_pos (by omega)]) | (rw [hz2 i (by omega) (by omega), if_neg (by omega)]; unfold xx; rw [if_neg (by omega)])
    have hxr := xx_rng hxb (nx := nx) i
    have hci := hl.c i i0_ (by omega)
    have hcr := mul_rng (a := p.c i) (b := (xx nx fx) i) (A := 1000000) (B := 99) (by omega) (by omega) (by omega) (by omega)
    rw [← hzi] at hcr
    refine zdv 10 (fun _ => (xmul (r := ((p.c i) * ((upd fv i (Int.tmod (fx i) 100)) i))) (e := rfl))) ?_
    refine zdv 11 (fun _ => (xadd (r := cost + ((p.c i) * ((upd fv i (Int.tmod (fx i) 100)) i))))) ?_
    refine zdv 12 (fun _ => xas) ?_
    refine zdd <| zbn <| ztn <| zrg ?_
    refine zlv (xadd (r := i + 1)) ?_
    refine zlv xmv ?_
    refine zln <| zlq ⟨cost + ((p.c i) * ((upd fv i (Int.tmod (fx i) 100)) i)), i + 1, (upd fv i (Int.tmod (fx i) 100)), rfl, (by omega), (by omega), ?_, ?_, (by omega), rfl, hS⟩
    ·
     intro q q0 q1; by_cases e : q = i
     · rw [e, hzi, if_pos (by omega)]
     · first | rw [upd_ne _ _ e] | skip
       rw [hz2 q q0 q1]
       by_cases e2 : q < i
       · rw [if_pos e2, if_pos (by omega)]
       · rw [if_neg e2, if_neg (by omega)]
    ·
     rw [dotp_next _ _ i0_, ← hcost, ← hzi]
   refine zsk <| ztn ?_
   refine zdst [0, 1, 2, 3, 4, 5, 6] [0, 1, 2, 3, 4, 5, 6] 1000 mx_ hS ?_; clear hS; intro w hS
   refine zdv 0 (fun _ => xmv) ?_
   refine zdv 1 (fun _ => (xfb 0 fd_25_0)) ?_
   refine zdla 2 (fun w hS => (xlb 0 pl_22 hS)) ?_
   refine zdv 3 (fun _ => xmv) ?_
   refine zdv 4 (fun _ => (xix (kk := i) sl_22 hL.c.slh)) ?_
   refine zdla 5 (fun w hS => (xlr (u := .int .i64 (p.c i)) pl_3 (hL.c.below hS.below))) ?_
   refine zdv 6 (fun _ => xmv) ?_
   refine zdv 7 (fun _ => xmv) ?_
   refine zdv 8 (fun _ => (xix (kk := i) sl_22 hv1)) ?_
   refine zdla 9 (fun w hS => (xlr (u := .int .i64 (fv i)) pl_3 (hS.rowN 6 rfl))) ?_
   have hzi : fv i = (xx nx fx) i := by first | (rw [upd_self]; unfold xx; rw [if_pos (by omega)]) | (rw [hz2 i (by omega) (by omega), if_neg (by omega)]; unfold xx; rw [if_neg (by omega)])
   have hxr := xx_rng hxb (nx := nx) i
   have hci := hl.c i i0_ (by omega)
   have hcr := mul_rng (a := p.c i) (b := (xx nx fx) i) (A := 1000000) (B := 99) (by omega) (by omega) (by omega) (by omega)
   rw [← hzi] at hcr
   refine zdv 10 (fun _ => (xmul (r := ((p.c i) * (fv i))) (e := rfl))) ?_
   refine zdv 11 (fun _ => (xadd (r := cost + ((p.c i) * (fv i))))) ?_
   refine zdv 12 (fun _ => xas) ?_
   refine zdd <| zbn <| ztn <| zrg ?_
   refine zlv (xadd (r := i + 1)) ?_
   refine zlv xmv ?_
   refine zln <| zlq ⟨cost + ((p.c i) * (fv i)), i + 1, fv, rfl, (by omega), (by omega), ?_, ?_, (by omega), rfl, hS⟩
   ·
    intro q q0 q1; by_cases e : q = i
    · rw [e, hzi, if_pos (by omega)]
    · first | rw [upd_ne _ _ e] | skip
      rw [hz2 q q0 q1]
      by_cases e2 : q < i
      · rw [if_pos e2, if_pos (by omega)]
      · rw [if_neg e2, if_neg (by omega)]
   ·
    rw [dotp_next _ _ i0_, ← hcost, ← hzi]
  refine zxt <| ztx <| ztx <| zbh <| ztn <| zsq <| zsr ?_
  refine zlv (xfb 1 fd_25_1) ?_
  have hcost9 : cost = dotp p.c (xx nx fx) p.n.toNat := by rw [hcost, show i = p.n by omega]
  refine zlv (xlb 0 pl_23 hS) ?_
  refine zlv (xln sl_23 hL.A.row.slh) ?_
  refine zlv xmv ?_
  refine zlt <| zbk <| zlp (fun mm M w => ∃ (r : Int) (fv3 : Int → Int), mm = ((p.m - r).toNat) ∧ (0 ≤ r) ∧ (r ≤ p.m) ∧ (∀ q, 0 ≤ q → q < p.n + p.m → fv3 q = if q < p.n + r then allv p (xx nx fx) 1 q else 0) ∧ M = [(3, .pointer (some ⟨g1, 0, none⟩)), (7, .pointer (some ⟨g2, 0, none⟩)), (13, v1), (14, .int .i64 cost), (132, vA), (133, .int .i64 p.m), (134, .int .i64 r)] ∧ Sat w0 w [.blk g1 [vc, vA, vb], .blk g2 [.int .i64 t.vars, .int .i64 t.den, vB, vF, vC], .own vB 1 3 t.nb (ints t.B), .own vF 1 3 t.nf (ints t.F), .own vC 1 22 t.nc vv, .sem (Frame.rows 3 t.nc vv t.ln t.C), .own v1 1 3 (p.n + p.m) (ints fv3)]) ⟨0, fv, rfl, (by omega), (by omega), ?_, rfl, hS⟩ ?_
  ·
   intro q q0 q1; rw [hz2 q q0 q1]
   by_cases e2 : q < i
   · rw [if_pos e2, if_pos (by omega), allv_low (by omega)]
   · rw [if_neg e2, if_neg (by omega)]
  clear hS w
  rintro mm M w ⟨r, fv3, rfl, r0, r1, hz3, rfl, hS⟩
  refine zsr ?_
  refine zlv xlss ?_
  refine zlt <| zsq ?_
  refine zcif ?_ ?_ <;> intro hc
  ·
   refine zsk <| ztn <| zsq <| zbk <| zsr ?_
   refine zlv xmv ?_
   refine zlv (xix (kk := r) sl_23 hL.A.row.slh) ?_
   refine zlv (xlr (u := (vq r)) pl_22 (hL.A.row.below hS.below)) ?_
   refine zs2 ?_
   refine zlt <| zsq <| zsr ?_
   refine zlv xmv ?_
   refine zlv (xln sl_22 (hL.A.p r (by omega) (by omega)).slh) ?_
   refine zlv xmv ?_
   refine zlt <| zbk <| zlp (fun mm M w => ∃ (j : Int) (fv4 : Int → Int), mm = ((p.n - j).toNat) ∧ (0 ≤ j) ∧ (j ≤ p.n) ∧ (∀ q, q ≠ p.n + r → fv4 q = fv3 q) ∧ (fv4 (p.n + r) = dotp (p.A r) (xx nx fx) j.toNat) ∧ (-99000000 * j ≤ fv4 (p.n + r) ∧ fv4 (p.n + r) ≤ 99000000 * j) ∧ M = [(3, .pointer (some ⟨g1, 0, none⟩)), (7, .pointer (some ⟨g2, 0, none⟩)), (13, v1), (14, .int .i64 cost), (16, .int .i64 r), (17, (vq r)), (132, vA), (133, .int .i64 p.m), (134, .int .i64 r), (140, .int .i64 (p.ln r)), (141, .int .i64 j)] ∧ Sat w0 w [.blk g1 [vc, vA, vb], .blk g2 [.int .i64 t.vars, .int .i64 t.den, vB, vF, vC], .own vB 1 3 t.nb (ints t.B), .own vF 1 3 t.nf (ints t.F), .own vC 1 22 t.nc vv, .sem (Frame.rows 3 t.nc vv t.ln t.C), .own v1 1 3 (p.n + p.m) (ints fv4)]) ⟨0, fv3, rfl, (by omega), (by omega), ?_, ?_, ?_, rfl, hS⟩ ?_
   ·
    intro q _; rfl
   ·
    rw [hz3 _ (by omega) (by omega), if_neg (by omega)]; rfl
   ·
    rw [hz3 _ (by omega) (by omega), if_neg (by omega)]; omega
   clear hS w
   rintro mm M w ⟨j, fv4, rfl, j0, j1, hz4, hz5, hz5b, rfl, hS⟩
   have hlr := (hl.rows r r0 (by omega)).1
   refine zsr ?_
   refine zlv xlss ?_
   refine zlt <| zsq ?_
   refine zcif ?_ ?_ <;> intro hc
   ·
    refine zsk <| ztn <| zsq <| zbk <| zsr ?_
    refine zs2 ?_
    refine zlt ?_
    refine zdst [0, 1, 2, 3, 4, 5, 6] [0, 1, 2, 3, 4, 5] 19 mx_ hS ?_; clear hS; intro w hS
    refine zdv 0 (fun _ => xmv) ?_
    refine zdv 1 (fun _ => (xfb 0 fd_25_0)) ?_
    refine zdla 2 (fun w hS => (xlb 0 pl_22 hS)) ?_
    refine zdv 3 (fun _ => (xln sl_22 hL.c.slh)) ?_
    refine zdv 4 (fun _ => xmv) ?_
    refine zdv 5 (fun _ => (xadd (r := p.n + r))) ?_
    refine zdv 6 (fun _ => (xix (kk := p.n + r) sl_22 hv1)) ?_
    refine zdl 7 (fun w hS => (xlr (u := .int .i64 (fv4 (p.n + r))) pl_3 (hS.rowN 6 rfl))) ?_
    refine zdv 8 (fun _ => xmv) ?_
    refine zdv 9 (fun _ => xmv) ?_
    refine zdv 10 (fun _ => (xix (kk := j) sl_22 (hL.A.p r (by omega) (by omega)).slh)) ?_
    refine zdla 11 (fun w hS => (xlr (u := .int .i64 ((p.A r) j)) pl_3 ((hL.A.p r (by omega) (by omega)).below hS.below))) ?_
    refine zdv 12 (fun _ => xmv) ?_
    refine zdv 13 (fun _ => xmv) ?_
    refine zdv 14 (fun _ => (xix (kk := j) sl_22 hv1)) ?_
    refine zdl 15 (fun w hS => (xlr (u := .int .i64 (fv4 j)) pl_3 (hS.rowN 6 rfl))) ?_
    have hzj : fv4 j = (xx nx fx) j := by rw [hz4 j (by omega), hz3 j (by omega) (by omega), if_pos (by omega), allv_low (by omega)]
    have hxr := xx_rng hxb (nx := nx) j
    have har := (hl.rows r r0 (by omega)).2 j j0 (by omega)
    have hcr := mul_abs (a := p.A r j) (b := (xx nx fx) j) (A := 1000000) (B := 99) (by omega) (by omega)
    rw [← hzj] at hcr
    refine zdv 16 (fun _ => (xmul (r := (((p.A r) j) * (fv4 j))) (e := rfl))) ?_
    refine zdv 17 (fun _ => (xadd (r := fv4 (p.n + r) + (((p.A r) j) * (fv4 j))))) ?_
    refine zdv 18 (fun _ => (xix (kk := p.n + r) sl_22 hv1)) ?_
    refine zde 19 (xso 6 pl_3 hS (upd_ints _ _ _)) ?_; clear hS; rintro w hS
    replace hS := hS.n7
    refine ⟨⟨fun h => absurd h (by decide), hS.pk [0, 1, 2, 3, 4, 5]⟩, ?_⟩
    refine zdd <| zbn <| ztn <| zrg ?_
    refine zlv (xadd (r := j + 1)) ?_
    refine zlv xmv ?_
    refine zln <| zlq ⟨j + 1, (upd fv4 (p.n + r) (fv4 (p.n + r) + (((p.A r) j) * (fv4 j)))), rfl, (by omega), (by omega), ?_, ?_, ?_, rfl, hS⟩
    ·
     intro q hq; rw [upd_ne _ _ hq]; exact hz4 q hq
    ·
     rw [upd_self, dotp_next _ _ j0, ← hz5, ← hzj]
    ·
     rw [upd_self]; omega
   refine zxt <| ztx <| ztx <| zbh <| ztn ?_
   refine zdst [0, 1, 2, 3, 4, 5, 6] [0, 1, 2, 3, 4, 5] 15 mx_ hS ?_; clear hS; intro w hS
   refine zdv 0 (fun _ => xmv) ?_
   refine zdv 1 (fun _ => (xfb 0 fd_25_0)) ?_
   refine zdla 2 (fun w hS => (xlb 0 pl_22 hS)) ?_
   refine zdv 3 (fun _ => (xln sl_22 hL.c.slh)) ?_
   refine zdv 4 (fun _ => xmv) ?_
   refine zdv 5 (fun _ => (xadd (r := p.n + r))) ?_
   refine zdv 6 (fun _ => (xix (kk := p.n + r) sl_22 hv1)) ?_
   refine zdl 7 (fun w hS => (xlr (u := .int .i64 (fv4 (p.n + r))) pl_3 (hS.rowN 6 rfl))) ?_
   have hbr := hl.b r r0 (by omega)
   refine zdv 8 (fun _ => (xfb 2 fd_25_2)) ?_
   refine zdla 9 (fun w hS => (xlb 0 pl_22 hS)) ?_
   refine zdv 10 (fun _ => xmv) ?_
   refine zdv 11 (fun _ => (xix (kk := r) sl_22 hL.b.slh)) ?_
   refine zdla 12 (fun w hS => (xlr (u := .int .i64 (p.b r)) pl_3 (hL.b.below hS.below))) ?_
   refine zdv 13 (fun _ => (xsub (r := fv4 (p.n + r) - (p.b r)))) ?_
   refine zdv 14 (fun _ => (xix (kk := p.n + r) sl_22 hv1)) ?_
   refine zde 15 (xso 6 pl_3 hS (upd_ints _ _ _)) ?_; clear hS; rintro w hS
   replace hS := hS.n7
   refine ⟨⟨fun h => absurd h (by decide), hS.pk [0, 1, 2, 3, 4, 5]⟩, ?_⟩
   refine zdd <| zbn <| ztn <| zrg ?_
   refine zlv (xadd (r := r + 1)) ?_
   refine zlv xmv ?_
   refine zln <| zlq ⟨r + 1, (upd fv4 (p.n + r) (fv4 (p.n + r) - (p.b r))), rfl, (by omega), (by omega), ?_, rfl, hS⟩
   ·
    intro q q0 q1; by_cases e : q = p.n + r
    · rw [e, upd_self, hz5, if_pos (by omega), allv_high r0, show j = p.n by omega]
    · rw [upd_ne _ _ e, hz4 q e, hz3 q q0 q1]
      by_cases e2 : q < p.n + r
      · rw [if_pos e2, if_pos (by omega)]
      · rw [if_neg e2, if_neg (by omega)]
  refine zxt <| ztx <| ztx <| zbh <| ztn <| zsq <| zsr ?_
  refine zlv xmv ?_
  refine zla (xli (n := 1) (len := 1) (pv := [(0, .int .i64 cost)]) (cs := [.int .i64 cost]) (c := ints (fun _ => cost)) sl_22 el_3 hS) ?_; rintro v2 w ⟨hS, hv2⟩
  replace hS := hS.n8
  refine zlv (xfb 2 fd_25_2) ?_
  refine zlv (xlb 0 pl_22 hS) ?_
  refine zla (xap 7 (r := p.k + 1) (f := cat (1 * 1) (ints (fun _ => cost)) (ints p.b)) sl_22 el_3 hS (hL.b.below hS.below) rfl) ?_; rintro v3 w ⟨hS, hv3⟩
  replace hS := hS.n8
  refine zlv xmv ?_
  refine zla (xap 7 (r := p.k + p.n + p.m + 1) (f := cat ((p.k + 1) * 1) (cat (1 * 1) (ints (fun _ => cost)) (ints p.b)) (ints fv3)) sl_22 el_3 hS (hS.rowN 6 rfl) rfl) ?_; rintro v4 w ⟨hS, hv4⟩
  replace hS := hS.n8
  refine zlv (xln sl_22 hv4) ?_
  refine zlv xmv ?_
  refine zlt <| zbk ?_
  obtain ⟨cc, hcc⟩ : ∃ cc : Int → Int, cc = (cat (p.k + 1) (cat 1 (fun _ => cost) p.b) fv3) := ⟨_, rfl⟩
  replace hS := hS.recont 7 rfl (d := ints cc) (fun k k0 k1 => by rw [hcc]; unfold ints cat; simp only [Int.mul_one]; split; (split <;> rfl); rfl)
  replace hS := hS.n8
  refine zlp (fun mm M w => ∃ (k : Int), mm = ((1 + p.k + (p.n + p.m) - k).toNat) ∧ (0 ≤ k) ∧ (k ≤ 1 + p.k + (p.n + p.m)) ∧ (∀ q, 0 ≤ q → q < k → -16777216 ≤ cc q ∧ cc q ≤ 16777216) ∧ M = [(7, .pointer (some ⟨g2, 0, none⟩)), (13, v1), (14, .int .i64 cost), (186, v4), (187, .int .i64 (p.k + p.n + p.m + 1)), (188, .int .i64 k)] ∧ Sat w0 w [.blk g1 [vc, vA, vb], .blk g2 [.int .i64 t.vars, .int .i64 t.den, vB, vF, vC], .own vB 1 3 t.nb (ints t.B), .own vF 1 3 t.nf (ints t.F), .own vC 1 22 t.nc vv, .sem (Frame.rows 3 t.nc vv t.ln t.C), .own v1 1 3 (p.n + p.m) (ints fv3), .own v4 1 3 (p.k + p.n + p.m + 1) (ints cc)]) ⟨0, rfl, (by omega), (by omega), ?_, rfl, hS⟩ ?_
  ·
   intro q q0 q1; omega
  clear hS w
  rintro mm M w ⟨k, rfl, k0, k1, hkk, rfl, hS⟩
  refine zsr ?_
  refine zlv xlss ?_
  refine zlt <| zsq ?_
  refine zcif ?_ ?_ <;> intro hc
  ·
   refine zsk <| ztn <| zsq <| zbk <| zsr ?_
   refine zlv (xix (kk := k) sl_22 hv4) ?_
   refine zlv (xlr (u := .int .i64 (cc k)) pl_3 (hS.rowN 7 rfl)) ?_
   refine zlv xas ?_
   refine zlz ?_
   refine zs3 ?_
   refine zlb 194 ?_ ?_ <;> intro hc
   ·
    iterate 2 refine zlo ?_
    refine zlv xpt ?_
    refine zlt <| zct <| zsr ?_
    refine zlv xas ?_
    refine zlt <| zrt <| zbr <| ztr <| ztr <| zbr <| ztr <| zf1 ⟨_, rfl, ?_⟩
    exact ⟨rfl, hS.nl⟩
   refine zs3 ?_
   refine zlt ?_
   refine zcif ?_ ?_ <;> intro hc
   ·
    refine zsr ?_
    refine zlv xas ?_
    refine zlt <| zrt <| zbr <| ztr <| ztr <| zbr <| ztr <| zf1 ⟨_, rfl, ?_⟩
    exact ⟨rfl, hS.nl⟩
   refine zsk <| zbn <| ztn <| zrg ?_
   refine zlv (xadd (r := k + 1)) ?_
   refine zlv xmv ?_
   refine zln <| zlq ⟨k + 1, rfl, (by omega), (by omega), ?_, rfl, hS⟩
   ·
    intro q q0 q1; by_cases e : q = k
    · rw [e]; omega
    · exact hkk q q0 (by omega)
  refine zxt <| ztx <| ztx <| zbh <| ztn <| zsq <| zsr ?_
  refine zlv (xfb 4 fd_30_4) ?_
  have hc24 : -16777216 ≤ cost ∧ cost ≤ 16777216 := by
    have h9 := hkk 0 (by omega) (by omega)
    rw [hcc] at h9; unfold cat at h9; rw [if_pos (by omega), if_pos (by omega)] at h9; exact h9
  have hv24 : ∀ q, 0 ≤ q → q < p.n + p.m → -16777216 ≤ fv3 q ∧ fv3 q ≤ 16777216 := fun q q0 q1 => by
    have h9 := hkk (1 + p.k + q) (by omega) (by omega)
    rw [hcc] at h9; unfold cat at h9; rw [if_neg (by omega), show 1 + p.k + q - (p.k + 1) = q by omega] at h9; exact h9
  have hva : ∀ q, 0 ≤ q → q < p.n + p.m → fv3 q = allv p (xx nx fx) 1 q := fun q q0 q1 => by rw [hz3 q q0 q1, if_pos (by omega)]
  refine zlv (xlb 1 pl_23 hS) ?_
  refine zlv (xln sl_23 hsC) ?_
  refine zlv xmv ?_
  refine zlt <| zbk <| zlp (fun mm M w => ∃ (i6 : Int), mm = ((t.nc - i6).toNat) ∧ (0 ≤ i6) ∧ (i6 ≤ t.nc) ∧ M = [(7, .pointer (some ⟨g2, 0, none⟩)), (13, v1), (14, .int .i64 cost), (200, vC), (201, .int .i64 t.nc), (202, .int .i64 i6)] ∧ Sat w0 w [.blk g1 [vc, vA, vb], .blk g2 [.int .i64 t.vars, .int .i64 t.den, vB, vF, vC], .own vB 1 3 t.nb (ints t.B), .own vF 1 3 t.nf (ints t.F), .own vC 1 22 t.nc vv, .sem (Frame.rows 3 t.nc vv t.ln t.C), .own v1 1 3 (p.n + p.m) (ints fv3), .own v4 1 3 (p.k + p.n + p.m + 1) (ints cc)]) ⟨0, rfl, (by omega), (by omega), rfl, hS⟩ ?_
  clear hS w
  rintro mm M w ⟨i6, rfl, h60, h61, rfl, hS⟩
  refine zsr ?_
  refine zlv xlss ?_
  refine zlt <| zsq ?_
  refine zcif ?_ ?_ <;> intro hc
  ·
   refine zsk <| ztn <| zsq <| zbk <| zsr ?_
   refine zlv xmv ?_
   refine zlv (xix (kk := i6) sl_23 hsC) ?_
   refine zlv (xlr (u := (vv i6)) pl_22 (hS.rowN 4 rfl)) ?_
   have hln := hp1.len h60 (by omega)
   have hc0 := hp1.cell (i := i6) (j := 0) h60 (by omega) (by omega) (by omega)
   refine zs2 ?_
   refine zlz ?_
   refine zlv xmv ?_
   refine zlv (xix (kk := 0) sl_22 (hrs i6 (by omega) (by omega))) ?_
   refine zlv (xlr (u := .int .i64 (t.C i6 0)) pl_3 (hS.rowIn (k := i6) 5 rfl (by omega) (by omega))) ?_
   refine zlv xas ?_
   refine zlt <| zsq <| zsr ?_
   refine zlv (xfb 3 fd_30_3) ?_
   refine zlv (xlb 1 pl_22 hS) ?_
   refine zlv (xln sl_22 hsF) ?_
   refine zlv xmv ?_
   refine zlt <| zbk <| zlp (fun mm M w => ∃ (z : Int) (j7 : Int), mm = ((t.nf - j7).toNat) ∧ (0 ≤ j7) ∧ (j7 ≤ t.nf) ∧ (z = t.C i6 0 + sumTo (fun j => t.C i6 (j + 1) * fv3 (t.F j)) j7.toNat) ∧ (-1073741824 - 18014398509481984 * j7 ≤ z ∧ z ≤ 1073741824 + 18014398509481984 * j7) ∧ M = [(7, .pointer (some ⟨g2, 0, none⟩)), (13, v1), (14, .int .i64 cost), (21, .int .i64 i6), (22, (vv i6)), (23, .int .i64 z), (200, vC), (201, .int .i64 t.nc), (202, .int .i64 i6), (211, vF), (212, .int .i64 t.nf), (213, .int .i64 j7)] ∧ Sat w0 w [.blk g1 [vc, vA, vb], .blk g2 [.int .i64 t.vars, .int .i64 t.den, vB, vF, vC], .own vB 1 3 t.nb (ints t.B), .own vF 1 3 t.nf (ints t.F), .own vC 1 22 t.nc vv, .sem (Frame.rows 3 t.nc vv t.ln t.C), .own v1 1 3 (p.n + p.m) (ints fv3), .own v4 1 3 (p.k + p.n + p.m + 1) (ints cc)]) ⟨(t.C i6 0), 0, rfl, (by omega), (by omega), ?_, (by omega), rfl, hS⟩ ?_
   ·
    show _ = _ + 0; omega
   clear hS w
   rintro mm M w ⟨z, j7, rfl, h70, h71, hzz, hzb, rfl, hS⟩
   refine zsr ?_
   refine zlv xlss ?_
   refine zlt <| zsq ?_
   refine zcif ?_ ?_ <;> intro hc
   ·
    refine zsk <| ztn <| zsq <| zbk <| zsr ?_
    refine zlv xmv ?_
    refine zlv (xix (kk := j7) sl_22 hsF) ?_
    refine zlv (xlr (u := .int .i64 (t.F j7)) pl_3 (hS.rowN 3 rfl)) ?_
    have hfj := hpF j7 h70 (by omega)
    refine zs2 ?_
    refine zlt ?_
    refine zdst [0, 1, 2, 3, 4, 5, 6, 7] [0, 1, 2, 3, 4, 5, 6, 7] 1000 mx_ hS ?_; clear hS; intro w hS
    refine zdv 0 (fun _ => xmv) ?_
    refine zdv 1 (fun _ => xmv) ?_
    refine zdv 2 (fun _ => xmv) ?_
    refine zdv 3 (fun _ => (xadd (r := j7 + 1))) ?_
    refine zdv 4 (fun _ => (xix (kk := j7 + 1) sl_22 (hrs i6 (by omega) (by omega)))) ?_
    refine zdla 5 (fun w hS => (xlr (u := .int .i64 (t.C i6 (j7 + 1))) pl_3 (hS.rowIn (k := i6) 5 rfl (by omega) (by omega)))) ?_
    refine zdv 6 (fun _ => xmv) ?_
    refine zdv 7 (fun _ => xmv) ?_
    refine zdv 8 (fun _ => (xix (kk := (t.F j7)) sl_22 hv1)) ?_
    refine zdla 9 (fun w hS => (xlr (u := .int .i64 (fv3 (t.F j7))) pl_3 (hS.rowN 6 rfl))) ?_
    have hcl := hp1.cell (i := i6) (j := j7 + 1) h60 (by omega) (by omega) (by omega)
    have hvq := hv24 (t.F j7) (by omega) (by omega)
    have hmm := mul_abs (a := t.C i6 (j7 + 1)) (b := fv3 (t.F j7)) (A := 1073741824) (B := 16777216) (by omega) (by omega)
    refine zdv 10 (fun _ => (xmul (r := ((t.C i6 (j7 + 1)) * (fv3 (t.F j7)))) (e := rfl))) ?_
    refine zdv 11 (fun _ => (xadd (r := z + ((t.C i6 (j7 + 1)) * (fv3 (t.F j7)))))) ?_
    refine zdv 12 (fun _ => xas) ?_
    refine zdd <| zbn <| ztn <| zrg ?_
    refine zlv (xadd (r := j7 + 1)) ?_
    refine zlv xmv ?_
    refine zln <| zlq ⟨z + ((t.C i6 (j7 + 1)) * (fv3 (t.F j7))), j7 + 1, rfl, (by omega), (by omega), ?_, (by omega), rfl, hS⟩
    ·
     rw [sumTo_next _ h70, hzz]; omega
   refine zxt <| ztx <| ztx <| zbh <| ztn <| zsr ?_
   refine zs2 ?_
   refine zlt <| zsq <| zsr ?_
   refine zs2 ?_
   refine zlt ?_
   refine zcif ?_ ?_ <;> intro hc
   ·
    refine zrg ?_
    refine zlv xmv ?_
    refine zlv (xfb 2 fd_30_2) ?_
    refine zlv (xlb 1 pl_22 hS) ?_
    refine zlv xmv ?_
    refine zlv (xsub (r := i6 - 1)) ?_
    refine zlv (xix (kk := i6 - 1) sl_22 hsB) ?_
    refine zlv (xlr (u := .int .i64 (t.B (i6 - 1))) pl_3 (hS.rowN 2 rfl)) ?_
    have hbj := hpB (i6 - 1) (by omega) (by omega)
    have hvb := hv24 (t.B (i6 - 1)) (by omega) (by omega)
    refine zlv (xix (kk := (t.B (i6 - 1))) sl_22 hv1) ?_
    refine zlv (xlr (u := .int .i64 (fv3 (t.B (i6 - 1)))) pl_3 (hS.rowN 6 rfl)) ?_
    refine zlv xas ?_
    refine zlz ?_
    refine zs2 ?_
    refine zlv (xfb 1 fd_30_1) ?_
    refine zlv (xlb 1 pl_3 hS) ?_
    have hwd := mul_abs (a := (fv3 (t.B (i6 - 1)))) (b := t.den) (A := 16777216) (B := 1073741824) (by omega) (by omega)
    refine zlv (xmul (r := ((fv3 (t.B (i6 - 1))) * t.den)) (e := rfl)) ?_
    refine zlv xneq ?_
    have hrow := hRc.row hm hva (i := i6) h60 (by omega)
    rw [show j7 = t.nf by omega] at hzz
    first | rw [if_neg (by omega)] at hrow | rw [if_pos (by omega), ← hcost9] at hrow
    refine zlt ?_
    refine zcif ?_ ?_ <;> intro hc
    ·
     refine zsr ?_
     refine zlv xas ?_
     refine zlt <| zrt <| zbr <| ztr <| ztr <| zbr <| ztr <| zf1 ⟨_, rfl, ?_⟩
     exfalso
     omega
    refine zsk <| zbn <| ztn <| zrg ?_
    refine zlv (xadd (r := i6 + 1)) ?_
    refine zlv xmv ?_
    refine zln <| zlq ⟨i6 + 1, rfl, (by omega), (by omega), rfl, hS⟩
   refine zsk <| ztn <| zsr ?_
   refine zs2 ?_
   refine zlv (xfb 1 fd_30_1) ?_
   refine zlv (xlb 1 pl_3 hS) ?_
   have hwd := mul_abs (a := cost) (b := t.den) (A := 16777216) (B := 1073741824) (by omega) (by omega)
   refine zlv (xmul (r := (cost * t.den)) (e := rfl)) ?_
   refine zlv xneq ?_
   have hrow := hRc.row hm hva (i := i6) h60 (by omega)
   rw [show j7 = t.nf by omega] at hzz
   first | rw [if_neg (by omega)] at hrow | rw [if_pos (by omega), ← hcost9] at hrow
   refine zlt ?_
   refine zcif ?_ ?_ <;> intro hc
   ·
    refine zsr ?_
    refine zlv xas ?_
    refine zlt <| zrt <| zbr <| ztr <| ztr <| zbr <| ztr <| zf1 ⟨_, rfl, ?_⟩
    exfalso
    omega
   refine zsk <| zbn <| ztn <| zrg ?_
   refine zlv (xadd (r := i6 + 1)) ?_
   refine zlv xmv ?_
   refine zln <| zlq ⟨i6 + 1, rfl, (by omega), (by omega), rfl, hS⟩
  refine zxt <| ztx <| ztx <| zbh <| ztn <| zsr ?_
  refine zlv xas ?_
  refine zlt <| zrt <| zf1 ⟨_, rfl, ?_⟩
  exact ⟨rfl, hS.nl⟩

end Go.Proofs.Ytkcmbndnhcofpaa
