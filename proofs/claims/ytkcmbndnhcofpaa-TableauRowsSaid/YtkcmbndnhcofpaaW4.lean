/- The walks of cloned and Next, of tableau. -/
import Derived.Test.YtkcmbndnhcofpaaGv
import Derived.Test.YtkcmbndnhcofpaaW3
namespace Go.Proofs.Ytkcmbndnhcofpaa
open Go Go.RowKit Go.Proofs.Gw
set_option linter.unusedVariables false

theorem cl_15 : calledT Try.prog 15 = true := by kernel_rfl
theorem cl_24 : calledT Try.prog 24 = true := by kernel_rfl
theorem st_30 : structT Try.prog 30 = some 5 := by kernel_rfl
set_option maxRecDepth 20000 in
theorem c_cloned {v : Value} {n : Int} {vv : Int → Value} {ln : Int → Int} {f : Int → Int → Int} (w0 : World) (hM : MAt w0 v n vv ln f) (hn2 : n ≤ 1000) (hll : ∀ k, 0 ≤ k → k < n → ln k ≤ 1000) :
    Calls Try.prog 17 [v].toArray w0 fun e w => ∃ v, e = .returned v ∧ ∃ vo vw, v = vo ∧ Slh vo n ∧ Sat w0 w [.own vo 1 22 n vw, .sem (Frame.rows 3 n vw ln f)] := by
  have hn := hM.row.slh.n0; have hn1 := hM.row.slh.n1
  refine zenG Try.func17 Try.ntmps17 fun w hS => ?_
  refine zsr ?_
  refine zlv xas ?_
  refine zlz ?_
  refine zlv xmv ?_
  refine zlv (xln sl_23 hM.row.slh) ?_
  refine zla (xmk sl_23 el_22 hS) ?_; rintro v1 w ⟨hS, hv1⟩
  replace hS := hS.n1
  refine zlv xas ?_
  refine zlt <| zsq <| zsr ?_
  refine zlv xmv ?_
  refine zlv (xln sl_23 hM.row.slh) ?_
  refine zlv xmv ?_
  refine zlt <| zbk ?_
  replace hS := hS.addrows 3 (fun _ => Value.slice none 0 0) ln f
  replace hS := hS.n2
  refine zlp (fun mm M w => ∃ (c : Int → Value) (i : Int), mm = ((n - i).toNat) ∧ (0 ≤ i) ∧ (i ≤ n) ∧ M = [(2, .slice none 0 0), (3, v1), (9, v), (10, .int .i64 n), (11, .int .i64 i)] ∧ Sat w0 w [.own v1 1 22 n c, .sem (Frame.rows 3 i c ln f)]) ⟨(fun _ => Value.slice none 0 0), 0, rfl, (by omega), (by omega), rfl, hS⟩ ?_
  clear hS w
  rintro mm M w ⟨c, i, rfl, h0, h1, rfl, hS⟩
  have hrs1 := fun k (k0 : 0 ≤ k) (k1 : k < i) => hS.slhIn 1 rfl k0 k1
  refine zsr ?_
  refine zlv xlss ?_
  refine zlt <| zsq ?_
  refine zcif ?_ ?_ <;> intro hc
  ·
   refine zsk <| ztn <| zsq <| zbk <| zsr ?_
   refine zlv xmv ?_
   refine zlv (xix (kk := i) sl_23 hM.row.slh) ?_
   refine zlv (xlr (u := (vv i)) pl_22 (hM.row.below hS.below)) ?_
   have hli := hll i h0 (by omega); have hl0 := (hM.p i h0 (by omega)).slh.n0
   refine zs2 ?_
   refine zlz ?_
   refine zs3 ?_
   refine zlv (xln sl_22 (hM.p i (by omega) (by omega)).slh) ?_
   refine zla (xmk sl_22 el_3 hS) ?_; rintro v2 w ⟨hS, hv2⟩
   replace hS := hS.n3
   refine zlv (xix (kk := i) sl_23 hv1) ?_
   refine zle (xso 0 pl_22 hS rfl (hv := hv2.one)) ?_; clear hS; rintro w hS
   replace hS := hS.n3
   refine zlt <| zrg ?_
   refine zs2 ?_
   refine zlv (xix (kk := i) sl_23 hv1) ?_
   refine zlv (xlr (u := v2) pl_22 (hS.rowN 0 rfl) (e := (gu_self _ _ _))) ?_
   refine zlv xmv ?_
   refine zlar rfl rfl rfl (ex_copy 2 rfl sl_22 rfl rfl hS rfl ((hM.p i (by omega) (by omega)).below hS.below) (fun _ _ _ => rfl)) ?_; rintro _ w ⟨rfl, hS⟩
   replace hS := hS.n3
   replace hS := Sat.merge (l1 := [.own v1 1 22 n (upd c i (v2))]) (l2 := []) (l3 := []) hS (by omega)
   replace hS := hS.rerows (vv' := upd c i (v2)) (ln' := ln) (f' := f) 1 rfl (fun k k0 k1 => by
     by_cases e : k < i
     · rw [gsn_lt e, gsn_lt e, gsn_lt e]; exact ⟨(gu_ne (by omega)).symm, rfl, fun _ _ _ => rfl⟩
     · obtain rfl : i = k := (by omega); rw [gsn_self, gsn_self, gsn_self]; exact ⟨(gu_self _ _ _).symm, rfl, fun _ _ _ => rfl⟩)
   replace hS := hS.n2
   refine zln <| zbn <| ztn <| zrg ?_
   refine zlv (xadd (r := i + 1)) ?_
   refine zlv xmv ?_
   refine zln <| zlq ⟨upd c i (v2), i + 1, rfl, (by omega), (by omega), rfl, hS⟩
  refine zxt <| ztx <| ztx <| zbh <| ztn <| zsr ?_
  refine zs2 ?_
  refine zlt <| zrt <| zf1 ⟨_, rfl, ?_⟩
  obtain rfl : i = n := by omega
  exact ⟨_, _, rfl, hv1, hS⟩

set_option maxRecDepth 20000 in
theorem c_next {vB vF vC : Value} {vv : Int → Value} {t : Tb} (w0 : World) (hT : TAt w0 vB vF vC vv t) :
    Calls Try.prog 30 [.agg #[.int .i64 t.vars, .int .i64 t.den, vB, vF, vC]].toArray w0 fun e w => ∃ v, e = .returned v ∧ ∃ r c d e, v = .tuple #[.int .i64 r, .int .i64 c, .bool d, .int .i64 e] ∧ NextR t r c d e ∧ Sat w0 w [] := by
  have hn := hT.F.slh.n0; have hn1 := hT.F.slh.n1; have hb := hT.B.slh.n0; have hb1 := hT.B.slh.n1; have hc0 := hT.C.row.slh.n0; have hc1 := hT.C.row.slh.n1
  refine zenG Try.func30 Try.ntmps30 fun w hS => ?_
  refine zsr ?_
  refine zla (xbx (cs := [_, _, _, _, _]) hS) ?_; rintro _ w ⟨g1, rfl, hS⟩
  replace hS := hS.n1
  refine zs4 ?_
  refine zlt <| zsq <| zsr ?_
  refine zlv (xls 0 st_30 hS) ?_
  refine zlc (xc0 cl_15) (c_proper (t := t) w (hT.below hS.below)) ?_; rintro _ w ⟨rfl, hS'⟩
  replace hS := hS.cmp hS'; clear hS'
  refine zs2 ?_
  refine zlb 17 ?_ ?_ <;> intro hc
  ·
   iterate 7 refine zlo ?_
   refine zlv xpt ?_
   refine zlt <| zct <| zsr ?_
   refine zs4 ?_
   refine zlt <| zrt <| ztr <| zf4 ⟨_, rfl, ?_⟩
   refine ⟨_, _, _, _, rfl, .inl ⟨?_, rfl, rfl, rfl, rfl⟩, hS.nl⟩
   first | exact fun hh => absurd hh.1 ‹_› | (rintro ⟨_, hco⟩; obtain ⟨k, k0, k1, k2⟩ := hex1; have := hco (k + 1) (by omega) (by omega); omega)
  refine zlv (xfb 4 fd_30_4) ?_
  have hp := (Classical.not_not.1 ‹¬ ¬ (TPrp t)›)
  have b1 := hp.n1
  have b2 := hp.n2
  have b3 := hp.m2
  have b4 := hp.v
  have b5 := hp.d1
  have b6 := hp.d2
  have b7 := hp.c
  have hl0 := hp.len (i := 0) (by omega) (by omega)
  refine zlv (xlb 0 pl_23 hS) ?_
  refine zlv (xix (kk := 0) sl_23 hT.C.row.slh) ?_
  refine zlv (xlr (u := (vv 0)) pl_22 (hT.C.row.below hS.below)) ?_
  refine zlvr rfl rfl rfl (ex_slice_lo (q := 1) rfl sl_22 rfl rfl rfl (hT.C.p 0 (by omega) (by omega)).slh rfl (by omega) (by omega)) ?_
  refine zlc (xc0 cl_24) (c_min (n := ((t.ln 0) - 1)) (f := (fun k => (t.C 0) (k + 1))) w ((suf_of (q := 1) (hT.C.p 0 (by omega) (by omega)).slh (hT.C.room 0 (by omega) (by omega)) (by omega)).row (by omega) ((hT.C.p 0 (by omega) (by omega)).below hS.below)) (by omega)) ?_; rintro _ w ⟨x1, rfl, hex1, hax1, hS'⟩
  replace hS := hS.cmp hS'; clear hS'
  refine zs2 ?_
  refine zlt ?_
  refine zcif ?_ ?_ <;> intro hc
  ·
   refine zsr ?_
   refine zs4 ?_
   refine zlt <| zrt <| ztr <| zf4 ⟨_, rfl, ?_⟩
   refine ⟨_, _, _, _, rfl, .inl ⟨?_, rfl, rfl, rfl, rfl⟩, hS.nl⟩
   first | exact fun hh => absurd hh.1 ‹_› | (rintro ⟨_, hco⟩; obtain ⟨k, k0, k1, k2⟩ := hex1; have := hco (k + 1) (by omega) (by omega); omega)
  refine zsk <| ztn <| zsr ?_
  refine zlv xas ?_
  refine zlt <| zsq <| zsr ?_
  refine zlv (xfb 2 fd_30_2) ?_
  refine zlv (xlb 0 pl_22 hS) ?_
  refine zlv (xln sl_22 hT.B.slh) ?_
  refine zlv xmv ?_
  refine zlt <| zbk <| zlp (fun mm M w => ∃ (r : Int) (i : Int), mm = ((t.nb - i).toNat) ∧ (0 ≤ i) ∧ (i ≤ t.nb) ∧ (r = leav t i.toNat) ∧ M = [(1, .pointer (some ⟨g1, 0, none⟩)), (2, .int .i64 r), (3, .int .i64 0), (4, .bool false), (5, .int .i64 0), (27, vB), (28, .int .i64 t.nb), (29, .int .i64 i)] ∧ Sat w0 w [.blk g1 [.int .i64 t.vars, .int .i64 t.den, vB, vF, vC]]) ⟨(-1), 0, rfl, (by omega), (by omega), ?_, rfl, hS⟩ ?_
  ·
   rfl
  clear hS w
  rintro mm M w ⟨r, i, rfl, h0, h1, hr, rfl, hS⟩
  have hrr := leav_rng t i.toNat; rw [← hr] at hrr
  refine zsr ?_
  refine zlv xlss ?_
  refine zlt <| zsq ?_
  refine zcif ?_ ?_ <;> intro hc
  ·
   refine zsk <| ztn <| zsq <| zbk <| zsr ?_
   refine zlv xmv ?_
   refine zlv (xix (kk := i) sl_22 hT.B.slh) ?_
   refine zlv (xlr (u := .int .i64 (t.B i)) pl_3 (hT.B.below hS.below)) ?_
   refine zs2 ?_
   refine zlz ?_
   refine zlv (xfb 4 fd_30_4) ?_
   refine zlv (xlb 0 pl_23 hS) ?_
   refine zlv xmv ?_
   refine zlv (xadd (r := i + 1)) ?_
   refine zlv (xix (kk := i + 1) sl_23 hT.C.row.slh) ?_
   refine zlv (xlr (u := (vv (i + 1))) pl_22 (hT.C.row.below hS.below)) ?_
   have hlen := hp.len (i := i + 1) (by omega) (by omega)
   refine zlv (xix (kk := 0) sl_22 (hT.C.p (i + 1) (by omega) (by omega)).slh) ?_
   refine zlv (xlr (u := .int .i64 ((t.C (i + 1)) 0)) pl_3 ((hT.C.p (i + 1) (by omega) (by omega)).below hS.below)) ?_
   refine zs2 ?_
   refine zlb 43 ?_ ?_ <;> intro hc
   ·
    refine zs3 ?_
    have hrr := leav_rng t i.toNat; rw [← hr] at hrr
    refine zlb 46 ?_ ?_ <;> intro hc
    ·
     iterate 7 refine zlo ?_
     refine zs2 ?_
     refine zlt <| zct <| zrg ?_
     refine zs2 ?_
     refine zln <| zbn <| ztn <| zrg ?_
     refine zlv (xadd (r := i + 1)) ?_
     refine zlv xmv ?_
     refine zln <| zlq ⟨i, i + 1, rfl, (by omega), (by omega), ?_, rfl, hS⟩
     ·
      rw [leav_next t h0, ← hr]; split <;> omega
    refine zlv xmv ?_
    refine zlv (xfb 2 fd_30_2) ?_
    refine zlv (xlb 0 pl_22 hS) ?_
    refine zlv xmv ?_
    refine zlv (xix (kk := r) sl_22 hT.B.slh) ?_
    refine zlv (xlr (u := .int .i64 (t.B r)) pl_3 (hT.B.below hS.below)) ?_
    refine zs3 ?_
    refine zlt ?_
    refine zcif ?_ ?_ <;> intro hc
    ·
     refine zrg ?_
     refine zs2 ?_
     refine zln <| zbn <| ztn <| zrg ?_
     refine zlv (xadd (r := i + 1)) ?_
     refine zlv xmv ?_
     refine zln <| zlq ⟨i, i + 1, rfl, (by omega), (by omega), ?_, rfl, hS⟩
     ·
      rw [leav_next t h0, ← hr]; split <;> omega
    refine zsk <| zbn <| ztn <| zrg ?_
    refine zlv (xadd (r := i + 1)) ?_
    refine zlv xmv ?_
    refine zln <| zlq ⟨r, i + 1, rfl, (by omega), (by omega), ?_, rfl, hS⟩
    ·
     rw [leav_next t h0, ← hr]; split <;> omega
   iterate 11 refine zlo ?_
   refine zlv xpf ?_
   refine zlt <| zcf <| zsk <| zbn <| ztn <| zrg ?_
   refine zlv (xadd (r := i + 1)) ?_
   refine zlv xmv ?_
   refine zln <| zlq ⟨r, i + 1, rfl, (by omega), (by omega), ?_, rfl, hS⟩
   ·
    rw [leav_next t h0, ← hr]; split <;> omega
  refine zxt <| ztx <| ztx <| zbh <| ztn <| zsq <| zsr ?_
  refine zs2 ?_
  refine zlt ?_
  refine zcif ?_ ?_ <;> intro hc
  ·
   refine zsr ?_
   refine zs4 ?_
   refine zlt <| zrt <| ztr <| zf4 ⟨_, rfl, ?_⟩
   obtain rfl : i = t.nb := by omega
   exact ⟨_, _, _, _, rfl, .inr (.inl ⟨hp, (fun j j0 j1 => by have := hax1 (j - 1) (by omega) (by omega); rw [show j - 1 + 1 = j by omega] at this; omega), by omega, rfl, rfl, rfl, rfl⟩), hS.nl⟩
  refine zsk <| ztn <| zsr ?_
  refine zlv xas ?_
  refine zlt <| zsq ?_
  refine zdst [0] [0] 1000 mx_ hS ?_; clear hS; intro w hS
  refine zdv 0 (fun _ => (xfb 4 fd_30_4)) ?_
  have hin : i = t.nb := by omega
  have hrr := leav_rng t i.toNat; rw [← hr] at hrr; have hlr := hp.len (i := r + 1) (by omega) (by omega)
  refine zdla 1 (fun w hS => (xlb 0 pl_23 hS)) ?_
  refine zdv 2 (fun _ => (xix (kk := 0) sl_23 hT.C.row.slh)) ?_
  refine zdla 3 (fun w hS => (xlr (u := (vv 0)) pl_22 (hT.C.row.below hS.below))) ?_
  refine zdvr 4 rfl rfl rfl rfl (by kernel_rfl) rfl (fun w => (ex_slice_lo (q := 1) rfl sl_22 rfl rfl rfl (hT.C.p 0 (by omega) (by omega)).slh rfl (by omega) (by omega))) ?_
  refine zdv 5 (fun _ => (xfb 4 fd_30_4)) ?_
  refine zdla 6 (fun w hS => (xlb 0 pl_23 hS)) ?_
  refine zdv 7 (fun _ => xmv) ?_
  refine zdv 8 (fun _ => (xadd (r := r + 1))) ?_
  refine zdv 9 (fun _ => (xix (kk := r + 1) sl_23 hT.C.row.slh)) ?_
  refine zdla 10 (fun w hS => (xlr (u := (vv (r + 1))) pl_22 (hT.C.row.below hS.below))) ?_
  refine zdvr 11 rfl rfl rfl rfl (by kernel_rfl) rfl (fun w => (ex_slice_lo (q := 1) rfl sl_22 rfl rfl rfl (hT.C.p (r + 1) (by omega) (by omega)).slh rfl (by omega) (by omega))) ?_
  refine zdv 12 (fun _ => xas) ?_
  refine zdv 13 (fun _ => xas) ?_
  refine zdd <| ztn <| zsq <| zsr ?_
  refine zlv xmv ?_
  refine zlv (xln sl_22 (suf_of (q := 1) (hT.C.p (r + 1) (by omega) (by omega)).slh (hT.C.room (r + 1) (by omega) (by omega)) (by omega)).slh) ?_
  refine zlv xmv ?_
  refine zlt <| zbk <| zlp (fun mm M w => ∃ (c : Int) (j : Int), mm = ((t.nf - j).toNat) ∧ (0 ≤ j) ∧ (j ≤ t.nf) ∧ (c = entr t r j.toNat) ∧ M = [(1, .pointer (some ⟨g1, 0, none⟩)), (2, .int .i64 r), (3, .int .i64 c), (4, .bool false), (5, .int .i64 0), (8, (sufV (vv 0) 1)), (9, (sufV (vv (r + 1)) 1)), (72, (sufV (vv (r + 1)) 1)), (73, .int .i64 ((t.ln (r + 1)) - 1)), (74, .int .i64 j)] ∧ Sat w0 w [.blk g1 [.int .i64 t.vars, .int .i64 t.den, vB, vF, vC]]) ⟨(-1), 0, rfl, (by omega), (by omega), ?_, rfl, hS⟩ ?_
  ·
   rfl
  clear hS w
  rintro mm M w ⟨c, j, rfl, j0, j1, hcc, rfl, hS⟩
  have hcr := entr_rng t r j.toNat; rw [← hcc] at hcr
  refine zsr ?_
  refine zlv xlss ?_
  refine zlt <| zsq ?_
  refine zcif ?_ ?_ <;> intro hc
  ·
   refine zsk <| ztn <| zsq <| zbk <| zsr ?_
   refine zlv xmv ?_
   refine zlv (xix (kk := j) sl_22 (suf_of (q := 1) (hT.C.p (r + 1) (by omega) (by omega)).slh (hT.C.room (r + 1) (by omega) (by omega)) (by omega)).slh) ?_
   refine zlv (xlr (u := .int .i64 ((t.C (r + 1)) (j + 1))) pl_3 ((suf_of (q := 1) (hT.C.p (r + 1) (by omega) (by omega)).slh (hT.C.room (r + 1) (by omega) (by omega)) (by omega)).row (by omega) ((hT.C.p (r + 1) (by omega) (by omega)).below hS.below))) ?_
   refine zs2 ?_
   refine zlt <| zsq <| zsr ?_
   refine zs2 ?_
   refine zlt ?_
   refine zcif ?_ ?_ <;> intro hc
   ·
    refine zxt <| ztx <| zbh <| ztn <| zrg ?_
    refine zlv (xadd (r := j + 1)) ?_
    refine zlv xmv ?_
    refine zln <| zlq ⟨c, j + 1, rfl, (by omega), (by omega), ?_, rfl, hS⟩
    ·
     rw [entr_next t r j0, ← hcc]; (repeat' split) <;> omega
   refine zsk <| ztn <| zsq <| zsr ?_
   refine zs2 ?_
   have hcr := entr_rng t r j.toNat; rw [← hcc] at hcr
   refine zlt ?_
   refine zcif ?_ ?_ <;> intro hc
   ·
    refine zsq ?_
    refine zdst [0] [0] 1000 mx_ hS ?_; clear hS; intro w hS
    refine zdv 0 (fun _ => xmv) ?_
    have hm1 := mul_abs (hp.cell (i := 0) (j := j + 1) (by omega) (by omega) (by omega) (by omega)) (hp.cell (i := r + 1) (j := c + 1) (by omega) (by omega) (by omega) (by omega)); have hm2 := mul_abs (hp.cell (i := 0) (j := c + 1) (by omega) (by omega) (by omega) (by omega)) (hp.cell (i := r + 1) (j := j + 1) (by omega) (by omega) (by omega) (by omega))
    have hne : t.F j ≠ t.F c := fun hh => by have := hp.injF (i := j) (j := c) (by omega) (by omega) (by omega) (by omega) (by omega) hh; omega
    refine zdv 1 (fun _ => xmv) ?_
    refine zdv 2 (fun _ => (xix (kk := j) sl_22 (suf_of (q := 1) (hT.C.p 0 (by omega) (by omega)).slh (hT.C.room 0 (by omega) (by omega)) (by omega)).slh)) ?_
    refine zdla 3 (fun w hS => (xlr (u := .int .i64 ((t.C 0) (j + 1))) pl_3 ((suf_of (q := 1) (hT.C.p 0 (by omega) (by omega)).slh (hT.C.room 0 (by omega) (by omega)) (by omega)).row (by omega) ((hT.C.p 0 (by omega) (by omega)).below hS.below)))) ?_
    refine zdv 4 (fun _ => xmv) ?_
    refine zdv 5 (fun _ => xmv) ?_
    refine zdv 6 (fun _ => (xix (kk := c) sl_22 (suf_of (q := 1) (hT.C.p (r + 1) (by omega) (by omega)).slh (hT.C.room (r + 1) (by omega) (by omega)) (by omega)).slh)) ?_
    refine zdla 7 (fun w hS => (xlr (u := .int .i64 ((t.C (r + 1)) (c + 1))) pl_3 ((suf_of (q := 1) (hT.C.p (r + 1) (by omega) (by omega)).slh (hT.C.room (r + 1) (by omega) (by omega)) (by omega)).row (by omega) ((hT.C.p (r + 1) (by omega) (by omega)).below hS.below)))) ?_
    refine zdv 8 (fun _ => (xmul (r := (((t.C 0) (j + 1)) * ((t.C (r + 1)) (c + 1)))) (e := rfl) (hr := (by unfold I64; omega)))) ?_
    refine zdv 9 (fun _ => xmv) ?_
    refine zdv 10 (fun _ => xmv) ?_
    refine zdv 11 (fun _ => (xix (kk := c) sl_22 (suf_of (q := 1) (hT.C.p 0 (by omega) (by omega)).slh (hT.C.room 0 (by omega) (by omega)) (by omega)).slh)) ?_
    refine zdla 12 (fun w hS => (xlr (u := .int .i64 ((t.C 0) (c + 1))) pl_3 ((suf_of (q := 1) (hT.C.p 0 (by omega) (by omega)).slh (hT.C.room 0 (by omega) (by omega)) (by omega)).row (by omega) ((hT.C.p 0 (by omega) (by omega)).below hS.below)))) ?_
    refine zdv 13 (fun _ => xmv) ?_
    refine zdv 14 (fun _ => (xmul (r := (((t.C 0) (c + 1)) * ((t.C (r + 1)) (j + 1)))) (e := rfl) (hr := (by unfold I64; omega)))) ?_
    refine zdv 15 (fun _ => xas) ?_
    refine zdv 16 (fun _ => xas) ?_
    refine zdd <| ztn <| zsq ?_
    refine zdst [0] [0] 1000 mx_ hS ?_; clear hS; intro w hS
    refine zdv 0 (fun _ => xmv) ?_
    refine zdv 1 (fun _ => xmv) ?_
    refine zdv 2 (fun _ => xgtr) ?_
    refine zdv 3 (fun _ => xmv) ?_
    refine zdb 101 ?_ ?_ <;> intro hc
    ·
     refine zdof 4 ?_
     refine zdof 5 ?_
     refine zdof 6 ?_
     refine zdof 7 ?_
     refine zdof 8 ?_
     refine zdof 9 ?_
     refine zdof 10 ?_
     refine zdof 11 ?_
     refine zdof 12 ?_
     refine zdof 13 ?_
     refine zdof 14 ?_
     refine zdof 15 ?_
     refine zdof 16 ?_
     refine zdof 17 ?_
     refine zdof 18 ?_
     refine zdof 19 ?_
     refine zdv 20 (fun _ => xpt) ?_
     refine zdd <| ztn <| zct <| zxt <| ztx <| zbh <| ztn <| zrg ?_
     refine zlv (xadd (r := j + 1)) ?_
     refine zlv xmv ?_
     refine zln <| zlq ⟨c, j + 1, rfl, (by omega), (by omega), ?_, rfl, hS⟩
     ·
      rw [entr_next t r j0, ← hcc]; (repeat' split) <;> omega
    refine zdv 4 (fun _ => xmv) ?_
    refine zdv 5 (fun _ => xmv) ?_
    refine zdv 6 (fun _ => xeql) ?_
    refine zdv 7 (fun _ => xmv) ?_
    refine zdb 105 ?_ ?_ <;> intro hc
    ·
     refine zdv 8 (fun _ => (xfb 3 fd_30_3)) ?_
     refine zdla 9 (fun w hS => (xlb 0 pl_22 hS)) ?_
     refine zdv 10 (fun _ => xmv) ?_
     refine zdv 11 (fun _ => (xix (kk := j) sl_22 hT.F.slh)) ?_
     refine zdla 12 (fun w hS => (xlr (u := .int .i64 (t.F j)) pl_3 (hT.F.below hS.below))) ?_
     refine zdv 13 (fun _ => (xfb 3 fd_30_3)) ?_
     refine zdla 14 (fun w hS => (xlb 0 pl_22 hS)) ?_
     refine zdv 15 (fun _ => xmv) ?_
     refine zdv 16 (fun _ => (xix (kk := c) sl_22 hT.F.slh)) ?_
     refine zdla 17 (fun w hS => (xlr (u := .int .i64 (t.F c)) pl_3 (hT.F.below hS.below))) ?_
     refine zdv 18 (fun _ => xgtr) ?_
     refine zdv 19 (fun _ => xpt) ?_
     refine zdv 20 (fun _ => xpf) ?_
     refine zdd <| ztn ?_
     refine zcif ?_ ?_ <;> intro hc
     ·
      refine zxt <| ztx <| zbh <| ztn <| zrg ?_
      refine zlv (xadd (r := j + 1)) ?_
      refine zlv xmv ?_
      refine zln <| zlq ⟨c, j + 1, rfl, (by omega), (by omega), ?_, rfl, hS⟩
      ·
       rw [entr_next t r j0, ← hcc]; (repeat' split) <;> omega
     refine zsk <| ztn <| zrg ?_
     refine zs2 ?_
     refine zln <| zbn <| ztn <| zrg ?_
     refine zlv (xadd (r := j + 1)) ?_
     refine zlv xmv ?_
     refine zln <| zlq ⟨j, j + 1, rfl, (by omega), (by omega), ?_, rfl, hS⟩
     ·
      rw [entr_next t r j0, ← hcc]; (repeat' split) <;> omega
    refine zdof 8 ?_
    refine zdof 9 ?_
    refine zdof 10 ?_
    refine zdof 11 ?_
    refine zdof 12 ?_
    refine zdof 13 ?_
    refine zdof 14 ?_
    refine zdof 15 ?_
    refine zdof 16 ?_
    refine zdof 17 ?_
    refine zdof 18 ?_
    refine zdv 19 (fun _ => xpf) ?_
    refine zdv 20 (fun _ => xpf) ?_
    refine zdd <| ztn <| zcf <| zsk <| ztn <| zrg ?_
    refine zs2 ?_
    refine zln <| zbn <| ztn <| zrg ?_
    refine zlv (xadd (r := j + 1)) ?_
    refine zlv xmv ?_
    refine zln <| zlq ⟨j, j + 1, rfl, (by omega), (by omega), ?_, rfl, hS⟩
    ·
     rw [entr_next t r j0, ← hcc]; (repeat' split) <;> omega
   refine zsk <| ztn <| zrg ?_
   refine zs2 ?_
   refine zln <| zbn <| ztn <| zrg ?_
   refine zlv (xadd (r := j + 1)) ?_
   refine zlv xmv ?_
   refine zln <| zlq ⟨j, j + 1, rfl, (by omega), (by omega), ?_, rfl, hS⟩
   ·
    rw [entr_next t r j0, ← hcc]; (repeat' split) <;> omega
  refine zxt <| ztx <| ztx <| zbh <| ztn <| zsq <| zsr ?_
  refine zs2 ?_
  refine zlt ?_
  refine zcif ?_ ?_ <;> intro hc
  ·
   refine zsr ?_
   refine zs4 ?_
   refine zlt <| zrt <| ztr <| zf4 ⟨_, rfl, ?_⟩
   obtain rfl : i = t.nb := by omega
   obtain rfl : j = t.nf := by omega
   subst hr; exact ⟨_, _, _, _, rfl, .inr (.inr (.inl ⟨hp, (fun j j0 j1 => by have := hax1 (j - 1) (by omega) (by omega); rw [show j - 1 + 1 = j by omega] at this; omega), by omega, by omega, rfl, rfl, rfl, rfl⟩)), hS.nl⟩
  refine zsk <| ztn <| zsr ?_
  refine zs6 ?_
  refine zlt <| zrt <| zf4 ⟨_, rfl, ?_⟩
  obtain rfl : i = t.nb := by omega
  obtain rfl : j = t.nf := by omega
  subst hr; exact ⟨_, _, _, _, rfl, .inr (.inr (.inr ⟨hp, (fun j j0 j1 => by have := hax1 (j - 1) (by omega) (by omega); rw [show j - 1 + 1 = j by omega] at this; omega), by omega, by omega, rfl, hcc, rfl, rfl⟩)), hS.nl⟩

end Go.Proofs.Ytkcmbndnhcofpaa
