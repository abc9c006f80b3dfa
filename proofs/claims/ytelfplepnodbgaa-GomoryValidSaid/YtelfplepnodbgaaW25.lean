/- The walk of cell, of the reference. -/
import Derived.Test.YtelfplepnodbgaaGc
import Derived.Test.YtelfplepnodbgaaW22
import Derived.Test.YtelfplepnodbgaaFi
namespace Go.Proofs.Ytelfplepnodbgaa
open Go Go.RowKit Go.Proofs.Gw
set_option linter.unusedVariables false

theorem cl_133 : calledT Try.prog 133 = true := by kernel_rfl
theorem cl_62 : calledT Try.prog 62 = true := by kernel_rfl
theorem st_25 : structT Try.prog 25 = some 5 := by kernel_rfl
set_option maxRecDepth 20000 in
theorem c_leaving {vB vF vC : Value} {vv : Int → Value} {t : Tb} (w0 : World) (hT : TAt w0 vB vF vC vv t) (hp : TPrp t) :
    Calls Try.prog 133 [.agg #[.int .i64 t.vars, .int .i64 t.den, vB, vF, vC]].toArray w0 fun e w => ∃ v, e = .returned v ∧ v = .int .i64 (leav t t.nb.toNat) ∧ Sat w0 w [] := by
  have hn := hT.F.slh.n0; have hn1 := hT.F.slh.n1; have hb := hT.B.slh.n0; have hb1 := hT.B.slh.n1; have hc0 := hT.C.row.slh.n0; have hc1 := hT.C.row.slh.n1
  have b1 := hp.n1; have b2 := hp.n2; have b3 := hp.m2; have b4 := hp.v; have b5 := hp.d1; have b6 := hp.d2; have b7 := hp.c
  refine zenG Try.func133 Try.ntmps133 fun w hS => ?_
  refine zsq <| zrg ?_
  refine zla (xbx (cs := [_, _, _, _, _]) hS) ?_; rintro _ w ⟨g1, rfl, hS⟩
  replace hS : Sat w0 w [.blk _ [_, _, _, _, _]] := hS
  refine zlv xas ?_
  refine zln <| ztn <| zsq <| zrg ?_
  refine zlv xas ?_
  refine zln <| ztn <| zsq <| zsq <| zrg ?_
  refine zlv xas ?_
  refine zln <| ztn <| zbk <| zlp (fun mm M w => ∃ (r : Int) (i : Int), mm = ((t.nb - i).toNat) ∧ (0 ≤ i) ∧ (i ≤ t.nb) ∧ (r = leav t i.toNat) ∧ M = [(1, .pointer (some ⟨g1, 0, none⟩)), (2, .int .i64 0), (3, .int .i64 r), (4, .int .i64 i)] ∧ Sat w0 w [.blk g1 [.int .i64 t.vars, .int .i64 t.den, vB, vF, vC]]) ⟨(-1), 0, rfl, (by omega), (by omega), ?_, rfl, hS⟩ ?_
  ·
   rfl
  ·
   clear hS w
   rintro mm M w ⟨r, i, rfl, h0, h1, hr, rfl, hS⟩
   have hrr := leav_rng t i.toNat; rw [← hr] at hrr
   refine zsq <| zsq <| zrg ?_
   refine zlv xmv ?_
   refine zlv (xfb 2 fd_25_2) ?_
   refine zlv (xlb 0 pl_22 hS) ?_
   refine zlv (xln sl_22 hT.B.slh) ?_
   refine zlv xlss ?_
   refine zln <| ztn ?_
   refine zcif ?_ ?_ <;> intro hc
   ·
    refine zsk <| ztn <| zsq <| zbk <| zsq ?_
    refine zdst [0] [0] 1000 mx_ hS ?_; clear hS; intro w hS
    refine zdv 0 (fun _ => (xfb 4 fd_25_4)) ?_
    have hlen := hp.len (i := i + 1) (by omega) (by omega)
    refine zdla 1 (fun w hS => (xlb 0 pl_23 hS)) ?_
    refine zdv 2 (fun _ => xmv) ?_
    refine zdv 3 (fun _ => (xadd (r := i + 1))) ?_
    refine zdv 4 (fun _ => (xix (kk := i + 1) sl_23 hT.C.row.slh)) ?_
    refine zdla 5 (fun w hS => (xlr (u := (vv (i + 1))) pl_22 (hT.C.row.below hS.below))) ?_
    refine zdv 6 (fun _ => (xix (kk := 0) sl_22 (hT.C.p (i + 1) (by omega) (by omega)).slh)) ?_
    refine zdla 7 (fun w hS => (xlr (u := .int .i64 ((t.C (i + 1)) 0)) pl_3 ((hT.C.p (i + 1) (by omega) (by omega)).below hS.below))) ?_
    refine zdv 8 (fun _ => xlss) ?_
    refine zdv 9 (fun _ => xmv) ?_
    refine zdb 21 ?_ ?_ <;> intro hc
    ·
     refine zdv 10 (fun _ => xmv) ?_
     refine zdv 11 (fun _ => xlss) ?_
     refine zdv 12 (fun _ => xmv) ?_
     refine zdb 24 ?_ ?_ <;> intro hc
     ·
      refine zdof 13 ?_
      refine zdof 14 ?_
      refine zdof 15 ?_
      refine zdof 16 ?_
      refine zdof 17 ?_
      refine zdof 18 ?_
      refine zdof 19 ?_
      refine zdof 20 ?_
      refine zdof 21 ?_
      refine zdof 22 ?_
      refine zdof 23 ?_
      refine zdv 24 (fun _ => xpt) ?_
      refine zdv 25 (fun _ => xpt) ?_
      refine zdd <| ztn <| zct <| zrg ?_
      refine zlv xmv ?_
      refine zlv xas ?_
      refine zln <| zbn <| ztn <| zrg ?_
      refine zlv xmv ?_
      refine zlv (xadd (r := i + 1)) ?_
      refine zlv xas ?_
      refine zln <| zlq ⟨i, i + 1, rfl, (by omega), (by omega), ?_, rfl, hS⟩
      ·
       rw [leav_next t h0, ← hr]; split <;> omega
     ·
      refine zdv 13 (fun _ => (xfb 2 fd_25_2)) ?_
      refine zdla 14 (fun w hS => (xlb 0 pl_22 hS)) ?_
      refine zdv 15 (fun _ => xmv) ?_
      refine zdv 16 (fun _ => (xix (kk := i) sl_22 hT.B.slh)) ?_
      refine zdla 17 (fun w hS => (xlr (u := .int .i64 (t.B i)) pl_3 (hT.B.below hS.below))) ?_
      refine zdv 18 (fun _ => (xfb 2 fd_25_2)) ?_
      refine zdla 19 (fun w hS => (xlb 0 pl_22 hS)) ?_
      refine zdv 20 (fun _ => xmv) ?_
      refine zdv 21 (fun _ => (xix (kk := r) sl_22 hT.B.slh)) ?_
      refine zdla 22 (fun w hS => (xlr (u := .int .i64 (t.B r)) pl_3 (hT.B.below hS.below))) ?_
      refine zdv 23 (fun _ => xlss) ?_
      refine zdv 24 (fun _ => xpf) ?_
      refine zdv 25 (fun _ => xpt) ?_
      refine zdd <| ztn ?_
      refine zcif ?_ ?_ <;> intro hc
      ·
       refine zrg ?_
       refine zlv xmv ?_
       refine zlv xas ?_
       refine zln <| zbn <| ztn <| zrg ?_
       refine zlv xmv ?_
       refine zlv (xadd (r := i + 1)) ?_
       refine zlv xas ?_
       refine zln <| zlq ⟨i, i + 1, rfl, (by omega), (by omega), ?_, rfl, hS⟩
       ·
        rw [leav_next t h0, ← hr]; split <;> omega
      ·
       refine zsk <| zbn <| ztn <| zrg ?_
       refine zlv xmv ?_
       refine zlv (xadd (r := i + 1)) ?_
       refine zlv xas ?_
       refine zln <| zlq ⟨r, i + 1, rfl, (by omega), (by omega), ?_, rfl, hS⟩
       ·
        rw [leav_next t h0, ← hr]; split <;> omega
    ·
     refine zdof 10 ?_
     refine zdof 11 ?_
     refine zdof 12 ?_
     refine zdof 13 ?_
     refine zdof 14 ?_
     refine zdof 15 ?_
     refine zdof 16 ?_
     refine zdof 17 ?_
     refine zdof 18 ?_
     refine zdof 19 ?_
     refine zdof 20 ?_
     refine zdof 21 ?_
     refine zdof 22 ?_
     refine zdof 23 ?_
     refine zdof 24 ?_
     refine zdv 25 (fun _ => xpf) ?_
     refine zdd <| ztn <| zcf <| zsk <| zbn <| ztn <| zrg ?_
     refine zlv xmv ?_
     refine zlv (xadd (r := i + 1)) ?_
     refine zlv xas ?_
     refine zln <| zlq ⟨r, i + 1, rfl, (by omega), (by omega), ?_, rfl, hS⟩
     ·
      rw [leav_next t h0, ← hr]; split <;> omega
   ·
    refine zxt <| ztx <| ztx <| zbh <| ztn <| zsq <| zrg ?_
    refine zlv xmv ?_
    refine zlv xas ?_
    refine zln <| ztn <| zrt <| zf1 ⟨_, rfl, ?_⟩
    obtain rfl : i = t.nb := by omega
    exact ⟨by rw [hr], hS.nl⟩

set_option maxRecDepth 20000 in
theorem c_rnext {vB vF vC : Value} {vv : Int → Value} {t : Tb} (w0 : World) (hT : TAt w0 vB vF vC vv t) :
    Calls Try.prog 124 [.agg #[.int .i64 t.vars, .int .i64 t.den, vB, vF, vC]].toArray w0 fun e w => ∃ v, e = .returned v ∧ ∃ r c d e, v = .tuple #[.int .i64 r, .int .i64 c, .bool d, .int .i64 e] ∧ NextR t r c d e ∧ Sat w0 w [] := by
  have hn := hT.F.slh.n0; have hn1 := hT.F.slh.n1; have hb := hT.B.slh.n0; have hb1 := hT.B.slh.n1; have hc0 := hT.C.row.slh.n0; have hc1 := hT.C.row.slh.n1
  refine zenG Try.func124 Try.ntmps124 fun w hS => ?_
  refine zsq <| zrg ?_
  refine zla (xbx (cs := [_, _, _, _, _]) hS) ?_; rintro _ w ⟨g1, rfl, hS⟩
  replace hS : Sat w0 w [.blk _ [_, _, _, _, _]] := hS
  iterate 4 refine zlv xas ?_
  refine zln <| ztn <| zsq <| zsq <| zrg ?_
  refine zlv (xls 0 st_25 hS) ?_
  refine zlc (xc0 cl_62) (c_rproper (t := t) w (hT.below hS.below)) ?_; rintro _ w ⟨rfl, hS'⟩
  replace hS := hS.cmp hS'; clear hS'
  refine zlv xnot ?_
  refine zlv xmv ?_
  refine zlb 15 ?_ ?_ <;> intro hc
  ·
   iterate 7 refine zlo ?_
   refine zlv xpt ?_
   refine zln <| ztn <| zct <| zsq <| zrg ?_
   iterate 4 refine zlv xas ?_
   refine zln <| ztn <| zrt <| ztr <| zf4 ⟨_, rfl, ?_⟩
   refine ⟨_, _, _, _, rfl, .inl ⟨?_, rfl, rfl, rfl, rfl⟩, hS.nl⟩
   first | exact fun hh => absurd hh.1 ‹_› | (rintro ⟨_, hco⟩; exact absurd (show ∀ k, 0 ≤ k → k < t.ln 0 - 1 → 0 ≤ t.C 0 (k + 1) ∧ t.C 0 (k + 1) ≤ 1073741824 from fun k k0 k1 => ⟨hco (k + 1) (by omega) (by omega), (hp.cell (i := 0) (j := k + 1) (by omega) (by omega) (by omega) (by omega)).2⟩) (by assumption))
  ·
   refine zlv (xfb 4 fd_25_4) ?_
   refine zlv (xlb 0 pl_23 hS) ?_
   have hp : TPrp t := by first | assumption | exact Classical.not_not.1 ‹¬ ¬ (TPrp t)›
   have b1 := hp.n1
   have b2 := hp.n2
   have b3 := hp.m2
   have b4 := hp.v
   have b5 := hp.d1
   have b6 := hp.d2
   have b7 := hp.c
   have hl0 := hp.len (i := 0) (by omega) (by omega)
   refine zlv (xix (kk := 0) sl_23 hT.C.row.slh) ?_
   refine zlv (xlr (u := (vv 0)) pl_22 (hT.C.row.below hS.below)) ?_
   refine zlvr rfl rfl rfl (ex_slice_lo (q := 1) rfl sl_22 rfl rfl rfl (hT.C.p 0 (by omega) (by omega)).slh rfl (by omega) (by omega)) ?_
   refine zlc (xc0 cl_68) (c_within (n := ((t.ln 0) - 1)) (lo := 0) (hi := 1073741824) (f := (fun k => (t.C 0) (k + 1))) w ((suf_of (q := 1) (hT.C.p 0 (by omega) (by omega)).slh (hT.C.room 0 (by omega) (by omega)) (by omega)).row (by omega) ((hT.C.p 0 (by omega) (by omega)).below hS.below))) ?_; rintro _ w ⟨rfl, hS'⟩
   replace hS := hS.cmp hS'; clear hS'
   refine zlv xnot ?_
   refine zlv xpf ?_
   refine zln <| ztn ?_
   refine zcif ?_ ?_ <;> intro hc
   ·
    refine zsq <| zrg ?_
    iterate 4 refine zlv xas ?_
    refine zln <| ztn <| zrt <| ztr <| zf4 ⟨_, rfl, ?_⟩
    refine ⟨_, _, _, _, rfl, .inl ⟨?_, rfl, rfl, rfl, rfl⟩, hS.nl⟩
    first | exact fun hh => absurd hh.1 ‹_› | (rintro ⟨_, hco⟩; exact absurd (show ∀ k, 0 ≤ k → k < t.ln 0 - 1 → 0 ≤ t.C 0 (k + 1) ∧ t.C 0 (k + 1) ≤ 1073741824 from fun k k0 k1 => ⟨hco (k + 1) (by omega) (by omega), (hp.cell (i := 0) (j := k + 1) (by omega) (by omega) (by omega) (by omega)).2⟩) (by assumption))
   ·
    refine zsk <| ztn <| zsq <| zrg ?_
    refine zlv (xls 0 st_25 hS) ?_
    have hcq : ∀ k, 0 ≤ k → k < t.ln 0 - 1 → 0 ≤ t.C 0 (k + 1) ∧ t.C 0 (k + 1) ≤ 1073741824 := by first | assumption | exact Classical.not_not.1 ‹_›
    have hrr := leav_rng t t.nb.toNat
    refine zlc (xc0 cl_133) (c_leaving (t := t) w (hT.below hS.below) hp) ?_; rintro _ w ⟨rfl, hS'⟩
    replace hS := hS.cmp hS'; clear hS'
    refine zlv xas ?_
    refine zln <| ztn <| zsq <| zsq <| zrg ?_
    refine zlv xmv ?_
    refine zlv xlss ?_
    refine zln <| ztn ?_
    refine zcif ?_ ?_ <;> intro hc
    ·
     refine zsq <| zrg ?_
     iterate 4 refine zlv xas ?_
     refine zln <| ztn <| zrt <| ztr <| zf4 ⟨_, rfl, ?_⟩
     exact ⟨_, _, _, _, rfl, .inr (.inl ⟨hp, (fun j j0 j1 => by have := hcq (j - 1) (by omega) (by omega); rw [show j - 1 + 1 = j by omega] at this; omega), by omega, rfl, rfl, rfl, rfl⟩), hS.nl⟩
    ·
     refine zsk <| ztn <| zsq <| zrg ?_
     refine zlv xas ?_
     refine zln <| ztn <| zsq <| zsq <| zrg ?_
     refine zlv xas ?_
     refine zln <| ztn <| zbk <| zlp (fun mm M w => ∃ (c : Int) (j : Int), mm = ((t.nf - j).toNat) ∧ (0 ≤ j) ∧ (j ≤ t.nf) ∧ (c = entr t (leav t t.nb.toNat) j.toNat) ∧ M = [(1, .pointer (some ⟨g1, 0, none⟩)), (2, .int .i64 0), (3, .int .i64 0), (4, .bool false), (5, .int .i64 0), (6, .int .i64 (leav t t.nb.toNat)), (7, .int .i64 c), (8, .int .i64 j)] ∧ Sat w0 w [.blk g1 [.int .i64 t.vars, .int .i64 t.den, vB, vF, vC]]) ⟨(-1), 0, rfl, (by omega), (by omega), ?_, rfl, hS⟩ ?_
     ·
      rfl
     ·
      clear hS w
      rintro mm M w ⟨c, j, rfl, j0, j1, hcc, rfl, hS⟩
      have hcr := entr_rng t (leav t t.nb.toNat) j.toNat; rw [← hcc] at hcr
      refine zsq <| zsq <| zrg ?_
      refine zlv xmv ?_
      refine zlv (xfb 3 fd_25_3) ?_
      refine zlv (xlb 0 pl_22 hS) ?_
      refine zlv (xln sl_22 hT.F.slh) ?_
      refine zlv xlss ?_
      refine zln <| ztn ?_
      refine zcif ?_ ?_ <;> intro hc
      ·
       refine zsk <| ztn <| zsq <| zbk <| zsq <| zrg ?_
       refine zlv (xfb 4 fd_25_4) ?_
       refine zlv (xlb 0 pl_23 hS) ?_
       refine zlv xmv ?_
       have hlr := hp.len (i := (leav t t.nb.toNat) + 1) (by omega) (by omega)
       refine zlv (xadd (r := (leav t t.nb.toNat) + 1)) ?_
       refine zlv (xix (kk := (leav t t.nb.toNat) + 1) sl_23 hT.C.row.slh) ?_
       refine zlv (xlr (u := (vv ((leav t t.nb.toNat) + 1))) pl_22 (hT.C.row.below hS.below)) ?_
       refine zlv xmv ?_
       refine zlv (xadd (r := j + 1)) ?_
       refine zlv (xix (kk := j + 1) sl_22 (hT.C.p ((leav t t.nb.toNat) + 1) (by omega) (by omega)).slh) ?_
       refine zlv (xlr (u := .int .i64 ((t.C ((leav t t.nb.toNat) + 1)) (j + 1))) pl_3 ((hT.C.p ((leav t t.nb.toNat) + 1) (by omega) (by omega)).below hS.below)) ?_
       refine zlv xas ?_
       refine zln <| ztn <| zsq <| zsq <| zrg ?_
       refine zlv xmv ?_
       refine zlv xleq ?_
       refine zln <| ztn ?_
       refine zcif ?_ ?_ <;> intro hc
       ·
        refine zxt <| ztx <| zbh <| ztn <| zrg ?_
        refine zlv xmv ?_
        refine zlv (xadd (r := j + 1)) ?_
        refine zlv xas ?_
        refine zln <| zlq ⟨c, j + 1, rfl, (by omega), (by omega), ?_, rfl, hS⟩
        ·
         rw [entr_next t (leav t t.nb.toNat) j0, ← hcc]; (repeat' split) <;> omega
       ·
        refine zsk <| ztn <| zsq <| zsq <| zrg ?_
        refine zlv xmv ?_
        refine zlv xlss ?_
        refine zln <| ztn ?_
        refine zcif ?_ ?_ <;> intro hc
        ·
         refine zsq <| zrg ?_
         refine zlv xmv ?_
         refine zlv xas ?_
         refine zln <| ztn <| zxt <| ztx <| zbh <| ztn <| zrg ?_
         refine zlv xmv ?_
         refine zlv (xadd (r := j + 1)) ?_
         refine zlv xas ?_
         refine zln <| zlq ⟨j, j + 1, rfl, (by omega), (by omega), ?_, rfl, hS⟩
         ·
          rw [entr_next t (leav t t.nb.toNat) j0, ← hcc]; (repeat' split) <;> omega
        ·
         refine zsk <| ztn <| zsq ?_
         refine zdst [0] [0] 1000 mx_ hS ?_; clear hS; intro w hS
         refine zdv 0 (fun _ => (xfb 4 fd_25_4)) ?_
         refine zdla 1 (fun w hS => (xlb 0 pl_23 hS)) ?_
         refine zdv 2 (fun _ => (xix (kk := 0) sl_23 hT.C.row.slh)) ?_
         refine zdla 3 (fun w hS => (xlr (u := (vv 0)) pl_22 (hT.C.row.below hS.below))) ?_
         refine zdv 4 (fun _ => xmv) ?_
         have hcr := entr_rng t (leav t t.nb.toNat) j.toNat; rw [← hcc] at hcr
         have hm1 := mul_abs (hp.cell (i := 0) (j := j + 1) (by omega) (by omega) (by omega) (by omega)) (hp.cell (i := (leav t t.nb.toNat) + 1) (j := c + 1) (by omega) (by omega) (by omega) (by omega)); have hm2 := mul_abs (hp.cell (i := 0) (j := c + 1) (by omega) (by omega) (by omega) (by omega)) (hp.cell (i := (leav t t.nb.toNat) + 1) (j := j + 1) (by omega) (by omega) (by omega) (by omega))
         refine zdv 5 (fun _ => (xadd (r := j + 1))) ?_
         refine zdv 6 (fun _ => (xix (kk := j + 1) sl_22 (hT.C.p 0 (by omega) (by omega)).slh)) ?_
         refine zdla 7 (fun w hS => (xlr (u := .int .i64 ((t.C 0) (j + 1))) pl_3 ((hT.C.p 0 (by omega) (by omega)).below hS.below))) ?_
         refine zdv 8 (fun _ => (xfb 4 fd_25_4)) ?_
         refine zdla 9 (fun w hS => (xlb 0 pl_23 hS)) ?_
         refine zdv 10 (fun _ => xmv) ?_
         refine zdv 11 (fun _ => (xadd (r := (leav t t.nb.toNat) + 1))) ?_
         refine zdv 12 (fun _ => (xix (kk := (leav t t.nb.toNat) + 1) sl_23 hT.C.row.slh)) ?_
         refine zdla 13 (fun w hS => (xlr (u := (vv ((leav t t.nb.toNat) + 1))) pl_22 (hT.C.row.below hS.below))) ?_
         refine zdv 14 (fun _ => xmv) ?_
         refine zdv 15 (fun _ => (xadd (r := c + 1))) ?_
         refine zdv 16 (fun _ => (xix (kk := c + 1) sl_22 (hT.C.p ((leav t t.nb.toNat) + 1) (by omega) (by omega)).slh)) ?_
         refine zdla 17 (fun w hS => (xlr (u := .int .i64 ((t.C ((leav t t.nb.toNat) + 1)) (c + 1))) pl_3 ((hT.C.p ((leav t t.nb.toNat) + 1) (by omega) (by omega)).below hS.below))) ?_
         refine zdv 18 (fun _ => (xmul (r := (((t.C 0) (j + 1)) * ((t.C ((leav t t.nb.toNat) + 1)) (c + 1)))) (e := rfl))) ?_
         refine zdv 19 (fun _ => (xfb 4 fd_25_4)) ?_
         refine zdla 20 (fun w hS => (xlb 0 pl_23 hS)) ?_
         refine zdv 21 (fun _ => (xix (kk := 0) sl_23 hT.C.row.slh)) ?_
         refine zdla 22 (fun w hS => (xlr (u := (vv 0)) pl_22 (hT.C.row.below hS.below))) ?_
         refine zdv 23 (fun _ => xmv) ?_
         refine zdv 24 (fun _ => (xadd (r := c + 1))) ?_
         refine zdv 25 (fun _ => (xix (kk := c + 1) sl_22 (hT.C.p 0 (by omega) (by omega)).slh)) ?_
         refine zdla 26 (fun w hS => (xlr (u := .int .i64 ((t.C 0) (c + 1))) pl_3 ((hT.C.p 0 (by omega) (by omega)).below hS.below))) ?_
         refine zdv 27 (fun _ => xmv) ?_
         refine zdv 28 (fun _ => (xmul (r := (((t.C 0) (c + 1)) * ((t.C ((leav t t.nb.toNat) + 1)) (j + 1)))) (e := rfl))) ?_
         refine zdv 29 (fun _ => xas) ?_
         refine zdv 30 (fun _ => xas) ?_
         refine zdd <| ztn <| zsq ?_
         refine zdst [0] [0] 1000 mx_ hS ?_; clear hS; intro w hS
         refine zdv 0 (fun _ => xmv) ?_
         have hne : t.F j ≠ t.F c := fun hh => by have := hp.injF (i := j) (j := c) (by omega) (by omega) (by omega) (by omega) (by omega) hh; omega
         refine zdv 1 (fun _ => xmv) ?_
         refine zdv 2 (fun _ => xlss) ?_
         refine zdv 3 (fun _ => xmv) ?_
         refine zdb 82 ?_ ?_ <;> intro hc
         ·
          refine zdof 4 ?_
          refine zdof 5 ?_
          refine zdof 6 ?_
          refine zdof 7 ?_
          refine zdof 8 ?_
          refine zdof 9 ?_
          refine zdof 10 ?_
          refine zdof 11 ?_
          refine zdof 12 ?_
          refine zdof 13 ?_
          refine zdof 14 ?_
          refine zdof 15 ?_
          refine zdof 16 ?_
          refine zdof 17 ?_
          refine zdof 18 ?_
          refine zdof 19 ?_
          refine zdv 20 (fun _ => xpt) ?_
          refine zdd <| ztn <| zct <| zrg ?_
          refine zlv xmv ?_
          refine zlv xas ?_
          refine zln <| zbn <| ztn <| zrg ?_
          refine zlv xmv ?_
          refine zlv (xadd (r := j + 1)) ?_
          refine zlv xas ?_
          refine zln <| zlq ⟨j, j + 1, rfl, (by omega), (by omega), ?_, rfl, hS⟩
          ·
           rw [entr_next t (leav t t.nb.toNat) j0, ← hcc]; (repeat' split) <;> omega
         ·
          refine zdv 4 (fun _ => xmv) ?_
          refine zdv 5 (fun _ => xmv) ?_
          refine zdv 6 (fun _ => xeql) ?_
          refine zdv 7 (fun _ => xmv) ?_
          refine zdb 86 ?_ ?_ <;> intro hc
          ·
           refine zdv 8 (fun _ => (xfb 3 fd_25_3)) ?_
           refine zdla 9 (fun w hS => (xlb 0 pl_22 hS)) ?_
           refine zdv 10 (fun _ => xmv) ?_
           refine zdv 11 (fun _ => (xix (kk := j) sl_22 hT.F.slh)) ?_
           refine zdla 12 (fun w hS => (xlr (u := .int .i64 (t.F j)) pl_3 (hT.F.below hS.below))) ?_
           refine zdv 13 (fun _ => (xfb 3 fd_25_3)) ?_
           refine zdla 14 (fun w hS => (xlb 0 pl_22 hS)) ?_
           refine zdv 15 (fun _ => xmv) ?_
           refine zdv 16 (fun _ => (xix (kk := c) sl_22 hT.F.slh)) ?_
           refine zdla 17 (fun w hS => (xlr (u := .int .i64 (t.F c)) pl_3 (hT.F.below hS.below))) ?_
           refine zdv 18 (fun _ => xlss) ?_
           refine zdv 19 (fun _ => xpt) ?_
           refine zdv 20 (fun _ => xpf) ?_
           refine zdd <| ztn ?_
           refine zcif ?_ ?_ <;> intro hc
           ·
            refine zrg ?_
            refine zlv xmv ?_
            refine zlv xas ?_
            refine zln <| zbn <| ztn <| zrg ?_
            refine zlv xmv ?_
            refine zlv (xadd (r := j + 1)) ?_
            refine zlv xas ?_
            refine zln <| zlq ⟨j, j + 1, rfl, (by omega), (by omega), ?_, rfl, hS⟩
            ·
             rw [entr_next t (leav t t.nb.toNat) j0, ← hcc]; (repeat' split) <;> omega
           ·
            refine zsk <| zbn <| ztn <| zrg ?_
            refine zlv xmv ?_
            refine zlv (xadd (r := j + 1)) ?_
            refine zlv xas ?_
            refine zln <| zlq ⟨c, j + 1, rfl, (by omega), (by omega), ?_, rfl, hS⟩
            ·
             rw [entr_next t (leav t t.nb.toNat) j0, ← hcc]; (repeat' split) <;> omega
          ·
           refine zdof 8 ?_
           refine zdof 9 ?_
           refine zdof 10 ?_
           refine zdof 11 ?_
           refine zdof 12 ?_
           refine zdof 13 ?_
           refine zdof 14 ?_
           refine zdof 15 ?_
           refine zdof 16 ?_
           refine zdof 17 ?_
           refine zdof 18 ?_
           refine zdv 19 (fun _ => xpf) ?_
           refine zdv 20 (fun _ => xpf) ?_
           refine zdd <| ztn <| zcf <| zsk <| zbn <| ztn <| zrg ?_
           refine zlv xmv ?_
           refine zlv (xadd (r := j + 1)) ?_
           refine zlv xas ?_
           refine zln <| zlq ⟨c, j + 1, rfl, (by omega), (by omega), ?_, rfl, hS⟩
           ·
            rw [entr_next t (leav t t.nb.toNat) j0, ← hcc]; (repeat' split) <;> omega
      ·
       refine zxt <| ztx <| ztx <| zbh <| ztn <| zsq <| zsq <| zrg ?_
       refine zlv xmv ?_
       refine zlv xlss ?_
       refine zln <| ztn ?_
       refine zcif ?_ ?_ <;> intro hc
       ·
        refine zsq <| zrg ?_
        iterate 4 refine zlv xas ?_
        refine zln <| ztn <| zrt <| ztr <| zf4 ⟨_, rfl, ?_⟩
        obtain rfl : j = t.nf := by omega
        exact ⟨_, _, _, _, rfl, .inr (.inr (.inl ⟨hp, (fun j j0 j1 => by have := hcq (j - 1) (by omega) (by omega); rw [show j - 1 + 1 = j by omega] at this; omega), by omega, by omega, rfl, rfl, rfl, rfl⟩)), hS.nl⟩
       ·
        refine zsk <| ztn <| zsq <| zrg ?_
        iterate 2 refine zlv xmv ?_
        iterate 4 refine zlv xas ?_
        refine zln <| ztn <| zrt <| zf4 ⟨_, rfl, ?_⟩
        obtain rfl : j = t.nf := by omega
        exact ⟨_, _, _, _, rfl, .inr (.inr (.inr ⟨hp, (fun j j0 j1 => by have := hcq (j - 1) (by omega) (by omega); rw [show j - 1 + 1 = j by omega] at this; omega), by omega, by omega, rfl, hcc, rfl, rfl⟩)), hS.nl⟩

set_option maxRecDepth 20000 in
theorem c_cell {vB vF vC : Value} {vv : Int → Value} {t : Tb} {i j r s : Int} (w0 : World) (hT : TAt w0 vB vF vC vv t) (hp : TPrp t) (i0 : 0 ≤ i) (i1 : i ≤ t.nb) (j0 : 0 ≤ j) (j1 : j ≤ t.nf) (r0 : 0 ≤ r) (r1 : r ≤ t.nb) (s0 : 0 ≤ s) (s1 : s ≤ t.nf) :
    Calls Try.prog 134 [.agg #[.int .i64 t.vars, .int .i64 t.den, vB, vF, vC], .int .i64 i, .int .i64 j, .int .i64 r, .int .i64 s].toArray w0 fun e w => ∃ v, e = .returned v ∧ ∃ (n : Int) (ok : Value), v = .tuple #[.int .i64 n, ok] ∧ n = pcell t r s i j ∧ ok = B (divs t r s i j) ∧ Sat w0 w [] := by
  have hn := hT.F.slh.n0; have hn1 := hT.F.slh.n1; have hb := hT.B.slh.n0; have hb1 := hT.B.slh.n1; have hc0 := hT.C.row.slh.n0; have hc1 := hT.C.row.slh.n1
  have b1 := hp.n1; have b2 := hp.n2; have b3 := hp.m2; have b4 := hp.v; have b5 := hp.d1; have b6 := hp.d2; have b7 := hp.c
  have hc1x := hp.cell (i := r) (j := s) (by omega) (by omega) (by omega) (by omega); have hc2x := hp.cell (i := i) (j := j) (by omega) (by omega) (by omega) (by omega); have hc3x := hp.cell (i := i) (j := s) (by omega) (by omega) (by omega) (by omega); have hc4x := hp.cell (i := r) (j := j) (by omega) (by omega) (by omega) (by omega)
  have hm1 := mul_abs hc1x hc2x; have hm2 := mul_abs hc3x hc4x; have hli := hp.len (i := i) (by omega) (by omega); have hlr := hp.len (i := r) (by omega) (by omega)
  have hqd := tdiv_abs (a := t.C r s * t.C i j - t.C i s * t.C r j) (d := t.den) (A := 2305843009213693952) (by omega) (by omega)
  refine zenG Try.func134 Try.ntmps134 fun w hS => ?_
  refine zsq <| zrg ?_
  refine zla (xbx (cs := [_, _, _, _, _]) hS) ?_; rintro _ w ⟨g1, rfl, hS⟩
  replace hS : Sat w0 w [.blk _ [_, _, _, _, _]] := hS
  iterate 2 refine zlv xas ?_
  refine zln <| ztn <| zsq <| zrg ?_
  refine zlv (xfb 4 fd_25_4) ?_
  refine zlv (xlb 0 pl_23 hS) ?_
  refine zlv xmv ?_
  refine zlv (xix (kk := r) sl_23 hT.C.row.slh) ?_
  refine zlv (xlr (u := (vv r)) pl_22 (hT.C.row.below hS.below)) ?_
  refine zlv xmv ?_
  refine zlv (xix (kk := s) sl_22 (hT.C.p r (by omega) (by omega)).slh) ?_
  refine zlv (xlr (u := .int .i64 ((t.C r) s)) pl_3 ((hT.C.p r (by omega) (by omega)).below hS.below)) ?_
  refine zlv xas ?_
  refine zln <| ztn <| zsq <| zbk <| zsq <| zrg ?_
  iterate 2 refine zlv xmv ?_
  refine zlv xeql ?_
  refine zlv xmv ?_
  refine zlb 26 ?_ ?_ <;> intro hc
  ·
   iterate 2 refine zlv xmv ?_
   refine zlv xeql ?_
   refine zlv xpt ?_
   refine zlv xas ?_
   refine zln <| ztn ?_
   refine zcif ?_ ?_ <;> intro hc
   ·
    refine zsq <| zrg ?_
    refine zlv (xfb 1 fd_25_1) ?_
    refine zlv (xlb 0 pl_3 hS) ?_
    iterate 2 refine zlv xas ?_
    refine zln <| ztn <| zrt <| zbr <| ztr <| zf2 ⟨_, rfl, ?_⟩
    skip
    exact ⟨(_), _, rfl, by unfold pcell; first | exact (if_pos ⟨by omega, by omega⟩).symm | (rw [if_neg (by omega)]; exact (if_pos (by omega)).symm) | (rw [if_neg (by omega), if_neg (by omega)]; exact (if_pos (by omega)).symm), true_B (fun h1 h2 => by omega), hS.nl⟩
   ·
    refine zsq <| zrg ?_
    iterate 2 refine zlv xmv ?_
    refine zlv (xkt xeql) ?_
    refine zlv xas ?_
    refine zln <| ztn <| zct <| zsq <| zrg ?_
    refine zlv (xfb 4 fd_25_4) ?_
    refine zlv (xlb 0 pl_23 hS) ?_
    refine zlv xmv ?_
    refine zlv (xix (kk := r) sl_23 hT.C.row.slh) ?_
    refine zlv (xlr (u := (vv r)) pl_22 (hT.C.row.below hS.below)) ?_
    refine zlv xmv ?_
    refine zlv (xix (kk := j) sl_22 (hT.C.p r (by omega) (by omega)).slh) ?_
    refine zlv (xlr (u := .int .i64 ((t.C r) j)) pl_3 ((hT.C.p r (by omega) (by omega)).below hS.below)) ?_
    refine zlv (xneg (r := -(((t.C r) j)))) ?_
    iterate 2 refine zlv xas ?_
    refine zln <| ztn <| zrt <| zbr <| ztr <| zf2 ⟨_, rfl, ?_⟩
    obtain rfl : i = r := by omega
    skip
    exact ⟨(_), _, rfl, by unfold pcell; first | exact (if_pos ⟨by omega, by omega⟩).symm | (rw [if_neg (by omega)]; exact (if_pos (by omega)).symm) | (rw [if_neg (by omega), if_neg (by omega)]; exact (if_pos (by omega)).symm), true_B (fun h1 h2 => by omega), hS.nl⟩
  ·
   iterate 3 refine zlo ?_
   refine zlv xpf ?_
   refine zlv xas ?_
   refine zln <| ztn <| zcf <| zsq <| zrg ?_
   iterate 2 refine zlv xmv ?_
   refine zlv xeql ?_
   refine zlv xas ?_
   refine zln <| ztn ?_
   refine zcif ?_ ?_ <;> intro hc
   ·
    exfalso; omega
   ·
    refine zsq <| zrg ?_
    iterate 2 refine zlv xmv ?_
    refine zlv xeql ?_
    refine zlv xas ?_
    refine zln <| ztn ?_
    refine zcif ?_ ?_ <;> intro hc
    ·
     refine zsq <| zrg ?_
     refine zlv (xfb 4 fd_25_4) ?_
     refine zlv (xlb 0 pl_23 hS) ?_
     refine zlv xmv ?_
     refine zlv (xix (kk := i) sl_23 hT.C.row.slh) ?_
     refine zlv (xlr (u := (vv i)) pl_22 (hT.C.row.below hS.below)) ?_
     refine zlv xmv ?_
     refine zlv (xix (kk := s) sl_22 (hT.C.p i (by omega) (by omega)).slh) ?_
     refine zlv (xlr (u := .int .i64 ((t.C i) s)) pl_3 ((hT.C.p i (by omega) (by omega)).below hS.below)) ?_
     iterate 2 refine zlv xas ?_
     refine zln <| ztn <| zrt <| zbr <| ztr <| zf2 ⟨_, rfl, ?_⟩
     obtain rfl : j = s := by omega
     skip
     exact ⟨(_), _, rfl, by unfold pcell; first | exact (if_pos ⟨by omega, by omega⟩).symm | (rw [if_neg (by omega)]; exact (if_pos (by omega)).symm) | (rw [if_neg (by omega), if_neg (by omega)]; exact (if_pos (by omega)).symm), true_B (fun h1 h2 => by omega), hS.nl⟩
    ·
     refine zsk <| zbn <| ztn <| zsq ?_
     refine zdst [0] [0] 1000 mx_ hS ?_; clear hS; intro w hS
     refine zdv 0 (fun _ => xmv) ?_
     refine zdv 1 (fun _ => (xfb 4 fd_25_4)) ?_
     refine zdla 2 (fun w hS => (xlb 0 pl_23 hS)) ?_
     refine zdv 3 (fun _ => xmv) ?_
     refine zdv 4 (fun _ => (xix (kk := i) sl_23 hT.C.row.slh)) ?_
     refine zdla 5 (fun w hS => (xlr (u := (vv i)) pl_22 (hT.C.row.below hS.below))) ?_
     refine zdv 6 (fun _ => xmv) ?_
     refine zdv 7 (fun _ => (xix (kk := j) sl_22 (hT.C.p i (by omega) (by omega)).slh)) ?_
     refine zdla 8 (fun w hS => (xlr (u := .int .i64 ((t.C i) j)) pl_3 ((hT.C.p i (by omega) (by omega)).below hS.below))) ?_
     refine zdv 9 (fun _ => (xmul (r := (((t.C r) s) * ((t.C i) j))) (e := rfl))) ?_
     refine zdv 10 (fun _ => (xfb 4 fd_25_4)) ?_
     refine zdla 11 (fun w hS => (xlb 0 pl_23 hS)) ?_
     refine zdv 12 (fun _ => xmv) ?_
     refine zdv 13 (fun _ => (xix (kk := i) sl_23 hT.C.row.slh)) ?_
     refine zdla 14 (fun w hS => (xlr (u := (vv i)) pl_22 (hT.C.row.below hS.below))) ?_
     refine zdv 15 (fun _ => xmv) ?_
     refine zdv 16 (fun _ => (xix (kk := s) sl_22 (hT.C.p i (by omega) (by omega)).slh)) ?_
     refine zdla 17 (fun w hS => (xlr (u := .int .i64 ((t.C i) s)) pl_3 ((hT.C.p i (by omega) (by omega)).below hS.below))) ?_
     refine zdv 18 (fun _ => (xfb 4 fd_25_4)) ?_
     refine zdla 19 (fun w hS => (xlb 0 pl_23 hS)) ?_
     refine zdv 20 (fun _ => xmv) ?_
     refine zdv 21 (fun _ => (xix (kk := r) sl_23 hT.C.row.slh)) ?_
     refine zdla 22 (fun w hS => (xlr (u := (vv r)) pl_22 (hT.C.row.below hS.below))) ?_
     refine zdv 23 (fun _ => xmv) ?_
     refine zdv 24 (fun _ => (xix (kk := j) sl_22 (hT.C.p r (by omega) (by omega)).slh)) ?_
     refine zdla 25 (fun w hS => (xlr (u := .int .i64 ((t.C r) j)) pl_3 ((hT.C.p r (by omega) (by omega)).below hS.below))) ?_
     refine zdv 26 (fun _ => (xmul (r := (((t.C i) s) * ((t.C r) j))) (e := rfl))) ?_
     refine zdv 27 (fun _ => (xsub (r := (((t.C r) s) * ((t.C i) j)) - (((t.C i) s) * ((t.C r) j))))) ?_
     refine zdv 28 (fun _ => xas) ?_
     refine zdd <| ztn <| zsq ?_
     refine zdst [0] [0] 1000 mx_ hS ?_; clear hS; intro w hS
     refine zdv 0 (fun _ => xmv) ?_
     refine zdv 1 (fun _ => (xfb 1 fd_25_1)) ?_
     refine zdla 2 (fun w hS => (xlb 0 pl_3 hS)) ?_
     refine zdv 3 (fun _ => (xquo (r := (Int.tdiv ((((t.C r) s) * ((t.C i) j)) - (((t.C i) s) * ((t.C r) j))) t.den)))) ?_
     refine zdv 4 (fun _ => xmv) ?_
     refine zdv 5 (fun _ => (xfb 1 fd_25_1)) ?_
     refine zdla 6 (fun w hS => (xlb 0 pl_3 hS)) ?_
     refine zdv 7 (fun _ => (xrem (r := (Int.tmod ((((t.C r) s) * ((t.C i) j)) - (((t.C i) s) * ((t.C r) j))) t.den)))) ?_
     refine zdv 8 (fun _ => xeql) ?_
     refine zdv 9 (fun _ => xas) ?_
     refine zdv 10 (fun _ => xas) ?_
     refine zdd <| ztn <| zrt <| zf2 ⟨_, rfl, ?_⟩
     exact ⟨_, _, rfl, by unfold pcell; rw [if_neg (by omega), if_neg (by omega), if_neg (by omega)], B_congr ⟨fun h _ _ => h, fun h => h (by omega) (by omega)⟩, hS.nl⟩

end Go.Proofs.Ytelfplepnodbgaa
