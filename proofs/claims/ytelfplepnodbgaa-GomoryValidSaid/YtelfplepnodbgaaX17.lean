/- The walk of GomoryValid. -/
import Derived.Test.YtelfplepnodbgaaGc
import Derived.Test.YtelfplepnodbgaaX16
namespace Go.Proofs.Ytelfplepnodbgaa
open Go Go.RowKit Go.Proofs.Gw
set_option linter.unusedVariables false

theorem cutF_neg {u : Tb} (hd : 1 ≤ u.den) {r : Int} (h : (u.C (r + 1) 0).tmod u.den ≠ 0) : cutF u r 0 < 0 := by
  unfold cutF; rw [if_pos rfl]
  have h1 := rmd_rng (a := u.C (r + 1) 0) hd
  have h2 : rmd (u.C (r + 1) 0) u.den ≠ 0 := fun e => by
    rw [rmd_emod hd] at e
    exact h (Int.tmod_eq_zero_of_dvd (Int.dvd_of_emod_eq_zero e))
  omega
/-- The cut of a proper tableau's row with a fraction. -/
theorem CutR.frac {t : Tb} {row n e : Int} {f : Int → Int} (h : CutR t row n f e) (hp : TPrp t) (r0 : 0 ≤ row) (r1 : row < t.nb) (hC : (t.C (row + 1) 0).tmod t.den ≠ 0) : e = 0 ∧ n = t.nf + 1 ∧ ∀ j, 0 ≤ j → j < n → f j = cutF t row j := by
  rcases h with ⟨h1, h2, h3⟩ | ⟨h1, h2, h3, h4⟩ | ⟨h1, h2, h3, h4, h5, h6⟩ | ⟨h1, h2, h3, h4, h5, h6, h7⟩
  · exact absurd hp h1
  · exact absurd ⟨r0, r1⟩ h2
  · exact absurd h4 hC
  · exact ⟨h7, h5, h6⟩
theorem AddR.frac {t t' : Tb} {row e : Int} (h : AddR t row t' e) (hp : TPrp t) (r0 : 0 ≤ row) (r1 : row < t.nb) (hC : (t.C (row + 1) 0).tmod t.den ≠ 0) (hb : t.nb < 16) : e = 0 ∧ t' = addT t row := by
  rcases h with ⟨h1, h2, h3⟩ | ⟨h1, h2, h3, h4⟩ | ⟨h1, h2, h3, h4, h5, h6⟩ | ⟨h1, h2, h3, h4, h5, h6, h7⟩ | ⟨h1, h2, h3, h4, h5, h6, h7⟩
  · exact absurd hp h1
  · exact absurd ⟨r0, r1⟩ h2
  · exact absurd h4 hC
  · omega
  · exact ⟨h7, h6⟩
/-- What is at hand behind some cuts: the whole numbers of all variables. -/
def ValR (p : Lp) (t : Tb) (z : Int) (n : Int) (f : Int → Int) : Prop := n = t.nf + t.nb ∧ (∃ v, Wh t z v ∧ ∀ q, 0 ≤ q → q < n → f q = v q) ∧ ∀ q, 0 ≤ q → q < n → 0 ≤ f q ∧ f q ≤ 268435456
theorem valR_start {p : Lp} (hl : LOk p) (hm : 0 ≤ p.m) (hn : p.n ≤ 12) {y : Int → Int} (hy : ∀ j, 0 ≤ y j ∧ y j ≤ 59) (hbb : ∀ k, 0 ≤ k → k < p.m → ∀ q, 0 ≤ q → q < p.n → (-1000 ≤ p.A k q ∧ p.A k q ≤ 1000) ∧ -1000 ≤ p.b k ∧ p.b k ≤ 1000)
    {nw c : Int} {fw : Int → Int} {ok : Prop} (hw : WholeR p y nw fw c ok) (hok : ok) {t : Tb} (ht : t = startT p) {n : Int} {f : Int → Int} (h1 : n = nw + p.m) (h2 : ok → ∀ q, 0 ≤ q → q < n → f q = allv p y 1 q) : ValR p t c n f := by
  rcases hw with ⟨h, _⟩ | ⟨_, w1, w2, w3, w4⟩
  · exact absurd hok h
  subst ht
  have hst := wh_start hl hm (fun j _ _ => (hy j).1) w4
  have hn1 := hl.n1
  have hnn : n = (startT p).nf + (startT p).nb := by show n = p.n + p.m; omega
  refine ⟨hnn, ⟨_, by rw [w3]; exact hst, h2 hok⟩, fun q q0 q1 => ?_⟩
  rw [h2 hok q q0 q1]
  refine ⟨hst.2 q q0 (by omega), ?_⟩
  unfold allv
  split
  · have := hy q; omega
  · have hb := hbb (q - p.n) (by omega) (by omega)
    have := dotp_bd (f := p.A (q - p.n)) (g := y) (A := 1000) (B := 59) (by omega) (by omega) p.n.toNat (fun k k0 k1 => (hb k k0 (by omega)).1) (fun k k0 k1 => by have := hy k; omega)
    have := (hb 0 (by omega) (by omega)).2
    omega
theorem valR_cut {p : Lp} {t u : Tb} {z n : Int} {f : Int → Int} {r : Int} (ho : OptR t u 0) (hp : TPrp u) (h0 : 0 ≤ u.nb) (r0 : 0 ≤ r) (r1 : r < u.nb) (h : ValR p t z n f) {k : Int → Int} {s : Int} (hk : ∀ j, 0 ≤ j → j < u.nf + 1 → k j = cutF u r j) (hs : s = k 0 + sumTo (fun j => k (j + 1) * f (u.F j)) u.nf.toNat) :
    n = u.nf + u.nb ∧ u.den ∣ s ∧ 0 ≤ s ∧ (s.tdiv u.den ≤ 268435456 → ∀ (n' : Int) (g : Int → Int), n' = n + 1 → (∀ q, 0 ≤ q → q < n' → g q = snoc f n (s.tdiv u.den) q) → ValR p (addT u r) z n' g) := by
  obtain ⟨h1, ⟨v, hv, hf⟩, hb⟩ := h
  have hod := ho.dims
  have hpr := ho.prp.2
  have hn : n = u.nf + u.nb := by omega
  have hn1 := hp.n1
  have hw := wh_opt ho hv
  have e : s = cutS u r v := by
    rw [hs]; unfold cutS
    rw [hk 0 (by omega) (by omega)]
    congr 1
    exact sumTo_congr fun j j0 j1 => by
      have hF := hp.rngF j0 (by omega) h0
      rw [hk (j + 1) (by omega) (by omega), hf _ hF.1 (by omega)]
  obtain ⟨d1, d2⟩ := cut_whole hp h0 r0 r1 hw
  rw [← e] at d1 d2
  refine ⟨hn, d1, d2, fun hle n' g hn' hg => ?_⟩
  have hq : s.tdiv u.den = cutS u r v / u.den := by rw [e, Int.tdiv_eq_ediv_of_nonneg (by omega)]
  have hnb : (addT u r).nf + (addT u r).nb = n + 1 := by show u.nf + (u.nb + 1) = n + 1; omega
  have hat : ∀ q, 0 ≤ q → q < n' → g q = upd v (u.nf + u.nb) (cutS u r v / u.den) q := fun q q0 q1 => by
    rw [hg q q0 q1]
    by_cases e9 : q < n
    · rw [snoc_lt e9, upd_ne _ _ (by omega), hf q q0 e9]
    · rw [snoc_at (by omega), show q = u.nf + u.nb by omega, upd_self, hq]
  refine ⟨by omega, ⟨_, wh_cut hp h0 r0 r1 hw, hat⟩, fun q q0 q1 => ?_⟩
  rw [hg q q0 q1]
  by_cases e9 : q < n
  · rw [snoc_lt e9]; exact hb q q0 e9
  · rw [snoc_at (by omega)]; exact ⟨Int.tdiv_nonneg d2 (by have := hp.d1; omega), hle⟩
theorem WholeR.num {p : Lp} {y : Int → Int} {n : Int} {f : Int → Int} {c : Int} {ok : Prop} (h : WholeR p y n f c ok) (hn : 0 ≤ p.n) (hy : ∀ j, 0 ≤ y j ∧ y j ≤ 59) : n ≤ p.n ∧ (∀ q, 0 ≤ q → q < n → 0 ≤ f q ∧ f q ≤ 59) ∧ (ok → n = p.n ∧ f = y) := by
  rcases h with ⟨h1, h2, h3, _⟩ | ⟨h1, h2, h3, _⟩
  · exact ⟨by omega, fun q q0 q1 => by omega, fun hh => absurd hh h1⟩
  · exact ⟨by omega, fun q _ _ => by rw [h3]; exact hy q, fun _ => ⟨h2, h3⟩⟩

set_option maxHeartbeats 4000000 in
set_option maxRecDepth 20000 in
theorem law_valid {vc vA vb : Value} {vq : Int → Value} {p : Lp} {vu : Value} {mu : Int} {fu : Int → Int} (w0 : World) (hL : LAt w0 vc vA vb vq p) (hU : Row w0 vu 1 mu (fun k => .int .u8 (fu k))) (hub : ∀ k, 0 ≤ fu k ∧ fu k ≤ 255) :
    Calls Try.prog 4 [.agg #[vc, vA, vb], vu].toArray w0 fun e w => ∃ v, e = .returned v ∧ v = .bool true ∧ Sat w0 w [] := by
  have hn := hL.c.slh.n0; have hn1 := hL.c.slh.n1; have hm := hL.A.row.slh.n0; have hm1 := hL.A.row.slh.n1; have hk := hL.b.slh.n0; have hk1 := hL.b.slh.n1
  have hmu := hU.slh.n0; have hmu1 := hU.slh.n1
  refine zenG Try.func4 Try.ntmps4 fun w hS => ?_
  refine zsq <| zrg ?_
  refine zla (xbx (cs := [_, _, _]) hS) ?_; rintro _ w ⟨g1, rfl, hS⟩
  replace hS : Sat w0 w [.blk _ [_, _, _]] := hS
  refine zlv xas ?_
  refine zln <| ztn <| zsq <| zsq <| zrg ?_
  refine zlc (xc0 cl_14) (c_gawake w) ?_; rintro _ w ⟨rfl, hS'⟩
  replace hS := hS.cmp hS'; clear hS'
  refine zlv xnt ?_
  refine zlv xmv ?_
  refine zlv (xls 0 st_44 hS) ?_
  refine zlc (xc0 cl_24) (c_few (p := p) w (hL.below hS.below)) ?_; rintro _ w ⟨rfl, hS'⟩
  replace hS := hS.cmp hS'; clear hS'
  refine zlv xnot ?_
  refine zlv xpf ?_
  refine zlv xmv ?_
  refine zlb 34 ?_ ?_ <;> intro hc
  ·
   iterate 3 refine zlo ?_
   refine zlv xpt ?_
   refine zln <| ztn <| zct <| zsq <| zrg ?_
   refine zlc (xc0 cl_14) (c_gawake w) ?_; rintro _ w ⟨rfl, hS'⟩
   replace hS := hS.cmp hS'; clear hS'
   refine zlv xas ?_
   refine zln <| ztn <| zrt <| ztr <| zf1 ⟨_, rfl, ?_⟩
   exact ⟨rfl, hS.nl⟩
  ·
   refine zlv (xls 0 st_44 hS) ?_
   refine zlc (xc0 cl_25) (c_rvalid (p := p) w (hL.below hS.below)) ?_; rintro _ w ⟨rfl, hS'⟩
   replace hS := hS.cmp hS'; clear hS'
   refine zlv xnot ?_
   refine zlv xpf ?_
   refine zln <| ztn ?_
   refine zcif ?_ ?_ <;> intro hc
   ·
    refine zsq <| zrg ?_
    refine zlc (xc0 cl_14) (c_gawake w) ?_; rintro _ w ⟨rfl, hS'⟩
    replace hS := hS.cmp hS'; clear hS'
    refine zlv xas ?_
    refine zln <| ztn <| zrt <| ztr <| zf1 ⟨_, rfl, ?_⟩
    exact ⟨rfl, hS.nl⟩
   ·
    refine zsk <| ztn <| zsq <| zsq <| zrg ?_
    refine zlv (xfb 1 fd_44_1) ?_
    have hl : LOk p := by first | assumption | exact Classical.not_not.1 ‹¬ ¬ (LOk p)›
    have b1 := hl.n1; have b2 := hl.n2; have b3 := hl.m2; have b4 := hl.k
    have hfew : FewP p := by first | assumption | exact Classical.not_not.1 ‹_›
    have hf1 := hfew.2.1; have hf2 := hfew.2.2.1
    refine zlv (xlb 0 pl_23 hS) ?_
    refine zlv (xln sl_23 hL.A.row.slh) ?_
    refine zlv xmv ?_
    refine zln <| ztn <| zbk <| zlp (fun mm M w => ∃ (i : Int), mm = ((p.m - i).toNat) ∧ (0 ≤ i) ∧ (i ≤ p.m) ∧ (∀ k, 0 ≤ k → k < i → ∀ q, 0 ≤ q → q < p.n → (-1000 ≤ p.A k q ∧ p.A k q ≤ 1000) ∧ -1000 ≤ p.b k ∧ p.b k ≤ 1000) ∧ M = [(1, vu), (2, .pointer (some ⟨g1, 0, none⟩)), (41, vA), (42, .int .i64 p.m), (43, .int .i64 i)] ∧ Sat w0 w [.blk g1 [vc, vA, vb]]) ⟨0, rfl, (by omega), (by omega), ?_, rfl, hS⟩ ?_
    ·
     intro k k0 k1; omega
    ·
     clear hS w
     rintro mm M w ⟨i, rfl, i0, i1, hbb, rfl, hS⟩
     refine zsq <| zrg ?_
     refine zlv xlss ?_
     refine zln <| ztn <| zsq ?_
     refine zcif ?_ ?_ <;> intro hc
     ·
      refine zsk <| ztn <| zsq <| zbk <| zsq <| zrg ?_
      refine zlv xmv ?_
      have hri := (hl.rows i i0 (by omega)).1
      refine zlv (xix (kk := i) sl_23 hL.A.row.slh) ?_
      refine zlv (xlr (u := (vq i)) pl_22 (hL.A.row.below hS.below)) ?_
      iterate 2 refine zlv xas ?_
      refine zln <| ztn <| zsq <| zrg ?_
      refine zlv xmv ?_
      refine zlv (xln sl_22 (hL.A.p i (by omega) (by omega)).slh) ?_
      refine zlv xmv ?_
      refine zln <| ztn <| zbk <| zlp (fun mm M w => ∃ (j9 : Int), mm = ((p.ln i - j9).toNat) ∧ (0 ≤ j9) ∧ (j9 ≤ p.ln i) ∧ (∀ q, 0 ≤ q → q < j9 → (-1000 ≤ p.A i q ∧ p.A i q ≤ 1000) ∧ -1000 ≤ p.b i ∧ p.b i ≤ 1000) ∧ M = [(1, vu), (2, .pointer (some ⟨g1, 0, none⟩)), (5, .int .i64 i), (41, vA), (42, .int .i64 p.m), (43, .int .i64 i), (48, (vq i)), (49, .int .i64 (p.ln i)), (50, .int .i64 j9)] ∧ Sat w0 w [.blk g1 [vc, vA, vb]]) ⟨0, rfl, (by omega), (by omega), ?_, rfl, hS⟩ ?_
      ·
       intro q q0 q1; omega
      ·
       clear hS w
       rintro mm M w ⟨j9, rfl, j0, j1, hbj, rfl, hS⟩
       refine zsq <| zrg ?_
       refine zlv xlss ?_
       refine zln <| ztn <| zsq ?_
       refine zcif ?_ ?_ <;> intro hc
       ·
        refine zsk <| ztn <| zsq <| zbk <| zsq <| zrg ?_
        refine zlv (xix (kk := j9) sl_22 (hL.A.p i (by omega) (by omega)).slh) ?_
        refine zlv (xlr (u := .int .i64 ((p.A i) j9)) pl_3 ((hL.A.p i (by omega) (by omega)).below hS.below)) ?_
        refine zlv xas ?_
        refine zln <| ztn <| zsq <| zrg ?_
        refine zlv xmv ?_
        refine zlv xgtr ?_
        refine zlv xmv ?_
        refine zlb 56 ?_ ?_ <;> intro hc
        ·
         iterate 2 refine zlo ?_
         refine zlv xpt ?_
         refine zlv xmv ?_
         iterate 6 refine zlo ?_
         refine zlv xpt ?_
         refine zlv xmv ?_
         iterate 6 refine zlo ?_
         refine zlv xpt ?_
         refine zln <| ztn <| zct <| zsq <| zrg ?_
         refine zlv xas ?_
         refine zln <| ztn <| zrt <| zbr <| ztr <| ztr <| zbr <| zbr <| ztr <| ztr <| zbr <| ztr <| zf1 ⟨_, rfl, ?_⟩
         exact ⟨rfl, hS.nl⟩
        ·
         refine zlv xmv ?_
         refine zlv xlss ?_
         refine zlv xpf ?_
         refine zlv xmv ?_
         refine zlb 60 ?_ ?_ <;> intro hc
         ·
          iterate 6 refine zlo ?_
          refine zlv xpt ?_
          refine zlv xmv ?_
          iterate 6 refine zlo ?_
          refine zlv xpt ?_
          refine zln <| ztn <| zct <| zsq <| zrg ?_
          refine zlv xas ?_
          refine zln <| ztn <| zrt <| zbr <| ztr <| ztr <| zbr <| zbr <| ztr <| ztr <| zbr <| ztr <| zf1 ⟨_, rfl, ?_⟩
          exact ⟨rfl, hS.nl⟩
         ·
          refine zlv (xfb 2 fd_44_2) ?_
          refine zlv (xlb 0 pl_22 hS) ?_
          refine zlv xmv ?_
          refine zlv (xix (kk := i) sl_22 hL.b.slh) ?_
          refine zlv (xlr (u := .int .i64 (p.b i)) pl_3 (hL.b.below hS.below)) ?_
          refine zlv xgtr ?_
          refine zlv xpf ?_
          refine zlv xmv ?_
          refine zlb 68 ?_ ?_ <;> intro hc
          ·
           iterate 6 refine zlo ?_
           refine zlv xpt ?_
           refine zln <| ztn <| zct <| zsq <| zrg ?_
           refine zlv xas ?_
           refine zln <| ztn <| zrt <| zbr <| ztr <| ztr <| zbr <| zbr <| ztr <| ztr <| zbr <| ztr <| zf1 ⟨_, rfl, ?_⟩
           exact ⟨rfl, hS.nl⟩
          ·
           refine zlv (xfb 2 fd_44_2) ?_
           refine zlv (xlb 0 pl_22 hS) ?_
           refine zlv xmv ?_
           refine zlv (xix (kk := i) sl_22 hL.b.slh) ?_
           refine zlv (xlr (u := .int .i64 (p.b i)) pl_3 (hL.b.below hS.below)) ?_
           refine zlv xlss ?_
           refine zlv xpf ?_
           refine zln <| ztn ?_
           refine zcif ?_ ?_ <;> intro hc
           ·
            refine zsq <| zrg ?_
            refine zlv xas ?_
            refine zln <| ztn <| zrt <| zbr <| ztr <| ztr <| zbr <| zbr <| ztr <| ztr <| zbr <| ztr <| zf1 ⟨_, rfl, ?_⟩
            exact ⟨rfl, hS.nl⟩
           ·
            refine zsk <| zbn <| ztn <| zrg ?_
            refine zlv (xadd (r := j9 + 1)) ?_
            refine zlv xmv ?_
            refine zln <| zlq ⟨j9 + 1, rfl, (by omega), (by omega), ?_, rfl, hS⟩
            ·
             intro q q0 q1; rcases Int.lt_or_eq_of_le (show q ≤ j9 by omega) with hk | hk; exact hbj q q0 hk; rw [hk]; omega
       ·
        refine zxt <| ztx <| ztx <| zbh <| zbn <| ztn <| zrg ?_
        refine zlv (xadd (r := i + 1)) ?_
        refine zlv xmv ?_
        refine zln <| zlq ⟨i + 1, rfl, (by omega), (by omega), ?_, rfl, hS⟩
        ·
         intro k k0 k1 q q0 q1; rcases Int.lt_or_eq_of_le (show k ≤ i by omega) with hk | hk; exact hbb k k0 hk q q0 q1; rw [hk]; exact hbj q q0 (by omega)
     ·
      refine zxt <| ztx <| ztx <| zbh <| ztn <| zsq <| zrg ?_
      refine zlv (xls 0 st_44 hS) ?_
      refine zlc (xc0 cl_26) (c_start (p := p) w (hL.below hS.below)) ?_; rintro _ w ⟨vBk1, vFk1, vCk1, vvk1, tk1, ek1, rfl, hstk1, hsBk1, hsFk1, hsCk1, hS'⟩
      replace hS : Sat w0 w [.blk g1 [vc, vA, vb], .own vBk1 1 3 tk1.nb (ints tk1.B), .own vFk1 1 3 tk1.nf (ints tk1.F), .own vCk1 1 22 tk1.nc vvk1, .sem (Frame.rows 3 tk1.nc vvk1 tk1.ln tk1.C)] := hS.comp hS'; clear hS'
      have hrsk1 := fun k (k0 : 0 ≤ k) (k1 : k < tk1.nc) => hS.slhIn 4 rfl k0 k1
      refine zlv xmv ?_
      iterate 2 refine zlv xex ?_
      refine zla (xal (cs := [_, _, _, _, _]) el_28 hS) ?_; rintro _ w ⟨g2, rfl, hS⟩
      replace hS : Sat w0 w [.blk _ [_, _, _], _, _, _, _, .blk _ [_, _, _, _, _]] := hS
      refine zle (xsw 5 st_28 hS (hd := (ones_cons rfl (ones_cons rfl (ones_cons hsBk1.one (ones_cons hsFk1.one (ones_cons hsCk1.one ones_nil))))))) ?_; clear hS; rintro w hS
      replace hS : Sat w0 w [.blk _ [_, _, _], _, _, _, _, .blk _ [_, _, _, _, _]] := hS
      refine zlv xas ?_
      refine zln <| ztn <| zsq <| zsq <| zrg ?_
      refine zlv xmv ?_
      have hst0 : tk1 = startT p ∧ ek1 = 0 := by
       rcases hstk1 with ⟨h, _⟩ | ⟨_, h1, h2⟩
       · exact absurd hl h
       · exact ⟨h1, h2⟩
      refine zlv xneq ?_
      refine zln <| ztn ?_
      refine zcif ?_ ?_ <;> intro hc
      ·
       refine zsq <| zrg ?_
       refine zlv xas ?_
       refine zln <| ztn <| zrt <| ztr <| zf1 ⟨_, rfl, ?_⟩
       exfalso
       first | omega | exact hfr3 | exact hn9 (by omega) | exact absurd (hn9 (by omega)) ‹_›
      ·
       refine zsk <| ztn <| zsq <| zrg ?_
       refine zlv (xls 0 st_44 hS) ?_
       refine zlv xmv ?_
       refine zlc (xc0 cl_27) (c_whole (p := p) w (hL.below hS.below) (hU.below hS.below) hub hl) ?_; rintro _ w ⟨wrz1, wnz1, wfz1, wcz1, wokz1, rfl, hwhz1, hwrz1, hS'⟩
       replace hS : Sat w0 w [.blk g1 [vc, vA, vb], .own vBk1 1 3 tk1.nb (ints tk1.B), .own vFk1 1 3 tk1.nf (ints tk1.F), .own vCk1 1 22 tk1.nc vvk1, .sem (Frame.rows 3 tk1.nc vvk1 tk1.ln tk1.C), .blk g2 [.int .i64 tk1.vars, .int .i64 tk1.den, vBk1, vFk1, vCk1], .own wrz1 1 3 wnz1 (ints wfz1)] := hS.comp hS'; clear hS'
       refine zlv xmv ?_
       iterate 3 refine zlv xex ?_
       iterate 3 refine zlv xas ?_
       refine zln <| ztn <| zsq <| zrg ?_
       refine zla (xl0 (c := ints (fun _ => 0)) sl_22 hS) ?_; rintro v1 w ⟨hS, hv1⟩
       replace hS : Sat w0 w [.blk _ [_, _, _], _, _, _, _, .blk _ [_, _, _, _, _], _, _] := hS
       obtain ⟨hwn, hwl, hwo⟩ := hwhz1.num hn (whv_rng (mu := mu) hub)
       have hwn0 := hwrz1.n0
       refine zlv xmv ?_
       refine zla (xap 7 (r := wnz1) (f := ints (cat 0 (fun _ => 0) wfz1)) sl_22 el_3 hS (hS.rowN 6 rfl) (by exact cat_ints1 _ _ _)) ?_; rintro v2 w ⟨hS, hv2⟩
       replace hS : Sat w0 w [.blk _ [_, _, _], _, _, _, _, .blk _ [_, _, _, _, _], _, _] := hS
       replace hS := hS.recont 7 rfl (d := ints wfz1) (fun k k0 k1 => by unfold ints cat; rw [if_neg (by omega), Int.sub_zero])
       replace hS : Sat w0 w [.blk _ [_, _, _], _, _, _, _, .blk _ [_, _, _, _, _], _, _] := hS
       refine zlv xas ?_
       refine zln <| ztn <| zsq <| zsq <| zrg ?_
       refine zlv (xfb 1 fd_44_1) ?_
       refine zlv (xlb 0 pl_23 hS) ?_
       refine zlv (xln sl_23 hL.A.row.slh) ?_
       refine zlv xmv ?_
       refine zln <| ztn <| zbk <| zlp (fun mm M w => ∃ (nv : Int) (i2 : Int) (vl : Value) (fv : Int → Int), mm = ((p.m - i2).toNat) ∧ (0 ≤ i2) ∧ (i2 ≤ p.m) ∧ (nv = wnz1 + i2) ∧ (wokz1 → ∀ q, 0 ≤ q → q < nv → fv q = allv p (whv mu fu) 1 q) ∧ (Slh vl nv) ∧ M = [(2, .pointer (some ⟨g1, 0, none⟩)), (9, .pointer (some ⟨g2, 0, none⟩)), (11, wrz1), (13, B (wokz1)), (14, vl), (96, vA), (97, .int .i64 p.m), (98, .int .i64 i2)] ∧ Sat w0 w [.blk g1 [vc, vA, vb], .own vBk1 1 3 tk1.nb (ints tk1.B), .own vFk1 1 3 tk1.nf (ints tk1.F), .own vCk1 1 22 tk1.nc vvk1, .sem (Frame.rows 3 tk1.nc vvk1 tk1.ln tk1.C), .blk g2 [.int .i64 tk1.vars, .int .i64 tk1.den, vBk1, vFk1, vCk1], .own wrz1 1 3 wnz1 (ints wfz1), .own vl 1 3 nv (ints fv)]) ⟨wnz1, 0, v2, wfz1, rfl, (by omega), (by omega), (by omega), ?_, ?_, rfl, hS⟩ ?_
       ·
        intro hok q q0 q1; obtain ⟨w1, w2⟩ := hwo hok; rw [w2]; unfold allv; rw [if_pos (by omega)]
       ·
        exact hv2
       ·
        clear hS w
        rintro mm M w ⟨nv, i2, vl, fv, rfl, h0, h1, hnv, hfv, hvl, rfl, hS⟩
        refine zsq <| zrg ?_
        refine zlv xlss ?_
        refine zln <| ztn <| zsq ?_
        refine zcif ?_ ?_ <;> intro hc
        ·
         refine zsk <| ztn <| zsq <| zbk <| zsq <| zrg ?_
         refine zlv xmv ?_
         refine zlv (xix (kk := i2) sl_23 hL.A.row.slh) ?_
         refine zlv (xlr (u := (vq i2)) pl_22 (hL.A.row.below hS.below)) ?_
         iterate 2 refine zlv xas ?_
         refine zln <| ztn <| zsq <| zrg ?_
         refine zlv (xfb 2 fd_44_2) ?_
         refine zlv (xlb 0 pl_22 hS) ?_
         refine zlv xmv ?_
         refine zlv (xix (kk := i2) sl_22 hL.b.slh) ?_
         refine zlv (xlr (u := .int .i64 (p.b i2)) pl_3 (hL.b.below hS.below)) ?_
         have hb2 := (hbb i2 h0 (by omega) 0 (by omega) (by omega)).2; have hri2 := (hl.rows i2 h0 (by omega)).1
         refine zlv (xneg (r := -((p.b i2)))) ?_
         refine zlv xas ?_
         refine zln <| ztn <| zsq <| zsq <| zrg ?_
         refine zlv xmv ?_
         refine zlv (xln sl_22 hwrz1) ?_
         refine zlv xmv ?_
         refine zln <| ztn <| zbk <| zlp (fun mm M w => ∃ (z : Int) (j : Int), mm = ((wnz1 - j).toNat) ∧ (0 ≤ j) ∧ (j ≤ wnz1) ∧ (z = -p.b i2 + dotp (p.A i2) wfz1 j.toNat) ∧ M = [(2, .pointer (some ⟨g1, 0, none⟩)), (9, .pointer (some ⟨g2, 0, none⟩)), (11, wrz1), (13, B (wokz1)), (14, vl), (16, (vq i2)), (17, .int .i64 z), (96, vA), (97, .int .i64 p.m), (98, .int .i64 i2), (110, .int .i64 wnz1), (111, .int .i64 j)] ∧ Sat w0 w [.blk g1 [vc, vA, vb], .own vBk1 1 3 tk1.nb (ints tk1.B), .own vFk1 1 3 tk1.nf (ints tk1.F), .own vCk1 1 22 tk1.nc vvk1, .sem (Frame.rows 3 tk1.nc vvk1 tk1.ln tk1.C), .blk g2 [.int .i64 tk1.vars, .int .i64 tk1.den, vBk1, vFk1, vCk1], .own wrz1 1 3 wnz1 (ints wfz1), .own vl 1 3 nv (ints fv)]) ⟨-((p.b i2)), 0, rfl, (by omega), (by omega), ?_, rfl, hS⟩ ?_
         ·
          show _ = -p.b i2 + 0; omega
         ·
          clear hS w
          rintro mm M w ⟨z, j, rfl, j0, j1, hz, rfl, hS⟩
          refine zsq <| zrg ?_
          refine zlv xlss ?_
          refine zln <| ztn <| zsq ?_
          refine zcif ?_ ?_ <;> intro hc
          ·
           refine zsk <| ztn <| zsq <| zbk <| zsq <| zrg ?_
           refine zlv xmv ?_
           refine zlv xas ?_
           refine zln <| ztn ?_
           refine zdst [0, 1, 2, 3, 4, 5, 6, 7] [0, 1, 2, 3, 4, 5, 6, 7] 1000 mx_ hS ?_; clear hS; intro w hS
           refine zdv 0 (fun _ => xmv) ?_
           refine zdv 1 (fun _ => xmv) ?_
           refine zdv 2 (fun _ => xmv) ?_
           refine zdv 3 (fun _ => (xix (kk := j) sl_22 (hL.A.p i2 (by omega) (by omega)).slh)) ?_
           refine zdla 4 (fun w hS => (xlr (u := .int .i64 ((p.A i2) j)) pl_3 ((hL.A.p i2 (by omega) (by omega)).below hS.below))) ?_
           refine zdv 5 (fun _ => xmv) ?_
           refine zdv 6 (fun _ => xmv) ?_
           refine zdv 7 (fun _ => (xix (kk := j) sl_22 hwrz1)) ?_
           refine zdla 8 (fun w hS => (xlr (u := .int .i64 (wfz1 j)) pl_3 (hS.rowN 6 rfl))) ?_
           have hlj := hwl j j0 (by omega)
           have hmu2 := mul_abs (hbb i2 h0 (by omega) j j0 (by omega)).1 (b := wfz1 j) (B := 59) (by omega)
           have hbd := dotp_bd (f := p.A i2) (g := wfz1) (A := 1000) (B := 59) (by omega) (by omega) j.toNat (fun k k0 k1 => (hbb i2 h0 (by omega) k k0 (by omega)).1) (fun k k0 k1 => by have := hwl k k0 (by omega); omega)
           refine zdv 9 (fun _ => (xmul (r := (((p.A i2) j) * (wfz1 j))) (e := rfl))) ?_
           refine zdv 10 (fun _ => (xadd (r := z + (((p.A i2) j) * (wfz1 j))))) ?_
           refine zdv 11 (fun _ => xas) ?_
           refine zdd <| zbn <| ztn <| zrg ?_
           refine zlv (xadd (r := j + 1)) ?_
           refine zlv xmv ?_
           refine zln <| zlq ⟨z + (((p.A i2) j) * (wfz1 j)), j + 1, rfl, (by omega), (by omega), ?_, rfl, hS⟩
           ·
            rw [dotp_next _ _ j0]; omega
          ·
           refine zxt <| ztx <| ztx <| zbh <| ztn <| zrg ?_
           iterate 2 refine zlv xmv ?_
           refine zla (xli (n := 1) (len := 1) (pv := [(0, .int .i64 z)]) (cs := [.int .i64 z]) (c := ints (fun _ => z)) sl_22 el_3 hS) ?_; rintro v3 w ⟨hS, hv3⟩
           replace hS : Sat w0 w [.blk _ [_, _, _], _, _, _, _, .blk _ [_, _, _, _, _], _, _, _] := hS
           refine zla (xap 7 (r := nv + 1) sl_22 el_3 hS (hS.rowN 8 rfl) (cat_snoc _ _ _)) ?_; rintro v4 w ⟨hS, hv4⟩
           replace hS : Sat w0 w [.blk _ [_, _, _], _, _, _, _, .blk _ [_, _, _, _, _], _, _, _] := hS
           refine zlv xas ?_
           refine zln <| zbn <| ztn <| zrg ?_
           refine zlv (xadd (r := i2 + 1)) ?_
           refine zlv xmv ?_
           refine zln <| zlq ⟨nv + 1, i2 + 1, v4, (snoc fv nv z), rfl, (by omega), (by omega), (by omega), ?_, ?_, rfl, hS.pk [0, 1, 2, 3, 4, 5, 6, 7]⟩
           ·
            intro hok q q0 q1; obtain ⟨w1, w2⟩ := hwo hok; by_cases e9 : q < nv
            · rw [snoc_lt e9]; exact hfv hok q q0 e9
            · rw [snoc_at (by omega)]; unfold allv; rw [if_neg (by omega), show q - p.n = i2 by omega, hz, w2, show j = p.n by omega]; omega
           ·
            exact hv4
        ·
         refine zxt <| ztx <| ztx <| zbh <| ztn <| zsq <| zsq <| zrg ?_
         refine zlv xmv ?_
         refine zln <| ztn <| zbk <| zlp (fun mm M w => ∃ (us : List Tb) (t : Tb) (vB : Value) (vF : Value) (vC : Value) (vv : Int → Value) (nv2 : Int) (c : Int) (vx : Value) (fv2 : Int → Int), mm = ((5 - c).toNat) ∧ (Rn p us t 0) ∧ (Slh vB t.nb) ∧ (Slh vF t.nf) ∧ (Slh vC t.nc) ∧ (0 ≤ c) ∧ (c ≤ 5) ∧ (wokz1 → ValR p t wcz1 nv2 fv2) ∧ (Slh vx nv2) ∧ M = [(9, .pointer (some ⟨g2, 0, none⟩)), (13, B (wokz1)), (14, vx), (131, .int .i64 c)] ∧ Sat w0 w [.blk g1 [vc, vA, vb], .blk g2 [.int .i64 t.vars, .int .i64 t.den, vB, vF, vC], .own vB 1 3 t.nb (ints t.B), .own vF 1 3 t.nf (ints t.F), .own vC 1 22 t.nc vv, .sem (Frame.rows 3 t.nc vv t.ln t.C), .own vx 1 3 nv2 (ints fv2)]) ⟨[], tk1, vBk1, vFk1, vCk1, vvk1, nv, 0, vl, fv, rfl, ?_, ?_, ?_, ?_, (by omega), (by omega), ?_, ?_, rfl, hS.pk [0, 5, 1, 2, 3, 4, 7]⟩ ?_
         ·
          exact .start (by have h9 := hstk1; rwa [hst0.2] at h9)
         ·
          exact hsBk1
         ·
          exact hsFk1
         ·
          exact hsCk1
         ·
          intro hok; exact valR_start hl hm hf1 (whv_rng (mu := mu) hub) (fun k k0 k1 => hbb k k0 (by omega)) hwhz1 hok hst0.1 (by omega) hfv
         ·
          exact hvl
         ·
          clear hS w
          rintro mm M w ⟨us, t, vB, vF, vC, vv, nv2, c, vx, fv2, rfl, hRn, hsB, hsF, hsC, c0, c1, hvs, hvx, rfl, hS⟩
          have hrs := fun k (k0 : 0 ≤ k) (k1 : k < t.nc) => hS.slhIn 5 rfl k0 k1
          refine zsq <| zrg ?_
          refine zlv xlss ?_
          refine zln <| ztn <| zsq ?_
          refine zcif ?_ ?_ <;> intro hc
          ·
           refine zsk <| ztn <| zsq <| zbk <| zsq <| zsq <| zrg ?_
           refine zlv (xls 1 st_28 hS) ?_
           refine zlc (xc0 cl_28) (c_Optimize (t := t) w (⟨(hS.rowN 2 rfl), (hS.rowN 3 rfl), (⟨(hS.rowN 4 rfl), fun k k0 k1 => hS.rowIn 5 rfl k0 k1, fun k k0 k1 => hS.roomIn 5 rfl k0 k1⟩ : MAt _ vC t.nc vv t.ln t.C)⟩ : TAt _ vB vF vC vv t)) ?_; rintro _ w ⟨vBk2, vFk2, vCk2, vvk2, tk2, ek2, rfl, hopk2, hsBk2, hsFk2, hsCk2, hS'⟩
           replace hS : Sat w0 w [.blk g1 [vc, vA, vb], .blk g2 [.int .i64 t.vars, .int .i64 t.den, vB, vF, vC], .own vB 1 3 t.nb (ints t.B), .own vF 1 3 t.nf (ints t.F), .own vC 1 22 t.nc vv, .sem (Frame.rows 3 t.nc vv t.ln t.C), .own vx 1 3 nv2 (ints fv2), .own vBk2 1 3 tk2.nb (ints tk2.B), .own vFk2 1 3 tk2.nf (ints tk2.F), .own vCk2 1 22 tk2.nc vvk2, .sem (Frame.rows 3 tk2.nc vvk2 tk2.ln tk2.C)] := hS.comp hS'; clear hS'
           have hrsk2 := fun k (k0 : 0 ≤ k) (k1 : k < tk2.nc) => hS.slhIn 10 rfl k0 k1
           refine zlv xmv ?_
           iterate 2 refine zlv xex ?_
           refine zle (xsw 1 st_28 hS (hd := (ones_cons rfl (ones_cons rfl (ones_cons hsBk2.one (ones_cons hsFk2.one (ones_cons hsCk2.one ones_nil))))))) ?_; clear hS; rintro w hS
           replace hS : Sat w0 w [.blk _ [_, _, _], .blk _ [_, _, _, _, _], _, _, _, _, _, _, _, _, _] := hS
           refine zlv xas ?_
           refine zln <| ztn <| zsq <| zrg ?_
           refine zlv xmv ?_
           have hdm := hRn.dims rfl; have htb := hsB.n0
           have hn9 : ek2 = 19 → ¬ wokz1 := fun h9 hok => by obtain ⟨_, ⟨v, hv, _⟩, _⟩ := hvs hok; exact wh_none (by have h8 := hopk2; rwa [h9] at h8) (by omega) hv
           refine zlv xneq ?_
           refine zln <| ztn ?_
           refine zcif ?_ ?_ <;> intro hc
           ·
            refine zsq <| zrg ?_
            refine zlv xmv ?_
            refine zlv xneq ?_
            refine zlv xmv ?_
            refine zlb 142 ?_ ?_ <;> intro hc
            ·
             iterate 2 refine zlo ?_
             refine zlv xpt ?_
             refine zlv xas ?_
             refine zln <| ztn <| zrt <| ztr <| zbr <| ztr <| ztr <| zbr <| ztr <| zf1 ⟨_, rfl, ?_⟩
             exact ⟨rfl, hS.nl⟩
            ·
             refine zlv xmv ?_
             refine zlv xnot ?_
             refine zlv xpf ?_
             refine zlv xas ?_
             refine zln <| ztn <| zrt <| ztr <| zbr <| ztr <| ztr <| zbr <| ztr <| zf1 ⟨_, rfl, ?_⟩
             exact ⟨(true_B (by first | omega | exact hfr3 | exact hn9 (by omega) | exact absurd (hn9 (by omega)) ‹_›)).symm, hS.nl⟩
           ·
            refine zsk <| ztn <| zsq <| zrg ?_
            refine zlv (xls 1 st_28 hS) ?_
            have hop0 : OptR t tk2 0 := by have := hopk2; rwa [show ek2 = 0 by omega] at this
            have hpu := hop0.prp
            have hp := hpu.1
            have b1 := hp.n1
            have b2 := hp.n2
            have b3 := hp.m2
            have b4 := hp.v
            have b5 := hp.d1
            have b6 := hp.d2
            have b7 := hp.c
            have hkn := hsBk2.n0
            have hod := hop0.dims
            have hbn := hpu.1.m2
            have hd1 := hp.d1; have hd2 := hp.d2
            refine zlc (xc0 cl_16) (c_frac (t := tk2) w (⟨(hS.rowN 7 rfl), (hS.rowN 8 rfl), (⟨(hS.rowN 9 rfl), fun k k0 k1 => hS.rowIn 10 rfl k0 k1, fun k k0 k1 => hS.roomIn 10 rfl k0 k1⟩ : MAt _ vCk2 tk2.nc vvk2 tk2.ln tk2.C)⟩ : TAt _ vBk2 vFk2 vCk2 vvk2 tk2)) ?_; rintro _ w ⟨rf1, okf1, ef1, rfl, hfrf1, hS'⟩
            replace hS := hS.cmp hS'; clear hS'
            refine zlv xmv ?_
            iterate 3 refine zlv xex ?_
            iterate 3 refine zlv xas ?_
            refine zln <| ztn <| zsq <| zsq <| zrg ?_
            refine zlv xmv ?_
            obtain ⟨_, hfr1, hfr2, hfr3⟩ : TPrp tk2 ∧ rf1 = max (gfr tk2 tk2.nb.toNat) 0 ∧ (okf1 ↔ 0 ≤ gfr tk2 tk2.nb.toNat) ∧ ef1 = 0 := hfrf1.resolve_left (fun h => h.1 hpu.1)
            have hrr := hfrf1.rng
            refine zlv xneq ?_
            refine zlv xmv ?_
            refine zlb 154 ?_ ?_ <;> intro hc
            ·
             iterate 2 refine zlo ?_
             refine zlv xpt ?_
             refine zlv xmv ?_
             iterate 4 refine zlo ?_
             refine zlv xpt ?_
             refine zln <| ztn <| zct <| zsq <| zrg ?_
             refine zlv xmv ?_
             refine zlv xeql ?_
             refine zlv xas ?_
             refine zln <| ztn <| zrt <| ztr <| zbr <| ztr <| ztr <| zbr <| ztr <| zf1 ⟨_, rfl, ?_⟩
             exact ⟨(true_B (by first | omega | exact hfr3 | exact hn9 (by omega) | exact absurd (hn9 (by omega)) ‹_›)).symm, hS.nl⟩
            ·
             refine zlv xmv ?_
             refine zlv xnot ?_
             refine zlv xpf ?_
             refine zlv xmv ?_
             refine zlb 158 ?_ ?_ <;> intro hc
             ·
              iterate 4 refine zlo ?_
              refine zlv xpt ?_
              refine zln <| ztn <| zct <| zsq <| zrg ?_
              refine zlv xmv ?_
              refine zlv (xkt xeql) ?_
              refine zlv xas ?_
              refine zln <| ztn <| zrt <| ztr <| zbr <| ztr <| ztr <| zbr <| ztr <| zf1 ⟨_, rfl, ?_⟩
              exact ⟨rfl, hS.nl⟩
             ·
              refine zlv (xfb 2 fd_28_2) ?_
              refine zlv (xlb 1 pl_22 hS) ?_
              refine zlv (xln sl_22 hsBk2) ?_
              refine zlv xeql ?_
              refine zlv xpf ?_
              refine zln <| ztn ?_
              refine zcif ?_ ?_ <;> intro hc
              ·
               refine zsq <| zrg ?_
               refine zlv xmv ?_
               refine zlv (xkt xeql) ?_
               refine zlv xas ?_
               refine zln <| ztn <| zrt <| ztr <| zbr <| ztr <| ztr <| zbr <| ztr <| zf1 ⟨_, rfl, ?_⟩
               exact ⟨rfl, hS.nl⟩
              ·
               refine zsk <| ztn <| zsq <| zrg ?_
               refine zlv (xls 1 st_28 hS) ?_
               have hgf : 0 ≤ gfr tk2 tk2.nb.toNat := hfr2.1 (by first | assumption | exact Classical.not_not.1 ‹_›)
               have hgr := gfr_rng tk2 tk2.nb.toNat
               have hrg : rf1 = gfr tk2 tk2.nb.toNat := by omega
               have hgl := (gfr_law tk2 tk2.nb.toNat).2 hgf; rw [← hrg] at hgl
               refine zlv xmv ?_
               refine zlc (xc0 cl_18) (c_cut (t := tk2) (row := rf1) w (⟨(hS.rowN 7 rfl), (hS.rowN 8 rfl), (⟨(hS.rowN 9 rfl), fun k k0 k1 => hS.rowIn 10 rfl k0 k1, fun k k0 k1 => hS.roomIn 10 rfl k0 k1⟩ : MAt _ vCk2 tk2.nc vvk2 tk2.ln tk2.C)⟩ : TAt _ vBk2 vFk2 vCk2 vvk2 tk2) (by omega)) ?_; rintro _ w ⟨vc1, nc1, fc1, ec1, rfl, hcuc1, hslc1, hS'⟩
               replace hS : Sat w0 w [.blk g1 [vc, vA, vb], .blk g2 [.int .i64 tk2.vars, .int .i64 tk2.den, vBk2, vFk2, vCk2], .own vB 1 3 t.nb (ints t.B), .own vF 1 3 t.nf (ints t.F), .own vC 1 22 t.nc vv, .sem (Frame.rows 3 t.nc vv t.ln t.C), .own vx 1 3 nv2 (ints fv2), .own vBk2 1 3 tk2.nb (ints tk2.B), .own vFk2 1 3 tk2.nf (ints tk2.F), .own vCk2 1 22 tk2.nc vvk2, .sem (Frame.rows 3 tk2.nc vvk2 tk2.ln tk2.C), .own vc1 1 3 nc1 (ints fc1)] := hS.comp hS'; clear hS'
               refine zlv xmv ?_
               iterate 2 refine zlv xex ?_
               iterate 2 refine zlv xas ?_
               refine zln <| ztn <| zsq <| zsq <| zrg ?_
               refine zlv xmv ?_
               obtain ⟨hc1, hc2, hc3⟩ := CutR.frac hcuc1 hp (by omega) (by omega) hgl.2
               have hc4 := cutF_neg hp.d1 hgl.2; have hc5 := hc3 0 (by omega) (by omega); have hc6 : -tk2.den < cutF tk2 rf1 0 := by unfold cutF; rw [if_pos rfl]; have := rmd_rng (a := tk2.C (rf1 + 1) 0) hp.d1; omega
               refine zlv xneq ?_
               refine zlv xmv ?_
               refine zlb 174 ?_ ?_ <;> intro hc
               ·
                iterate 7 refine zlo ?_
                refine zlv xpt ?_
                refine zlv xmv ?_
                iterate 4 refine zlo ?_
                refine zlv xpt ?_
                refine zln <| ztn <| zct <| zsq <| zrg ?_
                refine zlv xas ?_
                refine zln <| ztn <| zrt <| ztr <| zbr <| ztr <| ztr <| zbr <| ztr <| zf1 ⟨_, rfl, ?_⟩
                exfalso
                first | omega | exact hfr3 | exact hn9 (by omega) | exact absurd (hn9 (by omega)) ‹_›
               ·
                refine zlv xmv ?_
                refine zlv (xln sl_22 hslc1) ?_
                refine zlv (xfb 3 fd_28_3) ?_
                refine zlv (xlb 1 pl_22 hS) ?_
                refine zlv (xln sl_22 hsFk2) ?_
                refine zlv (xadd (r := tk2.nf + 1)) ?_
                refine zlv xneq ?_
                refine zlv xpf ?_
                refine zlv xmv ?_
                refine zlb 183 ?_ ?_ <;> intro hc
                ·
                 iterate 4 refine zlo ?_
                 refine zlv xpt ?_
                 refine zln <| ztn <| zct <| zsq <| zrg ?_
                 refine zlv xas ?_
                 refine zln <| ztn <| zrt <| ztr <| zbr <| ztr <| ztr <| zbr <| ztr <| zf1 ⟨_, rfl, ?_⟩
                 exfalso
                 first | omega | exact hfr3 | exact hn9 (by omega) | exact absurd (hn9 (by omega)) ‹_›
                ·
                 refine zlv xmv ?_
                 refine zlv (xix (kk := 0) sl_22 hslc1) ?_
                 refine zlv (xlr (u := .int .i64 (fc1 0)) pl_3 (hS.rowN 11 rfl)) ?_
                 refine zlv xgeq ?_
                 refine zlv xpf ?_
                 refine zln <| ztn ?_
                 refine zcif ?_ ?_ <;> intro hc
                 ·
                  refine zsq <| zrg ?_
                  refine zlv xas ?_
                  refine zln <| ztn <| zrt <| ztr <| zbr <| ztr <| ztr <| zbr <| ztr <| zf1 ⟨_, rfl, ?_⟩
                  exfalso
                  first | omega | exact hfr3 | exact hn9 (by omega) | exact absurd (hn9 (by omega)) ‹_›
                 ·
                  refine zsk <| ztn <| zsq <| zsq <| zrg ?_
                  refine zlv xmv ?_
                  refine zln <| ztn ?_
                  refine zcif ?_ ?_ <;> intro hc
                  ·
                   refine zsq <| zrg ?_
                   refine zlv xmv ?_
                   have hok : wokz1 := (by first | assumption | exact Classical.not_not.1 ‹_›)
                   obtain ⟨hvn, _, hvb⟩ := hvs hok
                   have hfn := hsFk2.n0
                   refine zlv (xix (kk := 0) sl_22 hslc1) ?_
                   refine zlv (xlr (u := .int .i64 (fc1 0)) pl_3 (hS.rowN 11 rfl)) ?_
                   refine zlv xas ?_
                   refine zln <| ztn <| zsq <| zsq <| zrg ?_
                   refine zlv (xfb 3 fd_28_3) ?_
                   refine zlv (xlb 1 pl_22 hS) ?_
                   refine zlv (xln sl_22 hsFk2) ?_
                   refine zlv xmv ?_
                   refine zln <| ztn <| zbk <| zlp (fun mm M w => ∃ (z : Int) (j : Int), mm = ((tk2.nf - j).toNat) ∧ (0 ≤ j) ∧ (j ≤ tk2.nf) ∧ (z = fc1 0 + sumTo (fun q => fc1 (q + 1) * fv2 (tk2.F q)) j.toNat) ∧ (-1073741824 ≤ z ∧ z ≤ 288230376151711744 * j) ∧ M = [(9, .pointer (some ⟨g2, 0, none⟩)), (13, B (wokz1)), (14, vx), (19, .int .i64 rf1), (22, vc1), (24, .int .i64 z), (131, .int .i64 c), (194, vFk2), (195, .int .i64 tk2.nf), (196, .int .i64 j)] ∧ Sat w0 w [.blk g1 [vc, vA, vb], .blk g2 [.int .i64 tk2.vars, .int .i64 tk2.den, vBk2, vFk2, vCk2], .own vB 1 3 t.nb (ints t.B), .own vF 1 3 t.nf (ints t.F), .own vC 1 22 t.nc vv, .sem (Frame.rows 3 t.nc vv t.ln t.C), .own vx 1 3 nv2 (ints fv2), .own vBk2 1 3 tk2.nb (ints tk2.B), .own vFk2 1 3 tk2.nf (ints tk2.F), .own vCk2 1 22 tk2.nc vvk2, .sem (Frame.rows 3 tk2.nc vvk2 tk2.ln tk2.C), .own vc1 1 3 nc1 (ints fc1)]) ⟨(fc1 0), 0, rfl, (by omega), (by omega), ?_, (by omega), rfl, hS⟩ ?_
                   ·
                    show _ = fc1 0 + 0; omega
                   ·
                    clear hS w
                    rintro mm M w ⟨z, j, rfl, j0, j1, hz, hzb, rfl, hS⟩
                    refine zsq <| zrg ?_
                    refine zlv xlss ?_
                    refine zln <| ztn <| zsq ?_
                    refine zcif ?_ ?_ <;> intro hc
                    ·
                     refine zsk <| ztn <| zsq <| zbk <| zsq <| zrg ?_
                     refine zlv xmv ?_
                     refine zlv (xix (kk := j) sl_22 hsFk2) ?_
                     refine zlv (xlr (u := .int .i64 (tk2.F j)) pl_3 (hS.rowN 8 rfl)) ?_
                     iterate 2 refine zlv xas ?_
                     refine zln <| ztn ?_
                     refine zdst [0, 1, 2, 3, 4, 5, 6, 7, 8, 9, 10, 11] [0, 1, 2, 3, 4, 5, 6, 7, 8, 9, 10, 11] 1000 mx_ hS ?_; clear hS; intro w hS
                     refine zdv 0 (fun _ => xmv) ?_
                     have hFj := hp.rngF (i := j) j0 (by omega) (by omega)
                     refine zdv 1 (fun _ => xmv) ?_
                     refine zdv 2 (fun _ => xmv) ?_
                     refine zdv 3 (fun _ => (xadd (r := j + 1))) ?_
                     refine zdv 4 (fun _ => (xix (kk := j + 1) sl_22 hslc1)) ?_
                     refine zdla 5 (fun w hS => (xlr (u := .int .i64 (fc1 (j + 1))) pl_3 (hS.rowN 11 rfl))) ?_
                     refine zdv 6 (fun _ => xmv) ?_
                     refine zdv 7 (fun _ => xmv) ?_
                     refine zdv 8 (fun _ => (xix (kk := (tk2.F j)) sl_22 hvx)) ?_
                     refine zdla 9 (fun w hS => (xlr (u := .int .i64 (fv2 (tk2.F j))) pl_3 (hS.rowN 6 rfl))) ?_
                     have hcj := hc3 (j + 1) (by omega) (by omega)
                     have hcr : 0 ≤ cutF tk2 rf1 (j + 1) ∧ cutF tk2 rf1 (j + 1) < tk2.den := by unfold cutF; rw [if_neg (by omega)]; exact rmd_rng hp.d1
                     have hvj := hvb (tk2.F j) hFj.1 (by omega)
                     have hmn := Int.mul_nonneg (show 0 ≤ fc1 (j + 1) by omega) hvj.1
                     have hmb := mul_abs (a := fc1 (j + 1)) (b := fv2 (tk2.F j)) (A := 1073741824) (B := 268435456) (by omega) (by omega)
                     refine zdv 10 (fun _ => (xmul (r := ((fc1 (j + 1)) * (fv2 (tk2.F j)))) (e := rfl))) ?_
                     refine zdv 11 (fun _ => (xadd (r := z + ((fc1 (j + 1)) * (fv2 (tk2.F j)))))) ?_
                     refine zdv 12 (fun _ => xas) ?_
                     refine zdd <| zbn <| ztn <| zrg ?_
                     refine zlv (xadd (r := j + 1)) ?_
                     refine zlv xmv ?_
                     refine zln <| zlq ⟨z + ((fc1 (j + 1)) * (fv2 (tk2.F j))), j + 1, rfl, (by omega), (by omega), ?_, (by omega), rfl, hS⟩
                     ·
                      rw [sumTo_next _ j0]; omega
                    ·
                     refine zxt <| ztx <| ztx <| zbh <| ztn <| zsq <| zsq <| zrg ?_
                     refine zlv xmv ?_
                     obtain ⟨hv1, hv2, hv3, hv4⟩ := valR_cut (s := z) (r := rf1) (k := fc1) hop0 hp (by omega) (by omega) (by omega) (hvs hok) (fun q q0 q1 => hc3 q q0 (by omega)) (by rw [hz, show j = tk2.nf by omega])
                     have hv5 := Int.tmod_eq_zero_of_dvd hv2
                     have hqd := tdiv_abs (a := z) (d := tk2.den) (A := 4611686018427387904) (by omega) (by omega)
                     refine zlv xlss ?_
                     refine zlv xmv ?_
                     refine zlb 216 ?_ ?_ <;> intro hc
                     ·
                      iterate 5 refine zlo ?_
                      refine zlv xpt ?_
                      refine zln <| ztn <| zct <| zsq <| zrg ?_
                      refine zlv xas ?_
                      refine zln <| ztn <| zrt <| ztr <| ztr <| zbr <| ztr <| ztr <| zbr <| ztr <| zf1 ⟨_, rfl, ?_⟩
                      exfalso
                      first | omega | exact hfr3 | exact hn9 (by omega) | exact absurd (hn9 (by omega)) ‹_›
                     ·
                      refine zlv xmv ?_
                      refine zlv (xfb 1 fd_28_1) ?_
                      refine zlv (xlb 1 pl_3 hS) ?_
                      refine zlv (xrem (r := (Int.tmod z tk2.den))) ?_
                      refine zlv xneq ?_
                      refine zlv xpf ?_
                      refine zln <| ztn ?_
                      refine zcif ?_ ?_ <;> intro hc
                      ·
                       refine zsq <| zrg ?_
                       refine zlv xas ?_
                       refine zln <| ztn <| zrt <| ztr <| ztr <| zbr <| ztr <| ztr <| zbr <| ztr <| zf1 ⟨_, rfl, ?_⟩
                       exfalso
                       first | omega | exact hfr3 | exact hn9 (by omega) | exact absurd (hn9 (by omega)) ‹_›
                      ·
                       refine zsk <| ztn <| zsq <| zsq <| zrg ?_
                       refine zlv xmv ?_
                       refine zlv (xfb 1 fd_28_1) ?_
                       refine zlv (xlb 1 pl_3 hS) ?_
                       refine zlv (xquo (r := (Int.tdiv z tk2.den))) ?_
                       refine zlv xgtr ?_
                       refine zln <| ztn ?_
                       refine zcif ?_ ?_ <;> intro hc
                       ·
                        refine zsq <| zrg ?_
                        refine zlv xas ?_
                        refine zln <| ztn <| zrt <| ztr <| ztr <| zbr <| ztr <| ztr <| zbr <| ztr <| zf1 ⟨_, rfl, ?_⟩
                        exact ⟨rfl, hS.nl⟩
                       ·
                        refine zsk <| ztn <| zrg ?_
                        iterate 2 refine zlv xmv ?_
                        refine zlv (xfb 1 fd_28_1) ?_
                        refine zlv (xlb 1 pl_3 hS) ?_
                        refine zlv (xquo (r := (Int.tdiv z tk2.den))) ?_
                        refine zla (xli (n := 1) (len := 1) (pv := [(0, .int .i64 (Int.tdiv z tk2.den))]) (cs := [.int .i64 (Int.tdiv z tk2.den)]) (c := ints (fun _ => (Int.tdiv z tk2.den))) sl_22 el_3 hS) ?_; rintro v5 w ⟨hS, hv5⟩
                        replace hS : Sat w0 w [.blk _ [_, _, _], .blk _ [_, _, _, _, _], _, _, _, _, _, _, _, _, _, _, _] := hS
                        refine zla (xap 6 (r := nv2 + 1) sl_22 el_3 hS (hS.rowN 12 rfl) (cat_snoc _ _ _)) ?_; rintro v6 w ⟨hS, hv6⟩
                        replace hS : Sat w0 w [.blk _ [_, _, _], .blk _ [_, _, _, _, _], _, _, _, _, _, _, _, _, _, _, _] := hS
                        refine zlv xas ?_
                        refine zln <| ztn <| zsq <| zrg ?_
                        refine zlv (xls 1 st_28 hS) ?_
                        refine zlv xmv ?_
                        refine zlc (xc0 cl_20) (c_add (t := tk2) (row := rf1) w (⟨(hS.rowN 7 rfl), (hS.rowN 8 rfl), (⟨(hS.rowN 9 rfl), fun k k0 k1 => hS.rowIn 10 rfl k0 k1, fun k k0 k1 => hS.roomIn 10 rfl k0 k1⟩ : MAt _ vCk2 tk2.nc vvk2 tk2.ln tk2.C)⟩ : TAt _ vBk2 vFk2 vCk2 vvk2 tk2) (by omega)) ?_; rintro _ w ⟨vBk3, vFk3, vCk3, vvk3, tk3, ek3, rfl, hadk3, hsBk3, hsFk3, hsCk3, hS'⟩
                        replace hS : Sat w0 w [.blk g1 [vc, vA, vb], .blk g2 [.int .i64 tk2.vars, .int .i64 tk2.den, vBk2, vFk2, vCk2], .own vB 1 3 t.nb (ints t.B), .own vF 1 3 t.nf (ints t.F), .own vC 1 22 t.nc vv, .sem (Frame.rows 3 t.nc vv t.ln t.C), .own v6 1 3 (nv2 + 1) (ints (snoc fv2 nv2 (Int.tdiv z tk2.den))), .own vBk2 1 3 tk2.nb (ints tk2.B), .own vFk2 1 3 tk2.nf (ints tk2.F), .own vCk2 1 22 tk2.nc vvk2, .sem (Frame.rows 3 tk2.nc vvk2 tk2.ln tk2.C), .own vc1 1 3 nc1 (ints fc1), .own v5 1 3 1 (ints (fun _ => (Int.tdiv z tk2.den))), .own vBk3 1 3 tk3.nb (ints tk3.B), .own vFk3 1 3 tk3.nf (ints tk3.F), .own vCk3 1 22 tk3.nc vvk3, .sem (Frame.rows 3 tk3.nc vvk3 tk3.ln tk3.C)] := hS.comp hS'; clear hS'
                        have hrsk3 := fun k (k0 : 0 ≤ k) (k1 : k < tk3.nc) => hS.slhIn 16 rfl k0 k1
                        refine zlv xmv ?_
                        iterate 2 refine zlv xex ?_
                        refine zle (xsw 1 st_28 hS (hd := (ones_cons rfl (ones_cons rfl (ones_cons hsBk3.one (ones_cons hsFk3.one (ones_cons hsCk3.one ones_nil))))))) ?_; clear hS; rintro w hS
                        replace hS : Sat w0 w [.blk _ [_, _, _], .blk _ [_, _, _, _, _], _, _, _, _, _, _, _, _, _, _, _, _, _, _, _] := hS
                        refine zlv xas ?_
                        refine zln <| ztn <| zsq <| zrg ?_
                        refine zlv xmv ?_
                        obtain ⟨ha1, ha2⟩ := AddR.frac hadk3 hp (by omega) (by omega) hgl.2 (by omega)
                        refine zlv xneq ?_
                        refine zln <| ztn ?_
                        refine zcif ?_ ?_ <;> intro hc
                        ·
                         refine zsq <| zrg ?_
                         refine zlv xas ?_
                         refine zln <| ztn <| zrt <| zbr <| ztr <| ztr <| zbr <| ztr <| zf1 ⟨_, rfl, ?_⟩
                         exfalso
                         first | omega | exact hfr3 | exact hn9 (by omega) | exact absurd (hn9 (by omega)) ‹_›
                        ·
                         refine zsk <| zbn <| ztn <| zrg ?_
                         refine zlv (xadd (r := c + 1)) ?_
                         refine zlv xmv ?_
                         refine zln <| zlq ⟨us ++ [tk2], tk3, vBk3, vFk3, vCk3, vvk3, nv2 + 1, c + 1, v6, (snoc fv2 nv2 (Int.tdiv z tk2.den)), rfl, ?_, ?_, ?_, ?_, (by omega), (by omega), ?_, ?_, rfl, hS.pk [0, 1, 13, 14, 15, 16, 6]⟩
                         ·
                          exact .cut hRn hop0 hp hgf (by have hq := hadk3; rwa [hrg, ha1] at hq)
                         ·
                          exact hsBk3
                         ·
                          exact hsFk3
                         ·
                          exact hsCk3
                         ·
                          first
                          | exact fun _ => by rw [ha2]; exact hv4 (by omega) _ _ rfl (fun q _ _ => rfl)
                          | exact fun hok => absurd hok ‹¬ wokz1›
                         ·
                          exact hv6
                  ·
                   refine zsk <| ztn <| zsq <| zrg ?_
                   refine zlv (xls 1 st_28 hS) ?_
                   refine zlv xmv ?_
                   refine zlc (xc0 cl_20) (c_add (t := tk2) (row := rf1) w (⟨(hS.rowN 7 rfl), (hS.rowN 8 rfl), (⟨(hS.rowN 9 rfl), fun k k0 k1 => hS.rowIn 10 rfl k0 k1, fun k k0 k1 => hS.roomIn 10 rfl k0 k1⟩ : MAt _ vCk2 tk2.nc vvk2 tk2.ln tk2.C)⟩ : TAt _ vBk2 vFk2 vCk2 vvk2 tk2) (by omega)) ?_; rintro _ w ⟨vBk4, vFk4, vCk4, vvk4, tk4, ek4, rfl, hadk4, hsBk4, hsFk4, hsCk4, hS'⟩
                   replace hS : Sat w0 w [.blk g1 [vc, vA, vb], .blk g2 [.int .i64 tk2.vars, .int .i64 tk2.den, vBk2, vFk2, vCk2], .own vB 1 3 t.nb (ints t.B), .own vF 1 3 t.nf (ints t.F), .own vC 1 22 t.nc vv, .sem (Frame.rows 3 t.nc vv t.ln t.C), .own vx 1 3 nv2 (ints fv2), .own vBk2 1 3 tk2.nb (ints tk2.B), .own vFk2 1 3 tk2.nf (ints tk2.F), .own vCk2 1 22 tk2.nc vvk2, .sem (Frame.rows 3 tk2.nc vvk2 tk2.ln tk2.C), .own vc1 1 3 nc1 (ints fc1), .own vBk4 1 3 tk4.nb (ints tk4.B), .own vFk4 1 3 tk4.nf (ints tk4.F), .own vCk4 1 22 tk4.nc vvk4, .sem (Frame.rows 3 tk4.nc vvk4 tk4.ln tk4.C)] := hS.comp hS'; clear hS'
                   have hrsk4 := fun k (k0 : 0 ≤ k) (k1 : k < tk4.nc) => hS.slhIn 15 rfl k0 k1
                   refine zlv xmv ?_
                   iterate 2 refine zlv xex ?_
                   refine zle (xsw 1 st_28 hS (hd := (ones_cons rfl (ones_cons rfl (ones_cons hsBk4.one (ones_cons hsFk4.one (ones_cons hsCk4.one ones_nil))))))) ?_; clear hS; rintro w hS
                   replace hS : Sat w0 w [.blk _ [_, _, _], .blk _ [_, _, _, _, _], _, _, _, _, _, _, _, _, _, _, _, _, _, _] := hS
                   refine zlv xas ?_
                   refine zln <| ztn <| zsq <| zrg ?_
                   refine zlv xmv ?_
                   obtain ⟨ha1, ha2⟩ := AddR.frac hadk4 hp (by omega) (by omega) hgl.2 (by omega)
                   refine zlv xneq ?_
                   refine zln <| ztn ?_
                   refine zcif ?_ ?_ <;> intro hc
                   ·
                    refine zsq <| zrg ?_
                    refine zlv xas ?_
                    refine zln <| ztn <| zrt <| zbr <| ztr <| ztr <| zbr <| ztr <| zf1 ⟨_, rfl, ?_⟩
                    exfalso
                    first | omega | exact hfr3 | exact hn9 (by omega) | exact absurd (hn9 (by omega)) ‹_›
                   ·
                    refine zsk <| zbn <| ztn <| zrg ?_
                    refine zlv (xadd (r := c + 1)) ?_
                    refine zlv xmv ?_
                    refine zln <| zlq ⟨us ++ [tk2], tk4, vBk4, vFk4, vCk4, vvk4, nv2, c + 1, vx, fv2, rfl, ?_, ?_, ?_, ?_, (by omega), (by omega), ?_, ?_, rfl, hS.pk [0, 1, 12, 13, 14, 15, 6]⟩
                    ·
                     exact .cut hRn hop0 hp hgf (by have hq := hadk4; rwa [hrg, ha1] at hq)
                    ·
                     exact hsBk4
                    ·
                     exact hsFk4
                    ·
                     exact hsCk4
                    ·
                     first
                     | exact fun _ => by rw [ha2]; exact hv4 (by omega) _ _ rfl (fun q _ _ => rfl)
                     | exact fun hok => absurd hok ‹¬ wokz1›
                    ·
                     exact hvx
          ·
           refine zxt <| ztx <| ztx <| zbh <| ztn <| zsq <| zrg ?_
           refine zlv xas ?_
           refine zln <| ztn <| zrt <| zf1 ⟨_, rfl, ?_⟩
           exact ⟨rfl, hS.nl⟩

end Go.Proofs.Ytelfplepnodbgaa
