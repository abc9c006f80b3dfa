/- The walks of Start, of the reference, and of same. -/
import Derived.Test.YtopmifmfecfaaaaGreatGv
import Derived.Test.YtopmifmfecfaaaaGreatM5
namespace Go.Proofs.YtopmifmfecfaaaaGreat
open Go Go.RowKit Go.Proofs.Gw
set_option linter.unusedVariables false

theorem cl_116 : calledT Tryz.prog 116 = true := by kernel_rfl
theorem cl_45 : calledT Tryz.prog 45 = true := by kernel_rfl
theorem cl_85 : calledT Tryz.prog 85 = true := by kernel_rfl
theorem cl_86 : calledT Tryz.prog 86 = true := by kernel_rfl
theorem cl_87 : calledT Tryz.prog 87 = true := by kernel_rfl
theorem el_134 : elemT Tryz.prog 134 = some (.agg #[.slice none 0 0, .slice none 0 0, .slice none 0 0], 3, 72) := by kernel_rfl
theorem fd_29_3 : fieldT Tryz.prog 29 3 = some 3 := by kernel_rfl
set_option maxRecDepth 20000 in
theorem c_program {vL vD : Value} {p : Prob} {vM : Value} {u : Int} {mv : Int → Value} {ml : Int → Int} {mf : Int → Int → Int} (w0 : World) (h : PAt w0 vL vD p) (hM : MAt w0 vM u mv ml mf) (hok : p.Ok) (hu2 : u ≤ 60) (hml : ∀ k, 0 ≤ k → k < u → ml k = p.m) :
    Calls Tryz.prog 87 [.agg #[vL, vD, .int .i64 p.stock, .int .i64 p.kerf], vM].toArray w0 fun e w => ∃ v, e = .returned v ∧ ∃ vc vA vb vq, v = .agg #[vc, vA, vb] ∧ Slh vc u ∧ Slh vA p.m ∧ Slh vb p.m ∧ Sat w0 w [.own vc 1 3 u (ints fun _ => 1), .own vA 1 22 p.m vq, .own vb 1 3 p.m (ints p.D), .sem (Frame.rows 3 p.m vq (fun _ => u) (fun i j => mf j i))] := by
  have hm := h.L.slh.n0; have hm1 := h.L.slh.n1; have hd := h.D.slh.n0; have hd1 := h.D.slh.n1; have hs := h.is; have hk := h.ik
  have hu := hM.row.slh.n0; have hu1 := hM.row.slh.n1
  have hpd := hok.d; have hpm := hok.m1; have hpm2 := hok.m2
  refine zenG Tryz.func87 Tryz.ntmps87 fun w hS => ?_
  refine zsr ?_
  refine zla (xbx (cs := [_, _, _, _]) hS) ?_; rintro _ w ⟨g1, rfl, hS⟩
  replace hS := hS.n1
  refine zla (xal (cs := [_, _, _]) el_134 hS) ?_; rintro _ w ⟨g2, rfl, hS⟩
  replace hS := hS.n2
  refine zlz ?_
  refine zla (xal (cs := [_, _, _]) el_134 hS) ?_; rintro _ w ⟨g3, rfl, hS⟩
  replace hS := hS.n3
  refine zlt <| zsq <| zsr ?_
  refine zlv xas ?_
  refine zlt <| zbk ?_
  replace hS := hS.addnil 1 3 (ints (fun _ => 0))
  replace hS := hS.n4
  replace hS := hS.addnil 1 22 (fun _ => Value.slice none 0 0)
  replace hS := hS.n5
  replace hS := hS.addrows 3 (fun _ => Value.slice none 0 0) (fun _ => u) (fun i j => mf j i)
  replace hS := hS.n6
  replace hS := hS.n6
  have hrs0 := fun k (k0 : 0 ≤ k) (k1 : k < 0) => hS.slhIn 5 rfl k0 k1
  replace hS := hS.addnil 1 3 (ints (fun _ => 0))
  replace hS := hS.n7
  refine zlp (fun mm M w => ∃ (nc : Int) (i0 : Int) (wc : Value) (fc : Int → Int), mm = ((u - i0).toNat) ∧ (0 ≤ i0) ∧ (i0 ≤ u) ∧ (nc = i0) ∧ (∀ k, 0 ≤ k → k < i0 → fc k = 1) ∧ (Slh wc nc) ∧ M = [(1, vM), (2, .pointer (some ⟨g1, 0, none⟩)), (4, .pointer (some ⟨g2, 0, none⟩)), (5, .pointer (some ⟨g3, 0, none⟩)), (6, .int .i64 i0)] ∧ Sat w0 w [.blk g1 [vL, vD, .int .i64 p.stock, .int .i64 p.kerf], .blk g2 [.slice none 0 0, .slice none 0 0, .slice none 0 0], .blk g3 [wc, (.slice none 0 0), (.slice none 0 0)], .own wc 1 3 nc (ints fc), .own (.slice none 0 0) 1 22 0 (fun _ => Value.slice none 0 0), .sem (Frame.rows 3 0 (fun _ => Value.slice none 0 0) (fun _ => u) (fun i j => mf j i)), .own (.slice none 0 0) 1 3 0 (ints (fun _ => 0))]) ⟨0, 0, (.slice none 0 0), (fun _ => 0), rfl, (by omega), (by omega), (by omega), ?_, ?_, rfl, hS⟩ ?_
  ·
   intro k k0 k1; omega
  ·
   exact slh_nil
  clear hS w
  rintro mm M w ⟨nc, i0, wc, fc, rfl, h00, h01, hnc, hfc, hwc, rfl, hS⟩
  refine zsq <| zsr ?_
  refine zs2 ?_
  refine zlv (xln sl_27 hM.row.slh) ?_
  refine zlv xlss ?_
  refine zlt ?_
  refine zcif ?_ ?_ <;> intro hc
  ·
   refine zsk <| ztn <| zsq <| zbk <| zrg ?_
   refine zlv (xfb 0 fd_134_0) ?_
   refine zlv (xlb 2 pl_22 hS) ?_
   refine zla (xli (n := 1) (len := 1) (pv := [(0, .int .i64 1)]) (cs := [.int .i64 1]) (c := ints (fun _ => 1)) sl_22 el_3 hS) ?_; rintro v1 w ⟨hS, hv1⟩
   replace hS := hS.n8
   refine zla (xap 3 (r := nc + 1) sl_22 el_3 hS (hS.rowN 7 rfl) (cat_snoc _ _ _)) ?_; rintro v2 w ⟨hS, hv2⟩
   replace hS := hS.n8
   refine zlv (xfb 0 fd_134_0) ?_
   refine zle (xsb 2 pl_22 hS (hv := hv2.one)) ?_; clear hS; rintro w hS
   replace hS := hS.n8
   refine zln <| zbn <| ztn <| zrg ?_
   refine zlv xmv ?_
   refine zlv (xadd (r := i0 + 1)) ?_
   refine zlv xas ?_
   refine zln <| zlq ⟨nc + 1, i0 + 1, v2, (snoc fc nc 1), rfl, (by omega), (by omega), (by omega), ?_, ?_, rfl, hS.pk [0, 1, 2, 3, 4, 5, 6]⟩
   ·
    intro k k0 k1; by_cases e : k < nc
    · rw [snoc_lt e]; exact hfc k k0 (by omega)
    · rw [snoc_at e]
   ·
    exact hv2
  refine zxt <| ztx <| ztx <| zbh <| ztn <| zsq <| zsr ?_
  refine zlv xas ?_
  refine zlt <| zbk <| zlp (fun mm M w => ∃ (nb : Int) (nC : Int) (wv : Int → Value) (i : Int) (wb : Value) (fb : Int → Int) (wC : Value), mm = ((p.m - i).toNat) ∧ (0 ≤ i) ∧ (i ≤ p.m) ∧ (nb = i) ∧ (nC = i) ∧ (∀ k, 0 ≤ k → k < i → fb k = p.D k) ∧ (Slh wb nb) ∧ (Slh wC nC) ∧ M = [(1, vM), (2, .pointer (some ⟨g1, 0, none⟩)), (4, .pointer (some ⟨g2, 0, none⟩)), (5, .pointer (some ⟨g3, 0, none⟩)), (7, .int .i64 i)] ∧ Sat w0 w [.blk g1 [vL, vD, .int .i64 p.stock, .int .i64 p.kerf], .blk g2 [.slice none 0 0, .slice none 0 0, .slice none 0 0], .blk g3 [wc, wC, wb], .own wc 1 3 nc (ints fc), .own wC 1 22 nC wv, .sem (Frame.rows 3 nC wv (fun _ => u) (fun i j => mf j i)), .own wb 1 3 nb (ints fb)]) ⟨0, 0, (fun _ => Value.slice none 0 0), 0, (.slice none 0 0), (fun _ => 0), (.slice none 0 0), rfl, (by omega), (by omega), (by omega), (by omega), ?_, ?_, ?_, rfl, hS⟩ ?_
  ·
   intro k k0 k1; omega
  ·
   exact slh_nil
  ·
   exact slh_nil
  clear hS w
  rintro mm M w ⟨nb, nC, wv, i, wb, fb, wC, rfl, h0, h1, hnb, hnC, hfb, hwb, hwC, rfl, hS⟩
  have hrs1 := fun k (k0 : 0 ≤ k) (k1 : k < nC) => hS.slhIn 5 rfl k0 k1
  refine zsq <| zsr ?_
  refine zlv xmv ?_
  refine zlv (xfb 0 fd_24_0) ?_
  refine zlv (xlb 0 pl_22 hS) ?_
  refine zlv (xln sl_22 h.L.slh) ?_
  refine zlv xlss ?_
  refine zlt ?_
  refine zcif ?_ ?_ <;> intro hc
  ·
   refine zsk <| ztn <| zsq <| zbk <| zsr ?_
   refine zlv xas ?_
   refine zlt <| zsq <| zsr ?_
   refine zlv xas ?_
   refine zlt <| zbk ?_
   replace hS := hS.addnil 1 3 (ints (fun _ => 0))
   replace hS := hS.n8
   refine zlp (fun mm M w => ∃ (nr : Int) (j : Int) (wr : Value) (fr : Int → Int), mm = ((u - j).toNat) ∧ (0 ≤ j) ∧ (j ≤ u) ∧ (nr = j) ∧ (∀ k, 0 ≤ k → k < j → fr k = mf k i) ∧ (Slh wr nr) ∧ M = [(1, vM), (2, .pointer (some ⟨g1, 0, none⟩)), (4, .pointer (some ⟨g2, 0, none⟩)), (5, .pointer (some ⟨g3, 0, none⟩)), (7, .int .i64 i), (8, wr), (9, .int .i64 j)] ∧ Sat w0 w [.blk g1 [vL, vD, .int .i64 p.stock, .int .i64 p.kerf], .blk g2 [.slice none 0 0, .slice none 0 0, .slice none 0 0], .blk g3 [wc, wC, wb], .own wc 1 3 nc (ints fc), .own wC 1 22 nC wv, .sem (Frame.rows 3 nC wv (fun _ => u) (fun i j => mf j i)), .own wb 1 3 nb (ints fb), .own wr 1 3 nr (ints fr)]) ⟨0, 0, (.slice none 0 0), (fun _ => 0), rfl, (by omega), (by omega), (by omega), ?_, ?_, rfl, hS⟩ ?_
   ·
    intro k k0 k1; omega
   ·
    exact slh_nil
   clear hS w
   rintro mm M w ⟨nr, j, wr, fr, rfl, j0, j1, hnr, hfr, hwr, rfl, hS⟩
   refine zsq <| zsr ?_
   refine zs2 ?_
   refine zlv (xln sl_27 hM.row.slh) ?_
   refine zlv xlss ?_
   refine zlt ?_
   refine zcif ?_ ?_ <;> intro hc
   ·
    refine zsk <| ztn <| zsq <| zbk <| zrg ?_
    refine zs3 ?_
    have hmlj := hml j j0 (by omega)
    refine zlv (xix (kk := j) sl_27 hM.row.slh) ?_
    refine zlv (xlr (u := (mv j)) pl_22 (hM.row.below hS.below)) ?_
    refine zlv xmv ?_
    refine zlv (xix (kk := i) sl_22 (hM.p j (by omega) (by omega)).slh) ?_
    refine zlv (xlr (u := .int .i64 ((mf j) i)) pl_3 ((hM.p j (by omega) (by omega)).below hS.below)) ?_
    refine zla (xli (n := 1) (len := 1) (pv := [(0, .int .i64 ((mf j) i))]) (cs := [.int .i64 ((mf j) i)]) (c := ints (fun _ => ((mf j) i))) sl_22 el_3 hS) ?_; rintro v3 w ⟨hS, hv3⟩
    replace hS := hS.n9
    refine zla (xap 7 (r := nr + 1) sl_22 el_3 hS (hS.rowN 8 rfl) (cat_snoc _ _ _)) ?_; rintro v4 w ⟨hS, hv4⟩
    replace hS := hS.n9
    refine zlv xas ?_
    refine zln <| zbn <| ztn <| zrg ?_
    refine zlv xmv ?_
    refine zlv (xadd (r := j + 1)) ?_
    refine zlv xas ?_
    refine zln <| zlq ⟨nr + 1, j + 1, v4, (snoc fr nr ((mf j) i)), rfl, (by omega), (by omega), (by omega), ?_, ?_, rfl, hS.pk [0, 1, 2, 3, 4, 5, 6, 7]⟩
    ·
     intro k k0 k1; by_cases e : k < nr
     · rw [snoc_lt e]; exact hfr k k0 (by omega)
     · rw [snoc_at e]; rw [show k = j by omega]
    ·
     exact hv4
   refine zxt <| ztx <| ztx <| zbh <| ztn <| zsr ?_
   refine zlv (xfb 1 fd_134_1) ?_
   refine zlv (xlb 2 pl_27 hS) ?_
   refine zlv xmv ?_
   refine zla (xli (n := 1) (len := 1) (pv := [(0, wr)]) (cs := [wr]) (c := (fun _ => wr)) sl_27 el_22 hS (hf := by obtain ⟨_, _, _, _, rfl, _⟩ := hwr; kernel_rfl)) ?_; rintro v5 w ⟨hS, hv5⟩
   replace hS := hS.n9
   refine zla (xap 4 (r := nC + 1) sl_27 el_22 hS (hS.rowN 8 rfl) (cat_gsn _ _ _) (h1 := fun _ _ _ => hwr.one)) ?_; rintro v6 w ⟨hS, hv6⟩
   replace hS := hS.n9
   replace hS := Sat.merge (l1 := [_, _, _, _, _]) (l2 := [_]) (l3 := [_]) hS (by omega)
   have hrs2 := fun k (k0 : 0 ≤ k) (k1 : k < nC + 1) => hS.slhIn 5 rfl k0 k1
   replace hS := hS.n8
   refine zlv (xfb 1 fd_134_1) ?_
   refine zle (xsb 2 pl_27 hS (hv := hv6.one)) ?_; clear hS; rintro w hS
   replace hS := hS.n8
   refine zlt ?_
   refine zdst [0, 1, 2, 3, 4, 5, 7] [0, 1, 3, 4, 5, 7] 10 mx_ hS ?_; clear hS; intro w hS
   refine zdv 0 (fun _ => (xfb 2 fd_134_2)) ?_
   refine zdl 1 (fun w hS => (xlb 2 pl_22 hS)) ?_
   refine zdv 2 (fun _ => (xfb 1 fd_24_1)) ?_
   refine zdla 3 (fun w hS => (xlb 0 pl_22 hS)) ?_
   refine zdv 4 (fun _ => xmv) ?_
   refine zdv 5 (fun _ => (xix (kk := i) sl_22 h.D.slh)) ?_
   refine zdla 6 (fun w hS => (xlr (u := .int .i64 (p.D i)) pl_3 (h.D.below hS.below))) ?_
   have hbv := h.iD i
   refine zda 7 (xli (n := 1) (len := 1) (pv := [(0, .int .i64 (p.D i))]) (cs := [.int .i64 (p.D i)]) (c := ints (fun _ => p.D i)) sl_22 el_3 hS) ?_; rintro v7 w ⟨hS, hv7⟩
   replace hS := hS.n9
   refine ⟨⟨fun _ => hS.pk [0, 1, 2, 3, 4, 5, 7], hS.pk [0, 1, 3, 4, 5, 7]⟩, ?_⟩
   refine zda 8 (xap 6 (r := nb + 1) sl_22 el_3 hS (hS.rowN 8 rfl) (cat_snoc _ _ _)) ?_; rintro v8 w ⟨hS, hv8⟩
   replace hS := hS.n9
   refine ⟨⟨fun _ => hS.pk [0, 1, 2, 3, 4, 5, 7], hS.pk [0, 1, 3, 4, 5, 7]⟩, ?_⟩
   refine zdv 9 (fun _ => (xfb 2 fd_134_2)) ?_
   refine zde 10 (xsb 2 pl_22 hS (hv := hv8.one)) ?_; clear hS; rintro w hS
   replace hS := hS.n9
   refine ⟨⟨fun h => absurd h (by decide), hS.pk [0, 1, 3, 4, 5, 7]⟩, ?_⟩
   refine zdd <| zbn <| ztn <| zrg ?_
   refine zlv xmv ?_
   refine zlv (xadd (r := i + 1)) ?_
   refine zlv xas ?_
   refine zln ?_
   replace hS := hS.rerows (vv' := gsn wv nC wr) (ln' := fun _ => u) (f' := fun i j => mf j i) 5 rfl (fun k k0 k1 => by
     by_cases e : k < i
     · exact ⟨rfl, gsn_lt (by omega), fun j _ _ => by rw [gsn_lt (by omega)]⟩
     · have hki : k = i := by omega
       refine ⟨rfl, ?_, fun b b0 b1 => ?_⟩
       · rw [gsn_at (by omega)]; omega
       · rw [gsn_at (by omega)] at b1
         rw [gsn_at (by omega), hki]; exact hfr b b0 (by omega))
   replace hS := hS.n9
   have hrs2x := fun k (k0 : 0 ≤ k) (k1 : k < nC + 1) => hS.slhIn 5 rfl k0 k1
   refine zlq ⟨nb + 1, nC + 1, gsn wv nC wr, i + 1, v8, (snoc fb nb (p.D i)), v6, rfl, (by omega), (by omega), (by omega), (by omega), ?_, ?_, ?_, rfl, hS.pk [0, 1, 2, 3, 4, 5, 6]⟩
   ·
    intro k k0 k1; by_cases e : k < nb
    · rw [snoc_lt e]; exact hfb k k0 (by omega)
    · rw [snoc_at e]; rw [show k = i by omega]
   ·
    exact hv8
   ·
    exact hv6
  refine zxt <| ztx <| ztx <| zbh <| ztn <| zsr ?_
  refine zlv (xls 2 st_134 hS) ?_
  refine zle (xsw 1 st_134 hS (hd := (ones_cons hwc.one (ones_cons hwC.one (ones_cons hwb.one ones_nil))))) ?_; clear hS; rintro w hS
  replace hS := hS.n7
  refine zlt <| zrt <| zfc 1 st_134 hS ⟨_, rfl, ?_⟩
  obtain rfl : i = p.m := by omega
  obtain rfl : i0 = u := by omega
  replace hS := hS.recont 3 rfl (d := ints fun _ => 1) (fun k k0 k1 => by unfold ints; rw [hfc k k0 (by omega)])
  replace hS := hS.recont 6 rfl (d := ints p.D) (fun k k0 k1 => by unfold ints; rw [hfb k k0 (by omega)])
  subst hnc; subst hnC; subst hnb
  exact ⟨_, _, _, _, rfl, hwc, hwC, hwb, hS.pk [3, 4, 6, 5]⟩

set_option maxRecDepth 20000 in
theorem c_rmsolve {vL vD : Value} {p : Prob} {vM : Value} {u : Int} {mv : Int → Value} {ml : Int → Int} {mf : Int → Int → Int} (w0 : World) (h : PAt w0 vL vD p) (hM : MAt w0 vM u mv ml mf) :
    Calls Tryz.prog 50 [.agg #[vL, vD, .int .i64 p.stock, .int .i64 p.kerf], vM].toArray w0 fun e w => ∃ v, e = .returned v ∧ ∃ vX vY s e, v = .tuple #[.agg #[vX, vY, .int .i64 s.val, .int .i64 s.den], .int .i64 e] ∧ MSolveR p u ml mf s e ∧ Slh vX s.n ∧ Slh vY s.m ∧ Sat w0 w [.own vX 1 3 s.n (ints s.X), .own vY 1 3 s.m (ints s.Y)] := by
  have hm := h.L.slh.n0; have hm1 := h.L.slh.n1; have hd := h.D.slh.n0; have hd1 := h.D.slh.n1; have hs := h.is; have hk := h.ik
  have hu := hM.row.slh.n0; have hu1 := hM.row.slh.n1
  refine zenG Tryz.func50 Tryz.ntmps50 fun w hS => ?_
  refine zsr ?_
  refine zla (xbx (cs := [_, _, _, _]) hS) ?_; rintro _ w ⟨g1, rfl, hS⟩
  replace hS := hS.n1
  refine zla (xal (cs := [_, _, _, _]) el_36 hS) ?_; rintro _ w ⟨g2, rfl, hS⟩
  replace hS := hS.n2
  refine zlv xas ?_
  refine zlt <| zsq <| zsr ?_
  refine zlv (xls 0 st_24 hS) ?_
  refine zlc (xc0 cl_25) (c_rvalid28 (p := p) w (h.below hS.below)) ?_; rintro _ w ⟨rfl, hS'⟩
  replace hS := hS.cmp hS'; clear hS'
  refine zlv xnot ?_
  refine zlt ?_
  refine zcif ?_ ?_ <;> intro hc
  ·
   refine zsr ?_
   refine zlv (xany (v := .agg #[.slice none 0 0, .slice none 0 0, .int .i64 0, .int .i64 0])) ?_
   refine zle (xsw 1 st_36 hS) ?_; clear hS; rintro w hS
   replace hS := hS.n2
   refine zlv xas ?_
   refine zlt <| zrt <| ztr <| zfct 1 st_36 hS ⟨_, rfl, ?_⟩
   exact ⟨_, _, So.zero, 1, rfl, .inl ⟨fun ⟨h1, h2⟩ => by
     first
     | exact absurd h1 ‹¬ p.Ok›
     | exact hc (h2 q q0 (by omega))
     | (obtain ⟨k, k0, k1, hk⟩ := ‹∃ k, 0 ≤ k ∧ k < u ∧ ¬ ProperP p (ml k) (mf k)›; exact hk (h2 k k0 k1)), rfl, rfl⟩, slh_nil, slh_nil, ((hS.sub (.cons _ (.cons _ .slnil))).addnil 1 3 (ints So.zero.X)).addnil 1 3 (ints So.zero.Y)⟩
  refine zsk <| ztn <| zsq <| zsr ?_
  refine zlv xas ?_
  refine zlt <| zbk ?_
  have hok : p.Ok := by first | assumption | exact Classical.not_not.1 ‹_›
  have hpd := hok.d; have hpm := hok.m1; have hpm2 := hok.m2
  refine zlp (fun mm M w => ∃ (q : Int), mm = ((u - q).toNat) ∧ (0 ≤ q) ∧ (q ≤ u) ∧ (∀ k, 0 ≤ k → k < q → ProperP p (ml k) (mf k)) ∧ M = [(1, vM), (2, .pointer (some ⟨g1, 0, none⟩)), (4, .pointer (some ⟨g2, 0, none⟩)), (6, .int .i64 q)] ∧ Sat w0 w [.blk g1 [vL, vD, .int .i64 p.stock, .int .i64 p.kerf], .blk g2 [.slice none 0 0, .slice none 0 0, .int .i64 0, .int .i64 0]]) ⟨0, rfl, (by omega), (by omega), ?_, rfl, hS⟩ ?_
  ·
   intro k k0 k1; omega
  clear hS w
  rintro mm M w ⟨q, rfl, q0, q1, hpl, rfl, hS⟩
  refine zsq <| zsr ?_
  refine zs2 ?_
  refine zlv (xln sl_27 hM.row.slh) ?_
  refine zlv xlss ?_
  refine zlt ?_
  refine zcif ?_ ?_ <;> intro hc
  ·
   refine zsk <| ztn <| zsq <| zbk <| zsq ?_
   refine zdst [0, 1] [0, 1] 1000 mx_ hS ?_; clear hS; intro w hS
   refine zdla 0 (fun w hS => (xls 0 st_24 hS)) ?_
   refine zdv 1 (fun _ => xmv) ?_
   refine zdv 2 (fun _ => xmv) ?_
   refine zdv 3 (fun _ => (xix (kk := q) sl_27 hM.row.slh)) ?_
   refine zdla 4 (fun w hS => (xlr (u := (mv q)) pl_22 (hM.row.below hS.below))) ?_
   refine zdc 5 (xc0 cl_85) (c_rproper28 (p := p) w (h.below hS.below) ((hM.p q (by omega) (by omega)).below hS.below)) ?_; rintro _ w ⟨rfl, hS'⟩
   replace hS := hS.cmp hS'; clear hS'
   refine ⟨⟨fun _ => hS, hS⟩, ?_⟩
   refine zdv 6 (fun _ => xnot) ?_
   refine zdd <| ztn ?_
   refine zcif ?_ ?_ <;> intro hc
   ·
    refine zsr ?_
    refine zlv (xany (v := .agg #[.slice none 0 0, .slice none 0 0, .int .i64 0, .int .i64 0])) ?_
    refine zle (xsw 1 st_36 hS) ?_; clear hS; rintro w hS
    replace hS := hS.n2
    refine zlv xas ?_
    refine zlt <| zrt <| zbr <| ztr <| ztr <| zbr <| ztr <| zfct 1 st_36 hS ⟨_, rfl, ?_⟩
    exact ⟨_, _, So.zero, 1, rfl, .inl ⟨fun ⟨h1, h2⟩ => by
      first
      | exact absurd h1 ‹¬ p.Ok›
      | exact hc (h2 q q0 (by omega))
      | (obtain ⟨k, k0, k1, hk⟩ := ‹∃ k, 0 ≤ k ∧ k < u ∧ ¬ ProperP p (ml k) (mf k)›; exact hk (h2 k k0 k1)), rfl, rfl⟩, slh_nil, slh_nil, ((hS.sub (.cons _ (.cons _ .slnil))).addnil 1 3 (ints So.zero.X)).addnil 1 3 (ints So.zero.Y)⟩
   refine zsk <| zbn <| ztn <| zrg ?_
   refine zlv xmv ?_
   refine zlv (xadd (r := q + 1)) ?_
   refine zlv xas ?_
   refine zln <| zlq ⟨q + 1, rfl, (by omega), (by omega), ?_, rfl, hS⟩
   ·
    have hq9 : ProperP p (ml q) (mf q) := by first | assumption | exact Classical.not_not.1 ‹_›
    intro k k0 k1; rcases Int.lt_or_eq_of_le (show k ≤ q by omega) with hk | hk
    · exact hpl k k0 hk
    · rw [hk]; exact hq9
  refine zxt <| ztx <| ztx <| zbh <| ztn <| zsq <| zsr ?_
  refine zlv (xfb 0 fd_24_0) ?_
  have hpr : ∀ k, 0 ≤ k → k < u → ProperP p (ml k) (mf k) := fun k k0 k1 => hpl k k0 (by omega)
  refine zlv (xlb 0 pl_22 hS) ?_
  refine zlv (xln sl_22 h.L.slh) ?_
  refine zs2 ?_
  refine zlb 30 ?_ ?_ <;> intro hc
  ·
   iterate 3 refine zlo ?_
   refine zlv xpt ?_
   refine zlt <| zct <| zsr ?_
   refine zlv (xany (v := .agg #[.slice none 0 0, .slice none 0 0, .int .i64 0, .int .i64 0])) ?_
   refine zle (xsw 1 st_36 hS) ?_; clear hS; rintro w hS
   replace hS := hS.n2
   refine zlv xas ?_
   refine zlt <| zrt <| ztr <| zfct 1 st_36 hS ⟨_, rfl, ?_⟩
   exact ⟨_, _, So.zero, 9, rfl, .inr (.inl ⟨⟨hok, hpr⟩, by omega, rfl, rfl⟩), slh_nil, slh_nil, ((hS.sub (.cons _ (.cons _ .slnil))).addnil 1 3 (ints So.zero.X)).addnil 1 3 (ints So.zero.Y)⟩
  refine zlv xmv ?_
  refine zlv (xln sl_27 hM.row.slh) ?_
  refine zs2 ?_
  refine zlt ?_
  refine zcif ?_ ?_ <;> intro hc
  ·
   refine zsr ?_
   refine zlv (xany (v := .agg #[.slice none 0 0, .slice none 0 0, .int .i64 0, .int .i64 0])) ?_
   refine zle (xsw 1 st_36 hS) ?_; clear hS; rintro w hS
   replace hS := hS.n2
   refine zlv xas ?_
   refine zlt <| zrt <| ztr <| zfct 1 st_36 hS ⟨_, rfl, ?_⟩
   exact ⟨_, _, So.zero, 9, rfl, .inr (.inl ⟨⟨hok, hpr⟩, by omega, rfl, rfl⟩), slh_nil, slh_nil, ((hS.sub (.cons _ (.cons _ .slnil))).addnil 1 3 (ints So.zero.X)).addnil 1 3 (ints So.zero.Y)⟩
  refine zsk <| ztn <| zsq <| zsr ?_
  refine zlv xmv ?_
  refine zlv (xln sl_27 hM.row.slh) ?_
  refine zlv xeql ?_
  refine zlt ?_
  refine zcif ?_ ?_ <;> intro hc
  ·
   refine zsq <| zsr ?_
   refine zlv xas ?_
   refine zlt <| zbk <| zlp (fun mm M w => ∃ (j : Int), mm = ((p.d - j).toNat) ∧ (0 ≤ j) ∧ (j ≤ p.d) ∧ (∀ k, 0 ≤ k → k < j → p.D k ≤ 0) ∧ M = [(1, vM), (2, .pointer (some ⟨g1, 0, none⟩)), (4, .pointer (some ⟨g2, 0, none⟩)), (7, .int .i64 j)] ∧ Sat w0 w [.blk g1 [vL, vD, .int .i64 p.stock, .int .i64 p.kerf], .blk g2 [.slice none 0 0, .slice none 0 0, .int .i64 0, .int .i64 0]]) ⟨0, rfl, (by omega), (by omega), ?_, rfl, hS⟩ ?_
   ·
    intro k k0 k1; omega
   clear hS w
   rintro mm M w ⟨j, rfl, j0, j1, hall, rfl, hS⟩
   refine zsq <| zsr ?_
   refine zlv xmv ?_
   refine zlv (xfb 1 fd_24_1) ?_
   refine zlv (xlb 0 pl_22 hS) ?_
   refine zlv (xln sl_22 h.D.slh) ?_
   refine zlv xlss ?_
   refine zlt ?_
   refine zcif ?_ ?_ <;> intro hc
   ·
    refine zsk <| ztn <| zsq <| zbk <| zsr ?_
    refine zlv (xfb 1 fd_24_1) ?_
    refine zlv (xlb 0 pl_22 hS) ?_
    refine zlv xmv ?_
    refine zlv (xix (kk := j) sl_22 h.D.slh) ?_
    refine zlv (xlr (u := .int .i64 (p.D j)) pl_3 (h.D.below hS.below)) ?_
    have hbv := h.iD j
    refine zlv xgtr ?_
    refine zlt ?_
    refine zcif ?_ ?_ <;> intro hc
    ·
     refine zsr ?_
     refine zlv (xany (v := .agg #[.slice none 0 0, .slice none 0 0, .int .i64 0, .int .i64 0])) ?_
     refine zle (xsw 1 st_36 hS) ?_; clear hS; rintro w hS
     replace hS := hS.n2
     refine zlv xas ?_
     refine zlt <| zrt <| zbr <| ztr <| ztr <| zbr <| ztr <| ztr <| zfct 1 st_36 hS ⟨_, rfl, ?_⟩
     exact ⟨_, _, So.zero, 19, rfl, .inr (.inr (.inl ⟨⟨hok, hpr⟩, by omega, by omega, by omega, by first | (obtain ⟨k, k0, k1, hk⟩ := hex1; exact ⟨k, k0, k1, by omega⟩) | exact ⟨_, ‹0 ≤ j›, ‹j < p.d›, ‹_›⟩ | exact ⟨j, by omega, by omega, by omega⟩, rfl, rfl⟩)), slh_nil, slh_nil, ((hS.sub (.cons _ (.cons _ .slnil))).addnil 1 3 (ints So.zero.X)).addnil 1 3 (ints So.zero.Y)⟩
    refine zsk <| zbn <| ztn <| zrg ?_
    refine zlv xmv ?_
    refine zlv (xadd (r := j + 1)) ?_
    refine zlv xas ?_
    refine zln <| zlq ⟨j + 1, rfl, (by omega), (by omega), ?_, rfl, hS⟩
    ·
     intro k h0' h1'; rcases Int.lt_or_eq_of_le (show k ≤ j by omega) with hk | hk
     · exact hall k h0' hk
     · rw [hk]; omega
   refine zxt <| ztx <| ztx <| zbh <| ztn <| zsr ?_
   refine zlv (xfb 0 fd_24_0) ?_
   refine zlv (xlb 0 pl_22 hS) ?_
   refine zlv (xln sl_22 h.L.slh) ?_
   refine zla (xmk sl_22 el_3 hS) ?_; rintro v1 w ⟨hS, hv1⟩
   replace hS := hS.n3
   refine zlv (xany (v := .agg #[.slice none 0 0, v1, .int .i64 0, .int .i64 1]) (hr := by obtain ⟨_, _, _, _, rfl, _⟩ := hv1; kernel_rfl)) ?_
   refine zle (xsw 1 st_36 hS (hd := (ones_cons rfl (ones_cons hv1.one (ones_cons rfl (ones_cons rfl ones_nil)))))) ?_; clear hS; rintro w hS
   replace hS := hS.n3
   refine zlv xas ?_
   refine zlt <| zrt <| ztr <| zfct 1 st_36 hS ⟨_, rfl, ?_⟩
   exact ⟨_, _, so0 p, 0, rfl, .inr (.inr (.inr (.inl ⟨⟨hok, hpr⟩, by omega, by omega, by omega, (fun k k0 k1 => by first | (have := hax1 k k0 k1; omega) | (have := hall k k0 (by omega); omega)), rfl, rfl⟩))), slh_nil, hv1, (hS.addnil 1 3 (ints fun _ => 0)).pk [3, 2]⟩
  refine zsk <| ztn <| zsr ?_
  refine zlv (xls 0 st_24 hS) ?_
  refine zlv xmv ?_
  refine zlc (xc0 cl_87) (c_program (p := p) w (h.below hS.below) (hM.below hS.below) hok (by omega) (fun k k0 k1 => (hpr k k0 k1).1.eq)) ?_; rintro _ w ⟨pcg91, pAg91, pbg91, pqg91, rfl, hpcg91, hpAg91, hpbg91, hS'⟩
  replace hS : Sat w0 w [.blk g1 [vL, vD, .int .i64 p.stock, .int .i64 p.kerf], .blk g2 [.slice none 0 0, .slice none 0 0, .int .i64 0, .int .i64 0], .own pcg91 1 3 u (ints (fun _ => 1)), .own pAg91 1 22 p.m pqg91, .own pbg91 1 3 p.m (ints p.D), .sem (Frame.rows 3 p.m pqg91 (fun _ => u) (fun i j => mf j i))] := hS.comp hS'; clear hS'
  have hprg91 := fun k (k0 : 0 ≤ k) (k1 : k < p.m) => hS.slhIn 5 rfl k0 k1
  refine zlc (xc0 cl_86) (c_rsolve (p := (⟨u, p.m, p.m, (fun _ => 1), (fun _ => u), (fun i j => mf j i), p.D⟩ : Lp)) w (⟨(hS.rowN 2 rfl), (⟨(hS.rowN 3 rfl), fun k k0 k1 => hS.rowIn 5 rfl k0 k1, fun k k0 k1 => hS.roomIn 5 rfl k0 k1⟩ : MAt _ pAg91 p.m pqg91 (fun _ => u) (fun i j => mf j i)), (hS.rowN 4 rfl)⟩ : LAt _ pcg91 pAg91 pbg91 pqg91 (⟨u, p.m, p.m, (fun _ => 1), (fun _ => u), (fun i j => mf j i), p.D⟩ : Lp))) ?_; rintro _ w ⟨vXs1, vYs1, ss1, es1, rfl, hsos1, hvXs1, hvYs1, hS'⟩
  replace hS : Sat w0 w [.blk g1 [vL, vD, .int .i64 p.stock, .int .i64 p.kerf], .blk g2 [.slice none 0 0, .slice none 0 0, .int .i64 0, .int .i64 0], .own pcg91 1 3 u (ints (fun _ => 1)), .own pAg91 1 22 p.m pqg91, .own pbg91 1 3 p.m (ints p.D), .sem (Frame.rows 3 p.m pqg91 (fun _ => u) (fun i j => mf j i)), .own vXs1 1 3 ss1.n (ints ss1.X), .own vYs1 1 3 ss1.m (ints ss1.Y)] := hS.comp hS'; clear hS'
  refine zs2 ?_
  refine zle (xsw 1 st_36 hS (hd := (ones_cons hvXs1.one (ones_cons hvYs1.one (ones_cons rfl (ones_cons rfl ones_nil)))))) ?_; clear hS; rintro w hS
  replace hS := hS.n8
  refine zlv xas ?_
  refine zlt <| zrt <| zfct 1 st_36 hS ⟨_, rfl, ?_⟩
  exact ⟨_, _, ss1, _, rfl, .inr (.inr (.inr (.inr ⟨⟨hok, hpr⟩, by omega, by omega, by omega, (show lpOf p u mf = ⟨u, p.m, p.m, fun _ => 1, fun _ => u, fun i j => mf j i, p.D⟩ by unfold lpOf; rw [hpd]) ▸ hsos1⟩))), hvXs1, hvYs1, hS.pk [6, 7]⟩

def SameL (u u2 : Int) (ml ml2 : Int → Int) (mf mf2 : Int → Int → Int) : Prop := u = u2 ∧ ∀ k, 0 ≤ k → k < u → ml k = ml2 k ∧ ∀ j, 0 ≤ j → j < ml k → mf k j = mf2 k j
set_option maxRecDepth 20000 in
theorem c_same28 {va vb : Value} {n m : Int} {f g : Int → Int} (w0 : World) (hA : Row w0 va 1 n (ints f)) (hB2 : Row w0 vb 1 m (ints g)) :
    Calls Tryz.prog 45 [va, vb].toArray w0 fun e w => ∃ v, e = .returned v ∧ v = B (n = m ∧ ∀ k, 0 ≤ k → k < n → f k = g k) ∧ Sat w0 w [] := by
  have hn := hA.slh.n0; have hm1 := hB2.slh.n1; have hn1 := hA.slh.n1
  refine zenG Tryz.func45 Tryz.ntmps45 fun w hS => ?_
  refine zsr ?_
  refine zlv xas ?_
  refine zlt <| zsq <| zsr ?_
  refine zlv xmv ?_
  refine zlv (xln sl_22 hA.slh) ?_
  refine zlv xmv ?_
  refine zlv (xln sl_22 hB2.slh) ?_
  refine zlv xneq ?_
  refine zlt ?_
  refine zcif ?_ ?_ <;> intro hc
  ·
   refine zsr ?_
   refine zlv xas ?_
   refine zlt <| zrt <| ztr <| zf1 ⟨_, rfl, ?_⟩
   exact ⟨false_B (by rintro ⟨h1, h2⟩; first | omega | exact absurd (h2 i h0 (by omega)) (by omega)), hS⟩
  refine zsk <| ztn <| zsq <| zsr ?_
  refine zlv xas ?_
  refine zlt <| zbk <| zlp (fun mm M w => ∃ (i : Int), mm = ((n - i).toNat) ∧ (0 ≤ i) ∧ (i ≤ n) ∧ (∀ k, 0 ≤ k → k < i → f k = g k) ∧ M = [(0, va), (1, vb), (5, .int .i64 i)] ∧ Sat w0 w []) ⟨0, rfl, (by omega), (by omega), ?_, rfl, hS⟩ ?_
  ·
   intro k h0 h1; omega
  clear hS w
  rintro mm M w ⟨i, rfl, h0, h1, hall, rfl, hS⟩
  refine zsq <| zsr ?_
  refine zs2 ?_
  refine zlv (xln sl_22 hA.slh) ?_
  refine zlv xlss ?_
  refine zlt ?_
  refine zcif ?_ ?_ <;> intro hc
  ·
   refine zsk <| ztn <| zsq <| zbk <| zsq ?_
   refine zdst [] [] 1000 mx_ hS ?_; clear hS; intro w hS
   refine zdv 0 (fun _ => xmv) ?_
   refine zdv 1 (fun _ => xmv) ?_
   refine zdv 2 (fun _ => (xix (kk := i) sl_22 hA.slh)) ?_
   refine zdla 3 (fun w hS => (xlr (u := .int .i64 (f i)) pl_3 (hA.below hS.below))) ?_
   refine zdv 4 (fun _ => xmv) ?_
   refine zdv 5 (fun _ => xmv) ?_
   refine zdv 6 (fun _ => (xix (kk := i) sl_22 hB2.slh)) ?_
   refine zdla 7 (fun w hS => (xlr (u := .int .i64 (g i)) pl_3 (hB2.below hS.below))) ?_
   refine zdv 8 (fun _ => xneq) ?_
   refine zdd <| ztn ?_
   refine zcif ?_ ?_ <;> intro hc
   ·
    refine zsr ?_
    refine zlv xas ?_
    refine zlt <| zrt <| zbr <| ztr <| ztr <| zbr <| ztr <| zf1 ⟨_, rfl, ?_⟩
    exact ⟨false_B (by rintro ⟨h1, h2⟩; first | omega | exact absurd (h2 i h0 (by omega)) (by omega)), hS⟩
   refine zsk <| zbn <| ztn <| zrg ?_
   refine zlv xmv ?_
   refine zlv (xadd (r := i + 1)) ?_
   refine zlv xas ?_
   refine zln <| zlq ⟨i + 1, rfl, (by omega), (by omega), ?_, rfl, hS⟩
   ·
    intro k h0' h1'; rcases Int.lt_or_eq_of_le (show k ≤ i by omega) with hk | hk; exact hall k h0' hk; rw [hk]; omega
  refine zxt <| ztx <| ztx <| zbh <| ztn <| zsr ?_
  refine zlv xas ?_
  refine zlt <| zrt <| zf1 ⟨_, rfl, ?_⟩
  exact ⟨true_B ⟨by omega, fun k k0 k1 => hall k k0 (by omega)⟩, hS⟩

def SoundS (s : So) : Prop := (1 ≤ s.den ∧ s.den ≤ 1073741824) ∧ (0 ≤ s.val ∧ s.val ≤ 1073741824) ∧ ∀ k, 0 ≤ k → k < s.n → 0 ≤ s.X k ∧ s.X k ≤ 1073741824
def two (x y : Int) : Int → Int := fun k => [x, y].getD k.toNat 0
def ValR (s : So) (x y e : Int) : Prop := (¬ SoundS s ∧ x = 0 ∧ y = 0 ∧ e = 1) ∨ (SoundS s ∧ x = s.val.tdiv (Int.gcd s.val s.den) ∧ y = s.den.tdiv (Int.gcd s.val s.den) ∧ e = 0)
theorem ValR.same {s : So} {x y e x2 y2 e2 : Int} (h : ValR s x y e) (h' : ValR s x2 y2 e2) : x = x2 ∧ y = y2 ∧ e = e2 := by
  rcases h with ⟨h1, h2, h3, h4⟩ | ⟨h1, h2, h3, h4⟩ <;> rcases h' with ⟨g1, g2, g3, g4⟩ | ⟨g1, g2, g3, g4⟩
  · exact ⟨by omega, by omega, by omega⟩
  · exact absurd g1 h1
  · exact absurd h1 g1
  · exact ⟨by rw [h2, g2], by rw [h3, g3], by omega⟩
def CeilR (s : So) (x e : Int) : Prop := (¬ SoundS s ∧ x = 0 ∧ e = 1) ∨ (SoundS s ∧ x = (s.val + s.den - 1).tdiv s.den ∧ e = 0)
theorem CeilR.same {s : So} {x e x2 e2 : Int} (h : CeilR s x e) (h' : CeilR s x2 e2) : x = x2 ∧ e = e2 := by
  rcases h with ⟨h1, h2, h4⟩ | ⟨h1, h2, h4⟩ <;> rcases h' with ⟨g1, g2, g4⟩ | ⟨g1, g2, g4⟩
  · exact ⟨by omega, by omega⟩
  · exact absurd g1 h1
  · exact absurd h1 g1
  · exact ⟨by rw [h2, g2], by omega⟩

/-- The pattern of one length alone. -/
def oneP (p : Prob) (i : Int) : Int → Int := fun j => if j = i then min (p.D i) ((p.stock + p.kerf).tdiv (p.L i + p.kerf)) else 0
theorem oneP_upd (p : Prob) (i : Int) : upd (fun _ => 0) i (min (p.D i) ((p.stock + p.kerf).tdiv (p.L i + p.kerf))) = oneP p i := by
  funext j; unfold upd oneP; rfl

set_option maxRecDepth 20000 in
theorem c_one {vL vD : Value} {p : Prob} {gp : Nat} {i : Int} (w0 : World) (hG : (Ent.blk gp [vL, vD, .int .i64 p.stock, .int .i64 p.kerf]).holds w0) (h : PAt w0 vL vD p) (hok : p.Ok) (i0 : 0 ≤ i) (i1 : i < p.m) :
    Calls Tryz.prog 116 [.int .i64 i, .pointer (some ⟨gp, 0, none⟩)].toArray w0 fun e w => ∃ v, e = .returned v ∧ ∃ r, v = r ∧ Slh r p.m ∧ Sat w0 w [.own r 1 3 p.m (ints (oneP p i))] := by
  have hm := h.L.slh.n0; have hm1 := h.L.slh.n1; have hd := h.D.slh.n0; have hd1 := h.D.slh.n1; have hs := h.is; have hk := h.ik
  have hpd := hok.d; have hpm := hok.m1; have hpm2 := hok.m2; have hs1 := hok.s1; have hs2 := hok.s2; have hk1 := hok.k1; have hk2 := hok.k2; have he := hok.all i i0 i1; unfold Prob.each at he
  have hqd := tdiv_abs (a := p.stock + p.kerf) (d := p.L i + p.kerf) (A := 2100) (by omega) (by omega)
  refine zenG Tryz.func116 Tryz.ntmps116 fun w hS => ?_
  refine zsr ?_
  refine zlv xas ?_
  refine zlz ?_
  refine zlv (xfb 0 fd_35_0) ?_
  refine zlv (xlf pl_22 (Ent.holds.cell hG (o := 0) rfl) hS) ?_
  refine zlv (xln sl_22 h.L.slh) ?_
  refine zla (xmk sl_22 el_3 hS) ?_; rintro v1 w ⟨hS, hv1⟩
  replace hS := hS.n1
  refine zlv xas ?_
  refine zlt <| zsq ?_
  refine zdst [0] [] 23 mx_ hS ?_; clear hS; intro w hS
  refine zdv 0 (fun _ => xmv) ?_
  refine zdv 1 (fun _ => xmv) ?_
  refine zdv 2 (fun _ => (xfb 1 fd_35_1)) ?_
  refine zdla 3 (fun w hS => (xlf pl_22 (Ent.holds.cell hG (o := 1) rfl) hS)) ?_
  refine zdv 4 (fun _ => xmv) ?_
  refine zdv 5 (fun _ => (xix (kk := i) sl_22 h.D.slh)) ?_
  refine zdla 6 (fun w hS => (xlr (u := .int .i64 (p.D i)) pl_3 (h.D.below hS.below))) ?_
  have hbv := h.iD i
  refine zdv 7 (fun _ => (xfb 2 fd_35_2)) ?_
  refine zdla 8 (fun w hS => (xlf pl_3 (Ent.holds.cell hG (o := 2) rfl) hS)) ?_
  refine zdv 9 (fun _ => (xfb 3 fd_35_3)) ?_
  refine zdla 10 (fun w hS => (xlf pl_3 (Ent.holds.cell hG (o := 3) rfl) hS)) ?_
  refine zdv 11 (fun _ => (xadd (r := p.stock + p.kerf))) ?_
  refine zdv 12 (fun _ => (xfb 0 fd_35_0)) ?_
  refine zdla 13 (fun w hS => (xlf pl_22 (Ent.holds.cell hG (o := 0) rfl) hS)) ?_
  refine zdv 14 (fun _ => xmv) ?_
  refine zdv 15 (fun _ => (xix (kk := i) sl_22 h.L.slh)) ?_
  refine zdla 16 (fun w hS => (xlr (u := .int .i64 (p.L i)) pl_3 (h.L.below hS.below))) ?_
  have hbv := h.iL i
  refine zdv 17 (fun _ => (xfb 3 fd_35_3)) ?_
  refine zdla 18 (fun w hS => (xlf pl_3 (Ent.holds.cell hG (o := 3) rfl) hS)) ?_
  refine zdv 19 (fun _ => (xadd (r := p.L i + p.kerf))) ?_
  refine zdv 20 (fun _ => (xquo (r := (Int.tdiv (p.stock + p.kerf) (p.L i + p.kerf))))) ?_
  refine zdv 21 (fun _ => (xmin (r := (min (p.D i) (Int.tdiv (p.stock + p.kerf) (p.L i + p.kerf)))))) ?_
  refine zdv 22 (fun _ => (xix (kk := i) sl_22 hv1)) ?_
  refine zde 23 (xso 0 pl_3 hS (upd_ints _ _ _)) ?_; clear hS; rintro w hS
  replace hS := hS.n1
  refine ⟨⟨fun h => absurd h (by decide), hS.nl⟩, ?_⟩
  refine zdd <| ztn <| zsr ?_
  refine zs2 ?_
  refine zlt <| zrt <| zf1 ⟨_, rfl, ?_⟩
  rw [oneP_upd] at hS
  exact ⟨_, rfl, hv1, hS⟩

def stN (p : Prob) : Nat → Int
  | 0 => 0
  | k + 1 => if 0 < p.D k then stN p k + 1 else stN p k
def stL (p : Prob) : Nat → Int → Int
  | 0 => fun _ => 0
  | k + 1 => if 0 < p.D k then gsn (stL p k) (stN p k) p.m else stL p k
def stG (p : Prob) : Nat → Int → Int → Int
  | 0 => fun _ _ => 0
  | k + 1 => if 0 < p.D k then gsn (stG p k) (stN p k) (oneP p k) else stG p k
theorem stN_next (p : Prob) {i : Int} (h : 0 ≤ i) : stN p (i + 1).toNat = if 0 < p.D i then stN p i.toNat + 1 else stN p i.toNat := by
  obtain ⟨k, rfl⟩ := Int.eq_ofNat_of_zero_le h; rw [show ((k : Int) + 1).toNat = k + 1 by omega, Int.toNat_natCast]; rfl
theorem stL_next (p : Prob) {i : Int} (h : 0 ≤ i) : stL p (i + 1).toNat = if 0 < p.D i then gsn (stL p i.toNat) (stN p i.toNat) p.m else stL p i.toNat := by
  obtain ⟨k, rfl⟩ := Int.eq_ofNat_of_zero_le h; rw [show ((k : Int) + 1).toNat = k + 1 by omega, Int.toNat_natCast]; rfl
theorem stG_next (p : Prob) {i : Int} (h : 0 ≤ i) : stG p (i + 1).toNat = if 0 < p.D i then gsn (stG p i.toNat) (stN p i.toNat) (oneP p i) else stG p i.toNat := by
  obtain ⟨k, rfl⟩ := Int.eq_ofNat_of_zero_le h; rw [show ((k : Int) + 1).toNat = k + 1 by omega, Int.toNat_natCast]; rfl
theorem stN_rng (p : Prob) : ∀ k : Nat, 0 ≤ stN p k ∧ stN p k ≤ k
  | 0 => by simp [stN]
  | k + 1 => by
    have := stN_rng p k
    simp only [stN]; split <;> omega
def MStartR (p : Prob) (n : Int) (ln : Int → Int) (g : Int → Int → Int) (e : Int) : Prop := (¬ p.Ok ∧ n = 0 ∧ e = 1) ∨ (p.Ok ∧ n = stN p p.m.toNat ∧ ln = stL p p.m.toNat ∧ g = stG p p.m.toNat ∧ e = 0)

set_option maxRecDepth 20000 in
theorem c_mstart {vL vD : Value} {p : Prob} (w0 : World) (h : PAt w0 vL vD p) :
    Calls Tryz.prog 82 [.agg #[vL, vD, .int .i64 p.stock, .int .i64 p.kerf]].toArray w0 fun e w => ∃ v, e = .returned v ∧ ∃ r n vv ln g e, v = .tuple #[r, .int .i64 e] ∧ MStartR p n ln g e ∧ Slh r n ∧ Sat w0 w [.own r 1 22 n vv, .sem (Frame.rows 3 n vv ln g)] := by
  have hm := h.L.slh.n0; have hm1 := h.L.slh.n1; have hd := h.D.slh.n0; have hd1 := h.D.slh.n1; have hs := h.is; have hk := h.ik
  refine zenG Tryz.func82 Tryz.ntmps82 fun w hS => ?_
  refine zsr ?_
  refine zla (xbx (cs := [_, _, _, _]) hS) ?_; rintro _ w ⟨g1, rfl, hS⟩
  replace hS := hS.n1
  refine zs2 ?_
  refine zlt <| zsq <| zsr ?_
  refine zlv (xls 0 st_35 hS) ?_
  refine zlc (xc0 cl_47) (c_pvalid (p := p) w (h.below hS.below)) ?_; rintro _ w ⟨rfl, hS'⟩
  replace hS := hS.cmp hS'; clear hS'
  refine zlv xnot ?_
  refine zlt ?_
  refine zcif ?_ ?_ <;> intro hc
  ·
   refine zsr ?_
   refine zs2 ?_
   refine zlt <| zrt <| ztr <| zf2 ⟨_, rfl, ?_⟩
   exact ⟨_, 0, fun _ => undef, fun _ => 0, fun _ _ => 0, 1, rfl, .inl ⟨‹¬ p.Ok›, rfl, rfl⟩, slh_nil, ((hS.sub (.cons _ .slnil)).addnil 1 22 (fun _ => undef)).addrows 3 (fun _ => undef) (fun _ => 0) (fun _ _ => 0)⟩
  refine zsk <| ztn <| zsr ?_
  refine zlv xmf ?_
  refine zlv xas ?_
  refine zlz ?_
  refine zlv xas ?_
  refine zlt <| zsq <| zsr ?_
  refine zlv (xfb 1 fd_35_1) ?_
  refine zlv (xlb 0 pl_22 hS) ?_
  refine zlv (xln sl_22 h.D.slh) ?_
  refine zlv xmv ?_
  refine zlt <| zbk ?_
  have hok : p.Ok := by first | assumption | exact Classical.not_not.1 ‹_›
  have hpd := hok.d; have hpm := hok.m1; have hpm2 := hok.m2
  replace hS := hS.addnil 1 22 (fun _ => Value.slice none 0 0)
  replace hS := hS.n2
  replace hS := hS.addrows 3 (fun _ => Value.slice none 0 0) (fun _ => 0) (fun _ _ => 0)
  replace hS := hS.n3
  replace hS := hS.n3
  have hrs0 := fun k (k0 : 0 ≤ k) (k1 : k < 0) => hS.slhIn 2 rfl k0 k1
  refine zlp (fun mm M w => ∃ (nC : Int) (wv : Int → Value) (lC : Int → Int) (gC : Int → Int → Int) (i : Int) (wC : Value), mm = ((p.d - i).toNat) ∧ (0 ≤ i) ∧ (i ≤ p.d) ∧ (nC = stN p i.toNat) ∧ (lC = stL p i.toNat) ∧ (gC = stG p i.toNat) ∧ (Slh wC nC) ∧ M = [(2, .slice none 0 0), (3, .int .i64 0), (4, .func (.func 116) #[] #[.pointer (some ⟨g1, 0, none⟩)]), (5, wC), (13, vD), (14, .int .i64 p.d), (15, .int .i64 i)] ∧ Sat w0 w [.blk g1 [vL, vD, .int .i64 p.stock, .int .i64 p.kerf], .own wC 1 22 nC wv, .sem (Frame.rows 3 nC wv lC gC)]) ⟨0, (fun _ => Value.slice none 0 0), (fun _ => 0), (fun _ _ => 0), 0, (.slice none 0 0), rfl, (by omega), (by omega), ?_, ?_, ?_, ?_, rfl, hS⟩ ?_
  ·
   rfl
  ·
   rfl
  ·
   rfl
  ·
   exact slh_nil
  clear hS w
  rintro mm M w ⟨nC, wv, lC, gC, i, wC, rfl, h0, h1, hnC, hlC, hgC, hwC, rfl, hS⟩
  have hrs1 := fun k (k0 : 0 ≤ k) (k1 : k < nC) => hS.slhIn 2 rfl k0 k1
  have hnr := stN_rng p i.toNat
  refine zsr ?_
  refine zlv xlss ?_
  refine zlt <| zsq ?_
  refine zcif ?_ ?_ <;> intro hc
  ·
   refine zsk <| ztn <| zsq <| zbk <| zsr ?_
   refine zlv xmv ?_
   refine zlv (xix (kk := i) sl_22 h.D.slh) ?_
   refine zlv (xlr (u := .int .i64 (p.D i)) pl_3 (h.D.below hS.below)) ?_
   have hbv := h.iD i
   refine zs2 ?_
   refine zlz ?_
   refine zs2 ?_
   refine zlt ?_
   refine zcif ?_ ?_ <;> intro hc
   ·
    refine zrg ?_
    refine zs3 ?_
    refine zlc (xcc (vs := [_]) cl_116) (c_one (p := p) (i := i) w (hS.holds _ (List.mem_of_getElem? (i := 0) rfl)) (h.below hS.below) hok (by omega) (by omega)) ?_; rintro voo1 w ⟨_, rfl, hvoo1, hS'⟩
    replace hS : Sat w0 w [.blk g1 [vL, vD, .int .i64 p.stock, .int .i64 p.kerf], .own wC 1 22 nC wv, .sem (Frame.rows 3 nC wv lC gC), .own voo1 1 3 p.m (ints (oneP p i))] := hS.comp hS'; clear hS'
    refine zla (xli (n := 1) (len := 1) (pv := [(0, voo1)]) (cs := [voo1]) (c := (fun _ => voo1)) sl_27 el_22 hS (hf := by obtain ⟨_, _, _, _, rfl, _⟩ := hvoo1; kernel_rfl)) ?_; rintro v1 w ⟨hS, hv1⟩
    replace hS := hS.n5
    refine zla (xap 1 (r := nC + 1) sl_27 el_22 hS (hS.rowN 4 rfl) (cat_gsn _ _ _) (h1 := fun _ _ _ => hvoo1.one)) ?_; rintro v2 w ⟨hS, hv2⟩
    replace hS := hS.n5
    replace hS := Sat.merge (l1 := [_, _]) (l2 := []) (l3 := [_]) hS (by omega)
    have hrs2 := fun k (k0 : 0 ≤ k) (k1 : k < nC + 1) => hS.slhIn 2 rfl k0 k1
    replace hS := hS.n4
    refine zlv xas ?_
    refine zln <| zbn <| ztn <| zrg ?_
    refine zlv (xadd (r := i + 1)) ?_
    refine zlv xmv ?_
    refine zln <| zlq ⟨nC + 1, gsn wv nC voo1, gsn lC nC p.m, gsn gC nC (oneP p i), i + 1, v2, rfl, (by omega), (by omega), ?_, ?_, ?_, ?_, rfl, hS.pk [0, 1, 2]⟩
    ·
     rw [stN_next p h0, ← hnC]; first | rw [if_pos (by omega)] | rw [if_neg (by omega)]
    ·
     rw [stL_next p h0, ← hlC, ← hnC]; first | rw [if_pos (by omega)] | rw [if_neg (by omega)]
    ·
     rw [stG_next p h0, ← hgC, ← hnC]; first | rw [if_pos (by omega)] | rw [if_neg (by omega)]
    ·
     exact hv2
   refine zsk <| zbn <| ztn <| zrg ?_
   refine zlv (xadd (r := i + 1)) ?_
   refine zlv xmv ?_
   refine zln <| zlq ⟨nC, wv, lC, gC, i + 1, wC, rfl, (by omega), (by omega), ?_, ?_, ?_, ?_, rfl, hS⟩
   ·
    rw [stN_next p h0, ← hnC]; first | rw [if_pos (by omega)] | rw [if_neg (by omega)]
   ·
    rw [stL_next p h0, ← hlC, ← hnC]; first | rw [if_pos (by omega)] | rw [if_neg (by omega)]
   ·
    rw [stG_next p h0, ← hgC, ← hnC]; first | rw [if_pos (by omega)] | rw [if_neg (by omega)]
   ·
    exact hwC
  refine zxt <| ztx <| ztx <| zbh <| ztn <| zsr ?_
  refine zs3 ?_
  refine zlt <| zrt <| zf2 ⟨_, rfl, ?_⟩
  have him : i = p.m := by omega
  rw [him] at hnC hlC hgC
  exact ⟨_, _, _, _, _, 0, rfl, .inr ⟨hok, hnC, hlC, hgC, rfl⟩, hwC, hS.pk [1, 2]⟩

theorem one_pos {p : Prob} (hok : p.Ok) {i : Int} (i0 : 0 ≤ i) (i1 : i < p.m) : 0 < oneP p i i ↔ 0 < p.D i := by
  have he := hok.all i i0 i1
  unfold Prob.each at he
  have hk := hok.k1
  have hq : 1 ≤ (p.stock + p.kerf).tdiv (p.L i + p.kerf) := by
    rw [Int.tdiv_eq_ediv_of_nonneg (by omega)]
    exact (Int.le_ediv_iff_mul_le (by omega)).2 (by omega)
  unfold oneP; rw [if_pos rfl]; omega

set_option maxRecDepth 20000 in
theorem c_rmstart {vL vD : Value} {p : Prob} (w0 : World) (h : PAt w0 vL vD p) :
    Calls Tryz.prog 49 [.agg #[vL, vD, .int .i64 p.stock, .int .i64 p.kerf]].toArray w0 fun e w => ∃ v, e = .returned v ∧ ∃ r n vv ln g e, v = .tuple #[r, .int .i64 e] ∧ MStartR p n ln g e ∧ Slh r n ∧ Sat w0 w [.own r 1 22 n vv, .sem (Frame.rows 3 n vv ln g)] := by
  have hm := h.L.slh.n0; have hm1 := h.L.slh.n1; have hd := h.D.slh.n0; have hd1 := h.D.slh.n1; have hs := h.is; have hk := h.ik
  refine zenG Tryz.func49 Tryz.ntmps49 fun w hS => ?_
  refine zsr ?_
  refine zla (xbx (cs := [_, _, _, _]) hS) ?_; rintro _ w ⟨g1, rfl, hS⟩
  replace hS := hS.n1
  refine zs2 ?_
  refine zlt <| zsq <| zsr ?_
  refine zlv (xls 0 st_24 hS) ?_
  refine zlc (xc0 cl_25) (c_rvalid28 (p := p) w (h.below hS.below)) ?_; rintro _ w ⟨rfl, hS'⟩
  replace hS := hS.cmp hS'; clear hS'
  refine zlv xnot ?_
  refine zlt ?_
  refine zcif ?_ ?_ <;> intro hc
  ·
   refine zsr ?_
   refine zs2 ?_
   refine zlt <| zrt <| ztr <| zf2 ⟨_, rfl, ?_⟩
   exact ⟨_, 0, fun _ => undef, fun _ => 0, fun _ _ => 0, 1, rfl, .inl ⟨‹¬ p.Ok›, rfl, rfl⟩, slh_nil, ((hS.sub (.cons _ .slnil)).addnil 1 22 (fun _ => undef)).addrows 3 (fun _ => undef) (fun _ => 0) (fun _ _ => 0)⟩
  refine zsk <| ztn <| zsr ?_
  refine zlv xas ?_
  refine zlt <| zsq <| zsr ?_
  refine zlv xas ?_
  refine zlt <| zbk ?_
  have hok : p.Ok := by first | assumption | exact Classical.not_not.1 ‹_›
  have hpd := hok.d; have hpm := hok.m1; have hpm2 := hok.m2
  replace hS := hS.addnil 1 22 (fun _ => Value.slice none 0 0)
  replace hS := hS.n2
  replace hS := hS.addrows 3 (fun _ => Value.slice none 0 0) (fun _ => 0) (fun _ _ => 0)
  replace hS := hS.n3
  replace hS := hS.n3
  have hrs0 := fun k (k0 : 0 ≤ k) (k1 : k < 0) => hS.slhIn 2 rfl k0 k1
  refine zlp (fun mm M w => ∃ (nC : Int) (wv : Int → Value) (lC : Int → Int) (gC : Int → Int → Int) (i : Int) (wC : Value), mm = ((p.m - i).toNat) ∧ (0 ≤ i) ∧ (i ≤ p.m) ∧ (nC = stN p i.toNat) ∧ (lC = stL p i.toNat) ∧ (gC = stG p i.toNat) ∧ (Slh wC nC) ∧ M = [(1, .pointer (some ⟨g1, 0, none⟩)), (2, .slice none 0 0), (3, .int .i64 0), (4, wC), (5, .int .i64 i)] ∧ Sat w0 w [.blk g1 [vL, vD, .int .i64 p.stock, .int .i64 p.kerf], .own wC 1 22 nC wv, .sem (Frame.rows 3 nC wv lC gC)]) ⟨0, (fun _ => Value.slice none 0 0), (fun _ => 0), (fun _ _ => 0), 0, (.slice none 0 0), rfl, (by omega), (by omega), ?_, ?_, ?_, ?_, rfl, hS⟩ ?_
  ·
   rfl
  ·
   rfl
  ·
   rfl
  ·
   exact slh_nil
  clear hS w
  rintro mm M w ⟨nC, wv, lC, gC, i, wC, rfl, h0, h1, hnC, hlC, hgC, hwC, rfl, hS⟩
  have hrs1 := fun k (k0 : 0 ≤ k) (k1 : k < nC) => hS.slhIn 2 rfl k0 k1
  have hnr := stN_rng p i.toNat
  refine zsq <| zsr ?_
  refine zlv xmv ?_
  refine zlv (xfb 0 fd_24_0) ?_
  refine zlv (xlb 0 pl_22 hS) ?_
  refine zlv (xln sl_22 h.L.slh) ?_
  refine zlv xlss ?_
  refine zlt ?_
  refine zcif ?_ ?_ <;> intro hc
  ·
   refine zsk <| ztn <| zsq <| zbk <| zsr ?_
   refine zlv (xfb 0 fd_24_0) ?_
   refine zlv (xlb 0 pl_22 hS) ?_
   refine zlv (xln sl_22 h.L.slh) ?_
   refine zla (xmk sl_22 el_3 hS) ?_; rintro v1 w ⟨hS, hv1⟩
   replace hS := hS.n4
   refine zlv xas ?_
   refine zlt <| zsq ?_
   refine zdst [0, 1, 2, 3] [0, 1, 2] 23 mx_ hS ?_; clear hS; intro w hS
   refine zdv 0 (fun _ => xmv) ?_
   have hs1 := hok.s1; have hs2 := hok.s2; have hk1 := hok.k1; have hk2 := hok.k2; have he := hok.all i h0 (by omega); unfold Prob.each at he
   have hqd := tdiv_abs (a := p.stock + p.kerf) (d := p.L i + p.kerf) (A := 2100) (by omega) (by omega)
   refine zdv 1 (fun _ => xmv) ?_
   refine zdv 2 (fun _ => (xfb 1 fd_24_1)) ?_
   refine zdla 3 (fun w hS => (xlb 0 pl_22 hS)) ?_
   refine zdv 4 (fun _ => xmv) ?_
   refine zdv 5 (fun _ => (xix (kk := i) sl_22 h.D.slh)) ?_
   refine zdla 6 (fun w hS => (xlr (u := .int .i64 (p.D i)) pl_3 (h.D.below hS.below))) ?_
   have hbv := h.iD i
   refine zdv 7 (fun _ => (xfb 2 fd_24_2)) ?_
   refine zdla 8 (fun w hS => (xlb 0 pl_3 hS)) ?_
   refine zdv 9 (fun _ => (xfb 3 fd_24_3)) ?_
   refine zdla 10 (fun w hS => (xlb 0 pl_3 hS)) ?_
   refine zdv 11 (fun _ => (xadd (r := p.stock + p.kerf))) ?_
   refine zdv 12 (fun _ => (xfb 0 fd_24_0)) ?_
   refine zdla 13 (fun w hS => (xlb 0 pl_22 hS)) ?_
   refine zdv 14 (fun _ => xmv) ?_
   refine zdv 15 (fun _ => (xix (kk := i) sl_22 h.L.slh)) ?_
   refine zdla 16 (fun w hS => (xlr (u := .int .i64 (p.L i)) pl_3 (h.L.below hS.below))) ?_
   have hbv := h.iL i
   refine zdv 17 (fun _ => (xfb 3 fd_24_3)) ?_
   refine zdla 18 (fun w hS => (xlb 0 pl_3 hS)) ?_
   refine zdv 19 (fun _ => (xadd (r := p.L i + p.kerf))) ?_
   refine zdv 20 (fun _ => (xquo (r := (Int.tdiv (p.stock + p.kerf) (p.L i + p.kerf))))) ?_
   refine zdv 21 (fun _ => (xmin (r := (min (p.D i) (Int.tdiv (p.stock + p.kerf) (p.L i + p.kerf)))))) ?_
   refine zdv 22 (fun _ => (xix (kk := i) sl_22 hv1)) ?_
   refine zde 23 (xso 3 pl_3 hS (upd_ints _ _ _)) ?_; clear hS; rintro w hS
   replace hS := hS.n4
   refine ⟨⟨fun h => absurd h (by decide), hS.pk [0, 1, 2]⟩, ?_⟩
   refine zdd <| ztn <| zsr ?_
   refine zlv xmv ?_
   rw [oneP_upd] at hS
   replace hS := hS.n4
   have hop := one_pos hok h0 (by omega : i < p.m)
   refine zlv xmv ?_
   refine zlv (xix (kk := i) sl_22 hv1) ?_
   refine zlv (xlr (u := .int .i64 (oneP p i i)) pl_3 (hS.rowN 3 rfl)) ?_
   refine zlv xgtr ?_
   refine zlt ?_
   refine zcif ?_ ?_ <;> intro hc
   ·
    refine zrg ?_
    refine zs2 ?_
    refine zla (xli (n := 1) (len := 1) (pv := [(0, v1)]) (cs := [v1]) (c := (fun _ => v1)) sl_27 el_22 hS (hf := by obtain ⟨_, _, _, _, rfl, _⟩ := hv1; kernel_rfl)) ?_; rintro v2 w ⟨hS, hv2⟩
    replace hS := hS.n5
    refine zla (xap 1 (r := nC + 1) sl_27 el_22 hS (hS.rowN 4 rfl) (cat_gsn _ _ _) (h1 := fun _ _ _ => hv1.one)) ?_; rintro v3 w ⟨hS, hv3⟩
    replace hS := hS.n5
    replace hS := Sat.merge (l1 := [_, _]) (l2 := []) (l3 := [_]) hS (by omega)
    have hrs2 := fun k (k0 : 0 ≤ k) (k1 : k < nC + 1) => hS.slhIn 2 rfl k0 k1
    replace hS := hS.n4
    refine zlv xas ?_
    refine zln <| zbn <| ztn <| zrg ?_
    refine zlv xmv ?_
    refine zlv (xadd (r := i + 1)) ?_
    refine zlv xas ?_
    refine zln <| zlq ⟨nC + 1, gsn wv nC v1, gsn lC nC p.m, gsn gC nC (oneP p i), i + 1, v3, rfl, (by omega), (by omega), ?_, ?_, ?_, ?_, rfl, hS.pk [0, 1, 2]⟩
    ·
     rw [stN_next p h0, ← hnC]; first | rw [if_pos (by omega)] | rw [if_neg (by omega)]
    ·
     rw [stL_next p h0, ← hlC, ← hnC]; first | rw [if_pos (by omega)] | rw [if_neg (by omega)]
    ·
     rw [stG_next p h0, ← hgC, ← hnC]; first | rw [if_pos (by omega)] | rw [if_neg (by omega)]
    ·
     exact hv3
   refine zsk <| zbn <| ztn <| zrg ?_
   refine zlv xmv ?_
   refine zlv (xadd (r := i + 1)) ?_
   refine zlv xas ?_
   refine zln <| zlq ⟨nC, wv, lC, gC, i + 1, wC, rfl, (by omega), (by omega), ?_, ?_, ?_, ?_, rfl, hS.pk [0, 1, 2]⟩
   ·
    rw [stN_next p h0, ← hnC]; first | rw [if_pos (by omega)] | rw [if_neg (by omega)]
   ·
    rw [stL_next p h0, ← hlC, ← hnC]; first | rw [if_pos (by omega)] | rw [if_neg (by omega)]
   ·
    rw [stG_next p h0, ← hgC, ← hnC]; first | rw [if_pos (by omega)] | rw [if_neg (by omega)]
   ·
    exact hwC
  refine zxt <| ztx <| ztx <| zbh <| ztn <| zsr ?_
  refine zs3 ?_
  refine zlt <| zrt <| zf2 ⟨_, rfl, ?_⟩
  have him : i = p.m := by omega
  rw [him] at hnC hlC hgC
  exact ⟨_, _, _, _, _, 0, rfl, .inr ⟨hok, hnC, hlC, hgC, rfl⟩, hwC, hS.pk [1, 2]⟩

end Go.Proofs.YtopmifmfecfaaaaGreat
