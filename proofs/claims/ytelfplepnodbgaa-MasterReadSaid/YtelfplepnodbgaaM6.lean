/- The walk of Solve, of the reference of layer 30. -/
import Derived.Test.YtelfplepnodbgaaGv
import Derived.Test.YtelfplepnodbgaaM5
namespace Go.Proofs.Ytelfplepnodbgaa
open Go Go.RowKit Go.Proofs.Gw
set_option linter.unusedVariables false

theorem cl_46 : calledT Try.prog 46 = true := by kernel_rfl
theorem cl_84 : calledT Try.prog 84 = true := by kernel_rfl
theorem cl_85 : calledT Try.prog 85 = true := by kernel_rfl
theorem el_44 : elemT Try.prog 44 = some (.agg #[.slice none 0 0, .slice none 0 0, .slice none 0 0], 3, 72) := by kernel_rfl
set_option maxRecDepth 20000 in
theorem c_program {vL vD : Value} {p : Prob} {vM : Value} {u : Int} {mv : Int → Value} {ml : Int → Int} {mf : Int → Int → Int} (w0 : World) (h : PAt w0 vL vD p) (hM : MAt w0 vM u mv ml mf) (hok : p.Ok) (hu2 : u ≤ 60) (hml : ∀ k, 0 ≤ k → k < u → ml k = p.m) :
    Calls Try.prog 85 [.agg #[vL, vD, .int .i64 p.stock, .int .i64 p.kerf], vM].toArray w0 fun e w => ∃ v, e = .returned v ∧ ∃ vc vA vb vq, v = .agg #[vc, vA, vb] ∧ Slh vc u ∧ Slh vA p.m ∧ Slh vb p.m ∧ Sat w0 w [.own vc 1 3 u (ints fun _ => 1), .own vA 1 22 p.m vq, .own vb 1 3 p.m (ints p.D), .sem (Frame.rows 3 p.m vq (fun _ => u) (fun i j => mf j i))] := by
  have hm := h.L.slh.n0; have hm1 := h.L.slh.n1; have hd := h.D.slh.n0; have hd1 := h.D.slh.n1; have hs := h.is; have hk := h.ik
  have hu := hM.row.slh.n0; have hu1 := hM.row.slh.n1
  have hpd := hok.d; have hpm := hok.m1; have hpm2 := hok.m2
  refine zenG Try.func85 Try.ntmps85 fun w hS => ?_
  refine zsr ?_
  refine zla (xbx (cs := [_, _, _, _]) hS) ?_; rintro _ w ⟨g1, rfl, hS⟩
  replace hS := hS.n1
  refine zla (xal (cs := [_, _, _]) el_44 hS) ?_; rintro _ w ⟨g2, rfl, hS⟩
  replace hS := hS.n2
  refine zlz ?_
  refine zla (xal (cs := [_, _, _]) el_44 hS) ?_; rintro _ w ⟨g3, rfl, hS⟩
  replace hS := hS.n3
  refine zlt <| zsq <| zsr ?_
  refine zlv xas ?_
  refine zlt <| zbk ?_
  replace hS := hS.addnil 1 3 (ints (fun _ => 0))
  replace hS := hS.n4
  replace hS := hS.addnil 1 22 (fun _ => Value.slice none 0 0)
  replace hS := hS.n5
  replace hS := hS.addrows 3 (fun _ => Value.slice none 0 0) (fun _ => u) (fun i j => mf j i)
  replace hS := hS.n6
  replace hS := hS.n6
  have hrs0 := fun k (k0 : 0 ≤ k) (k1 : k < 0) => hS.slhIn 5 rfl k0 k1
  replace hS := hS.addnil 1 3 (ints (fun _ => 0))
  replace hS := hS.n7
  refine zlp (fun mm M w => ∃ (nc : Int) (i0 : Int) (wc : Value) (fc : Int → Int), mm = ((u - i0).toNat) ∧ (0 ≤ i0) ∧ (i0 ≤ u) ∧ (nc = i0) ∧ (∀ k, 0 ≤ k → k < i0 → fc k = 1) ∧ (Slh wc nc) ∧ M = [(1, vM), (2, .pointer (some ⟨g1, 0, none⟩)), (4, .pointer (some ⟨g2, 0, none⟩)), (5, .pointer (some ⟨g3, 0, none⟩)), (6, .int .i64 i0)] ∧ Sat w0 w [.blk g1 [vL, vD, .int .i64 p.stock, .int .i64 p.kerf], .blk g2 [.slice none 0 0, .slice none 0 0, .slice none 0 0], .blk g3 [wc, (.slice none 0 0), (.slice none 0 0)], .own wc 1 3 nc (ints fc), .own (.slice none 0 0) 1 22 0 (fun _ => Value.slice none 0 0), .sem (Frame.rows 3 0 (fun _ => Value.slice none 0 0) (fun _ => u) (fun i j => mf j i)), .own (.slice none 0 0) 1 3 0 (ints (fun _ => 0))]) ⟨0, 0, (.slice none 0 0), (fun _ => 0), rfl, (by omega), (by omega), (by omega), ?_, ?_, rfl, hS⟩ ?_
  ·
   intro k k0 k1; omega
  ·
   exact slh_nil
  clear hS w
  rintro mm M w ⟨nc, i0, wc, fc, rfl, h00, h01, hnc, hfc, hwc, rfl, hS⟩
  refine zsq <| zsr ?_
  refine zs2 ?_
  refine zlv (xln sl_23 hM.row.slh) ?_
  refine zlv xlss ?_
  refine zlt ?_
  refine zcif ?_ ?_ <;> intro hc
  ·
   refine zsk <| ztn <| zsq <| zbk <| zrg ?_
   refine zlv (xfb 0 fd_44_0) ?_
   refine zlv (xlb 2 pl_22 hS) ?_
   refine zla (xli (n := 1) (len := 1) (pv := [(0, .int .i64 1)]) (cs := [.int .i64 1]) (c := ints (fun _ => 1)) sl_22 el_3 hS) ?_; rintro v1 w ⟨hS, hv1⟩
   replace hS := hS.n8
   refine zla (xap 3 (r := nc + 1) sl_22 el_3 hS (hS.rowN 7 rfl) (cat_snoc _ _ _)) ?_; rintro v2 w ⟨hS, hv2⟩
   replace hS := hS.n8
   refine zlv (xfb 0 fd_44_0) ?_
   refine zle (xsb 2 pl_22 hS (hv := hv2.one)) ?_; clear hS; rintro w hS
   replace hS := hS.n8
   refine zln <| zbn <| ztn <| zrg ?_
   refine zlv xmv ?_
   refine zlv (xadd (r := i0 + 1)) ?_
   refine zlv xas ?_
   refine zln <| zlq ⟨nc + 1, i0 + 1, v2, (snoc fc nc 1), rfl, (by omega), (by omega), (by omega), ?_, ?_, rfl, hS.pk [0, 1, 2, 3, 4, 5, 6]⟩
   ·
    intro k k0 k1; by_cases e : k < nc
    · rw [snoc_lt e]; exact hfc k k0 (by omega)
    · rw [snoc_at e]
   ·
    exact hv2
  refine zxt <| ztx <| ztx <| zbh <| ztn <| zsq <| zsr ?_
  refine zlv xas ?_
  refine zlt <| zbk <| zlp (fun mm M w => ∃ (nb : Int) (nC : Int) (wv : Int → Value) (i : Int) (wb : Value) (fb : Int → Int) (wC : Value), mm = ((p.m - i).toNat) ∧ (0 ≤ i) ∧ (i ≤ p.m) ∧ (nb = i) ∧ (nC = i) ∧ (∀ k, 0 ≤ k → k < i → fb k = p.D k) ∧ (Slh wb nb) ∧ (Slh wC nC) ∧ M = [(1, vM), (2, .pointer (some ⟨g1, 0, none⟩)), (4, .pointer (some ⟨g2, 0, none⟩)), (5, .pointer (some ⟨g3, 0, none⟩)), (7, .int .i64 i)] ∧ Sat w0 w [.blk g1 [vL, vD, .int .i64 p.stock, .int .i64 p.kerf], .blk g2 [.slice none 0 0, .slice none 0 0, .slice none 0 0], .blk g3 [wc, wC, wb], .own wc 1 3 nc (ints fc), .own wC 1 22 nC wv, .sem (Frame.rows 3 nC wv (fun _ => u) (fun i j => mf j i)), .own wb 1 3 nb (ints fb)]) ⟨0, 0, (fun _ => Value.slice none 0 0), 0, (.slice none 0 0), (fun _ => 0), (.slice none 0 0), rfl, (by omega), (by omega), (by omega), (by omega), ?_, ?_, ?_, rfl, hS⟩ ?_
  ·
   intro k k0 k1; omega
  ·
   exact slh_nil
  ·
   exact slh_nil
  clear hS w
  rintro mm M w ⟨nb, nC, wv, i, wb, fb, wC, rfl, h0, h1, hnb, hnC, hfb, hwb, hwC, rfl, hS⟩
  have hrs1 := fun k (k0 : 0 ≤ k) (k1 : k < nC) => hS.slhIn 5 rfl k0 k1
  refine zsq <| zsr ?_
  refine zlv xmv ?_
  refine zlv (xfb 0 fd_64_0) ?_
  refine zlv (xlb 0 pl_22 hS) ?_
  refine zlv (xln sl_22 h.L.slh) ?_
  refine zlv xlss ?_
  refine zlt ?_
  refine zcif ?_ ?_ <;> intro hc
  ·
   refine zsk <| ztn <| zsq <| zbk <| zsr ?_
   refine zlv xas ?_
   refine zlt <| zsq <| zsr ?_
   refine zlv xas ?_
   refine zlt <| zbk ?_
   replace hS := hS.addnil 1 3 (ints (fun _ => 0))
   replace hS := hS.n8
   refine zlp (fun mm M w => ∃ (nr : Int) (j : Int) (wr : Value) (fr : Int → Int), mm = ((u - j).toNat) ∧ (0 ≤ j) ∧ (j ≤ u) ∧ (nr = j) ∧ (∀ k, 0 ≤ k → k < j → fr k = mf k i) ∧ (Slh wr nr) ∧ M = [(1, vM), (2, .pointer (some ⟨g1, 0, none⟩)), (4, .pointer (some ⟨g2, 0, none⟩)), (5, .pointer (some ⟨g3, 0, none⟩)), (7, .int .i64 i), (8, wr), (9, .int .i64 j)] ∧ Sat w0 w [.blk g1 [vL, vD, .int .i64 p.stock, .int .i64 p.kerf], .blk g2 [.slice none 0 0, .slice none 0 0, .slice none 0 0], .blk g3 [wc, wC, wb], .own wc 1 3 nc (ints fc), .own wC 1 22 nC wv, .sem (Frame.rows 3 nC wv (fun _ => u) (fun i j => mf j i)), .own wb 1 3 nb (ints fb), .own wr 1 3 nr (ints fr)]) ⟨0, 0, (.slice none 0 0), (fun _ => 0), rfl, (by omega), (by omega), (by omega), ?_, ?_, rfl, hS⟩ ?_
   ·
    intro k k0 k1; omega
   ·
    exact slh_nil
   clear hS w
   rintro mm M w ⟨nr, j, wr, fr, rfl, j0, j1, hnr, hfr, hwr, rfl, hS⟩
   refine zsq <| zsr ?_
   refine zs2 ?_
   refine zlv (xln sl_23 hM.row.slh) ?_
   refine zlv xlss ?_
   refine zlt ?_
   refine zcif ?_ ?_ <;> intro hc
   ·
    refine zsk <| ztn <| zsq <| zbk <| zrg ?_
    refine zs3 ?_
    have hmlj := hml j j0 (by omega)
    refine zlv (xix (kk := j) sl_23 hM.row.slh) ?_
    refine zlv (xlr (u := (mv j)) pl_22 (hM.row.below hS.below)) ?_
    refine zlv xmv ?_
    refine zlv (xix (kk := i) sl_22 (hM.p j (by omega) (by omega)).slh) ?_
    refine zlv (xlr (u := .int .i64 ((mf j) i)) pl_3 ((hM.p j (by omega) (by omega)).below hS.below)) ?_
    refine zla (xli (n := 1) (len := 1) (pv := [(0, .int .i64 ((mf j) i))]) (cs := [.int .i64 ((mf j) i)]) (c := ints (fun _ => ((mf j) i))) sl_22 el_3 hS) ?_; rintro v3 w ⟨hS, hv3⟩
    replace hS := hS.n9
    refine zla (xap 7 (r := nr + 1) sl_22 el_3 hS (hS.rowN 8 rfl) (cat_snoc _ _ _)) ?_; rintro v4 w ⟨hS, hv4⟩
    replace hS := hS.n9
    refine zlv xas ?_
    refine zln <| zbn <| ztn <| zrg ?_
    refine zlv xmv ?_
    refine zlv (xadd (r := j + 1)) ?_
    refine zlv xas ?_
    refine zln <| zlq ⟨nr + 1, j + 1, v4, (snoc fr nr ((mf j) i)), rfl, (by omega), (by omega), (by omega), ?_, ?_, rfl, hS.pk [0, 1, 2, 3, 4, 5, 6, 7]⟩
    ·
     intro k k0 k1; by_cases e : k < nr
     · rw [snoc_lt e]; exact hfr k k0 (by omega)
     · rw [snoc_at e]; rw [show k = j by omega]
    ·
     exact hv4
   refine zxt <| ztx <| ztx <| zbh <| ztn <| zsr ?_
   refine zlv (xfb 1 fd_44_1) ?_
   refine zlv (xlb 2 pl_23 hS) ?_
   refine zlv xmv ?_
   refine zla (xli (n := 1) (len := 1) (pv := [(0, wr)]) (cs := [wr]) (c := (fun _ => wr)) sl_23 el_22 hS (hf := by obtain ⟨_, _, _, _, rfl, _⟩ := hwr; kernel_rfl)) ?_; rintro v5 w ⟨hS, hv5⟩
   replace hS := hS.n9
   refine zla (xap 4 (r := nC + 1) sl_23 el_22 hS (hS.rowN 8 rfl) (cat_gsn _ _ _) (h1 := fun _ _ _ => hwr.one)) ?_; rintro v6 w ⟨hS, hv6⟩
   replace hS := hS.n9
   replace hS := Sat.merge (l1 := [_, _, _, _, _]) (l2 := [_]) (l3 := [_]) hS (by omega)
   have hrs2 := fun k (k0 : 0 ≤ k) (k1 : k < nC + 1) => hS.slhIn 5 rfl k0 k1
   replace hS := hS.n8
   refine zlv (xfb 1 fd_44_1) ?_
   refine zle (xsb 2 pl_23 hS (hv := hv6.one)) ?_; clear hS; rintro w hS
   replace hS := hS.n8
   refine zlt ?_
   refine zdst [0, 1, 2, 3, 4, 5, 7] [0, 1, 3, 4, 5, 7] 10 mx_ hS ?_; clear hS; intro w hS
   refine zdv 0 (fun _ => (xfb 2 fd_44_2)) ?_
   refine zdl 1 (fun w hS => (xlb 2 pl_22 hS)) ?_
   refine zdv 2 (fun _ => (xfb 1 fd_64_1)) ?_
   refine zdla 3 (fun w hS => (xlb 0 pl_22 hS)) ?_
   refine zdv 4 (fun _ => xmv) ?_
   refine zdv 5 (fun _ => (xix (kk := i) sl_22 h.D.slh)) ?_
   refine zdla 6 (fun w hS => (xlr (u := .int .i64 (p.D i)) pl_3 (h.D.below hS.below))) ?_
   have hbv := h.iD i
   refine zda 7 (xli (n := 1) (len := 1) (pv := [(0, .int .i64 (p.D i))]) (cs := [.int .i64 (p.D i)]) (c := ints (fun _ => p.D i)) sl_22 el_3 hS) ?_; rintro v7 w ⟨hS, hv7⟩
   replace hS := hS.n9
   refine ⟨⟨fun _ => hS.pk [0, 1, 2, 3, 4, 5, 7], hS.pk [0, 1, 3, 4, 5, 7]⟩, ?_⟩
   refine zda 8 (xap 6 (r := nb + 1) sl_22 el_3 hS (hS.rowN 8 rfl) (cat_snoc _ _ _)) ?_; rintro v8 w ⟨hS, hv8⟩
   replace hS := hS.n9
   refine ⟨⟨fun _ => hS.pk [0, 1, 2, 3, 4, 5, 7], hS.pk [0, 1, 3, 4, 5, 7]⟩, ?_⟩
   refine zdv 9 (fun _ => (xfb 2 fd_44_2)) ?_
   refine zde 10 (xsb 2 pl_22 hS (hv := hv8.one)) ?_; clear hS; rintro w hS
   replace hS := hS.n9
   refine ⟨⟨fun h => absurd h (by decide), hS.pk [0, 1, 3, 4, 5, 7]⟩, ?_⟩
   refine zdd <| zbn <| ztn <| zrg ?_
   refine zlv xmv ?_
   refine zlv (xadd (r := i + 1)) ?_
   refine zlv xas ?_
   refine zln ?_
   replace hS := hS.rerows (vv' := gsn wv nC wr) (ln' := fun _ => u) (f' := fun i j => mf j i) 5 rfl (fun k k0 k1 => by
     by_cases e : k < i
     · exact ⟨rfl, gsn_lt (by omega), fun j _ _ => by rw [gsn_lt (by omega)]⟩
     · have hki : k = i := by omega
       refine ⟨rfl, ?_, fun b b0 b1 => ?_⟩
       · rw [gsn_at (by omega)]; omega
       · rw [gsn_at (by omega)] at b1
         rw [gsn_at (by omega), hki]; exact hfr b b0 (by omega))
   replace hS := hS.n9
   have hrs2x := fun k (k0 : 0 ≤ k) (k1 : k < nC + 1) => hS.slhIn 5 rfl k0 k1
   refine zlq ⟨nb + 1, nC + 1, gsn wv nC wr, i + 1, v8, (snoc fb nb (p.D i)), v6, rfl, (by omega), (by omega), (by omega), (by omega), ?_, ?_, ?_, rfl, hS.pk [0, 1, 2, 3, 4, 5, 6]⟩
   ·
    intro k k0 k1; by_cases e : k < nb
    · rw [snoc_lt e]; exact hfb k k0 (by omega)
    · rw [snoc_at e]; rw [show k = i by omega]
   ·
    exact hv8
   ·
    exact hv6
  refine zxt <| ztx <| ztx <| zbh <| ztn <| zsr ?_
  refine zlv (xls 2 st_44 hS) ?_
  refine zle (xsw 1 st_44 hS (hd := (ones_cons hwc.one (ones_cons hwC.one (ones_cons hwb.one ones_nil))))) ?_; clear hS; rintro w hS
  replace hS := hS.n7
  refine zlt <| zrt <| zfc 1 st_44 hS ⟨_, rfl, ?_⟩
  obtain rfl : i = p.m := by omega
  obtain rfl : i0 = u := by omega
  replace hS := hS.recont 3 rfl (d := ints fun _ => 1) (fun k k0 k1 => by unfold ints; rw [hfc k k0 (by omega)])
  replace hS := hS.recont 6 rfl (d := ints p.D) (fun k k0 k1 => by unfold ints; rw [hfb k k0 (by omega)])
  subst hnc; subst hnC; subst hnb
  exact ⟨_, _, _, _, rfl, hwc, hwC, hwb, hS.pk [3, 4, 6, 5]⟩

set_option maxRecDepth 20000 in
theorem c_rmsolve {vL vD : Value} {p : Prob} {vM : Value} {u : Int} {mv : Int → Value} {ml : Int → Int} {mf : Int → Int → Int} (w0 : World) (h : PAt w0 vL vD p) (hM : MAt w0 vM u mv ml mf) :
    Calls Try.prog 40 [.agg #[vL, vD, .int .i64 p.stock, .int .i64 p.kerf], vM].toArray w0 fun e w => ∃ v, e = .returned v ∧ ∃ vX vY s e, v = .tuple #[.agg #[vX, vY, .int .i64 s.val, .int .i64 s.den], .int .i64 e] ∧ MSolveR p u ml mf s e ∧ Slh vX s.n ∧ Slh vY s.m ∧ Sat w0 w [.own vX 1 3 s.n (ints s.X), .own vY 1 3 s.m (ints s.Y)] := by
  have hm := h.L.slh.n0; have hm1 := h.L.slh.n1; have hd := h.D.slh.n0; have hd1 := h.D.slh.n1; have hs := h.is; have hk := h.ik
  have hu := hM.row.slh.n0; have hu1 := hM.row.slh.n1
  refine zenG Try.func40 Try.ntmps40 fun w hS => ?_
  refine zsr ?_
  refine zla (xbx (cs := [_, _, _, _]) hS) ?_; rintro _ w ⟨g1, rfl, hS⟩
  replace hS := hS.n1
  refine zla (xal (cs := [_, _, _, _]) el_72 hS) ?_; rintro _ w ⟨g2, rfl, hS⟩
  replace hS := hS.n2
  refine zlv xas ?_
  refine zlt <| zsq <| zsr ?_
  refine zlv (xls 0 st_64 hS) ?_
  refine zlc (xc0 cl_43) (c_rvalid28 (p := p) w (h.below hS.below)) ?_; rintro _ w ⟨rfl, hS'⟩
  replace hS := hS.cmp hS'; clear hS'
  refine zlv xnot ?_
  refine zlt ?_
  refine zcif ?_ ?_ <;> intro hc
  ·
   refine zsr ?_
   refine zlv (xany (v := .agg #[.slice none 0 0, .slice none 0 0, .int .i64 0, .int .i64 0])) ?_
   refine zle (xsw 1 st_72 hS) ?_; clear hS; rintro w hS
   replace hS := hS.n2
   refine zlv xas ?_
   refine zlt <| zrt <| ztr <| zfct 1 st_72 hS ⟨_, rfl, ?_⟩
   exact ⟨_, _, So.zero, 1, rfl, .inl ⟨fun ⟨h1, h2⟩ => by
     first
     | exact absurd h1 ‹¬ p.Ok›
     | exact hc (h2 q q0 (by omega))
     | (obtain ⟨k, k0, k1, hk⟩ := ‹∃ k, 0 ≤ k ∧ k < u ∧ ¬ ProperP p (ml k) (mf k)›; exact hk (h2 k k0 k1)), rfl, rfl⟩, slh_nil, slh_nil, ((hS.sub (.cons _ (.cons _ .slnil))).addnil 1 3 (ints So.zero.X)).addnil 1 3 (ints So.zero.Y)⟩
  refine zsk <| ztn <| zsq <| zsr ?_
  refine zlv xas ?_
  refine zlt <| zbk ?_
  have hok : p.Ok := by first | assumption | exact Classical.not_not.1 ‹_›
  have hpd := hok.d; have hpm := hok.m1; have hpm2 := hok.m2
  refine zlp (fun mm M w => ∃ (q : Int), mm = ((u - q).toNat) ∧ (0 ≤ q) ∧ (q ≤ u) ∧ (∀ k, 0 ≤ k → k < q → ProperP p (ml k) (mf k)) ∧ M = [(1, vM), (2, .pointer (some ⟨g1, 0, none⟩)), (4, .pointer (some ⟨g2, 0, none⟩)), (6, .int .i64 q)] ∧ Sat w0 w [.blk g1 [vL, vD, .int .i64 p.stock, .int .i64 p.kerf], .blk g2 [.slice none 0 0, .slice none 0 0, .int .i64 0, .int .i64 0]]) ⟨0, rfl, (by omega), (by omega), ?_, rfl, hS⟩ ?_
  ·
   intro k k0 k1; omega
  clear hS w
  rintro mm M w ⟨q, rfl, q0, q1, hpl, rfl, hS⟩
  refine zsq <| zsr ?_
  refine zs2 ?_
  refine zlv (xln sl_23 hM.row.slh) ?_
  refine zlv xlss ?_
  refine zlt ?_
  refine zcif ?_ ?_ <;> intro hc
  ·
   refine zsk <| ztn <| zsq <| zbk <| zsq ?_
   refine zdst [0, 1] [0, 1] 1000 mx_ hS ?_; clear hS; intro w hS
   refine zdla 0 (fun w hS => (xls 0 st_64 hS)) ?_
   refine zdv 1 (fun _ => xmv) ?_
   refine zdv 2 (fun _ => xmv) ?_
   refine zdv 3 (fun _ => (xix (kk := q) sl_23 hM.row.slh)) ?_
   refine zdla 4 (fun w hS => (xlr (u := (mv q)) pl_22 (hM.row.below hS.below))) ?_
   refine zdc 5 (xc0 cl_46) (c_rproper28 (p := p) w (h.below hS.below) ((hM.p q (by omega) (by omega)).below hS.below)) ?_; rintro _ w ⟨rfl, hS'⟩
   replace hS := hS.cmp hS'; clear hS'
   refine ⟨⟨fun _ => hS, hS⟩, ?_⟩
   refine zdv 6 (fun _ => xnot) ?_
   refine zdd <| ztn ?_
   refine zcif ?_ ?_ <;> intro hc
   ·
    refine zsr ?_
    refine zlv (xany (v := .agg #[.slice none 0 0, .slice none 0 0, .int .i64 0, .int .i64 0])) ?_
    refine zle (xsw 1 st_72 hS) ?_; clear hS; rintro w hS
    replace hS := hS.n2
    refine zlv xas ?_
    refine zlt <| zrt <| zbr <| ztr <| ztr <| zbr <| ztr <| zfct 1 st_72 hS ⟨_, rfl, ?_⟩
    exact ⟨_, _, So.zero, 1, rfl, .inl ⟨fun ⟨h1, h2⟩ => by
      first
      | exact absurd h1 ‹¬ p.Ok›
      | exact hc (h2 q q0 (by omega))
      | (obtain ⟨k, k0, k1, hk⟩ := ‹∃ k, 0 ≤ k ∧ k < u ∧ ¬ ProperP p (ml k) (mf k)›; exact hk (h2 k k0 k1)), rfl, rfl⟩, slh_nil, slh_nil, ((hS.sub (.cons _ (.cons _ .slnil))).addnil 1 3 (ints So.zero.X)).addnil 1 3 (ints So.zero.Y)⟩
   refine zsk <| zbn <| ztn <| zrg ?_
   refine zlv xmv ?_
   refine zlv (xadd (r := q + 1)) ?_
   refine zlv xas ?_
   refine zln <| zlq ⟨q + 1, rfl, (by omega), (by omega), ?_, rfl, hS⟩
   ·
    have hq9 : ProperP p (ml q) (mf q) := by first | assumption | exact Classical.not_not.1 ‹_›
    intro k k0 k1; rcases Int.lt_or_eq_of_le (show k ≤ q by omega) with hk | hk
    · exact hpl k k0 hk
    · rw [hk]; exact hq9
  refine zxt <| ztx <| ztx <| zbh <| ztn <| zsq <| zsr ?_
  refine zlv (xfb 0 fd_64_0) ?_
  have hpr : ∀ k, 0 ≤ k → k < u → ProperP p (ml k) (mf k) := fun k k0 k1 => hpl k k0 (by omega)
  refine zlv (xlb 0 pl_22 hS) ?_
  refine zlv (xln sl_22 h.L.slh) ?_
  refine zs2 ?_
  refine zlb 30 ?_ ?_ <;> intro hc
  ·
   iterate 3 refine zlo ?_
   refine zlv xpt ?_
   refine zlt <| zct <| zsr ?_
   refine zlv (xany (v := .agg #[.slice none 0 0, .slice none 0 0, .int .i64 0, .int .i64 0])) ?_
   refine zle (xsw 1 st_72 hS) ?_; clear hS; rintro w hS
   replace hS := hS.n2
   refine zlv xas ?_
   refine zlt <| zrt <| ztr <| zfct 1 st_72 hS ⟨_, rfl, ?_⟩
   exact ⟨_, _, So.zero, 9, rfl, .inr (.inl ⟨⟨hok, hpr⟩, by omega, rfl, rfl⟩), slh_nil, slh_nil, ((hS.sub (.cons _ (.cons _ .slnil))).addnil 1 3 (ints So.zero.X)).addnil 1 3 (ints So.zero.Y)⟩
  refine zlv xmv ?_
  refine zlv (xln sl_23 hM.row.slh) ?_
  refine zs2 ?_
  refine zlt ?_
  refine zcif ?_ ?_ <;> intro hc
  ·
   refine zsr ?_
   refine zlv (xany (v := .agg #[.slice none 0 0, .slice none 0 0, .int .i64 0, .int .i64 0])) ?_
   refine zle (xsw 1 st_72 hS) ?_; clear hS; rintro w hS
   replace hS := hS.n2
   refine zlv xas ?_
   refine zlt <| zrt <| ztr <| zfct 1 st_72 hS ⟨_, rfl, ?_⟩
   exact ⟨_, _, So.zero, 9, rfl, .inr (.inl ⟨⟨hok, hpr⟩, by omega, rfl, rfl⟩), slh_nil, slh_nil, ((hS.sub (.cons _ (.cons _ .slnil))).addnil 1 3 (ints So.zero.X)).addnil 1 3 (ints So.zero.Y)⟩
  refine zsk <| ztn <| zsq <| zsr ?_
  refine zlv xmv ?_
  refine zlv (xln sl_23 hM.row.slh) ?_
  refine zlv xeql ?_
  refine zlt ?_
  refine zcif ?_ ?_ <;> intro hc
  ·
   refine zsq <| zsr ?_
   refine zlv xas ?_
   refine zlt <| zbk <| zlp (fun mm M w => ∃ (j : Int), mm = ((p.d - j).toNat) ∧ (0 ≤ j) ∧ (j ≤ p.d) ∧ (∀ k, 0 ≤ k → k < j → p.D k ≤ 0) ∧ M = [(1, vM), (2, .pointer (some ⟨g1, 0, none⟩)), (4, .pointer (some ⟨g2, 0, none⟩)), (7, .int .i64 j)] ∧ Sat w0 w [.blk g1 [vL, vD, .int .i64 p.stock, .int .i64 p.kerf], .blk g2 [.slice none 0 0, .slice none 0 0, .int .i64 0, .int .i64 0]]) ⟨0, rfl, (by omega), (by omega), ?_, rfl, hS⟩ ?_
   ·
    intro k k0 k1; omega
   clear hS w
   rintro mm M w ⟨j, rfl, j0, j1, hall, rfl, hS⟩
   refine zsq <| zsr ?_
   refine zlv xmv ?_
   refine zlv (xfb 1 fd_64_1) ?_
   refine zlv (xlb 0 pl_22 hS) ?_
   refine zlv (xln sl_22 h.D.slh) ?_
   refine zlv xlss ?_
   refine zlt ?_
   refine zcif ?_ ?_ <;> intro hc
   ·
    refine zsk <| ztn <| zsq <| zbk <| zsr ?_
    refine zlv (xfb 1 fd_64_1) ?_
    refine zlv (xlb 0 pl_22 hS) ?_
    refine zlv xmv ?_
    refine zlv (xix (kk := j) sl_22 h.D.slh) ?_
    refine zlv (xlr (u := .int .i64 (p.D j)) pl_3 (h.D.below hS.below)) ?_
    have hbv := h.iD j
    refine zlv xgtr ?_
    refine zlt ?_
    refine zcif ?_ ?_ <;> intro hc
    ·
     refine zsr ?_
     refine zlv (xany (v := .agg #[.slice none 0 0, .slice none 0 0, .int .i64 0, .int .i64 0])) ?_
     refine zle (xsw 1 st_72 hS) ?_; clear hS; rintro w hS
     replace hS := hS.n2
     refine zlv xas ?_
     refine zlt <| zrt <| zbr <| ztr <| ztr <| zbr <| ztr <| ztr <| zfct 1 st_72 hS ⟨_, rfl, ?_⟩
     exact ⟨_, _, So.zero, 19, rfl, .inr (.inr (.inl ⟨⟨hok, hpr⟩, by omega, by omega, by omega, by first | (obtain ⟨k, k0, k1, hk⟩ := hex1; exact ⟨k, k0, k1, by omega⟩) | exact ⟨_, ‹0 ≤ j›, ‹j < p.d›, ‹_›⟩ | exact ⟨j, by omega, by omega, by omega⟩, rfl, rfl⟩)), slh_nil, slh_nil, ((hS.sub (.cons _ (.cons _ .slnil))).addnil 1 3 (ints So.zero.X)).addnil 1 3 (ints So.zero.Y)⟩
    refine zsk <| zbn <| ztn <| zrg ?_
    refine zlv xmv ?_
    refine zlv (xadd (r := j + 1)) ?_
    refine zlv xas ?_
    refine zln <| zlq ⟨j + 1, rfl, (by omega), (by omega), ?_, rfl, hS⟩
    ·
     intro k h0' h1'; rcases Int.lt_or_eq_of_le (show k ≤ j by omega) with hk | hk
     · exact hall k h0' hk
     · rw [hk]; omega
   refine zxt <| ztx <| ztx <| zbh <| ztn <| zsr ?_
   refine zlv (xfb 0 fd_64_0) ?_
   refine zlv (xlb 0 pl_22 hS) ?_
   refine zlv (xln sl_22 h.L.slh) ?_
   refine zla (xmk sl_22 el_3 hS) ?_; rintro v1 w ⟨hS, hv1⟩
   replace hS := hS.n3
   refine zlv (xany (v := .agg #[.slice none 0 0, v1, .int .i64 0, .int .i64 1]) (hr := by obtain ⟨_, _, _, _, rfl, _⟩ := hv1; kernel_rfl)) ?_
   refine zle (xsw 1 st_72 hS (hd := (ones_cons rfl (ones_cons hv1.one (ones_cons rfl (ones_cons rfl ones_nil)))))) ?_; clear hS; rintro w hS
   replace hS := hS.n3
   refine zlv xas ?_
   refine zlt <| zrt <| ztr <| zfct 1 st_72 hS ⟨_, rfl, ?_⟩
   exact ⟨_, _, so0 p, 0, rfl, .inr (.inr (.inr (.inl ⟨⟨hok, hpr⟩, by omega, by omega, by omega, (fun k k0 k1 => by first | (have := hax1 k k0 k1; omega) | (have := hall k k0 (by omega); omega)), rfl, rfl⟩))), slh_nil, hv1, (hS.addnil 1 3 (ints fun _ => 0)).pk [3, 2]⟩
  refine zsk <| ztn <| zsr ?_
  refine zlv (xls 0 st_64 hS) ?_
  refine zlv xmv ?_
  refine zlc (xc0 cl_85) (c_program (p := p) w (h.below hS.below) (hM.below hS.below) hok (by omega) (fun k k0 k1 => (hpr k k0 k1).1.eq)) ?_; rintro _ w ⟨pcg91, pAg91, pbg91, pqg91, rfl, hpcg91, hpAg91, hpbg91, hS'⟩
  replace hS : Sat w0 w [.blk g1 [vL, vD, .int .i64 p.stock, .int .i64 p.kerf], .blk g2 [.slice none 0 0, .slice none 0 0, .int .i64 0, .int .i64 0], .own pcg91 1 3 u (ints (fun _ => 1)), .own pAg91 1 22 p.m pqg91, .own pbg91 1 3 p.m (ints p.D), .sem (Frame.rows 3 p.m pqg91 (fun _ => u) (fun i j => mf j i))] := hS.comp hS'; clear hS'
  have hprg91 := fun k (k0 : 0 ≤ k) (k1 : k < p.m) => hS.slhIn 5 rfl k0 k1
  refine zlc (xc0 cl_84) (c_rsolve (p := (⟨u, p.m, p.m, (fun _ => 1), (fun _ => u), (fun i j => mf j i), p.D⟩ : Lp)) w (⟨(hS.rowN 2 rfl), (⟨(hS.rowN 3 rfl), fun k k0 k1 => hS.rowIn 5 rfl k0 k1, fun k k0 k1 => hS.roomIn 5 rfl k0 k1⟩ : MAt _ pAg91 p.m pqg91 (fun _ => u) (fun i j => mf j i)), (hS.rowN 4 rfl)⟩ : LAt _ pcg91 pAg91 pbg91 pqg91 (⟨u, p.m, p.m, (fun _ => 1), (fun _ => u), (fun i j => mf j i), p.D⟩ : Lp))) ?_; rintro _ w ⟨vXs1, vYs1, ss1, es1, rfl, hsos1, hvXs1, hvYs1, hS'⟩
  replace hS : Sat w0 w [.blk g1 [vL, vD, .int .i64 p.stock, .int .i64 p.kerf], .blk g2 [.slice none 0 0, .slice none 0 0, .int .i64 0, .int .i64 0], .own pcg91 1 3 u (ints (fun _ => 1)), .own pAg91 1 22 p.m pqg91, .own pbg91 1 3 p.m (ints p.D), .sem (Frame.rows 3 p.m pqg91 (fun _ => u) (fun i j => mf j i)), .own vXs1 1 3 ss1.n (ints ss1.X), .own vYs1 1 3 ss1.m (ints ss1.Y)] := hS.comp hS'; clear hS'
  refine zs2 ?_
  refine zle (xsw 1 st_72 hS (hd := (ones_cons hvXs1.one (ones_cons hvYs1.one (ones_cons rfl (ones_cons rfl ones_nil)))))) ?_; clear hS; rintro w hS
  replace hS := hS.n8
  refine zlv xas ?_
  refine zlt <| zrt <| zfct 1 st_72 hS ⟨_, rfl, ?_⟩
  exact ⟨_, _, ss1, _, rfl, .inr (.inr (.inr (.inr ⟨⟨hok, hpr⟩, by omega, by omega, by omega, (show lpOf p u mf = ⟨u, p.m, p.m, fun _ => 1, fun _ => u, fun i j => mf j i, p.D⟩ by unfold lpOf; rw [hpd]) ▸ hsos1⟩))), hvXs1, hvYs1, hS.pk [6, 7]⟩

end Go.Proofs.Ytelfplepnodbgaa
