/- The walk of Best, of the reference of layer 39. -/
import Derived.Test.YtmlfpniaknmmfaaGv
import Derived.Test.YtmlfpniaknmmfaaW7
namespace Go.Proofs.Ytmlfpniaknmmfaa
open Go Go.RowKit Go.Proofs.Gw
set_option linter.unusedVariables false

theorem cl_15 : calledT Try.prog 15 = true := by kernel_rfl
theorem cl_29 : calledT Try.prog 29 = true := by kernel_rfl
theorem el_28 : elemT Try.prog 28 = some (.agg #[.int .i64 0, .int .i64 0, .int .i64 0, .int .i64 0], 4, 32) := by kernel_rfl
theorem st_28 : structT Try.prog 28 = some 4 := by kernel_rfl
set_option maxRecDepth 20000 in
theorem c_rBest {vD : Value} {d : Dem} {s : Sht} (w0 : World) (hD : DAt w0 vD d.n d.W d.H d.N) (hs : (-9223372036854775808 ≤ s.w ∧ s.w ≤ 9223372036854775807) ∧ (-9223372036854775808 ≤ s.h ∧ s.h ≤ 9223372036854775807) ∧ (-9223372036854775808 ≤ s.kf ∧ s.kf ≤ 9223372036854775807)) :
    Calls Try.prog 17 [vD, .int .i64 s.w, .int .i64 s.h, .int .i64 s.kf].toArray w0 fun e w => ∃ v, e = .returned v ∧ ∃ a fa fp fb fq e, v = .tuple #[.int .i64 a, .agg #[.int .i64 fa, .int .i64 fp, .int .i64 fb, .int .i64 fq], .int .i64 e] ∧ BestR d s a (fa, fp) (fb, fq) e ∧ Sat w0 w [] := by
  have hn := hD.row.slh.n0
  refine zenG Try.func17 Try.ntmps17 fun w hS => ?_
  refine zsr ?_
  refine zlv xas ?_
  refine zla (xal (cs := [_, _, _, _]) el_28 hS) ?_; rintro _ w ⟨g1, rfl, hS⟩
  replace hS := hS.n1
  refine zlv xas ?_
  refine zlz ?_
  refine zlv (xany (v := .agg #[.int .i64 0, .int .i64 0, .int .i64 0, .int .i64 0])) ?_
  refine zs4 ?_
  refine zlc (xc0 cl_15) (c_rValue (x := ⟨0, 0, 0, 0⟩) (d := d) (s := s) w (hD.below hS.below) hs (by first | ((try dsimp only); omega) | exact crt_i64 (ok_of hcA hcB (hfA.at h0 (by omega)) (hfB.at j0 (by omega))) (by omega) (by omega) (by omega) (by omega))) ?_; rintro _ w ⟨az1, ez1, rfl, hrz1, hS'⟩
  replace hS := hS.cmp hS'; clear hS'
  refine zs5 ?_
  refine zlt <| zsq <| zsr ?_
  refine zs2 ?_
  refine zlt ?_
  refine zcif ?_ ?_ <;> intro hc
  ·
   refine zsr ?_
   refine zlv (xany (v := .agg #[.int .i64 0, .int .i64 0, .int .i64 0, .int .i64 0])) ?_
   refine zs2 ?_
   refine zle (xsw 0 st_28 hS) ?_; clear hS; rintro w hS
   replace hS := hS.n1
   refine zlv xas ?_
   refine zlt <| zrt <| ztr <| zftct 0 st_28 hS ⟨_, rfl, ?_⟩
   rcases hrz1 with ⟨h1, h2, h3⟩ | ⟨h1, h2, h3, h4, h5⟩ | ⟨h1, h2, h3, h4, h5⟩
   · exact ⟨_, _, _, _, _, _, rfl, .inl ⟨fun hh => h1 ⟨hh, ok_plain s⟩, rfl, rfl, rfl, h3⟩, hS.nl⟩
   · exact ⟨_, _, _, _, _, _, rfl, .inr (.inl ⟨h1, h3, rfl, rfl, rfl, h5⟩), hS.nl⟩
   · omega
  refine zsk <| ztn <| zsr ?_
  refine zs2 ?_
  refine zlt <| zsq <| zsr ?_
  refine zlv xas ?_
  refine zlt <| zbk ?_
  have hk : DOk d s := by rcases hrz1 with ⟨h1, h2, h3⟩ | ⟨h1, h2, h3, h4, h5⟩ | ⟨h1, h2, h3, h4, h5⟩; omega; exact h1; exact h1
  have hng : ¬ DGreat d s := by rcases hrz1 with ⟨h1, h2, h3⟩ | ⟨h1, h2, h3, h4, h5⟩ | ⟨h1, h2, h3, h4, h5⟩; omega; omega; exact h3
  have hv1 := hrz1.val hk (ok_plain s) hng
  have b2 := hk.w1
  have b3 := hk.w2
  have b4 := hk.h1
  have b5 := hk.h2
  have b6 := hk.k1
  have b7 := hk.k2
  have b8 := hk.few
  replace hS := hS.addnil 1 3 (ints (fun _ => 0))
  replace hS := hS.n2
  replace hS := hS.addnil 1 3 (ints (fun _ => 0))
  replace hS := hS.n3
  refine zlp (fun mm M w => ∃ (m : Int) (i : Int) (va : Value) (f : Int → Int) (vb : Value) (g : Int → Int), mm = ((d.n - i).toNat) ∧ (0 ≤ i) ∧ (i ≤ d.n) ∧ (0 ≤ m) ∧ (m ≤ i) ∧ (SzInv f m d d.W s.kf i) ∧ (SzInv g m d d.H s.kf i) ∧ (Slh va m) ∧ (Slh vb m) ∧ M = [(0, vD), (1, .int .i64 s.w), (2, .int .i64 s.h), (3, .int .i64 s.kf), (8, .int .i64 0), (9, .pointer (some ⟨g1, 0, none⟩)), (10, .int .i64 0), (11, .int .i64 az1), (13, va), (14, vb), (15, .int .i64 i)] ∧ Sat w0 w [.blk g1 [.int .i64 0, .int .i64 0, .int .i64 0, .int .i64 0], .own va 1 3 m (ints f), .own vb 1 3 m (ints g)]) ⟨0, 0, (.slice none 0 0), (fun _ => 0), (.slice none 0 0), (fun _ => 0), rfl, (by omega), (by omega), (by omega), (by omega), ?_, ?_, ?_, ?_, rfl, hS⟩ ?_
  ·
   exact SzInv.start _ _ _ _
  ·
   exact SzInv.start _ _ _ _
  ·
   exact slh_nil
  ·
   exact slh_nil
  clear hS w
  rintro mm M w ⟨m, i, va, f, vb, g, rfl, h0, h1, hm0, hm1, hw, hv, hva, hvb, rfl, hS⟩
  refine zsq <| zsr ?_
  refine zs2 ?_
  refine zlv (xln sl_22 hD.row.slh) ?_
  refine zlv xlss ?_
  refine zlt ?_
  refine zcif ?_ ?_ <;> intro hc
  ·
   refine zsk <| ztn <| zsq <| zbk <| zsr ?_
   refine zs2 ?_
   refine zlv (xix (kk := 3 * i) sl_22 hD.row.slh) ?_
   refine zlv (xfc (kk := 3 * i + 2) fd_62_2 hD.row.slh) ?_
   refine zlv (xlr (u := .int .i64 (d.N i)) pl_3 (hD.row.below hS.below) (e := (dcells2 d.W d.H d.N (by omega)))) ?_
   have hbv := hD.bn i
   have hei := hk.all i h0 (by omega); unfold Dem.each at hei
   refine zlv xgtr ?_
   refine zlt ?_
   refine zcif ?_ ?_ <;> intro hc
   ·
    refine zdst [0] [0] 1000 mx_ hS ?_; clear hS; intro w hS
    refine zdv 0 (fun _ => xmv) ?_
    refine zdv 1 (fun _ => xmv) ?_
    refine zdv 2 (fun _ => xmv) ?_
    refine zdv 3 (fun _ => (xix (kk := 3 * i) sl_22 hD.row.slh)) ?_
    refine zdv 4 (fun _ => (xfc (kk := 3 * i) fd_62_0 hD.row.slh)) ?_
    refine zdla 5 (fun w hS => (xlr (u := .int .i64 (d.W i)) pl_3 (hD.row.below hS.below) (e := (dcells0 d.W d.H d.N (by omega))))) ?_
    have hbv := hD.bw i
    refine zdv 6 (fun _ => xmv) ?_
    refine zdv 7 (fun _ => (xadd (r := (d.W i) + s.kf))) ?_
    refine zdv 10 (fun _ => xmv) ?_
    refine zdv 11 (fun _ => xmv) ?_
    refine zdv 12 (fun _ => xmv) ?_
    refine zdv 13 (fun _ => (xix (kk := 3 * i) sl_22 hD.row.slh)) ?_
    refine zdv 14 (fun _ => (xfc (kk := 3 * i + 1) fd_62_1 hD.row.slh)) ?_
    refine zdla 15 (fun w hS => (xlr (u := .int .i64 (d.H i)) pl_3 (hD.row.below hS.below) (e := (dcells1 d.W d.H d.N (by omega))))) ?_
    have hbv := hD.bh i
    refine zdv 16 (fun _ => xmv) ?_
    refine zdv 17 (fun _ => (xadd (r := (d.H i) + s.kf))) ?_
    refine zdfk (r := [8, 18]) ((zdn1 ?_ (zdn1 ?_ zdn0)))
    ·
     refine zka (xli (n := 1) (len := 1) (pv := [(0, .int .i64 ((d.W i) + s.kf))]) (cs := [.int .i64 ((d.W i) + s.kf)]) (c := ints (fun _ => (d.W i) + s.kf)) sl_52 el_3 hS) ?_; rintro v1 w ⟨hS, hv1⟩
     replace hS := hS.n4
     refine ⟨⟨fun _ => hS.pk [0], hS.pk [0]⟩, ?_⟩
     refine zdfk (r := [9, 18]) ((zdn1 ?_ (zdn1 ?_ zdn0)))
     ·
      refine zka (xap 1 (r := m + 1) sl_52 el_3 hS (hS.rowN 3 rfl) (cat_snoc _ _ _)) ?_; rintro v2 w ⟨hS, hv2⟩
      replace hS := hS.n4
      refine ⟨⟨fun _ => hS.pk [0], hS.pk [0]⟩, ?_⟩
      refine zda 18 (xli (n := 1) (len := 1) (pv := [(0, .int .i64 ((d.H i) + s.kf))]) (cs := [.int .i64 ((d.H i) + s.kf)]) (c := ints (fun _ => (d.H i) + s.kf)) sl_52 el_3 hS) ?_; rintro v3 w ⟨hS, hv3⟩
      replace hS := hS.n5
      refine ⟨⟨fun _ => hS.pk [0], hS.pk [0]⟩, ?_⟩
      refine zda 19 (xap 2 (r := m + 1) sl_52 el_3 hS (hS.rowN 4 rfl) (cat_snoc _ _ _)) ?_; rintro v4 w ⟨hS, hv4⟩
      replace hS := hS.n5
      refine ⟨⟨fun _ => hS.pk [0], hS.pk [0]⟩, ?_⟩
      refine zdv 20 (fun _ => xas) ?_
      refine zdv 21 (fun _ => xas) ?_
      refine zdd <| zbn <| ztn <| zrg ?_
      refine zlv xmv ?_
      refine zlv (xadd (r := i + 1)) ?_
      refine zlv xas ?_
      refine zln <| zlq ⟨m + 1, i + 1, v2, (snoc f m ((d.W i) + s.kf)), v4, (snoc g m ((d.H i) + s.kf)), rfl, (by omega), (by omega), (by omega), (by omega), ?_, ?_, ?_, ?_, rfl, hS.pk [0, 1, 2]⟩
      ·
       first | exact hw.more hm0 h0 hc | exact hw.stay hc
      ·
       first | exact hv.more hm0 h0 hc | exact hv.stay hc
      ·
       exact hv2
      ·
       exact hv4
     refine zka (xli (n := 1) (len := 1) (pv := [(0, .int .i64 ((d.H i) + s.kf))]) (cs := [.int .i64 ((d.H i) + s.kf)]) (c := ints (fun _ => (d.H i) + s.kf)) sl_52 el_3 hS) ?_; rintro v2 w ⟨hS, hv2⟩
     replace hS := hS.n5
     refine ⟨⟨fun _ => hS.pk [0], hS.pk [0]⟩, ?_⟩
     refine zda 9 (xap 1 (r := m + 1) sl_52 el_3 hS (hS.rowN 3 rfl) (cat_snoc _ _ _)) ?_; rintro v3 w ⟨hS, hv3⟩
     replace hS := hS.n5
     refine ⟨⟨fun _ => hS.pk [0], hS.pk [0]⟩, ?_⟩
     refine zda 19 (xap 2 (r := m + 1) sl_52 el_3 hS (hS.rowN 4 rfl) (cat_snoc _ _ _)) ?_; rintro v4 w ⟨hS, hv4⟩
     replace hS := hS.n5
     refine ⟨⟨fun _ => hS.pk [0], hS.pk [0]⟩, ?_⟩
     refine zdv 20 (fun _ => xas) ?_
     refine zdv 21 (fun _ => xas) ?_
     refine zdd <| zbn <| ztn <| zrg ?_
     refine zlv xmv ?_
     refine zlv (xadd (r := i + 1)) ?_
     refine zlv xas ?_
     refine zln <| zlq ⟨m + 1, i + 1, v3, (snoc f m ((d.W i) + s.kf)), v4, (snoc g m ((d.H i) + s.kf)), rfl, (by omega), (by omega), (by omega), (by omega), ?_, ?_, ?_, ?_, rfl, hS.pk [0, 1, 2]⟩
     ·
      first | exact hw.more hm0 h0 hc | exact hw.stay hc
     ·
      first | exact hv.more hm0 h0 hc | exact hv.stay hc
     ·
      exact hv3
     ·
      exact hv4
    refine zka (xli (n := 1) (len := 1) (pv := [(0, .int .i64 ((d.H i) + s.kf))]) (cs := [.int .i64 ((d.H i) + s.kf)]) (c := ints (fun _ => (d.H i) + s.kf)) sl_52 el_3 hS) ?_; rintro v1 w ⟨hS, hv1⟩
    replace hS := hS.n4
    refine ⟨⟨fun _ => hS.pk [0], hS.pk [0]⟩, ?_⟩
    refine zda 8 (xli (n := 1) (len := 1) (pv := [(0, .int .i64 ((d.W i) + s.kf))]) (cs := [.int .i64 ((d.W i) + s.kf)]) (c := ints (fun _ => (d.W i) + s.kf)) sl_52 el_3 hS) ?_; rintro v2 w ⟨hS, hv2⟩
    replace hS := hS.n5
    refine ⟨⟨fun _ => hS.pk [0], hS.pk [0]⟩, ?_⟩
    refine zda 9 (xap 1 (r := m + 1) sl_52 el_3 hS (hS.rowN 4 rfl) (cat_snoc _ _ _)) ?_; rintro v3 w ⟨hS, hv3⟩
    replace hS := hS.n5
    refine ⟨⟨fun _ => hS.pk [0], hS.pk [0]⟩, ?_⟩
    refine zda 19 (xap 2 (r := m + 1) sl_52 el_3 hS (hS.rowN 3 rfl) (cat_snoc _ _ _)) ?_; rintro v4 w ⟨hS, hv4⟩
    replace hS := hS.n5
    refine ⟨⟨fun _ => hS.pk [0], hS.pk [0]⟩, ?_⟩
    refine zdv 20 (fun _ => xas) ?_
    refine zdv 21 (fun _ => xas) ?_
    refine zdd <| zbn <| ztn <| zrg ?_
    refine zlv xmv ?_
    refine zlv (xadd (r := i + 1)) ?_
    refine zlv xas ?_
    refine zln <| zlq ⟨m + 1, i + 1, v3, (snoc f m ((d.W i) + s.kf)), v4, (snoc g m ((d.H i) + s.kf)), rfl, (by omega), (by omega), (by omega), (by omega), ?_, ?_, ?_, ?_, rfl, hS.pk [0, 1, 2]⟩
    ·
     first | exact hw.more hm0 h0 hc | exact hw.stay hc
    ·
     first | exact hv.more hm0 h0 hc | exact hv.stay hc
    ·
     exact hv3
    ·
     exact hv4
   refine zsk <| zbn <| ztn <| zrg ?_
   refine zlv xmv ?_
   refine zlv (xadd (r := i + 1)) ?_
   refine zlv xas ?_
   refine zln <| zlq ⟨m, i + 1, va, f, vb, g, rfl, (by omega), (by omega), (by omega), (by omega), ?_, ?_, ?_, ?_, rfl, hS⟩
   ·
    first | exact hw.more hm0 h0 hc | exact hw.stay hc
   ·
    first | exact hv.more hm0 h0 hc | exact hv.stay hc
   ·
    exact hva
   ·
    exact hvb
  refine zxt <| ztx <| ztx <| zbh <| ztn <| zsr ?_
  refine zs3 ?_
  refine zlv (xadd (r := s.w + s.kf)) ?_
  refine zlc (xc0 cl_29) (c_rcand (n := m) (c := (s.w + s.kf)) (f := f) w (hS.rowN 1 rfl) (by omega) (by omega) (by omega)) ?_; rintro vrk1 w ⟨_, mk1, Kk1, Ak1, rfl, hslk1, hclk1, hflk1, hmlk1, hS'⟩
  replace hS : Sat w0 w [.blk g1 [.int .i64 0, .int .i64 0, .int .i64 0, .int .i64 0], .own va 1 3 m (ints f), .own vb 1 3 m (ints g), .own vrk1 2 26 mk1 (fcells Kk1 Ak1)] := hS.comp hS'; clear hS'
  obtain rfl : i = d.n := by omega
  have hsA := hw.cand (s.w + s.kf)
  have hcA : CandL (WSet d d.W s.kf (s.w + s.kf)) (LA d s) := by have hq := hclk1; rw [hsA] at hq; exact hq
  have hfA : FL (LA d s) mk1 Kk1 Ak1 := by have hq := hflk1; rw [hsA] at hq; exact hq
  have hlA := hfA.len; have hlA6 := hcA.len.1
  refine zs3 ?_
  refine zlv (xadd (r := s.h + s.kf)) ?_
  refine zlc (xc0 cl_29) (c_rcand (n := m) (c := (s.h + s.kf)) (f := g) w (hS.rowN 2 rfl) (by omega) (by omega) (by omega)) ?_; rintro vrk2 w ⟨_, mk2, Kk2, Ak2, rfl, hslk2, hclk2, hflk2, hmlk2, hS'⟩
  replace hS : Sat w0 w [.blk g1 [.int .i64 0, .int .i64 0, .int .i64 0, .int .i64 0], .own va 1 3 m (ints f), .own vb 1 3 m (ints g), .own vrk1 2 26 mk1 (fcells Kk1 Ak1), .own vrk2 2 26 mk2 (fcells Kk2 Ak2)] := hS.comp hS'; clear hS'
  have hsB : CandR g m (s.h + s.kf) = WSet d d.H s.kf (s.h + s.kf) := hv.cand _
  have hcB : CandL (WSet d d.H s.kf (s.h + s.kf)) (LB d s) := by have hq := hclk2; rw [hsB] at hq; exact hq
  have hfB : FL (LB d s) mk2 Kk2 Ak2 := by have hq := hflk2; rw [hsB] at hq; exact hq
  have hlB := hfB.len; have hlB6 := hcB.len.1
  refine zs2 ?_
  refine zlz ?_
  refine zlv (xany (v := .agg #[.int .i64 0, .int .i64 0, .int .i64 0, .int .i64 0])) ?_
  refine zla (xal (cs := [_, _, _, _]) el_28 hS) ?_; rintro _ w ⟨g2, rfl, hS⟩
  replace hS := hS.n6
  refine zle (xsw 5 st_28 hS) ?_; clear hS; rintro w hS
  replace hS := hS.n6
  refine zlt <| zsq <| zsr ?_
  refine zlv xas ?_
  refine zlt <| zbk <| zlp (fun mm M w => ∃ (best : Int) (fa : Int) (fp : Int) (fb : Int) (fq : Int) (i : Int), mm = ((mk1 - i).toNat) ∧ (0 ≤ i) ∧ (i ≤ mk1) ∧ (Best1 (VV d s) (LA d s) (LB d s) i 0 best (fa, fp) (fb, fq)) ∧ M = [(0, vD), (1, .int .i64 s.w), (2, .int .i64 s.h), (3, .int .i64 s.kf), (8, .int .i64 0), (9, .pointer (some ⟨g1, 0, none⟩)), (10, .int .i64 0), (11, .int .i64 best), (16, vrk1), (17, vrk2), (18, .pointer (some ⟨g2, 0, none⟩)), (19, .int .i64 i)] ∧ Sat w0 w [.blk g1 [.int .i64 0, .int .i64 0, .int .i64 0, .int .i64 0], .own va 1 3 m (ints f), .own vb 1 3 m (ints g), .own vrk1 2 26 mk1 (fcells Kk1 Ak1), .own vrk2 2 26 mk2 (fcells Kk2 Ak2), .blk g2 [.int .i64 fa, .int .i64 fp, .int .i64 fb, .int .i64 fq]]) ⟨az1, 0, 0, 0, 0, 0, rfl, (by omega), (by omega), ?_, rfl, hS⟩ ?_
  ·
   exact .inl ⟨rfl, rfl, .inr ⟨hv1, hcA.len.2, hcB.len.2⟩⟩
  clear hS w
  rintro mm M w ⟨best, fa, fp, fb, fq, i, rfl, h0, h1, hb, rfl, hS⟩
  refine zsq <| zsr ?_
  refine zs2 ?_
  refine zlv (xln sl_78 hslk1) ?_
  refine zlv xlss ?_
  refine zlt ?_
  refine zcif ?_ ?_ <;> intro hc
  ·
   refine zsk <| ztn <| zsq <| zbk <| zsr ?_
   refine zlv xas ?_
   refine zlt <| zbk <| zlp (fun mm M w => ∃ (best : Int) (fa : Int) (fp : Int) (fb : Int) (fq : Int) (j : Int), mm = ((mk2 - j).toNat) ∧ (0 ≤ j) ∧ (j ≤ mk2) ∧ (Best1 (VV d s) (LA d s) (LB d s) i j best (fa, fp) (fb, fq)) ∧ M = [(0, vD), (1, .int .i64 s.w), (2, .int .i64 s.h), (3, .int .i64 s.kf), (8, .int .i64 0), (9, .pointer (some ⟨g1, 0, none⟩)), (10, .int .i64 0), (11, .int .i64 best), (16, vrk1), (17, vrk2), (18, .pointer (some ⟨g2, 0, none⟩)), (19, .int .i64 i), (20, .int .i64 j)] ∧ Sat w0 w [.blk g1 [.int .i64 0, .int .i64 0, .int .i64 0, .int .i64 0], .own va 1 3 m (ints f), .own vb 1 3 m (ints g), .own vrk1 2 26 mk1 (fcells Kk1 Ak1), .own vrk2 2 26 mk2 (fcells Kk2 Ak2), .blk g2 [.int .i64 fa, .int .i64 fp, .int .i64 fb, .int .i64 fq]]) ⟨best, fa, fp, fb, fq, 0, rfl, (by omega), (by omega), ?_, rfl, hS⟩ ?_
   ·
    exact hb
   clear hS w
   rintro mm M w ⟨best, fa, fp, fb, fq, j, rfl, j0, j1, hb, rfl, hS⟩
   refine zsq <| zsr ?_
   refine zs2 ?_
   refine zlv (xln sl_78 hslk2) ?_
   refine zlv xlss ?_
   refine zlt ?_
   refine zcif ?_ ?_ <;> intro hc
   ·
    refine zsk <| ztn <| zsq <| zbk <| zsq ?_
    refine zdst [0, 1, 2, 3, 4, 5] [0, 1, 2, 3, 4, 5] 1000 mx_ hS ?_; clear hS; intro w hS
    refine zdv 0 (fun _ => xmv) ?_
    refine zdv 1 (fun _ => xmv) ?_
    refine zdv 2 (fun _ => (xix (kk := 2 * i) sl_78 hslk1)) ?_
    refine zdla 3 (fun w hS => (xlw (cs := [.int .i64 (Kk1 i), .int .i64 (Ak1 i)]) st_26 (hS.rowN 3 rfl) (fcells_at (k := 2 * i) (i := i) Kk1 Ak1 (by omega)))) ?_
    refine zdv 4 (fun _ => xmv) ?_
    refine zdv 5 (fun _ => xmv) ?_
    refine zdv 6 (fun _ => (xix (kk := 2 * j) sl_78 hslk2)) ?_
    refine zdla 7 (fun w hS => (xlw (cs := [.int .i64 (Kk2 j), .int .i64 (Ak2 j)]) st_26 (hS.rowN 4 rfl) (fcells_at (k := 2 * j) (i := j) Kk2 Ak2 (by omega)))) ?_
    refine zdv 8 (fun _ => (xany (v := .agg #[.int .i64 (Kk1 i), .int .i64 (Ak1 i), .int .i64 (Kk2 j), .int .i64 (Ak2 j)]))) ?_
    refine zdv 9 (fun _ => xmv) ?_
    refine zdv 10 (fun _ => xmv) ?_
    refine zdv 11 (fun _ => xmv) ?_
    refine zdv 12 (fun _ => xmv) ?_
    refine zdc 13 (xc0 cl_15) (c_rValue (x := ⟨(Kk1 i), (Ak1 i), (Kk2 j), (Ak2 j)⟩) (d := d) (s := s) w (hD.below hS.below) hs (by first | ((try dsimp only); omega) | exact crt_i64 (ok_of hcA hcB (hfA.at h0 (by omega)) (hfB.at j0 (by omega))) (by omega) (by omega) (by omega) (by omega))) ?_; rintro _ w ⟨az2, ez2, rfl, hrz2, hS'⟩
    replace hS := hS.cmp hS'; clear hS'
    refine ⟨⟨fun _ => hS, hS⟩, ?_⟩
    refine zdv 14 (fun _ => xmv) ?_
    have hvz := hrz2.val hk (ok_of hcA hcB (hfA.at h0 (by omega)) (hfB.at j0 (by omega))) hng
    refine zdv 15 (fun _ => xex) ?_
    refine zdv 16 (fun _ => xex) ?_
    refine zdv 17 (fun _ => xas) ?_
    refine zdv 18 (fun _ => xas) ?_
    refine zdd <| ztn <| zsr ?_
    refine zs3 ?_
    refine zlt ?_
    refine zcif ?_ ?_ <;> intro hc
    ·
     refine zdst [0, 1, 2, 3, 4, 5] [0, 1, 2, 3, 4] 11 mx_ hS ?_; clear hS; intro w hS
     refine zdv 0 (fun _ => xmv) ?_
     refine zdv 1 (fun _ => xmv) ?_
     refine zdv 2 (fun _ => xmv) ?_
     refine zdv 3 (fun _ => (xix (kk := 2 * i) sl_78 hslk1)) ?_
     refine zdla 4 (fun w hS => (xlw (cs := [.int .i64 (Kk1 i), .int .i64 (Ak1 i)]) st_26 (hS.rowN 3 rfl) (fcells_at (k := 2 * i) (i := i) Kk1 Ak1 (by omega)))) ?_
     refine zdv 5 (fun _ => xmv) ?_
     refine zdv 6 (fun _ => xmv) ?_
     refine zdv 7 (fun _ => (xix (kk := 2 * j) sl_78 hslk2)) ?_
     refine zdla 8 (fun w hS => (xlw (cs := [.int .i64 (Kk2 j), .int .i64 (Ak2 j)]) st_26 (hS.rowN 4 rfl) (fcells_at (k := 2 * j) (i := j) Kk2 Ak2 (by omega)))) ?_
     refine zdv 9 (fun _ => (xany (v := .agg #[.int .i64 (Kk1 i), .int .i64 (Ak1 i), .int .i64 (Kk2 j), .int .i64 (Ak2 j)]))) ?_
     refine zdv 10 (fun _ => xas) ?_
     refine zde 11 (xsw 5 st_28 hS) ?_; clear hS; rintro w hS
     replace hS := hS.n6
     refine ⟨⟨fun h => absurd h (by decide), hS.pk [0, 1, 2, 3, 4]⟩, ?_⟩
     refine zdd <| zbn <| ztn <| zrg ?_
     refine zlv xmv ?_
     refine zlv (xadd (r := j + 1)) ?_
     refine zlv xas ?_
     refine zln <| zlq ⟨az2, (Kk1 i), (Ak1 i), (Kk2 j), (Ak2 j), j + 1, rfl, (by omega), (by omega), ?_, rfl, hS⟩
     ·
      first | exact hb.moreV h0 j0 (hfA.at h0 (by omega)) (hfB.at j0 (by omega)) (hvz) hc | exact hb.stayV h0 j0 (hfA.at h0 (by omega)) (hfB.at j0 (by omega)) (val_nonneg hk (ok_of hcA hcB (hfA.at h0 (by omega)) (hfB.at j0 (by omega))) hn hng) (hvz) hc
    refine zsk <| zbn <| ztn <| zrg ?_
    refine zlv xmv ?_
    refine zlv (xadd (r := j + 1)) ?_
    refine zlv xas ?_
    refine zln <| zlq ⟨best, fa, fp, fb, fq, j + 1, rfl, (by omega), (by omega), ?_, rfl, hS⟩
    ·
     first | exact hb.moreV h0 j0 (hfA.at h0 (by omega)) (hfB.at j0 (by omega)) (hvz) hc | exact hb.stayV h0 j0 (hfA.at h0 (by omega)) (hfB.at j0 (by omega)) (val_nonneg hk (ok_of hcA hcB (hfA.at h0 (by omega)) (hfB.at j0 (by omega))) hn hng) (hvz) hc
   refine zxt <| ztx <| ztx <| zbh <| zbn <| ztn <| zrg ?_
   refine zlv xmv ?_
   refine zlv (xadd (r := i + 1)) ?_
   refine zlv xas ?_
   refine zln <| zlq ⟨best, fa, fp, fb, fq, i + 1, rfl, (by omega), (by omega), ?_, rfl, hS⟩
   ·
    exact hb.rowE (by omega) (by omega)
  refine zxt <| ztx <| ztx <| zbh <| ztn <| zsq ?_
  refine zdst [0, 1, 2, 3, 4, 5] [1, 2, 3, 4, 5] 3 mx_ hS ?_; clear hS; intro w hS
  refine zdv 0 (fun _ => xmv) ?_
  refine zdla 1 (fun w hS => (xls 4 st_28 hS)) ?_
  refine zdv 2 (fun _ => xas) ?_
  refine zde 3 (xsw 0 st_28 hS) ?_; clear hS; rintro w hS
  replace hS := hS.n6
  refine ⟨⟨fun h => absurd h (by decide), hS.pk [1, 2, 3, 4, 5]⟩, ?_⟩
  refine zdv 4 (fun _ => xas) ?_
  refine zdd <| ztn <| zrt <| zftct 0 st_28 hS ⟨_, rfl, ?_⟩
  exact ⟨_, _, _, _, _, _, rfl, .inr (.inr ⟨hk, hng, rfl, hcA, hcB, hb.finE (by omega) (by omega)⟩), hS.nl⟩

end Go.Proofs.Ytmlfpniaknmmfaa
