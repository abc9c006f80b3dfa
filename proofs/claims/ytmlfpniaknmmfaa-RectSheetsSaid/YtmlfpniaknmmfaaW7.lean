/- The walk of Best, of rectbound. -/
import Derived.Test.YtmlfpniaknmmfaaGv
import Derived.Test.YtmlfpniaknmmfaaW6
namespace Go.Proofs.Ytmlfpniaknmmfaa
open Go Go.RowKit Go.Proofs.Gw
set_option linter.unusedVariables false

theorem cl_28 : calledT Try.prog 28 = true := by kernel_rfl
theorem el_3 : elemT Try.prog 3 = some (.int .i64 0, 1, 8) := by kernel_rfl
set_option maxRecDepth 20000 in
theorem c_Best {vD : Value} {d : Dem} {s : Sht} (w0 : World) (hD : DAt w0 vD d.n d.W d.H d.N) (hs : (-9223372036854775808 ≤ s.w ∧ s.w ≤ 9223372036854775807) ∧ (-9223372036854775808 ≤ s.h ∧ s.h ≤ 9223372036854775807) ∧ (-9223372036854775808 ≤ s.kf ∧ s.kf ≤ 9223372036854775807)) :
    Calls Try.prog 16 [vD, .int .i64 s.w, .int .i64 s.h, .int .i64 s.kf].toArray w0 fun e w => ∃ v, e = .returned v ∧ ∃ a fa fp fb fq e, v = .tuple #[.int .i64 a, .agg #[.int .i64 fa, .int .i64 fp, .int .i64 fb, .int .i64 fq], .int .i64 e] ∧ BestR d s a (fa, fp) (fb, fq) e ∧ Sat w0 w [] := by
  have hn := hD.row.slh.n0
  refine zenG Try.func16 Try.ntmps16 fun w hS => ?_
  refine zsr ?_
  refine zlv xas ?_
  refine zla (xal (cs := [_, _, _, _]) el_36 hS) ?_; rintro _ w ⟨g1, rfl, hS⟩
  replace hS := hS.n1
  refine zlv xas ?_
  refine zlt <| zsq <| zsr ?_
  refine zs4 ?_
  refine zlc (xc0 cl_23) (c_check (s := s) w (hD.below hS.below) hs) ?_; rintro _ w ⟨e1, rfl, he1, hS'⟩
  replace hS := hS.cmp hS'; clear hS'
  refine zlv xas ?_
  refine zlz ?_
  refine zs2 ?_
  refine zlt ?_
  refine zcif ?_ ?_ <;> intro hc
  ·
   refine zsr ?_
   refine zlv (xany (v := .agg #[.int .i64 0, .int .i64 0, .int .i64 0, .int .i64 0])) ?_
   refine zs2 ?_
   refine zle (xsw 0 st_36 hS) ?_; clear hS; rintro w hS
   replace hS := hS.n1
   refine zlv xas ?_
   refine zlt <| zrt <| ztr <| zftct 0 st_36 hS ⟨_, rfl, ?_⟩
   rcases he1 with ⟨h1, h2⟩ | ⟨h1, h2, h3⟩ | ⟨h1, h2, h3⟩
   · exact ⟨_, _, _, _, _, _, rfl, .inl ⟨h1, rfl, rfl, rfl, h2⟩, hS.nl⟩
   · exact ⟨_, _, _, _, _, _, rfl, .inr (.inl ⟨h1, h2, rfl, rfl, rfl, h3⟩), hS.nl⟩
   · omega
  refine zsk <| ztn <| zsr ?_
  refine zs2 ?_
  refine zlt <| zsq <| zsr ?_
  refine zlv xmv ?_
  refine zlv (xln sl_38 hD.row.slh) ?_
  refine zlv xmv ?_
  refine zlt <| zbk ?_
  have hk : DOk d s := by rcases he1 with ⟨h1, h2⟩ | ⟨h1, h2, h3⟩ | ⟨h1, h2, h3⟩; omega; exact h1; exact h1
  have hng : ¬ DGreat d s := by rcases he1 with ⟨h1, h2⟩ | ⟨h1, h2, h3⟩ | ⟨h1, h2, h3⟩; omega; omega; exact h2
  have b2 := hk.w1
  have b3 := hk.w2
  have b4 := hk.h1
  have b5 := hk.h2
  have b6 := hk.k1
  have b7 := hk.k2
  have b8 := hk.few
  replace hS := hS.addnil 1 3 (ints (fun _ => 0))
  replace hS := hS.n2
  replace hS := hS.addnil 1 3 (ints (fun _ => 0))
  replace hS := hS.n3
  refine zlp (fun mm M w => ∃ (m : Int) (i : Int) (va : Value) (f : Int → Int) (vb : Value) (g : Int → Int), mm = ((d.n - i).toNat) ∧ (0 ≤ i) ∧ (i ≤ d.n) ∧ (0 ≤ m) ∧ (m ≤ i) ∧ (SzInv f m d d.W s.kf i) ∧ (SzInv g m d d.H s.kf i) ∧ (Slh va m) ∧ (Slh vb m) ∧ M = [(0, vD), (1, .int .i64 s.w), (2, .int .i64 s.h), (3, .int .i64 s.kf), (8, .int .i64 0), (9, .pointer (some ⟨g1, 0, none⟩)), (10, .int .i64 0), (12, va), (13, vb), (33, vD), (34, .int .i64 d.n), (35, .int .i64 i)] ∧ Sat w0 w [.blk g1 [.int .i64 0, .int .i64 0, .int .i64 0, .int .i64 0], .own va 1 3 m (ints f), .own vb 1 3 m (ints g)]) ⟨0, 0, (.slice none 0 0), (fun _ => 0), (.slice none 0 0), (fun _ => 0), rfl, (by omega), (by omega), (by omega), (by omega), ?_, ?_, ?_, ?_, rfl, hS⟩ ?_
  ·
   exact SzInv.start _ _ _ _
  ·
   exact SzInv.start _ _ _ _
  ·
   exact slh_nil
  ·
   exact slh_nil
  clear hS w
  rintro mm M w ⟨m, i, va, f, vb, g, rfl, h0, h1, hm0, hm1, hw, hv, hva, hvb, rfl, hS⟩
  refine zsr ?_
  refine zlv xlss ?_
  refine zlt <| zsq ?_
  refine zcif ?_ ?_ <;> intro hc
  ·
   refine zsk <| ztn <| zsq <| zbk <| zsr ?_
   refine zlv (xix (kk := 3 * i) sl_38 hD.row.slh) ?_
   refine zlv (xlw (cs := [.int .i64 (d.W i), .int .i64 (d.H i), .int .i64 (d.N i)]) st_60 (hD.row.below hS.below) (dcells_at (k := 3 * i) (i := i) d.W d.H d.N (by omega))) ?_
   have hbv := hD.bw i
   have hbv := hD.bh i
   have hbv := hD.bn i
   have hei := hk.all i h0 (by omega); unfold Dem.each at hei
   refine zla (xal (cs := [_, _, _]) el_60 hS) ?_; rintro _ w ⟨g2, rfl, hS⟩
   replace hS := hS.n4
   refine zle (xsw 3 st_60 hS) ?_; clear hS; rintro w hS
   replace hS := hS.n4
   refine zlz ?_
   refine zlv (xfb 2 fd_60_2) ?_
   refine zlv (xlb 3 pl_3 hS) ?_
   refine zlv xgtr ?_
   refine zlt ?_
   refine zcif ?_ ?_ <;> intro hc
   ·
    refine zdst [0, 3] [0, 3] 1000 mx_ hS ?_; clear hS; intro w hS
    refine zdv 0 (fun _ => xmv) ?_
    refine zdv 1 (fun _ => (xfb 0 fd_60_0)) ?_
    refine zdla 2 (fun w hS => (xlb 1 pl_3 hS)) ?_
    refine zdv 3 (fun _ => xmv) ?_
    refine zdv 4 (fun _ => (xadd (r := (d.W i) + s.kf))) ?_
    refine zdv 7 (fun _ => xmv) ?_
    refine zdv 8 (fun _ => (xfb 1 fd_60_1)) ?_
    refine zdla 9 (fun w hS => (xlb 1 pl_3 hS)) ?_
    refine zdv 10 (fun _ => xmv) ?_
    refine zdv 11 (fun _ => (xadd (r := (d.H i) + s.kf))) ?_
    refine zdfk (r := [5, 12]) ((zdn1 ?_ (zdn1 ?_ zdn0)))
    ·
     refine zka (xli (n := 1) (len := 1) (pv := [(0, .int .i64 ((d.W i) + s.kf))]) (cs := [.int .i64 ((d.W i) + s.kf)]) (c := ints (fun _ => (d.W i) + s.kf)) sl_52 el_3 hS) ?_; rintro v1 w ⟨hS, hv1⟩
     replace hS := hS.n5
     refine ⟨⟨fun _ => hS.pk [0, 3], hS.pk [0, 3]⟩, ?_⟩
     refine zdfk (r := [6, 12]) ((zdn1 ?_ (zdn1 ?_ zdn0)))
     ·
      refine zka (xap 1 (r := m + 1) sl_52 el_3 hS (hS.rowN 4 rfl) (cat_snoc _ _ _)) ?_; rintro v2 w ⟨hS, hv2⟩
      replace hS := hS.n5
      refine ⟨⟨fun _ => hS.pk [0, 3], hS.pk [0, 3]⟩, ?_⟩
      refine zda 12 (xli (n := 1) (len := 1) (pv := [(0, .int .i64 ((d.H i) + s.kf))]) (cs := [.int .i64 ((d.H i) + s.kf)]) (c := ints (fun _ => (d.H i) + s.kf)) sl_52 el_3 hS) ?_; rintro v3 w ⟨hS, hv3⟩
      replace hS := hS.n6
      refine ⟨⟨fun _ => hS.pk [0, 3], hS.pk [0, 3]⟩, ?_⟩
      refine zda 13 (xap 2 (r := m + 1) sl_52 el_3 hS (hS.rowN 5 rfl) (cat_snoc _ _ _)) ?_; rintro v4 w ⟨hS, hv4⟩
      replace hS := hS.n6
      refine ⟨⟨fun _ => hS.pk [0, 3], hS.pk [0, 3]⟩, ?_⟩
      refine zdv 14 (fun _ => xas) ?_
      refine zdv 15 (fun _ => xas) ?_
      refine zdd <| zbn <| ztn <| zrg ?_
      refine zlv (xadd (r := i + 1)) ?_
      refine zlv xmv ?_
      refine zln <| zlq ⟨m + 1, i + 1, v2, (snoc f m ((d.W i) + s.kf)), v4, (snoc g m ((d.H i) + s.kf)), rfl, (by omega), (by omega), (by omega), (by omega), ?_, ?_, ?_, ?_, rfl, hS.pk [0, 1, 2]⟩
      ·
       first | exact hw.more hm0 h0 hc | exact hw.stay hc
      ·
       first | exact hv.more hm0 h0 hc | exact hv.stay hc
      ·
       exact hv2
      ·
       exact hv4
     refine zka (xli (n := 1) (len := 1) (pv := [(0, .int .i64 ((d.H i) + s.kf))]) (cs := [.int .i64 ((d.H i) + s.kf)]) (c := ints (fun _ => (d.H i) + s.kf)) sl_52 el_3 hS) ?_; rintro v2 w ⟨hS, hv2⟩
     replace hS := hS.n6
     refine ⟨⟨fun _ => hS.pk [0, 3], hS.pk [0, 3]⟩, ?_⟩
     refine zda 6 (xap 1 (r := m + 1) sl_52 el_3 hS (hS.rowN 4 rfl) (cat_snoc _ _ _)) ?_; rintro v3 w ⟨hS, hv3⟩
     replace hS := hS.n6
     refine ⟨⟨fun _ => hS.pk [0, 3], hS.pk [0, 3]⟩, ?_⟩
     refine zda 13 (xap 2 (r := m + 1) sl_52 el_3 hS (hS.rowN 5 rfl) (cat_snoc _ _ _)) ?_; rintro v4 w ⟨hS, hv4⟩
     replace hS := hS.n6
     refine ⟨⟨fun _ => hS.pk [0, 3], hS.pk [0, 3]⟩, ?_⟩
     refine zdv 14 (fun _ => xas) ?_
     refine zdv 15 (fun _ => xas) ?_
     refine zdd <| zbn <| ztn <| zrg ?_
     refine zlv (xadd (r := i + 1)) ?_
     refine zlv xmv ?_
     refine zln <| zlq ⟨m + 1, i + 1, v3, (snoc f m ((d.W i) + s.kf)), v4, (snoc g m ((d.H i) + s.kf)), rfl, (by omega), (by omega), (by omega), (by omega), ?_, ?_, ?_, ?_, rfl, hS.pk [0, 1, 2]⟩
     ·
      first | exact hw.more hm0 h0 hc | exact hw.stay hc
     ·
      first | exact hv.more hm0 h0 hc | exact hv.stay hc
     ·
      exact hv3
     ·
      exact hv4
    refine zka (xli (n := 1) (len := 1) (pv := [(0, .int .i64 ((d.H i) + s.kf))]) (cs := [.int .i64 ((d.H i) + s.kf)]) (c := ints (fun _ => (d.H i) + s.kf)) sl_52 el_3 hS) ?_; rintro v1 w ⟨hS, hv1⟩
    replace hS := hS.n5
    refine ⟨⟨fun _ => hS.pk [0, 3], hS.pk [0, 3]⟩, ?_⟩
    refine zda 5 (xli (n := 1) (len := 1) (pv := [(0, .int .i64 ((d.W i) + s.kf))]) (cs := [.int .i64 ((d.W i) + s.kf)]) (c := ints (fun _ => (d.W i) + s.kf)) sl_52 el_3 hS) ?_; rintro v2 w ⟨hS, hv2⟩
    replace hS := hS.n6
    refine ⟨⟨fun _ => hS.pk [0, 3], hS.pk [0, 3]⟩, ?_⟩
    refine zda 6 (xap 1 (r := m + 1) sl_52 el_3 hS (hS.rowN 5 rfl) (cat_snoc _ _ _)) ?_; rintro v3 w ⟨hS, hv3⟩
    replace hS := hS.n6
    refine ⟨⟨fun _ => hS.pk [0, 3], hS.pk [0, 3]⟩, ?_⟩
    refine zda 13 (xap 2 (r := m + 1) sl_52 el_3 hS (hS.rowN 4 rfl) (cat_snoc _ _ _)) ?_; rintro v4 w ⟨hS, hv4⟩
    replace hS := hS.n6
    refine ⟨⟨fun _ => hS.pk [0, 3], hS.pk [0, 3]⟩, ?_⟩
    refine zdv 14 (fun _ => xas) ?_
    refine zdv 15 (fun _ => xas) ?_
    refine zdd <| zbn <| ztn <| zrg ?_
    refine zlv (xadd (r := i + 1)) ?_
    refine zlv xmv ?_
    refine zln <| zlq ⟨m + 1, i + 1, v3, (snoc f m ((d.W i) + s.kf)), v4, (snoc g m ((d.H i) + s.kf)), rfl, (by omega), (by omega), (by omega), (by omega), ?_, ?_, ?_, ?_, rfl, hS.pk [0, 1, 2]⟩
    ·
     first | exact hw.more hm0 h0 hc | exact hw.stay hc
    ·
     first | exact hv.more hm0 h0 hc | exact hv.stay hc
    ·
     exact hv3
    ·
     exact hv4
   refine zsk <| zbn <| ztn <| zrg ?_
   refine zlv (xadd (r := i + 1)) ?_
   refine zlv xmv ?_
   refine zln <| zlq ⟨m, i + 1, va, f, vb, g, rfl, (by omega), (by omega), (by omega), (by omega), ?_, ?_, ?_, ?_, rfl, hS.pk [0, 1, 2]⟩
   ·
    first | exact hw.more hm0 h0 hc | exact hw.stay hc
   ·
    first | exact hv.more hm0 h0 hc | exact hv.stay hc
   ·
    exact hva
   ·
    exact hvb
  refine zxt <| ztx <| ztx <| zbh <| ztn <| zsr ?_
  refine zlv (xany (v := .agg #[.int .i64 0, .int .i64 0, .int .i64 0, .int .i64 0])) ?_
  refine zla (xal (cs := [_, _, _, _]) el_36 hS) ?_; rintro _ w ⟨g3, rfl, hS⟩
  replace hS := hS.n4
  refine zlv xas ?_
  refine zle (xsw 3 st_36 hS) ?_; clear hS; rintro w hS
  replace hS := hS.n4
  refine zlt <| zsq <| zsr ?_
  refine zs3 ?_
  refine zlv (xadd (r := s.w + s.kf)) ?_
  have hpk1 := hS.pack (l1 := [.blk g1 [.int .i64 0, .int .i64 0, .int .i64 0, .int .i64 0]]) (l2 := [.own vb 1 3 m (ints g), .blk g3 [.int .i64 0, .int .i64 0, .int .i64 0, .int .i64 0]])
  refine zlc (xc0 cl_28) (c_cand (n := m) (c := (s.w + s.kf)) (f := f) w0 w hpk1.1 hva (by omega) (by omega) (by omega)) ?_; rintro vrk1 w ⟨_, mk1, Kk1, Ak1, gk1, rfl, hslk1, hclk1, hflk1, hmlk1, hkpk1, hS⟩
  replace hS := Sat.unpack (l1 := [.blk g1 [.int .i64 0, .int .i64 0, .int .i64 0, .int .i64 0]]) (l2 := [.own vb 1 3 m (ints g), .blk g3 [.int .i64 0, .int .i64 0, .int .i64 0, .int .i64 0]]) hS hpk1.2
  replace hS := hS.n5
  obtain rfl : i = d.n := by omega
  have hsA := hw.cand (s.w + s.kf)
  have hcA : CandL (WSet d d.W s.kf (s.w + s.kf)) (LA d s) := by have hq := hclk1; rw [hsA] at hq; exact hq
  have hfA : FL (LA d s) mk1 Kk1 Ak1 := by have hq := hflk1; rw [hsA] at hq; exact hq
  have hlA := hfA.len; have hlA6 := hcA.len.1
  refine zlv (xln sl_76 hslk1) ?_
  refine zlv xmv ?_
  refine zlt <| zbk <| zlp (fun mm M w => ∃ (best : Int) (fa : Int) (fp : Int) (fb : Int) (fq : Int) (i : Int) (gh : Int → Int), mm = ((mk1 - i).toNat) ∧ (0 ≤ i) ∧ (i ≤ mk1) ∧ (Kept g gh m) ∧ (1 ≤ i → CandL (WSet d d.H s.kf (s.h + s.kf)) (LB d s)) ∧ (Best1 (VV d s) (LA d s) (LB d s) i 0 best (fa, fp) (fb, fq)) ∧ M = [(0, vD), (1, .int .i64 s.w), (2, .int .i64 s.h), (3, .int .i64 s.kf), (8, .int .i64 0), (9, .pointer (some ⟨g1, 0, none⟩)), (10, .int .i64 0), (13, vb), (16, .int .i64 best), (17, .pointer (some ⟨g3, 0, none⟩)), (62, vrk1), (63, .int .i64 mk1), (64, .int .i64 i)] ∧ Sat w0 w [.blk g1 [.int .i64 0, .int .i64 0, .int .i64 0, .int .i64 0], .own va 1 3 m (ints gk1), .own vb 1 3 m (ints gh), .blk g3 [.int .i64 fa, .int .i64 fp, .int .i64 fb, .int .i64 fq], .own vrk1 2 34 mk1 (fcells Kk1 Ak1)]) ⟨(-1), 0, 0, 0, 0, 0, g, rfl, (by omega), (by omega), ?_, ?_, ?_, rfl, hS⟩ ?_
  ·
   exact Kept.refl _ _
  ·
   intro hh; omega
  ·
   exact .inl ⟨rfl, rfl, .inl rfl⟩
  clear hS w
  rintro mm M w ⟨best, fa, fp, fb, fq, i, gh, rfl, h0, h1, hkp, hcBi, hb, rfl, hS⟩
  refine zsr ?_
  refine zlv xlss ?_
  refine zlt <| zsq ?_
  refine zcif ?_ ?_ <;> intro hc
  ·
   refine zsk <| ztn <| zsq <| zbk <| zsr ?_
   refine zlv (xix (kk := 2 * i) sl_76 hslk1) ?_
   refine zlv (xlw (cs := [.int .i64 (Kk1 i), .int .i64 (Ak1 i)]) st_34 (hS.rowN 4 rfl) (fcells_at (k := 2 * i) (i := i) Kk1 Ak1 (by omega))) ?_
   refine zla (xal (cs := [_, _]) el_34 hS) ?_; rintro _ w ⟨g4, rfl, hS⟩
   replace hS := hS.n6
   refine zle (xsw 5 st_34 hS) ?_; clear hS; rintro w hS
   replace hS := hS.n6
   refine zlz ?_
   refine zs3 ?_
   refine zlv (xadd (r := s.h + s.kf)) ?_
   have hpk2 := hS.pack (l1 := [.blk g1 [.int .i64 0, .int .i64 0, .int .i64 0, .int .i64 0], .own va 1 3 m (ints gk1)]) (l2 := [.blk g3 [.int .i64 fa, .int .i64 fp, .int .i64 fb, .int .i64 fq], .own vrk1 2 34 mk1 (fcells Kk1 Ak1), .blk g4 [.int .i64 (Kk1 i), .int .i64 (Ak1 i)]])
   refine zlc (xc0 cl_28) (c_cand (n := m) (c := (s.h + s.kf)) (f := gh) w0 w hpk2.1 hvb (by omega) (by omega) (by omega)) ?_; rintro vrk2 w ⟨_, mk2, Kk2, Ak2, gk2, rfl, hslk2, hclk2, hflk2, hmlk2, hkpk2, hS⟩
   replace hS := Sat.unpack (l1 := [.blk g1 [.int .i64 0, .int .i64 0, .int .i64 0, .int .i64 0], .own va 1 3 m (ints gk1)]) (l2 := [.blk g3 [.int .i64 fa, .int .i64 fp, .int .i64 fb, .int .i64 fq], .own vrk1 2 34 mk1 (fcells Kk1 Ak1), .blk g4 [.int .i64 (Kk1 i), .int .i64 (Ak1 i)]]) hS hpk2.2
   replace hS := hS.n7
   have hsB : CandR gh m (s.h + s.kf) = WSet d d.H s.kf (s.h + s.kf) := ((hkp.cand _).trans (hv.cand _))
   have hcB : CandL (WSet d d.H s.kf (s.h + s.kf)) (LB d s) := by have hq := hclk2; rw [hsB] at hq; exact hq
   have hfB : FL (LB d s) mk2 Kk2 Ak2 := by have hq := hflk2; rw [hsB] at hq; exact hq
   have hlB := hfB.len; have hlB6 := hcB.len.1
   refine zlv (xln sl_76 hslk2) ?_
   refine zlv xmv ?_
   refine zlt <| zbk <| zlp (fun mm M w => ∃ (best : Int) (fa : Int) (fp : Int) (fb : Int) (fq : Int) (j : Int), mm = ((mk2 - j).toNat) ∧ (0 ≤ j) ∧ (j ≤ mk2) ∧ (Best1 (VV d s) (LA d s) (LB d s) i j best (fa, fp) (fb, fq)) ∧ M = [(0, vD), (1, .int .i64 s.w), (2, .int .i64 s.h), (3, .int .i64 s.kf), (8, .int .i64 0), (9, .pointer (some ⟨g1, 0, none⟩)), (10, .int .i64 0), (13, vb), (16, .int .i64 best), (17, .pointer (some ⟨g3, 0, none⟩)), (19, .pointer (some ⟨g4, 0, none⟩)), (62, vrk1), (63, .int .i64 mk1), (64, .int .i64 i), (72, vrk2), (73, .int .i64 mk2), (74, .int .i64 j)] ∧ Sat w0 w [.blk g1 [.int .i64 0, .int .i64 0, .int .i64 0, .int .i64 0], .own va 1 3 m (ints gk1), .own vb 1 3 m (ints gk2), .blk g3 [.int .i64 fa, .int .i64 fp, .int .i64 fb, .int .i64 fq], .own vrk1 2 34 mk1 (fcells Kk1 Ak1), .blk g4 [.int .i64 (Kk1 i), .int .i64 (Ak1 i)], .own vrk2 2 34 mk2 (fcells Kk2 Ak2)]) ⟨best, fa, fp, fb, fq, 0, rfl, (by omega), (by omega), ?_, rfl, hS⟩ ?_
   ·
    exact hb
   clear hS w
   rintro mm M w ⟨best, fa, fp, fb, fq, j, rfl, j0, j1, hb, rfl, hS⟩
   refine zsr ?_
   refine zlv xlss ?_
   refine zlt <| zsq ?_
   refine zcif ?_ ?_ <;> intro hc
   ·
    refine zsk <| ztn <| zsq <| zbk <| zsr ?_
    refine zlv (xix (kk := 2 * j) sl_76 hslk2) ?_
    refine zlv (xlw (cs := [.int .i64 (Kk2 j), .int .i64 (Ak2 j)]) st_34 (hS.rowN 6 rfl) (fcells_at (k := 2 * j) (i := j) Kk2 Ak2 (by omega))) ?_
    refine zla (xal (cs := [_, _]) el_34 hS) ?_; rintro _ w ⟨g5, rfl, hS⟩
    replace hS := hS.n8
    refine zle (xsw 7 st_34 hS) ?_; clear hS; rintro w hS
    replace hS := hS.n8
    refine zlz ?_
    refine zlv (xls 5 st_34 hS) ?_
    refine zlv (xls 7 st_34 hS) ?_
    refine zlv (xany (v := .agg #[.int .i64 (Kk1 i), .int .i64 (Ak1 i), .int .i64 (Kk2 j), .int .i64 (Ak2 j)])) ?_
    refine zla (xal (cs := [_, _, _, _]) el_36 hS) ?_; rintro _ w ⟨g6, rfl, hS⟩
    replace hS := hS.n9
    refine zle (xsw 8 st_36 hS) ?_; clear hS; rintro w hS
    replace hS := hS.n9
    refine zlz ?_
    refine zlv (xls 8 st_36 hS) ?_
    refine zs4 ?_
    refine zlc (xc0 cl_25) (c_value (x := ⟨(Kk1 i), (Ak1 i), (Kk2 j), (Ak2 j)⟩) (s := s) w (hD.below hS.below) hk (ok_of hcA hcB (hfA.at h0 (by omega)) (hfB.at j0 (by omega))) (fun k a0 a1 hh => hng ⟨k, a0, a1, hh⟩)) ?_; rintro _ w ⟨rfl, hS'⟩
    replace hS := hS.cmp hS'; clear hS'
    refine zlv xas ?_
    refine zlz ?_
    refine zs3 ?_
    refine zlt ?_
    refine zcif ?_ ?_ <;> intro hc
    ·
     refine zdst [0, 1, 2, 3, 4, 5, 6, 7, 8] [0, 1, 2, 4, 5, 6, 7, 8] 3 mx_ hS ?_; clear hS; intro w hS
     refine zdv 0 (fun _ => xmv) ?_
     refine zdla 1 (fun w hS => (xls 7 st_36 hS)) ?_
     refine zdv 2 (fun _ => xas) ?_
     refine zde 3 (xsw 3 st_36 hS) ?_; clear hS; rintro w hS
     replace hS := hS.n9
     refine ⟨⟨fun h => absurd h (by decide), hS.pk [0, 1, 2, 4, 5, 6, 7, 8]⟩, ?_⟩
     refine zdd <| zbn <| ztn <| zrg ?_
     refine zlv (xadd (r := j + 1)) ?_
     refine zlv xmv ?_
     refine zln <| zlq ⟨(Crt.val (⟨(Kk1 i), (Ak1 i), (Kk2 j), (Ak2 j)⟩) d s), (Kk1 i), (Ak1 i), (Kk2 j), (Ak2 j), j + 1, rfl, (by omega), (by omega), ?_, rfl, hS.pk [0, 1, 2, 3, 4, 5, 6]⟩
     ·
      first | exact hb.moreV h0 j0 (hfA.at h0 (by omega)) (hfB.at j0 (by omega)) (rfl) hc | exact hb.stayV h0 j0 (hfA.at h0 (by omega)) (hfB.at j0 (by omega)) (val_nonneg hk (ok_of hcA hcB (hfA.at h0 (by omega)) (hfB.at j0 (by omega))) hn hng) (rfl) hc
    refine zsk <| zbn <| ztn <| zrg ?_
    refine zlv (xadd (r := j + 1)) ?_
    refine zlv xmv ?_
    refine zln <| zlq ⟨best, fa, fp, fb, fq, j + 1, rfl, (by omega), (by omega), ?_, rfl, hS.pk [0, 1, 2, 3, 4, 5, 6]⟩
    ·
     first | exact hb.moreV h0 j0 (hfA.at h0 (by omega)) (hfB.at j0 (by omega)) (rfl) hc | exact hb.stayV h0 j0 (hfA.at h0 (by omega)) (hfB.at j0 (by omega)) (val_nonneg hk (ok_of hcA hcB (hfA.at h0 (by omega)) (hfB.at j0 (by omega))) hn hng) (rfl) hc
   refine zxt <| ztx <| ztx <| zbh <| zbn <| ztn <| zrg ?_
   refine zlv (xadd (r := i + 1)) ?_
   refine zlv xmv ?_
   refine zln <| zlq ⟨best, fa, fp, fb, fq, i + 1, gk2, rfl, (by omega), (by omega), ?_, ?_, ?_, rfl, hS.pk [0, 1, 2, 3, 4]⟩
   ·
    exact hkp.trans hkpk2
   ·
    exact fun _ => hcB
   ·
    exact hb.rowE (by omega) (by omega)
  refine zxt <| ztx <| ztx <| zbh <| ztn <| zsq ?_
  refine zdst [0, 1, 2, 3, 4] [1, 2, 3, 4] 3 mx_ hS ?_; clear hS; intro w hS
  refine zdv 0 (fun _ => xmv) ?_
  refine zdla 1 (fun w hS => (xls 2 st_36 hS)) ?_
  refine zdv 2 (fun _ => xas) ?_
  refine zde 3 (xsw 0 st_36 hS) ?_; clear hS; rintro w hS
  replace hS := hS.n5
  refine ⟨⟨fun h => absurd h (by decide), hS.pk [1, 2, 3, 4]⟩, ?_⟩
  refine zdv 4 (fun _ => xas) ?_
  refine zdd <| ztn <| zrt <| zftct 0 st_36 hS ⟨_, rfl, ?_⟩
  exact ⟨_, _, _, _, _, _, rfl, .inr (.inr ⟨hk, hng, rfl, hcA, hcBi (by omega), hb.finE (by omega) (by omega)⟩), hS.nl⟩

end Go.Proofs.Ytmlfpniaknmmfaa
