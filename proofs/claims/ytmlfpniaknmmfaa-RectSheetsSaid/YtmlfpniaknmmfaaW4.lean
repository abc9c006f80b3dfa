/- The walk of Value, of the reference of layer 39. -/
import Derived.Test.YtmlfpniaknmmfaaGv
import Derived.Test.YtmlfpniaknmmfaaW3
namespace Go.Proofs.Ytmlfpniaknmmfaa
open Go Go.RowKit Go.Proofs.Gw
set_option linter.unusedVariables false

theorem cl_22 : calledT Try.prog 22 = true := by kernel_rfl
theorem cl_26 : calledT Try.prog 26 = true := by kernel_rfl
theorem fd_28_0 : fieldT Try.prog 28 0 = some 0 := by kernel_rfl
theorem fd_28_1 : fieldT Try.prog 28 1 = some 2 := by kernel_rfl
set_option maxRecDepth 20000 in
theorem c_rValue {x : Crt} {vD : Value} {d : Dem} {s : Sht} (w0 : World) (hD : DAt w0 vD d.n d.W d.H d.N) (hs : (-9223372036854775808 ≤ s.w ∧ s.w ≤ 9223372036854775807) ∧ (-9223372036854775808 ≤ s.h ∧ s.h ≤ 9223372036854775807) ∧ (-9223372036854775808 ≤ s.kf ∧ s.kf ≤ 9223372036854775807)) (hx : (-9223372036854775808 ≤ x.a ∧ x.a ≤ 9223372036854775807) ∧ (-9223372036854775808 ≤ x.p ∧ x.p ≤ 9223372036854775807) ∧ (-9223372036854775808 ≤ x.b ∧ x.b ≤ 9223372036854775807) ∧ (-9223372036854775808 ≤ x.q ∧ x.q ≤ 9223372036854775807)) :
    Calls Try.prog 15 [.agg #[.int .i64 x.a, .int .i64 x.p, .int .i64 x.b, .int .i64 x.q], vD, .int .i64 s.w, .int .i64 s.h, .int .i64 s.kf].toArray w0 fun e w => ∃ v, e = .returned v ∧ ∃ a e, v = .tuple #[.int .i64 a, .int .i64 e] ∧ ValueR x d s a e ∧ Sat w0 w [] := by
  have hn := hD.row.slh.n0
  refine zenG Try.func15 Try.ntmps15 fun w hS => ?_
  refine zsr ?_
  refine zla (xbx (cs := [_, _, _, _]) hS) ?_; rintro _ w ⟨g1, rfl, hS⟩
  replace hS := hS.n1
  refine zs2 ?_
  refine zlt <| zsq <| zsr ?_
  refine zs4 ?_
  refine zlc (xc0 cl_26) (c_problem (s := s) w (hD.below hS.below) hs) ?_; rintro _ w ⟨rfl, hS'⟩
  replace hS := hS.cmp hS'; clear hS'
  refine zs2 ?_
  refine zlb 29 ?_ ?_ <;> intro hc
  ·
   iterate 7 refine zlo ?_
   refine zs2 ?_
   iterate 7 refine zlo ?_
   refine zlv xpt ?_
   refine zlt <| zct <| zsr ?_
   refine zs2 ?_
   refine zlt <| zrt <| ztr <| zf2 ⟨_, rfl, ?_⟩
   exact ⟨_, _, rfl, .inl ⟨fun hh => by first | exact absurd hh.2.1 ‹_› | exact absurd hh.2.2 ‹_› | exact absurd hh.1 ‹_›, rfl, rfl⟩, hS.nl⟩
  refine zlv (xfb 0 fd_28_0) ?_
  have hk : DOk d s := (Classical.not_not.1 ‹¬ ¬ (DOk d s)›)
  have b2 := hk.w1
  have b3 := hk.w2
  have b4 := hk.h1
  have b5 := hk.h2
  have b6 := hk.k1
  have b7 := hk.k2
  have b8 := hk.few
  refine zlv (xlp 0 (ds := [.int .i64 x.a, .int .i64 x.p]) st_26 hS) ?_
  refine zs2 ?_
  refine zlv (xadd (r := s.w + s.kf)) ?_
  refine zlc (xc0 cl_27) (c_rvalid (kind := x.a) (k := x.p) (c := (s.w + s.kf)) w (by omega) (by omega)) ?_; rintro _ w ⟨rfl, hS'⟩
  replace hS := hS.cmp hS'; clear hS'
  refine zs3 ?_
  refine zlb 38 ?_ ?_ <;> intro hc
  ·
   iterate 7 refine zlo ?_
   refine zlv xpt ?_
   refine zlt <| zct <| zsr ?_
   refine zs2 ?_
   refine zlt <| zrt <| ztr <| zf2 ⟨_, rfl, ?_⟩
   exact ⟨_, _, rfl, .inl ⟨fun hh => by first | exact absurd hh.2.1 ‹_› | exact absurd hh.2.2 ‹_› | exact absurd hh.1 ‹_›, rfl, rfl⟩, hS.nl⟩
  refine zlv (xfb 2 fd_28_1) ?_
  refine zlv (xlp 0 (ds := [.int .i64 x.b, .int .i64 x.q]) st_26 hS) ?_
  refine zs2 ?_
  refine zlv (xadd (r := s.h + s.kf)) ?_
  refine zlc (xc0 cl_27) (c_rvalid (kind := x.b) (k := x.q) (c := (s.h + s.kf)) w (by omega) (by omega)) ?_; rintro _ w ⟨rfl, hS'⟩
  replace hS := hS.cmp hS'; clear hS'
  refine zs2 ?_
  refine zlt ?_
  refine zcif ?_ ?_ <;> intro hc
  ·
   refine zsr ?_
   refine zs2 ?_
   refine zlt <| zrt <| ztr <| zf2 ⟨_, rfl, ?_⟩
   exact ⟨_, _, rfl, .inl ⟨fun hh => by first | exact absurd hh.2.1 ‹_› | exact absurd hh.2.2 ‹_› | exact absurd hh.1 ‹_›, rfl, rfl⟩, hS.nl⟩
  refine zsk <| ztn <| zsr ?_
  refine zlv xas ?_
  refine zlt <| zsq <| zsr ?_
  refine zlv xas ?_
  refine zlt <| zbk ?_
  have hok : x.ok s := ⟨(Classical.not_not.1 ‹¬ ¬ (okF x.a x.p (s.w + s.kf))›), (Classical.not_not.1 ‹¬ ¬ (okF x.b x.q (s.h + s.kf))›)⟩
  refine zlp (fun mm M w => ∃ (t : Int) (i : Int), mm = ((d.n - i).toNat) ∧ (0 ≤ i) ∧ (i ≤ d.n) ∧ (t = x.sum d s i.toNat) ∧ (∀ k, 0 ≤ k → k < i → ¬ d.great s k) ∧ M = [(1, vD), (2, .int .i64 s.w), (3, .int .i64 s.h), (4, .int .i64 s.kf), (5, .pointer (some ⟨g1, 0, none⟩)), (12, .int .i64 t), (13, .int .i64 i)] ∧ Sat w0 w [.blk g1 [.int .i64 x.a, .int .i64 x.p, .int .i64 x.b, .int .i64 x.q]]) ⟨0, 0, rfl, (by omega), (by omega), ?_, ?_, rfl, hS⟩ ?_
  ·
   rfl
  ·
   intro k k0 k1; omega
  clear hS w
  rintro mm M w ⟨t, i, rfl, h0, h1, ht, hg, rfl, hS⟩
  refine zsq <| zsr ?_
  refine zs2 ?_
  refine zlv (xln sl_22 hD.row.slh) ?_
  refine zlv xlss ?_
  refine zlt ?_
  refine zcif ?_ ?_ <;> intro hc
  ·
   refine zsk <| ztn <| zsq <| zbk <| zsr ?_
   refine zs2 ?_
   refine zlv (xix (kk := 3 * i) sl_22 hD.row.slh) ?_
   refine zlv (xlw (cs := [.int .i64 (d.W i), .int .i64 (d.H i), .int .i64 (d.N i)]) st_62 (hD.row.below hS.below) (dcells_at (k := 3 * i) (i := i) d.W d.H d.N (by omega))) ?_
   have hbv := hD.bw i
   have hbv := hD.bh i
   have hbv := hD.bn i
   refine zla (xal (cs := [_, _, _]) el_62 hS) ?_; rintro _ w ⟨g2, rfl, hS⟩
   replace hS := hS.n2
   refine zle (xsw 1 st_62 hS) ?_; clear hS; rintro w hS
   replace hS := hS.n2
   refine zlt <| zsq <| zsr ?_
   refine zlv (xfb 2 fd_62_2) ?_
   refine zlv (xlb 1 pl_3 hS) ?_
   refine zlv xeql ?_
   refine zlt ?_
   refine zcif ?_ ?_ <;> intro hc
   ·
    refine zxt <| ztx <| zbh <| ztn <| zrg ?_
    refine zlv xmv ?_
    refine zlv (xadd (r := i + 1)) ?_
    refine zlv xas ?_
    refine zln <| zlq ⟨t, i + 1, rfl, (by omega), (by omega), ?_, ?_, rfl, hS.pk [0]⟩
    ·
     rw [sum_next x d s h0, ← ht, term_zero hk h0 (by omega) (by omega)]; omega
    ·
     intro k k0 k1; rcases Int.lt_or_eq_of_le (show k ≤ i by omega) with hh | hh; exact hg k k0 hh; rw [hh]; unfold Dem.great; omega
   refine zsk <| ztn <| zsq <| zsr ?_
   refine zlv (xfb 0 fd_62_0) ?_
   have hei := hk.all i h0 (by omega); unfold Dem.each at hei
   refine zlv (xlb 1 pl_3 hS) ?_
   refine zs3 ?_
   refine zlb 64 ?_ ?_ <;> intro hc
   ·
    iterate 4 refine zlo ?_
    refine zlv xpt ?_
    refine zlt <| zct <| zsr ?_
    refine zs2 ?_
    refine zlt <| zrt <| ztr <| zbr <| ztr <| ztr <| zbr <| ztr <| zf2 ⟨_, rfl, ?_⟩
    exact ⟨_, _, rfl, .inr (.inl ⟨hk, hok, ⟨i, h0, by omega, by unfold Dem.great; omega⟩, rfl, rfl⟩), hS.nl⟩
   refine zlv (xfb 1 fd_62_1) ?_
   refine zlv (xlb 1 pl_3 hS) ?_
   refine zs3 ?_
   refine zlt ?_
   refine zcif ?_ ?_ <;> intro hc
   ·
    refine zsr ?_
    refine zs2 ?_
    refine zlt <| zrt <| ztr <| zbr <| ztr <| ztr <| zbr <| ztr <| zf2 ⟨_, rfl, ?_⟩
    exact ⟨_, _, rfl, .inr (.inl ⟨hk, hok, ⟨i, h0, by omega, by unfold Dem.great; omega⟩, rfl, rfl⟩), hS.nl⟩
   refine zsk <| ztn <| zsr ?_
   refine zlv (xfb 0 fd_28_0) ?_
   have hei := hk.all i h0 (by omega); unfold Dem.each at hei; have hgi : ¬ d.great s i := by unfold Dem.great; omega
   have hti := term_bd hk hok h0 (by omega) (by omega) hgi; unfold Crt.term Crt.f Crt.g at hti; have hsb := sum_bd hk hok h0 (by omega : i ≤ d.n) hg
   refine zlv (xlp 0 (ds := [.int .i64 x.a, .int .i64 x.p]) st_26 hS) ?_
   refine zlv (xfb 0 fd_62_0) ?_
   refine zlv (xlb 1 pl_3 hS) ?_
   refine zlv xmv ?_
   refine zlv (xadd (r := (d.W i) + s.kf)) ?_
   refine zs2 ?_
   refine zlv (xadd (r := s.w + s.kf)) ?_
   refine zlc (xc0 cl_22) (c_rapply (kind := x.a) (k := x.p) (x := ((d.W i) + s.kf)) (c := (s.w + s.kf)) w (by omega) (by omega)) ?_; rintro _ w ⟨ap1, ep1, rfl, hrp1, hS'⟩
   replace hS := hS.cmp hS'; clear hS'
   have hvp1 := hrp1.val (by omega) (by omega) hok.1 (by omega) (by omega)
   refine zs5 ?_
   refine zlz ?_
   refine zlv (xfb 2 fd_28_1) ?_
   refine zlv (xlp 0 (ds := [.int .i64 x.b, .int .i64 x.q]) st_26 hS) ?_
   refine zlv (xfb 1 fd_62_1) ?_
   refine zlv (xlb 1 pl_3 hS) ?_
   refine zlv xmv ?_
   refine zlv (xadd (r := (d.H i) + s.kf)) ?_
   refine zs2 ?_
   refine zlv (xadd (r := s.h + s.kf)) ?_
   refine zlc (xc0 cl_22) (c_rapply (kind := x.b) (k := x.q) (x := ((d.H i) + s.kf)) (c := (s.h + s.kf)) w (by omega) (by omega)) ?_; rintro _ w ⟨ap2, ep2, rfl, hrp2, hS'⟩
   replace hS := hS.cmp hS'; clear hS'
   have hvp2 := hrp2.val (by omega) (by omega) hok.2 (by omega) (by omega)
   have hm1 := hti; rw [← hvp1, ← hvp2] at hm1
   refine zs5 ?_
   refine zlt <| zrg ?_
   refine zlv xmv ?_
   refine zlv (xfb 2 fd_62_2) ?_
   refine zlv (xlb 1 pl_3 hS) ?_
   refine zlv xmv ?_
   refine zlv (xmul (r := ((d.N i) * ap1)) (e := rfl) (hr := (by unfold I64; omega))) ?_
   refine zlv xmv ?_
   refine zlv (xmul (r := (((d.N i) * ap1) * ap2)) (e := rfl) (hr := (by unfold I64; omega))) ?_
   refine zlv (xadd (r := t + (((d.N i) * ap1) * ap2)) (hr := (by unfold I64; omega))) ?_
   refine zlv xas ?_
   refine zln <| zbn <| ztn <| zrg ?_
   refine zlv xmv ?_
   refine zlv (xadd (r := i + 1)) ?_
   refine zlv xas ?_
   refine zln <| zlq ⟨t + (((d.N i) * ap1) * ap2), i + 1, rfl, (by omega), (by omega), ?_, ?_, rfl, hS.pk [0]⟩
   ·
    rw [sum_next x d s h0, ← ht, hvp1, hvp2]; rfl
   ·
    intro k k0 k1; rcases Int.lt_or_eq_of_le (show k ≤ i by omega) with hh | hh; exact hg k k0 hh; rw [hh]; unfold Dem.great; omega
  refine zxt <| ztx <| ztx <| zbh <| ztn <| zsr ?_
  refine zlv (xfb 0 fd_28_0) ?_
  have htp := top_bd hk hok; unfold Crt.top Crt.f Crt.g at htp; have hsb := sum_bd hk hok h0 (by omega : i ≤ d.n) hg
  refine zlv (xlp 0 (ds := [.int .i64 x.a, .int .i64 x.p]) st_26 hS) ?_
  refine zs2 ?_
  refine zlv (xadd (r := s.w + s.kf)) ?_
  refine zs2 ?_
  refine zlv (xadd (r := s.w + s.kf)) ?_
  refine zlc (xc0 cl_22) (c_rapply (kind := x.a) (k := x.p) (x := (s.w + s.kf)) (c := (s.w + s.kf)) w (by omega) (by omega)) ?_; rintro _ w ⟨ap3, ep3, rfl, hrp3, hS'⟩
  replace hS := hS.cmp hS'; clear hS'
  have hvp3 := hrp3.val (by omega) (by omega) hok.1 (by omega) (by omega)
  refine zs5 ?_
  refine zlz ?_
  refine zlv (xfb 2 fd_28_1) ?_
  refine zlv (xlp 0 (ds := [.int .i64 x.b, .int .i64 x.q]) st_26 hS) ?_
  refine zs2 ?_
  refine zlv (xadd (r := s.h + s.kf)) ?_
  refine zs2 ?_
  refine zlv (xadd (r := s.h + s.kf)) ?_
  refine zlc (xc0 cl_22) (c_rapply (kind := x.b) (k := x.q) (x := (s.h + s.kf)) (c := (s.h + s.kf)) w (by omega) (by omega)) ?_; rintro _ w ⟨ap4, ep4, rfl, hrp4, hS'⟩
  replace hS := hS.cmp hS'; clear hS'
  have hvp4 := hrp4.val (by omega) (by omega) hok.2 (by omega) (by omega)
  rw [← hvp3, ← hvp4] at htp
  have hqf := quo_facts (a := t + ap3 * ap4 - 1) (b := ap3 * ap4) (by omega) (by omega)
  refine zs5 ?_
  refine zlz ?_
  refine zs3 ?_
  refine zlv (xmul (r := (ap3 * ap4)) (e := rfl) (hr := (by unfold I64; omega))) ?_
  refine zlv (xadd (r := t + (ap3 * ap4))) ?_
  refine zlv (xsub (r := t + (ap3 * ap4) - 1)) ?_
  refine zs2 ?_
  refine zlv (xmul (r := (ap3 * ap4)) (e := rfl) (hr := (by unfold I64; omega))) ?_
  refine zlv (xquo (r := (Int.tdiv (t + (ap3 * ap4) - 1) (ap3 * ap4))) (hn := (by omega)) (hr := (by unfold I64; omega))) ?_
  refine zs2 ?_
  refine zlt <| zrt <| zf2 ⟨_, rfl, ?_⟩
  obtain rfl : i = d.n := by omega
  exact ⟨_, _, rfl, .inr (.inr ⟨hk, hok, fun ⟨k, k0, k1, k2⟩ => hg k k0 k1 k2, by unfold Crt.val; rw [← ht, hvp3, hvp4]; rfl, rfl⟩), hS.nl⟩

end Go.Proofs.Ytmlfpniaknmmfaa
