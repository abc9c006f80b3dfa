/- The walks of the values of certificates, of rectbound. -/
import Derived.Test.YtmlfpniaknmmfaaGv
import Derived.Test.YtmlfpniaknmmfaaW2
namespace Go.Proofs.Ytmlfpniaknmmfaa
open Go Go.RowKit Go.Proofs.Gw
set_option linter.unusedVariables false

theorem cl_23 : calledT Try.prog 23 = true := by kernel_rfl
theorem cl_25 : calledT Try.prog 25 = true := by kernel_rfl
theorem el_60 : elemT Try.prog 60 = some (.agg #[.int .i64 0, .int .i64 0, .int .i64 0], 3, 24) := by kernel_rfl
theorem el_62 : elemT Try.prog 62 = some (.agg #[.int .i64 0, .int .i64 0, .int .i64 0], 3, 24) := by kernel_rfl
theorem fd_36_0 : fieldT Try.prog 36 0 = some 0 := by kernel_rfl
theorem fd_36_1 : fieldT Try.prog 36 1 = some 2 := by kernel_rfl
theorem fd_62_0 : fieldT Try.prog 62 0 = some 0 := by kernel_rfl
theorem fd_62_1 : fieldT Try.prog 62 1 = some 1 := by kernel_rfl
theorem fd_62_2 : fieldT Try.prog 62 2 = some 2 := by kernel_rfl
theorem mx_ : Try.prog.follows .mixedOrders = true := by kernel_rfl
theorem sl_22 : sliceT Try.prog 22 = some (62, 3) := by kernel_rfl
theorem st_36 : structT Try.prog 36 = some 4 := by kernel_rfl
theorem st_62 : structT Try.prog 62 = some 3 := by kernel_rfl
set_option maxRecDepth 20000 in
theorem c_value {x : Crt} {vD : Value} {d : Dem} {s : Sht} (w0 : World) (hD : DAt w0 vD d.n d.W d.H d.N) (hk : DOk d s) (hok : x.ok s) (hg : ∀ k, 0 ≤ k → k < d.n → ¬ d.great s k) :
    Calls Try.prog 25 [.agg #[.int .i64 x.a, .int .i64 x.p, .int .i64 x.b, .int .i64 x.q], vD, .int .i64 s.w, .int .i64 s.h, .int .i64 s.kf].toArray w0 fun e w => ∃ v, e = .returned v ∧ v = .int .i64 (x.val d s) ∧ Sat w0 w [] := by
  have hn := hD.row.slh.n0
  have b2 := hk.w1
  have b3 := hk.w2
  have b4 := hk.h1
  have b5 := hk.h2
  have b6 := hk.k1
  have b7 := hk.k2
  have b8 := hk.few
  have hkd1 : 0 ≤ x.a ∧ x.a ≤ 2 := by have := hok.1; unfold okF at this; omega
  have hkd2 : 0 ≤ x.b ∧ x.b ≤ 2 := by have := hok.2; unfold okF at this; omega
  refine zenG Try.func25 Try.ntmps25 fun w hS => ?_
  refine zsr ?_
  refine zla (xbx (cs := [_, _, _, _]) hS) ?_; rintro _ w ⟨g1, rfl, hS⟩
  replace hS := hS.n1
  refine zlv xas ?_
  refine zlt <| zsq ?_
  refine zdst [0] [0] 1000 mx_ hS ?_; clear hS; intro w hS
  refine zdv 0 (fun _ => (xfb 0 fd_36_0)) ?_
  refine zdla 1 (fun w hS => (xlp 0 (ds := [.int .i64 x.a, .int .i64 x.p]) st_34 hS)) ?_
  refine zdv 3 (fun _ => (xfb 2 fd_36_1)) ?_
  refine zdla 4 (fun w hS => (xlp 0 (ds := [.int .i64 x.b, .int .i64 x.q]) st_34 hS)) ?_
  refine zdc 2 (xc0 cl_33) (c_dual (kind := x.a) (k := x.p) w (by omega) (by omega)) ?_; rintro _ w ⟨td1, ud1, rfl, ⟨⟨fvd1, hmvd1, hcvd1⟩, ⟨fad1, hmad1, hcad1⟩⟩, hS'⟩
  replace hS := hS.cmp hS'; clear hS'
  refine ⟨⟨fun _ => hS, hS⟩, ?_⟩
  refine zdc 5 (xc0 cl_33) (c_dual (kind := x.b) (k := x.q) w (by omega) (by omega)) ?_; rintro _ w ⟨td2, ud2, rfl, ⟨⟨fvd2, hmvd2, hcvd2⟩, ⟨fad2, hmad2, hcad2⟩⟩, hS'⟩
  replace hS := hS.cmp hS'; clear hS'
  refine ⟨⟨fun _ => hS, hS⟩, ?_⟩
  refine zdv 6 (fun _ => xas) ?_
  refine zdv 7 (fun _ => xas) ?_
  refine zdd <| ztn <| zsr ?_
  refine zlv xas ?_
  refine zlt <| zsq <| zsr ?_
  refine zlv xmv ?_
  refine zlv (xln sl_38 hD.row.slh) ?_
  refine zlv xmv ?_
  refine zlt <| zbk <| zlp (fun mm M w => ∃ (t : Int) (i : Int), mm = ((d.n - i).toNat) ∧ (0 ≤ i) ∧ (i ≤ d.n) ∧ (t = x.sum d s i.toNat) ∧ M = [(2, .int .i64 s.w), (3, .int .i64 s.h), (4, .int .i64 s.kf), (10, .int .i64 0), (11, .iface td1 ud1), (12, .iface td2 ud2), (13, .int .i64 t), (23, vD), (24, .int .i64 d.n), (25, .int .i64 i)] ∧ Sat w0 w [.blk g1 [.int .i64 x.a, .int .i64 x.p, .int .i64 x.b, .int .i64 x.q]]) ⟨0, 0, rfl, (by omega), (by omega), ?_, rfl, hS⟩ ?_
  ·
   rfl
  clear hS w
  rintro mm M w ⟨t, i, rfl, h0, h1, ht, rfl, hS⟩
  refine zsr ?_
  refine zlv xlss ?_
  refine zlt <| zsq ?_
  refine zcif ?_ ?_ <;> intro hc
  ·
   refine zsk <| ztn <| zsq <| zbk <| zsr ?_
   refine zlv (xix (kk := 3 * i) sl_38 hD.row.slh) ?_
   refine zlv (xlw (cs := [.int .i64 (d.W i), .int .i64 (d.H i), .int .i64 (d.N i)]) st_60 (hD.row.below hS.below) (dcells_at (k := 3 * i) (i := i) d.W d.H d.N (by omega))) ?_
   have hbv := hD.bw i
   have hbv := hD.bh i
   have hbv := hD.bn i
   refine zla (xal (cs := [_, _, _]) el_60 hS) ?_; rintro _ w ⟨g2, rfl, hS⟩
   replace hS := hS.n2
   refine zle (xsw 1 st_60 hS) ?_; clear hS; rintro w hS
   replace hS := hS.n2
   refine zlz ?_
   refine zlv (xfb 2 fd_60_2) ?_
   refine zlv (xlb 1 pl_3 hS) ?_
   have hsb := sum_bd hk hok h0 (by omega : i ≤ d.n) (fun k a0 a1 => hg k a0 (by omega))
   refine zlv xgtr ?_
   refine zlt ?_
   refine zcif ?_ ?_ <;> intro hc
   ·
    refine zdst [0, 1] [0, 1] 1000 mx_ hS ?_; clear hS; intro w hS
    refine zdv 0 (fun _ => xmv) ?_
    have hei := hk.all i h0 (by omega); unfold Dem.each at hei; have hti := term_bd hk hok h0 (by omega) (by omega) (hg i h0 (by omega)); have hfi := fits_of hk h0 (by omega : i < d.n) (by omega) (hg i h0 (by omega)); unfold Crt.term Crt.f Crt.g at hti
    refine zdv 1 (fun _ => (xfb 2 fd_60_2)) ?_
    refine zdla 2 (fun w hS => (xlb 1 pl_3 hS)) ?_
    refine zdv 3 (fun _ => xmv) ?_
    refine zdv 4 (fun _ => (xfb 0 fd_60_0)) ?_
    refine zdla 5 (fun w hS => (xlb 1 pl_3 hS)) ?_
    refine zdv 6 (fun _ => xmv) ?_
    refine zdv 7 (fun _ => (xadd (r := (d.W i) + s.kf))) ?_
    refine zdv 8 (fun _ => xmv) ?_
    refine zdv 9 (fun _ => xmv) ?_
    refine zdv 10 (fun _ => (xadd (r := s.w + s.kf))) ?_
    refine zdv 13 (fun _ => xmv) ?_
    refine zdv 14 (fun _ => (xfb 1 fd_60_1)) ?_
    refine zdla 15 (fun w hS => (xlb 1 pl_3 hS)) ?_
    refine zdv 16 (fun _ => xmv) ?_
    refine zdv 17 (fun _ => (xadd (r := (d.H i) + s.kf))) ?_
    refine zdv 18 (fun _ => xmv) ?_
    refine zdv 19 (fun _ => xmv) ?_
    refine zdv 20 (fun _ => (xadd (r := s.h + s.kf))) ?_
    refine zdc 11 (xiv hmad1) (hcad1 ((d.W i) + s.kf) (s.w + s.kf) w hok.1 (by omega) (by omega) (by omega) (by omega)) ?_; rintro _ w ⟨rfl, hS'⟩
    replace hS := hS.cmp hS'; clear hS'
    refine ⟨⟨fun _ => hS, hS⟩, ?_⟩
    refine zdv 12 (fun _ => (xmul (r := ((d.N i) * (dfv x.a x.p ((d.W i) + s.kf) (s.w + s.kf)))) (e := rfl) (hr := (by unfold I64; omega)))) ?_
    refine zdc 21 (xiv hmad2) (hcad2 ((d.H i) + s.kf) (s.h + s.kf) w hok.2 (by omega) (by omega) (by omega) (by omega)) ?_; rintro _ w ⟨rfl, hS'⟩
    replace hS := hS.cmp hS'; clear hS'
    refine ⟨⟨fun _ => hS, hS⟩, ?_⟩
    refine zdv 22 (fun _ => (xmul (r := (((d.N i) * (dfv x.a x.p ((d.W i) + s.kf) (s.w + s.kf))) * (dfv x.b x.q ((d.H i) + s.kf) (s.h + s.kf)))) (e := rfl) (hr := (by unfold I64; omega)))) ?_
    refine zdv 23 (fun _ => (xadd (r := t + (((d.N i) * (dfv x.a x.p ((d.W i) + s.kf) (s.w + s.kf))) * (dfv x.b x.q ((d.H i) + s.kf) (s.h + s.kf)))) (hr := (by unfold I64; omega)))) ?_
    refine zdv 24 (fun _ => xas) ?_
    refine zdd <| zbn <| ztn <| zrg ?_
    refine zlv (xadd (r := i + 1)) ?_
    refine zlv xmv ?_
    refine zln <| zlq ⟨t + (((d.N i) * (dfv x.a x.p ((d.W i) + s.kf) (s.w + s.kf))) * (dfv x.b x.q ((d.H i) + s.kf) (s.h + s.kf))), i + 1, rfl, (by omega), (by omega), ?_, rfl, hS.pk [0]⟩
    ·
     rw [sum_next x d s h0, ← ht]; first | rfl | (rw [term_zero hk h0 (by omega) (by omega)]; omega)
   refine zsk <| zbn <| ztn <| zrg ?_
   refine zlv (xadd (r := i + 1)) ?_
   refine zlv xmv ?_
   refine zln <| zlq ⟨t, i + 1, rfl, (by omega), (by omega), ?_, rfl, hS.pk [0]⟩
   ·
    rw [sum_next x d s h0, ← ht]; first | rfl | (rw [term_zero hk h0 (by omega) (by omega)]; omega)
  refine zxt <| ztx <| ztx <| zbh <| ztn <| zsr ?_
  refine zlv xmv ?_
  have htp := top_bd hk hok; unfold Crt.top Crt.f Crt.g at htp
  have hsb := sum_bd hk hok h0 (by omega : i ≤ d.n) (fun k a0 a1 => hg k a0 (by omega)); have hqf := quo_facts (a := t + dfv x.a x.p (s.w + s.kf) (s.w + s.kf) * dfv x.b x.q (s.h + s.kf) (s.h + s.kf) - 1) (b := dfv x.a x.p (s.w + s.kf) (s.w + s.kf) * dfv x.b x.q (s.h + s.kf) (s.h + s.kf)) (by omega) (by omega)
  refine zs2 ?_
  refine zlv (xadd (r := s.w + s.kf)) ?_
  refine zs2 ?_
  refine zlv (xadd (r := s.w + s.kf)) ?_
  refine zlc (xiv hmad1) (hcad1 (s.w + s.kf) (s.w + s.kf) w hok.1 (by omega) (by omega) (by omega) (by omega)) ?_; rintro _ w ⟨rfl, hS'⟩
  replace hS := hS.cmp hS'; clear hS'
  refine zs3 ?_
  refine zlv (xadd (r := s.h + s.kf)) ?_
  refine zs2 ?_
  refine zlv (xadd (r := s.h + s.kf)) ?_
  refine zlc (xiv hmad2) (hcad2 (s.h + s.kf) (s.h + s.kf) w hok.2 (by omega) (by omega) (by omega) (by omega)) ?_; rintro _ w ⟨rfl, hS'⟩
  replace hS := hS.cmp hS'; clear hS'
  refine zlv (xmul (r := ((dfv x.a x.p (s.w + s.kf) (s.w + s.kf)) * (dfv x.b x.q (s.h + s.kf) (s.h + s.kf)))) (e := rfl) (hr := (by unfold I64; omega))) ?_
  refine zlv xas ?_
  refine zlz ?_
  refine zs2 ?_
  refine zlv (xadd (r := t + ((dfv x.a x.p (s.w + s.kf) (s.w + s.kf)) * (dfv x.b x.q (s.h + s.kf) (s.h + s.kf))))) ?_
  refine zlv (xsub (r := t + ((dfv x.a x.p (s.w + s.kf) (s.w + s.kf)) * (dfv x.b x.q (s.h + s.kf) (s.h + s.kf))) - 1)) ?_
  refine zlv xmv ?_
  refine zlv (xquo (r := (Int.tdiv (t + ((dfv x.a x.p (s.w + s.kf) (s.w + s.kf)) * (dfv x.b x.q (s.h + s.kf) (s.h + s.kf))) - 1) ((dfv x.a x.p (s.w + s.kf) (s.w + s.kf)) * (dfv x.b x.q (s.h + s.kf) (s.h + s.kf))))) (hn := (by omega)) (hr := (by unfold I64; omega))) ?_
  refine zlv xas ?_
  refine zlt <| zrt <| zf1 ⟨_, rfl, ?_⟩
  obtain rfl : i = d.n := by omega
  exact ⟨congrArg (Value.int .i64) (by unfold Crt.val; rw [← ht]; rfl), hS.nl⟩

set_option maxRecDepth 20000 in
theorem c_Value {x : Crt} {vD : Value} {d : Dem} {s : Sht} (w0 : World) (hD : DAt w0 vD d.n d.W d.H d.N) (hs : (-9223372036854775808 ≤ s.w ∧ s.w ≤ 9223372036854775807) ∧ (-9223372036854775808 ≤ s.h ∧ s.h ≤ 9223372036854775807) ∧ (-9223372036854775808 ≤ s.kf ∧ s.kf ≤ 9223372036854775807)) (hx : (-9223372036854775808 ≤ x.a ∧ x.a ≤ 9223372036854775807) ∧ (-9223372036854775808 ≤ x.p ∧ x.p ≤ 9223372036854775807) ∧ (-9223372036854775808 ≤ x.b ∧ x.b ≤ 9223372036854775807) ∧ (-9223372036854775808 ≤ x.q ∧ x.q ≤ 9223372036854775807)) :
    Calls Try.prog 12 [.agg #[.int .i64 x.a, .int .i64 x.p, .int .i64 x.b, .int .i64 x.q], vD, .int .i64 s.w, .int .i64 s.h, .int .i64 s.kf].toArray w0 fun e w => ∃ v, e = .returned v ∧ ∃ a e, v = .tuple #[.int .i64 a, .int .i64 e] ∧ ValueR x d s a e ∧ Sat w0 w [] := by
  have hn := hD.row.slh.n0
  refine zenG Try.func12 Try.ntmps12 fun w hS => ?_
  refine zsr ?_
  refine zla (xbx (cs := [_, _, _, _]) hS) ?_; rintro _ w ⟨g1, rfl, hS⟩
  replace hS := hS.n1
  refine zs2 ?_
  refine zlz ?_
  refine zs4 ?_
  refine zlc (xc0 cl_23) (c_check (s := s) w (hD.below hS.below) hs) ?_; rintro _ w ⟨e1, rfl, he1, hS'⟩
  replace hS := hS.cmp hS'; clear hS'
  refine zlv xas ?_
  refine zlt <| zsq <| zsr ?_
  refine zs3 ?_
  refine zlb 20 ?_ ?_ <;> intro hc
  ·
   iterate 7 refine zlo ?_
   refine zs2 ?_
   iterate 7 refine zlo ?_
   refine zlv xpt ?_
   refine zlt <| zct <| zsr ?_
   refine zs2 ?_
   refine zlt <| zrt <| ztr <| zf2 ⟨_, rfl, ?_⟩
   exact ⟨_, _, rfl, .inl ⟨fun hh => by first | exact absurd hh.2.1 ‹_› | exact absurd hh.2.2 ‹_› | (rcases he1 with ⟨h1, h2⟩ | ⟨h1, h2, h3⟩ | ⟨h1, h2, h3⟩; exact h1 hh.1; omega; omega), rfl, rfl⟩, hS.nl⟩
  refine zlv (xfb 0 fd_36_0) ?_
  have hk : DOk d s := by rcases he1 with ⟨h1, h2⟩ | ⟨h1, h2, h3⟩ | ⟨h1, h2, h3⟩; omega; exact h1; exact h1
  have b2 := hk.w1
  have b3 := hk.w2
  have b4 := hk.h1
  have b5 := hk.h2
  have b6 := hk.k1
  have b7 := hk.k2
  have b8 := hk.few
  refine zlv (xlp 0 (ds := [.int .i64 x.a, .int .i64 x.p]) st_34 hS) ?_
  refine zs2 ?_
  refine zlv (xadd (r := s.w + s.kf)) ?_
  refine zlc (xc0 cl_24) (c_fvalid (kind := x.a) (k := x.p) (c := (s.w + s.kf)) w (by omega) (by omega)) ?_; rintro _ w ⟨rfl, hS'⟩
  replace hS := hS.cmp hS'; clear hS'
  refine zs3 ?_
  refine zlb 29 ?_ ?_ <;> intro hc
  ·
   iterate 7 refine zlo ?_
   refine zlv xpt ?_
   refine zlt <| zct <| zsr ?_
   refine zs2 ?_
   refine zlt <| zrt <| ztr <| zf2 ⟨_, rfl, ?_⟩
   exact ⟨_, _, rfl, .inl ⟨fun hh => by first | exact absurd hh.2.1 ‹_› | exact absurd hh.2.2 ‹_› | (rcases he1 with ⟨h1, h2⟩ | ⟨h1, h2, h3⟩ | ⟨h1, h2, h3⟩; exact h1 hh.1; omega; omega), rfl, rfl⟩, hS.nl⟩
  refine zlv (xfb 2 fd_36_1) ?_
  refine zlv (xlp 0 (ds := [.int .i64 x.b, .int .i64 x.q]) st_34 hS) ?_
  refine zs2 ?_
  refine zlv (xadd (r := s.h + s.kf)) ?_
  refine zlc (xc0 cl_24) (c_fvalid (kind := x.b) (k := x.q) (c := (s.h + s.kf)) w (by omega) (by omega)) ?_; rintro _ w ⟨rfl, hS'⟩
  replace hS := hS.cmp hS'; clear hS'
  refine zs2 ?_
  refine zlt ?_
  refine zcif ?_ ?_ <;> intro hc
  ·
   refine zsr ?_
   refine zs2 ?_
   refine zlt <| zrt <| ztr <| zf2 ⟨_, rfl, ?_⟩
   exact ⟨_, _, rfl, .inl ⟨fun hh => by first | exact absurd hh.2.1 ‹_› | exact absurd hh.2.2 ‹_› | (rcases he1 with ⟨h1, h2⟩ | ⟨h1, h2, h3⟩ | ⟨h1, h2, h3⟩; exact h1 hh.1; omega; omega), rfl, rfl⟩, hS.nl⟩
  refine zsk <| ztn <| zsq <| zsr ?_
  refine zs2 ?_
  refine zlt ?_
  refine zcif ?_ ?_ <;> intro hc
  ·
   refine zsr ?_
   refine zs3 ?_
   refine zlt <| zrt <| ztr <| zf2 ⟨_, rfl, ?_⟩
   rcases he1 with ⟨h1, h2⟩ | ⟨h1, h2, h3⟩ | ⟨h1, h2, h3⟩
   · omega
   · exact ⟨_, _, rfl, .inr (.inl ⟨hk, ⟨(Classical.not_not.1 ‹¬ ¬ (okF x.a x.p (s.w + s.kf))›), (Classical.not_not.1 ‹¬ ¬ (okF x.b x.q (s.h + s.kf))›)⟩, h2, rfl, h3⟩), hS.nl⟩
   · omega
  refine zsk <| ztn <| zsr ?_
  refine zlv (xls 0 st_36 hS) ?_
  have hok : x.ok s := ⟨(Classical.not_not.1 ‹¬ ¬ (okF x.a x.p (s.w + s.kf))›), (Classical.not_not.1 ‹¬ ¬ (okF x.b x.q (s.h + s.kf))›)⟩
  have hng : ¬ DGreat d s := by rcases he1 with ⟨h1, h2⟩ | ⟨h1, h2, h3⟩ | ⟨h1, h2, h3⟩; omega; omega; exact h2
  refine zs4 ?_
  refine zlc (xc0 cl_25) (c_value (x := x) (s := s) w (hD.below hS.below) hk hok (fun k a0 a1 hh => hng ⟨k, a0, a1, hh⟩)) ?_; rintro _ w ⟨rfl, hS'⟩
  replace hS := hS.cmp hS'; clear hS'
  refine zs2 ?_
  refine zlt <| zrt <| zf2 ⟨_, rfl, ?_⟩
  exact ⟨_, _, rfl, .inr (.inr ⟨hk, hok, hng, rfl, rfl⟩), hS.nl⟩

set_option maxRecDepth 20000 in
theorem c_problem {vD : Value} {d : Dem} {s : Sht} (w0 : World) (hD : DAt w0 vD d.n d.W d.H d.N) (hs : (-9223372036854775808 ≤ s.w ∧ s.w ≤ 9223372036854775807) ∧ (-9223372036854775808 ≤ s.h ∧ s.h ≤ 9223372036854775807) ∧ (-9223372036854775808 ≤ s.kf ∧ s.kf ≤ 9223372036854775807)) :
    Calls Try.prog 26 [vD, .int .i64 s.w, .int .i64 s.h, .int .i64 s.kf].toArray w0 fun e w => ∃ v, e = .returned v ∧ v = B (DOk d s) ∧ Sat w0 w [] := by
  have hn := hD.row.slh.n0; have hn1 := hD.row.slh.n1
  refine zenG Try.func26 Try.ntmps26 fun w hS => ?_
  refine zsr ?_
  refine zlv xas ?_
  refine zlt <| zsq <| zsr ?_
  refine zlv xas ?_
  refine zlt <| zbk <| zlp (fun mm M w => ∃ (i : Int), mm = ((d.n - i).toNat) ∧ (0 ≤ i) ∧ (i ≤ d.n) ∧ (∀ k, 0 ≤ k → k < i → d.each k) ∧ M = [(0, vD), (1, .int .i64 s.w), (2, .int .i64 s.h), (3, .int .i64 s.kf), (9, .int .i64 i)] ∧ Sat w0 w []) ⟨0, rfl, (by omega), (by omega), ?_, rfl, hS⟩ ?_
  ·
   intro k h0 h1; omega
  clear hS w
  rintro mm M w ⟨i, rfl, h0, h1, hall, rfl, hS⟩
  refine zsq <| zsr ?_
  refine zs2 ?_
  refine zlv (xln sl_22 hD.row.slh) ?_
  refine zlv xlss ?_
  refine zlt ?_
  refine zcif ?_ ?_ <;> intro hc
  ·
   refine zsk <| ztn <| zsq <| zbk <| zsr ?_
   refine zs2 ?_
   refine zlv (xix (kk := 3 * i) sl_22 hD.row.slh) ?_
   refine zlv (xlw (cs := [.int .i64 (d.W i), .int .i64 (d.H i), .int .i64 (d.N i)]) st_62 (hD.row.below hS.below) (dcells_at (k := 3 * i) (i := i) d.W d.H d.N (by omega))) ?_
   have hbv := hD.bw i
   have hbv := hD.bh i
   have hbv := hD.bn i
   refine zla (xal (cs := [_, _, _]) el_62 hS) ?_; rintro _ w ⟨g1, rfl, hS⟩
   replace hS := hS.n1
   refine zle (xsw 0 st_62 hS) ?_; clear hS; rintro w hS
   replace hS := hS.n1
   refine zlz ?_
   refine zlv (xfb 0 fd_62_0) ?_
   refine zlv (xlb 0 pl_3 hS) ?_
   refine zs2 ?_
   refine zlb 24 ?_ ?_ <;> intro hc
   ·
    iterate 3 refine zlo ?_
    refine zs2 ?_
    iterate 3 refine zlo ?_
    refine zs2 ?_
    iterate 3 refine zlo ?_
    refine zs2 ?_
    iterate 3 refine zlo ?_
    refine zs2 ?_
    iterate 3 refine zlo ?_
    refine zlv xpt ?_
    refine zlt <| zct <| zsr ?_
    refine zlv xas ?_
    refine zlt <| zrt <| zbr <| ztr <| ztr <| zbr <| ztr <| zf1 ⟨_, rfl, ?_⟩
    exact ⟨false_B (by intro hk; have b1 := hk.few; have b2 := hk.w1; have b3 := hk.w2; have b4 := hk.h1; have b5 := hk.h2; have b6 := hk.k1; have b7 := hk.k2; first | omega | (have b9 := hk.all i (by omega) (by omega); unfold Dem.each at b9; omega)), hS.nl⟩
   refine zlv (xfb 0 fd_62_0) ?_
   refine zlv (xlb 0 pl_3 hS) ?_
   refine zs3 ?_
   refine zlb 29 ?_ ?_ <;> intro hc
   ·
    iterate 3 refine zlo ?_
    refine zs2 ?_
    iterate 3 refine zlo ?_
    refine zs2 ?_
    iterate 3 refine zlo ?_
    refine zs2 ?_
    iterate 3 refine zlo ?_
    refine zlv xpt ?_
    refine zlt <| zct <| zsr ?_
    refine zlv xas ?_
    refine zlt <| zrt <| zbr <| ztr <| ztr <| zbr <| ztr <| zf1 ⟨_, rfl, ?_⟩
    exact ⟨false_B (by intro hk; have b1 := hk.few; have b2 := hk.w1; have b3 := hk.w2; have b4 := hk.h1; have b5 := hk.h2; have b6 := hk.k1; have b7 := hk.k2; first | omega | (have b9 := hk.all i (by omega) (by omega); unfold Dem.each at b9; omega)), hS.nl⟩
   refine zlv (xfb 1 fd_62_1) ?_
   refine zlv (xlb 0 pl_3 hS) ?_
   refine zs3 ?_
   refine zlb 34 ?_ ?_ <;> intro hc
   ·
    iterate 3 refine zlo ?_
    refine zs2 ?_
    iterate 3 refine zlo ?_
    refine zs2 ?_
    iterate 3 refine zlo ?_
    refine zlv xpt ?_
    refine zlt <| zct <| zsr ?_
    refine zlv xas ?_
    refine zlt <| zrt <| zbr <| ztr <| ztr <| zbr <| ztr <| zf1 ⟨_, rfl, ?_⟩
    exact ⟨false_B (by intro hk; have b1 := hk.few; have b2 := hk.w1; have b3 := hk.w2; have b4 := hk.h1; have b5 := hk.h2; have b6 := hk.k1; have b7 := hk.k2; first | omega | (have b9 := hk.all i (by omega) (by omega); unfold Dem.each at b9; omega)), hS.nl⟩
   refine zlv (xfb 1 fd_62_1) ?_
   refine zlv (xlb 0 pl_3 hS) ?_
   refine zs3 ?_
   refine zlb 39 ?_ ?_ <;> intro hc
   ·
    iterate 3 refine zlo ?_
    refine zs2 ?_
    iterate 3 refine zlo ?_
    refine zlv xpt ?_
    refine zlt <| zct <| zsr ?_
    refine zlv xas ?_
    refine zlt <| zrt <| zbr <| ztr <| ztr <| zbr <| ztr <| zf1 ⟨_, rfl, ?_⟩
    exact ⟨false_B (by intro hk; have b1 := hk.few; have b2 := hk.w1; have b3 := hk.w2; have b4 := hk.h1; have b5 := hk.h2; have b6 := hk.k1; have b7 := hk.k2; first | omega | (have b9 := hk.all i (by omega) (by omega); unfold Dem.each at b9; omega)), hS.nl⟩
   refine zlv (xfb 2 fd_62_2) ?_
   refine zlv (xlb 0 pl_3 hS) ?_
   refine zs3 ?_
   refine zlb 44 ?_ ?_ <;> intro hc
   ·
    iterate 3 refine zlo ?_
    refine zlv xpt ?_
    refine zlt <| zct <| zsr ?_
    refine zlv xas ?_
    refine zlt <| zrt <| zbr <| ztr <| ztr <| zbr <| ztr <| zf1 ⟨_, rfl, ?_⟩
    exact ⟨false_B (by intro hk; have b1 := hk.few; have b2 := hk.w1; have b3 := hk.w2; have b4 := hk.h1; have b5 := hk.h2; have b6 := hk.k1; have b7 := hk.k2; first | omega | (have b9 := hk.all i (by omega) (by omega); unfold Dem.each at b9; omega)), hS.nl⟩
   refine zlv (xfb 2 fd_62_2) ?_
   refine zlv (xlb 0 pl_3 hS) ?_
   refine zs2 ?_
   refine zlt ?_
   refine zcif ?_ ?_ <;> intro hc
   ·
    refine zsr ?_
    refine zlv xas ?_
    refine zlt <| zrt <| zbr <| ztr <| ztr <| zbr <| ztr <| zf1 ⟨_, rfl, ?_⟩
    exact ⟨false_B (by intro hk; have b1 := hk.few; have b2 := hk.w1; have b3 := hk.w2; have b4 := hk.h1; have b5 := hk.h2; have b6 := hk.k1; have b7 := hk.k2; first | omega | (have b9 := hk.all i (by omega) (by omega); unfold Dem.each at b9; omega)), hS.nl⟩
   refine zsk <| zbn <| ztn <| zrg ?_
   refine zlv xmv ?_
   refine zlv (xadd (r := i + 1)) ?_
   refine zlv xas ?_
   refine zln <| zlq ⟨i + 1, rfl, (by omega), (by omega), ?_, rfl, hS.nl⟩
   ·
    intro k h0' h1'; rcases Int.lt_or_eq_of_le (show k ≤ i by omega) with hk | hk; exact hall k h0' hk; rw [hk]; unfold Dem.each; omega
  refine zxt <| ztx <| ztx <| zbh <| ztn <| zsr ?_
  refine zlv xmv ?_
  refine zlv (xln sl_22 hD.row.slh) ?_
  refine zs2 ?_
  refine zlb 52 ?_ ?_ <;> intro hc
  ·
   refine zs4 ?_
   refine zlb 56 ?_ ?_ <;> intro hc
   ·
    refine zs4 ?_
    refine zlb 60 ?_ ?_ <;> intro hc
    ·
     refine zs4 ?_
     refine zlb 64 ?_ ?_ <;> intro hc
     ·
      refine zs4 ?_
      refine zlb 68 ?_ ?_ <;> intro hc
      ·
       refine zs4 ?_
       refine zlb 72 ?_ ?_ <;> intro hc
       ·
        refine zs4 ?_
        refine zlt <| zrt <| zf1 ⟨_, rfl, ?_⟩
        exact ⟨B_congr (by exact ⟨fun hh => ⟨by omega, by omega, by omega, by omega, by omega, by omega, by omega, fun k k0 k1 => hall k k0 (by omega)⟩, fun hk => by have b1 := hk.few; have b2 := hk.w1; have b3 := hk.w2; have b4 := hk.h1; have b5 := hk.h2; have b6 := hk.k1; have b7 := hk.k2; omega⟩), hS⟩
       iterate 2 refine zlo ?_
       refine zs2 ?_
       refine zlt <| zrt <| zf1 ⟨_, rfl, ?_⟩
       exact ⟨false_B (by intro hk; have b1 := hk.few; have b2 := hk.w1; have b3 := hk.w2; have b4 := hk.h1; have b5 := hk.h2; have b6 := hk.k1; have b7 := hk.k2; first | omega | (have b9 := hk.all i (by omega) (by omega); unfold Dem.each at b9; omega)), hS⟩
      iterate 2 refine zlo ?_
      refine zs2 ?_
      iterate 2 refine zlo ?_
      refine zs2 ?_
      refine zlt <| zrt <| zf1 ⟨_, rfl, ?_⟩
      exact ⟨false_B (by intro hk; have b1 := hk.few; have b2 := hk.w1; have b3 := hk.w2; have b4 := hk.h1; have b5 := hk.h2; have b6 := hk.k1; have b7 := hk.k2; first | omega | (have b9 := hk.all i (by omega) (by omega); unfold Dem.each at b9; omega)), hS⟩
     iterate 2 refine zlo ?_
     refine zs2 ?_
     iterate 2 refine zlo ?_
     refine zs2 ?_
     iterate 2 refine zlo ?_
     refine zs2 ?_
     refine zlt <| zrt <| zf1 ⟨_, rfl, ?_⟩
     exact ⟨false_B (by intro hk; have b1 := hk.few; have b2 := hk.w1; have b3 := hk.w2; have b4 := hk.h1; have b5 := hk.h2; have b6 := hk.k1; have b7 := hk.k2; first | omega | (have b9 := hk.all i (by omega) (by omega); unfold Dem.each at b9; omega)), hS⟩
    iterate 2 refine zlo ?_
    refine zs2 ?_
    iterate 2 refine zlo ?_
    refine zs2 ?_
    iterate 2 refine zlo ?_
    refine zs2 ?_
    iterate 2 refine zlo ?_
    refine zs2 ?_
    refine zlt <| zrt <| zf1 ⟨_, rfl, ?_⟩
    exact ⟨false_B (by intro hk; have b1 := hk.few; have b2 := hk.w1; have b3 := hk.w2; have b4 := hk.h1; have b5 := hk.h2; have b6 := hk.k1; have b7 := hk.k2; first | omega | (have b9 := hk.all i (by omega) (by omega); unfold Dem.each at b9; omega)), hS⟩
   iterate 2 refine zlo ?_
   refine zs2 ?_
   iterate 2 refine zlo ?_
   refine zs2 ?_
   iterate 2 refine zlo ?_
   refine zs2 ?_
   iterate 2 refine zlo ?_
   refine zs2 ?_
   iterate 2 refine zlo ?_
   refine zs2 ?_
   refine zlt <| zrt <| zf1 ⟨_, rfl, ?_⟩
   exact ⟨false_B (by intro hk; have b1 := hk.few; have b2 := hk.w1; have b3 := hk.w2; have b4 := hk.h1; have b5 := hk.h2; have b6 := hk.k1; have b7 := hk.k2; first | omega | (have b9 := hk.all i (by omega) (by omega); unfold Dem.each at b9; omega)), hS⟩
  iterate 2 refine zlo ?_
  refine zs2 ?_
  iterate 2 refine zlo ?_
  refine zs2 ?_
  iterate 2 refine zlo ?_
  refine zs2 ?_
  iterate 2 refine zlo ?_
  refine zs2 ?_
  iterate 2 refine zlo ?_
  refine zs2 ?_
  iterate 2 refine zlo ?_
  refine zs2 ?_
  refine zlt <| zrt <| zf1 ⟨_, rfl, ?_⟩
  exact ⟨false_B (by intro hk; have b1 := hk.few; have b2 := hk.w1; have b3 := hk.w2; have b4 := hk.h1; have b5 := hk.h2; have b6 := hk.k1; have b7 := hk.k2; first | omega | (have b9 := hk.all i (by omega) (by omega); unfold Dem.each at b9; omega)), hS⟩

end Go.Proofs.Ytmlfpniaknmmfaa
