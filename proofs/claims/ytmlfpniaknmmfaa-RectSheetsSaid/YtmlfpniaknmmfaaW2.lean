/- The walks of check, of rectbound. -/
import Derived.Test.YtmlfpniaknmmfaaGv
import Derived.Test.YtmlfpniaknmmfaaW1
import Derived.Test.YtmlfpniaknmmfaaFv
namespace Go.Proofs.Ytmlfpniaknmmfaa
open Go Go.RowKit Go.Proofs.Gw
set_option linter.unusedVariables false

theorem cl_34 : calledT Try.prog 34 = true := by kernel_rfl
theorem cl_35 : calledT Try.prog 35 = true := by kernel_rfl
theorem cl_36 : calledT Try.prog 36 = true := by kernel_rfl
theorem cl_43 : calledT Try.prog 43 = true := by kernel_rfl
theorem fd_60_0 : fieldT Try.prog 60 0 = some 0 := by kernel_rfl
theorem fd_60_1 : fieldT Try.prog 60 1 = some 1 := by kernel_rfl
theorem fd_60_2 : fieldT Try.prog 60 2 = some 2 := by kernel_rfl
theorem sl_38 : sliceT Try.prog 38 = some (60, 3) := by kernel_rfl
theorem st_60 : structT Try.prog 60 = some 3 := by kernel_rfl
theorem c_wrong {d : Dem} {i : Int} (w0 : World) :
    Calls Try.prog 34 [.agg #[.int .i64 (d.W i), .int .i64 (d.H i), .int .i64 (d.N i)]].toArray w0 fun e w => ∃ v, e = .returned v ∧ v = B (¬ d.each i) ∧ Sat w0 w [] := by
  refine zenG Try.func34 Try.ntmps34 fun w hS => ?_
  refine zsr ?_
  refine zla (xbx (cs := [_, _, _]) hS) ?_; rintro _ w ⟨g1, rfl, hS⟩
  replace hS := hS.n1
  refine zlv xas ?_
  refine zlz ?_
  refine zlv (xfb 0 fd_60_0) ?_
  refine zlv (xlb 0 pl_3 hS) ?_
  refine zlc (xc0 cl_32) (c_in w) ?_; rintro _ w ⟨rfl, hS'⟩
  replace hS := hS.cmp hS'; clear hS'
  refine zs2 ?_
  refine zlb 7 ?_ ?_ <;> intro hc
  ·
   iterate 4 refine zlo ?_
   refine zs2 ?_
   iterate 4 refine zlo ?_
   refine zs2 ?_
   refine zlt <| zrt <| zf1 ⟨_, rfl, ?_⟩
   exact ⟨true_B (by unfold Dem.each; omega), hS.nl⟩
  refine zlv (xfb 1 fd_60_1) ?_
  refine zlv (xlb 0 pl_3 hS) ?_
  refine zlc (xc0 cl_32) (c_in w) ?_; rintro _ w ⟨rfl, hS'⟩
  replace hS := hS.cmp hS'; clear hS'
  refine zs3 ?_
  refine zlb 13 ?_ ?_ <;> intro hc
  ·
   iterate 4 refine zlo ?_
   refine zs2 ?_
   refine zlt <| zrt <| zf1 ⟨_, rfl, ?_⟩
   exact ⟨true_B (by unfold Dem.each; omega), hS.nl⟩
  refine zlv (xfb 2 fd_60_2) ?_
  refine zlv (xlb 0 pl_3 hS) ?_
  refine zlc (xc0 cl_32) (c_in w) ?_; rintro _ w ⟨rfl, hS'⟩
  replace hS := hS.cmp hS'; clear hS'
  refine zs3 ?_
  refine zlt <| zrt <| zf1 ⟨_, rfl, ?_⟩
  exact ⟨B_congr (by unfold Dem.each; omega), hS.nl⟩

theorem c_great {d : Dem} {i : Int} {s : Sht} {a1 a2 : Addr} (w0 : World) (hp1 : w0.cell? a1 = some (.int .i64 s.w)) (hp2 : w0.cell? a2 = some (.int .i64 s.h)) :
    Calls Try.prog 35 [.agg #[.int .i64 (d.W i), .int .i64 (d.H i), .int .i64 (d.N i)], .pointer (some a1), .pointer (some a2)].toArray w0 fun e w => ∃ v, e = .returned v ∧ v = B (d.great s i) ∧ Sat w0 w [] := by
  refine zenG Try.func35 Try.ntmps35 fun w hS => ?_
  refine zsr ?_
  refine zla (xbx (cs := [_, _, _]) hS) ?_; rintro _ w ⟨g1, rfl, hS⟩
  replace hS := hS.n1
  refine zlv xas ?_
  refine zlz ?_
  refine zlv (xfb 2 fd_60_2) ?_
  refine zlv (xlb 0 pl_3 hS) ?_
  refine zs2 ?_
  refine zlb 8 ?_ ?_ <;> intro hc
  ·
   refine zlv (xfb 0 fd_60_0) ?_
   refine zlv (xlb 0 pl_3 hS) ?_
   refine zlv (xlf pl_3 hp1 hS) ?_
   refine zs2 ?_
   refine zlb 13 ?_ ?_ <;> intro hc
   ·
    iterate 4 refine zlo ?_
    refine zs3 ?_
    refine zlt <| zrt <| zf1 ⟨_, rfl, ?_⟩
    exact ⟨true_B (by unfold Dem.great; omega), hS.nl⟩
   refine zlv (xfb 1 fd_60_1) ?_
   refine zlv (xlb 0 pl_3 hS) ?_
   refine zlv (xlf pl_3 hp2 hS) ?_
   refine zs4 ?_
   refine zlt <| zrt <| zf1 ⟨_, rfl, ?_⟩
   exact ⟨B_congr (by unfold Dem.great; omega), hS.nl⟩
  iterate 10 refine zlo ?_
  refine zs2 ?_
  refine zlt <| zrt <| zf1 ⟨_, rfl, ?_⟩
  exact ⟨false_B (by unfold Dem.great; omega), hS.nl⟩

theorem c_index1 {vD : Value} {d : Dem} (w0 : World) (hD : DAt w0 vD d.n d.W d.H d.N) :
    Calls Try.prog 43 [vD, .func (.func 34) #[] #[]].toArray w0 fun e w => ∃ v, e = .returned v ∧ ∃ r : Int, v = .int .i64 r ∧ ((r = -1 ∧ ∀ k, 0 ≤ k → k < d.n → ¬ (¬ d.each k)) ∨ (0 ≤ r ∧ r < d.n ∧ (¬ d.each r))) ∧ Sat w0 w [] := by
  have hn := hD.row.slh.n0; have hn1 := hD.row.slh.n1
  refine zenG Try.func43 Try.ntmps43 fun w hS => ?_
  refine zsr ?_
  refine zlv xas ?_
  refine zlt <| zsq <| zsr ?_
  refine zlv xmv ?_
  refine zlv (xln sl_38 hD.row.slh) ?_
  refine zlv xmv ?_
  refine zlt <| zbk <| zlp (fun mm M w => ∃ (i : Int), mm = ((d.n - i).toNat) ∧ (0 ≤ i) ∧ (i ≤ d.n) ∧ (∀ k, 0 ≤ k → k < i → ¬ (¬ d.each k)) ∧ M = [(0, vD), (1, .func (.func 34) #[] #[]), (7, .int .i64 d.n), (8, .int .i64 i)] ∧ Sat w0 w []) ⟨0, rfl, (by omega), (by omega), ?_, rfl, hS⟩ ?_
  ·
   intro k h0 h1; omega
  clear hS w
  rintro mm M w ⟨i, rfl, h0, h1, hall, rfl, hS⟩
  refine zsr ?_
  refine zlv xlss ?_
  refine zlt <| zsq ?_
  refine zcif ?_ ?_ <;> intro hc
  ·
   refine zsk <| ztn <| zsq <| zbk <| zsr ?_
   refine zs2 ?_
   refine zlz ?_
   refine zs3 ?_
   refine zlv (xix (kk := 3 * i) sl_38 hD.row.slh) ?_
   refine zlv (xlw (cs := [.int .i64 (d.W i), .int .i64 (d.H i), .int .i64 (d.N i)]) st_60 (hD.row.below hS.below) (dcells_at (k := 3 * i) (i := i) d.W d.H d.N (by omega))) ?_
   have hbv := hD.bw i
   have hbv := hD.bh i
   have hbv := hD.bn i
   refine zlc (xc0 cl_34) (c_wrong (d := d) (i := i) w) ?_; rintro _ w ⟨rfl, hS'⟩
   replace hS := hS.cmp hS'; clear hS'
   refine zlt ?_
   refine zcif ?_ ?_ <;> intro hc
   ·
    refine zsr ?_
    refine zs2 ?_
    refine zlt <| zrt <| zbr <| ztr <| ztr <| zbr <| ztr <| zf1 ⟨_, rfl, ?_⟩
    exact ⟨i, rfl, .inr ⟨by omega, by omega, ‹¬ d.each i›⟩, hS⟩
   refine zsk <| zbn <| ztn <| zrg ?_
   refine zlv (xadd (r := i + 1)) ?_
   refine zlv xmv ?_
   refine zln <| zlq ⟨i + 1, rfl, (by omega), (by omega), ?_, rfl, hS⟩
   ·
    intro k h0' h1'; rcases Int.lt_or_eq_of_le (show k ≤ i by omega) with hk | hk; exact hall k h0' hk; rw [hk]; assumption
  refine zxt <| ztx <| ztx <| zbh <| ztn <| zsr ?_
  refine zlv xas ?_
  refine zlt <| zrt <| zf1 ⟨_, rfl, ?_⟩
  exact ⟨-1, rfl, .inl ⟨rfl, fun k h0 h1 => hall k h0 (by omega)⟩, hS⟩

theorem c_contains1 {vD : Value} {d : Dem} (w0 : World) (hD : DAt w0 vD d.n d.W d.H d.N) :
    Calls Try.prog 36 [vD, .func (.func 34) #[] #[]].toArray w0 fun e w => ∃ v, e = .returned v ∧ v = B (∃ k, 0 ≤ k ∧ k < d.n ∧ (¬ d.each k)) ∧ Sat w0 w [] := by
  refine zenG Try.func36 Try.ntmps36 fun w hS => ?_
  refine zsr ?_
  refine zlv xas ?_
  refine zlz ?_
  refine zs2 ?_
  refine zlc (xc0 cl_43) (c_index1 w (hD.below hS.below)) ?_; rintro _ w ⟨r1, rfl, hr1, hS'⟩
  replace hS := hS.cmp hS'; clear hS'
  refine zs2 ?_
  refine zlt <| zrt <| zf1 ⟨_, rfl, ?_⟩
  exact ⟨B_congr (by
   rcases hr1 with ⟨h1, h2⟩ | ⟨h1, h2, h3⟩
   · exact ⟨fun h => by omega, fun ⟨k, h4, h5, h6⟩ => absurd h6 (h2 k h4 h5)⟩
   · exact ⟨fun _ => ⟨_, h1, h2, h3⟩, fun _ => h1⟩), hS⟩

theorem c_index2 {vD : Value} {d : Dem} {s : Sht} {a1 a2 : Addr} (w0 : World) (hD : DAt w0 vD d.n d.W d.H d.N) (hp1 : w0.cell? a1 = some (.int .i64 s.w)) (hp2 : w0.cell? a2 = some (.int .i64 s.h)) :
    Calls Try.prog 43 [vD, .func (.func 35) #[] #[.pointer (some a1), .pointer (some a2)]].toArray w0 fun e w => ∃ v, e = .returned v ∧ ∃ r : Int, v = .int .i64 r ∧ ((r = -1 ∧ ∀ k, 0 ≤ k → k < d.n → ¬ (d.great s k)) ∨ (0 ≤ r ∧ r < d.n ∧ (d.great s r))) ∧ Sat w0 w [] := by
  have hn := hD.row.slh.n0; have hn1 := hD.row.slh.n1
  refine zenG Try.func43 Try.ntmps43 fun w hS => ?_
  refine zsr ?_
  refine zlv xas ?_
  refine zlt <| zsq <| zsr ?_
  refine zlv xmv ?_
  refine zlv (xln sl_38 hD.row.slh) ?_
  refine zlv xmv ?_
  refine zlt <| zbk <| zlp (fun mm M w => ∃ (i : Int), mm = ((d.n - i).toNat) ∧ (0 ≤ i) ∧ (i ≤ d.n) ∧ (∀ k, 0 ≤ k → k < i → ¬ (d.great s k)) ∧ M = [(0, vD), (1, .func (.func 35) #[] #[.pointer (some a1), .pointer (some a2)]), (7, .int .i64 d.n), (8, .int .i64 i)] ∧ Sat w0 w []) ⟨0, rfl, (by omega), (by omega), ?_, rfl, hS⟩ ?_
  ·
   intro k h0 h1; omega
  clear hS w
  rintro mm M w ⟨i, rfl, h0, h1, hall, rfl, hS⟩
  refine zsr ?_
  refine zlv xlss ?_
  refine zlt <| zsq ?_
  refine zcif ?_ ?_ <;> intro hc
  ·
   refine zsk <| ztn <| zsq <| zbk <| zsr ?_
   refine zs2 ?_
   refine zlz ?_
   refine zs3 ?_
   refine zlv (xix (kk := 3 * i) sl_38 hD.row.slh) ?_
   refine zlv (xlw (cs := [.int .i64 (d.W i), .int .i64 (d.H i), .int .i64 (d.N i)]) st_60 (hD.row.below hS.below) (dcells_at (k := 3 * i) (i := i) d.W d.H d.N (by omega))) ?_
   have hbv := hD.bw i
   have hbv := hD.bh i
   have hbv := hD.bn i
   refine zlc (xcc (vs := [_]) cl_35) (c_great (d := d) (i := i) (s := s) w (hS.ref hp1) (hS.ref hp2)) ?_; rintro _ w ⟨rfl, hS'⟩
   replace hS := hS.cmp hS'; clear hS'
   refine zlt ?_
   refine zcif ?_ ?_ <;> intro hc
   ·
    refine zsr ?_
    refine zs2 ?_
    refine zlt <| zrt <| zbr <| ztr <| ztr <| zbr <| ztr <| zf1 ⟨_, rfl, ?_⟩
    exact ⟨i, rfl, .inr ⟨by omega, by omega, ‹d.great s i›⟩, hS⟩
   refine zsk <| zbn <| ztn <| zrg ?_
   refine zlv (xadd (r := i + 1)) ?_
   refine zlv xmv ?_
   refine zln <| zlq ⟨i + 1, rfl, (by omega), (by omega), ?_, rfl, hS⟩
   ·
    intro k h0' h1'; rcases Int.lt_or_eq_of_le (show k ≤ i by omega) with hk | hk; exact hall k h0' hk; rw [hk]; assumption
  refine zxt <| ztx <| ztx <| zbh <| ztn <| zsr ?_
  refine zlv xas ?_
  refine zlt <| zrt <| zf1 ⟨_, rfl, ?_⟩
  exact ⟨-1, rfl, .inl ⟨rfl, fun k h0 h1 => hall k h0 (by omega)⟩, hS⟩

theorem c_contains2 {vD : Value} {d : Dem} {s : Sht} {a1 a2 : Addr} (w0 : World) (hD : DAt w0 vD d.n d.W d.H d.N) (hp1 : w0.cell? a1 = some (.int .i64 s.w)) (hp2 : w0.cell? a2 = some (.int .i64 s.h)) :
    Calls Try.prog 36 [vD, .func (.func 35) #[] #[.pointer (some a1), .pointer (some a2)]].toArray w0 fun e w => ∃ v, e = .returned v ∧ v = B (∃ k, 0 ≤ k ∧ k < d.n ∧ (d.great s k)) ∧ Sat w0 w [] := by
  refine zenG Try.func36 Try.ntmps36 fun w hS => ?_
  refine zsr ?_
  refine zlv xas ?_
  refine zlz ?_
  refine zs2 ?_
  refine zlc (xc0 cl_43) (c_index2 w (hD.below hS.below) (hS.ref hp1) (hS.ref hp2)) ?_; rintro _ w ⟨r1, rfl, hr1, hS'⟩
  replace hS := hS.cmp hS'; clear hS'
  refine zs2 ?_
  refine zlt <| zrt <| zf1 ⟨_, rfl, ?_⟩
  exact ⟨B_congr (by
   rcases hr1 with ⟨h1, h2⟩ | ⟨h1, h2, h3⟩
   · exact ⟨fun h => by omega, fun ⟨k, h4, h5, h6⟩ => absurd h6 (h2 k h4 h5)⟩
   · exact ⟨fun _ => ⟨_, h1, h2, h3⟩, fun _ => h1⟩), hS⟩

set_option maxRecDepth 20000 in
theorem c_check {vD : Value} {d : Dem} {s : Sht} (w0 : World) (hD : DAt w0 vD d.n d.W d.H d.N) (hs : (-9223372036854775808 ≤ s.w ∧ s.w ≤ 9223372036854775807) ∧ (-9223372036854775808 ≤ s.h ∧ s.h ≤ 9223372036854775807) ∧ (-9223372036854775808 ≤ s.kf ∧ s.kf ≤ 9223372036854775807)) :
    Calls Try.prog 23 [vD, .int .i64 s.w, .int .i64 s.h, .int .i64 s.kf].toArray w0 fun e w => ∃ v, e = .returned v ∧ ∃ e, v = .int .i64 e ∧ ChkD d s e ∧ Sat w0 w [] := by
  have hn := hD.row.slh.n0
  refine zenG Try.func23 Try.ntmps23 fun w hS => ?_
  refine zsr ?_
  refine zla (xbx (cs := [_]) hS) ?_; rintro _ w ⟨g1, rfl, hS⟩
  replace hS := hS.n1
  refine zla (xbx (cs := [_]) hS) ?_; rintro _ w ⟨g2, rfl, hS⟩
  replace hS := hS.n2
  refine zlv xas ?_
  refine zlz ?_
  refine zlv xas ?_
  refine zlz ?_
  refine zlv xmf ?_
  refine zlv xas ?_
  refine zlt <| zsq <| zbk <| zsr ?_
  refine zlv xmv ?_
  refine zlv (xln sl_38 hD.row.slh) ?_
  refine zs2 ?_
  refine zlb 16 ?_ ?_ <;> intro hc
  ·
   iterate 3 refine zlo ?_
   refine zs2 ?_
   iterate 3 refine zlo ?_
   refine zs2 ?_
   iterate 3 refine zlo ?_
   refine zs2 ?_
   iterate 3 refine zlo ?_
   refine zs2 ?_
   refine zlt <| zct <| zsr ?_
   refine zlv xas ?_
   refine zlt <| zrt <| zbr <| ztr <| zf1 ⟨_, rfl, ?_⟩
   first
   | exact ⟨1, rfl, .inl ⟨fun hk => by have b1 := hk.few; have b2 := hk.w1; have b3 := hk.w2; have b4 := hk.h1; have b5 := hk.h2; have b6 := hk.k1; have b7 := hk.k2; omega, rfl⟩, hS.nl⟩
   | exact ⟨1, rfl, .inl ⟨fun hk => by obtain ⟨k, k0, k1, k2⟩ := ‹∃ k, 0 ≤ k ∧ k < d.n ∧ (¬ d.each k)›; exact k2 (hk.all k k0 k1), rfl⟩, hS.nl⟩
  refine zs2 ?_
  refine zlc (xc0 cl_36) (c_contains1 w (hD.below hS.below)) ?_; rintro _ w ⟨rfl, hS'⟩
  replace hS := hS.cmp hS'; clear hS'
  refine zs2 ?_
  refine zlb 21 ?_ ?_ <;> intro hc
  ·
   iterate 3 refine zlo ?_
   refine zs2 ?_
   iterate 3 refine zlo ?_
   refine zs2 ?_
   iterate 3 refine zlo ?_
   refine zs2 ?_
   refine zlt <| zct <| zsr ?_
   refine zlv xas ?_
   refine zlt <| zrt <| zbr <| ztr <| zf1 ⟨_, rfl, ?_⟩
   first
   | exact ⟨1, rfl, .inl ⟨fun hk => by have b1 := hk.few; have b2 := hk.w1; have b3 := hk.w2; have b4 := hk.h1; have b5 := hk.h2; have b6 := hk.k1; have b7 := hk.k2; omega, rfl⟩, hS.nl⟩
   | exact ⟨1, rfl, .inl ⟨fun hk => by obtain ⟨k, k0, k1, k2⟩ := ‹∃ k, 0 ≤ k ∧ k < d.n ∧ (¬ d.each k)›; exact k2 (hk.all k k0 k1), rfl⟩, hS.nl⟩
  refine zlv (xlb 0 pl_3 hS) ?_
  refine zlc (xc0 cl_32) (c_in w) ?_; rintro _ w ⟨rfl, hS'⟩
  replace hS := hS.cmp hS'; clear hS'
  refine zs3 ?_
  refine zlb 26 ?_ ?_ <;> intro hc
  ·
   iterate 3 refine zlo ?_
   refine zs2 ?_
   iterate 3 refine zlo ?_
   refine zs2 ?_
   refine zlt <| zct <| zsr ?_
   refine zlv xas ?_
   refine zlt <| zrt <| zbr <| ztr <| zf1 ⟨_, rfl, ?_⟩
   first
   | exact ⟨1, rfl, .inl ⟨fun hk => by have b1 := hk.few; have b2 := hk.w1; have b3 := hk.w2; have b4 := hk.h1; have b5 := hk.h2; have b6 := hk.k1; have b7 := hk.k2; omega, rfl⟩, hS.nl⟩
   | exact ⟨1, rfl, .inl ⟨fun hk => by obtain ⟨k, k0, k1, k2⟩ := ‹∃ k, 0 ≤ k ∧ k < d.n ∧ (¬ d.each k)›; exact k2 (hk.all k k0 k1), rfl⟩, hS.nl⟩
  refine zlv (xlb 1 pl_3 hS) ?_
  refine zlc (xc0 cl_32) (c_in w) ?_; rintro _ w ⟨rfl, hS'⟩
  replace hS := hS.cmp hS'; clear hS'
  refine zs3 ?_
  refine zlb 31 ?_ ?_ <;> intro hc
  ·
   iterate 3 refine zlo ?_
   refine zs2 ?_
   refine zlt <| zct <| zsr ?_
   refine zlv xas ?_
   refine zlt <| zrt <| zbr <| ztr <| zf1 ⟨_, rfl, ?_⟩
   first
   | exact ⟨1, rfl, .inl ⟨fun hk => by have b1 := hk.few; have b2 := hk.w1; have b3 := hk.w2; have b4 := hk.h1; have b5 := hk.h2; have b6 := hk.k1; have b7 := hk.k2; omega, rfl⟩, hS.nl⟩
   | exact ⟨1, rfl, .inl ⟨fun hk => by obtain ⟨k, k0, k1, k2⟩ := ‹∃ k, 0 ≤ k ∧ k < d.n ∧ (¬ d.each k)›; exact k2 (hk.all k k0 k1), rfl⟩, hS.nl⟩
  refine zlv xmv ?_
  refine zlc (xc0 cl_32) (c_in w) ?_; rintro _ w ⟨rfl, hS'⟩
  replace hS := hS.cmp hS'; clear hS'
  refine zs3 ?_
  refine zlt ?_
  refine zcif ?_ ?_ <;> intro hc
  ·
   refine zsr ?_
   refine zlv xas ?_
   refine zlt <| zrt <| zbr <| ztr <| zf1 ⟨_, rfl, ?_⟩
   first
   | exact ⟨1, rfl, .inl ⟨fun hk => by have b1 := hk.few; have b2 := hk.w1; have b3 := hk.w2; have b4 := hk.h1; have b5 := hk.h2; have b6 := hk.k1; have b7 := hk.k2; omega, rfl⟩, hS.nl⟩
   | exact ⟨1, rfl, .inl ⟨fun hk => by obtain ⟨k, k0, k1, k2⟩ := ‹∃ k, 0 ≤ k ∧ k < d.n ∧ (¬ d.each k)›; exact k2 (hk.all k k0 k1), rfl⟩, hS.nl⟩
  refine zsr ?_
  refine zs2 ?_
  refine zlc (xc0 cl_36) (c_contains2 (s := s) w (hD.below hS.below) (hS.cellN 0 rfl rfl) (hS.cellN 1 rfl rfl)) ?_; rintro _ w ⟨rfl, hS'⟩
  replace hS := hS.cmp hS'; clear hS'
  refine zlv xas ?_
  refine zlt ?_
  refine zcif ?_ ?_ <;> intro hc
  ·
   refine zsr ?_
   refine zlv xas ?_
   refine zlt <| zrt <| zbr <| ztr <| zf1 ⟨_, rfl, ?_⟩
   exact ⟨19, rfl, .inr (.inl ⟨⟨by omega, by omega, by omega, by omega, by omega, by omega, by omega, fun i h0 h1 => Classical.not_not.1 fun hh => ‹¬ ∃ k, 0 ≤ k ∧ k < d.n ∧ (¬ d.each k)› ⟨i, h0, h1, hh⟩⟩, ‹∃ k, 0 ≤ k ∧ k < d.n ∧ (d.great s k)›, rfl⟩), hS.nl⟩
  refine zsk <| zbn <| ztn <| zsr ?_
  refine zlv xas ?_
  refine zlt <| zrt <| zf1 ⟨_, rfl, ?_⟩
  exact ⟨0, rfl, .inr (.inr ⟨⟨by omega, by omega, by omega, by omega, by omega, by omega, by omega, fun i h0 h1 => Classical.not_not.1 fun hh => ‹¬ ∃ k, 0 ≤ k ∧ k < d.n ∧ (¬ d.each k)› ⟨i, h0, h1, hh⟩⟩, ‹¬ ∃ k, 0 ≤ k ∧ k < d.n ∧ (d.great s k)›, rfl⟩), hS.nl⟩

end Go.Proofs.Ytmlfpniaknmmfaa
