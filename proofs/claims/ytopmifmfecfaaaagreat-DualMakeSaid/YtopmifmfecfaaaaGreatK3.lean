/- The walk of Solve, of knapsack. -/
import Derived.Test.YtopmifmfecfaaaaGreatGv
import Derived.Test.YtopmifmfecfaaaaGreatN4
import Derived.Test.YtopmifmfecfaaaaGreatGq
import Derived.Test.YtopmifmfecfaaaaGreatFh
import Derived.Test.YtopmifmfecfaaaaGreatFb
import Derived.Test.YtopmifmfecfaaaaGreatFe
namespace Go.Proofs.YtopmifmfecfaaaaGreat
open Go Go.RowKit Go.Proofs.Gw
set_option linter.unusedVariables false

theorem cl_114 : calledT Tryz.prog 114 = true := by kernel_rfl
theorem cl_115 : calledT Tryz.prog 115 = true := by kernel_rfl
theorem cl_151 : calledT Tryz.prog 151 = true := by kernel_rfl
theorem cl_152 : calledT Tryz.prog 152 = true := by kernel_rfl
theorem cl_153 : calledT Tryz.prog 153 = true := by kernel_rfl
theorem cl_168 : calledT Tryz.prog 168 = true := by kernel_rfl
theorem cl_169 : calledT Tryz.prog 169 = true := by kernel_rfl
theorem el_125 : elemT Tryz.prog 125 = some (.agg #[.int .i64 0, .int .i64 0, .int .i64 0], 3, 24) := by kernel_rfl
theorem fd_125_0 : fieldT Tryz.prog 125 0 = some 0 := by kernel_rfl
theorem fd_125_1 : fieldT Tryz.prog 125 1 = some 1 := by kernel_rfl
theorem fd_125_2 : fieldT Tryz.prog 125 2 = some 2 := by kernel_rfl
theorem sl_123 : sliceT Tryz.prog 123 = some (125, 3) := by kernel_rfl
theorem st_125 : structT Tryz.prog 125 = some 3 := by kernel_rfl
set_option maxRecDepth 20000 in
theorem c_kv1 {a b c : Int} (w0 : World) :
    Calls Tryz.prog 151 [.agg #[.int .i64 a, .int .i64 b, .int .i64 c]].toArray w0 fun e w => ∃ v, e = .returned v ∧ v = B (¬ eachI a b c) ∧ Sat w0 w [] := by
  refine zenG Tryz.func151 Tryz.ntmps151 fun w hS => ?_
  refine zsr ?_
  refine zla (xbx (cs := [_, _, _]) hS) ?_; rintro _ w ⟨g1, rfl, hS⟩
  replace hS := hS.n1
  refine zlv xas ?_
  refine zlz ?_
  refine zlv (xfb 0 fd_125_0) ?_
  refine zlv (xlb 0 pl_3 hS) ?_
  refine zs2 ?_
  refine zlb 6 ?_ ?_ <;> intro hc
  ·
   iterate 3 refine zlo ?_
   refine zs2 ?_
   iterate 3 refine zlo ?_
   refine zs2 ?_
   iterate 3 refine zlo ?_
   refine zs2 ?_
   iterate 3 refine zlo ?_
   refine zs2 ?_
   iterate 3 refine zlo ?_
   refine zs2 ?_
   refine zlt <| zrt <| zf1 ⟨_, rfl, ?_⟩
   exact ⟨true_B (by unfold eachI; omega), hS.nl⟩
  refine zlv (xfb 0 fd_125_0) ?_
  refine zlv (xlb 0 pl_3 hS) ?_
  refine zs3 ?_
  refine zlb 11 ?_ ?_ <;> intro hc
  ·
   iterate 3 refine zlo ?_
   refine zs2 ?_
   iterate 3 refine zlo ?_
   refine zs2 ?_
   iterate 3 refine zlo ?_
   refine zs2 ?_
   iterate 3 refine zlo ?_
   refine zs2 ?_
   refine zlt <| zrt <| zf1 ⟨_, rfl, ?_⟩
   exact ⟨true_B (by unfold eachI; omega), hS.nl⟩
  refine zlv (xfb 1 fd_125_1) ?_
  refine zlv (xlb 0 pl_3 hS) ?_
  refine zs3 ?_
  refine zlb 16 ?_ ?_ <;> intro hc
  ·
   iterate 3 refine zlo ?_
   refine zs2 ?_
   iterate 3 refine zlo ?_
   refine zs2 ?_
   iterate 3 refine zlo ?_
   refine zs2 ?_
   refine zlt <| zrt <| zf1 ⟨_, rfl, ?_⟩
   exact ⟨true_B (by unfold eachI; omega), hS.nl⟩
  refine zlv (xfb 1 fd_125_1) ?_
  refine zlv (xlb 0 pl_3 hS) ?_
  refine zs3 ?_
  refine zlb 21 ?_ ?_ <;> intro hc
  ·
   iterate 3 refine zlo ?_
   refine zs2 ?_
   iterate 3 refine zlo ?_
   refine zs2 ?_
   refine zlt <| zrt <| zf1 ⟨_, rfl, ?_⟩
   exact ⟨true_B (by unfold eachI; omega), hS.nl⟩
  refine zlv (xfb 2 fd_125_2) ?_
  refine zlv (xlb 0 pl_3 hS) ?_
  refine zs3 ?_
  refine zlb 26 ?_ ?_ <;> intro hc
  ·
   iterate 3 refine zlo ?_
   refine zs2 ?_
   refine zlt <| zrt <| zf1 ⟨_, rfl, ?_⟩
   exact ⟨true_B (by unfold eachI; omega), hS.nl⟩
  refine zlv (xfb 2 fd_125_2) ?_
  refine zlv (xlb 0 pl_3 hS) ?_
  refine zs3 ?_
  refine zlt <| zrt <| zf1 ⟨_, rfl, ?_⟩
  exact ⟨B_congr (by unfold eachI; omega), hS.nl⟩

theorem c_ixitem {vI : Value} {t : Its} (w0 : World) (hI : Row w0 vI 3 t.n (dcells t.S t.V t.M)) :
    Calls Tryz.prog 168 [vI, .func (.func 151) #[] #[]].toArray w0 fun e w => ∃ v, e = .returned v ∧ ∃ r : Int, v = .int .i64 r ∧ ((r = -1 ∧ ∀ k, 0 ≤ k → k < t.n → ¬ (¬ eachI (t.S k) (t.V k) (t.M k))) ∨ (0 ≤ r ∧ r < t.n ∧ (¬ eachI (t.S r) (t.V r) (t.M r)))) ∧ Sat w0 w [] := by
  have hn := hI.slh.n0; have hn1 := hI.slh.n1
  refine zenG Tryz.func168 Tryz.ntmps168 fun w hS => ?_
  refine zsr ?_
  refine zlv xas ?_
  refine zlt <| zsq <| zsr ?_
  refine zlv xmv ?_
  refine zlv (xln sl_123 hI.slh) ?_
  refine zlv xmv ?_
  refine zlt <| zbk <| zlp (fun mm M w => ∃ (i : Int), mm = ((t.n - i).toNat) ∧ (0 ≤ i) ∧ (i ≤ t.n) ∧ (∀ k, 0 ≤ k → k < i → ¬ (¬ eachI (t.S k) (t.V k) (t.M k))) ∧ M = [(0, vI), (1, .func (.func 151) #[] #[]), (7, .int .i64 t.n), (8, .int .i64 i)] ∧ Sat w0 w []) ⟨0, rfl, (by omega), (by omega), ?_, rfl, hS⟩ ?_
  ·
   intro k h0 h1; omega
  clear hS w
  rintro mm M w ⟨i, rfl, h0, h1, hall, rfl, hS⟩
  refine zsr ?_
  refine zlv xlss ?_
  refine zlt <| zsq ?_
  refine zcif ?_ ?_ <;> intro hc
  ·
   refine zsk <| ztn <| zsq <| zbk <| zsr ?_
   refine zs2 ?_
   refine zlz ?_
   refine zs3 ?_
   refine zlv (xix (kk := 3 * i) sl_123 hI.slh) ?_
   refine zlv (xlw (cs := [.int .i64 (t.S i), .int .i64 (t.V i), .int .i64 (t.M i)]) st_125 (hI.below hS.below) (dcells_at (k := 3 * i) (i := i) t.S t.V t.M (by omega))) ?_
   refine zlc (xc0 cl_151) (c_kv1 (a := (t.S i)) (b := (t.V i)) (c := (t.M i)) w) ?_; rintro _ w ⟨rfl, hS'⟩
   replace hS := hS.cmp hS'; clear hS'
   refine zlt ?_
   refine zcif ?_ ?_ <;> intro hc
   ·
    refine zsr ?_
    refine zs2 ?_
    refine zlt <| zrt <| zbr <| ztr <| ztr <| zbr <| ztr <| zf1 ⟨_, rfl, ?_⟩
    exact ⟨i, rfl, .inr ⟨by omega, by omega, ‹¬ eachI (t.S i) (t.V i) (t.M i)›⟩, hS⟩
   refine zsk <| zbn <| ztn <| zrg ?_
   refine zlv (xadd (r := i + 1)) ?_
   refine zlv xmv ?_
   refine zln <| zlq ⟨i + 1, rfl, (by omega), (by omega), ?_, rfl, hS⟩
   ·
    intro k h0' h1'; rcases Int.lt_or_eq_of_le (show k ≤ i by omega) with hk | hk; exact hall k h0' hk; rw [hk]; assumption
  refine zxt <| ztx <| ztx <| zbh <| ztn <| zsr ?_
  refine zlv xas ?_
  refine zlt <| zrt <| zf1 ⟨_, rfl, ?_⟩
  exact ⟨-1, rfl, .inl ⟨rfl, fun k h0 h1 => hall k h0 (by omega)⟩, hS⟩

theorem c_coitem {vI : Value} {t : Its} (w0 : World) (hI : Row w0 vI 3 t.n (dcells t.S t.V t.M)) :
    Calls Tryz.prog 152 [vI, .func (.func 151) #[] #[]].toArray w0 fun e w => ∃ v, e = .returned v ∧ v = B (∃ k, 0 ≤ k ∧ k < t.n ∧ (¬ eachI (t.S k) (t.V k) (t.M k))) ∧ Sat w0 w [] := by
  refine zenG Tryz.func152 Tryz.ntmps152 fun w hS => ?_
  refine zsr ?_
  refine zlv xas ?_
  refine zlz ?_
  refine zs2 ?_
  refine zlc (xc0 cl_168) (c_ixitem w (hI.below hS.below)) ?_; rintro _ w ⟨r1, rfl, hr1, hS'⟩
  replace hS := hS.cmp hS'; clear hS'
  refine zs2 ?_
  refine zlt <| zrt <| zf1 ⟨_, rfl, ?_⟩
  exact ⟨B_congr (by
   rcases hr1 with ⟨h1, h2⟩ | ⟨h1, h2, h3⟩
   · exact ⟨fun h => by omega, fun ⟨k, h4, h5, h6⟩ => absurd h6 (h2 k h4 h5)⟩
   · exact ⟨fun _ => ⟨_, h1, h2, h3⟩, fun _ => h1⟩), hS⟩

set_option maxRecDepth 20000 in
theorem c_kvalid {vI : Value} {t : Its} {cap : Int} (w0 : World) (hI : Row w0 vI 3 t.n (dcells t.S t.V t.M)) :
    Calls Tryz.prog 114 [vI, .int .i64 cap].toArray w0 fun e w => ∃ v, e = .returned v ∧ v = B (t.Ok cap) ∧ Sat w0 w [] := by
  have hn := hI.slh.n0
  refine zenG Tryz.func114 Tryz.ntmps114 fun w hS => ?_
  refine zsr ?_
  refine zlv xas ?_
  refine zlz ?_
  refine zlv xas ?_
  refine zlz ?_
  refine zlv xmv ?_
  refine zlv (xln sl_123 hI.slh) ?_
  refine zs2 ?_
  refine zlb 9 ?_ ?_ <;> intro hc
  ·
   refine zs4 ?_
   refine zlb 13 ?_ ?_ <;> intro hc
   ·
    refine zs4 ?_
    refine zlb 17 ?_ ?_ <;> intro hc
    ·
     refine zs2 ?_
     refine zlc (xc0 cl_152) (c_coitem (t := t) w (hI.below hS.below)) ?_; rintro _ w ⟨rfl, hS'⟩
     replace hS := hS.cmp hS'; clear hS'
     refine zs3 ?_
     refine zlt <| zrt <| zf1 ⟨_, rfl, ?_⟩
     exact ⟨B_congr (by exact ⟨fun hx => ⟨by omega, by omega, by omega, fun k k0 k1 => Classical.not_not.1 fun hh => hx ⟨k, k0, k1, hh⟩⟩, fun hok ⟨k, k0, k1, hh⟩ => hh (hok.all k k0 k1)⟩), hS⟩
    iterate 4 refine zlo ?_
    refine zs2 ?_
    refine zlt <| zrt <| zf1 ⟨_, rfl, ?_⟩
    exact ⟨false_B (by rintro ⟨h1, h2, h3, h4⟩; omega), hS⟩
   iterate 2 refine zlo ?_
   refine zs2 ?_
   iterate 4 refine zlo ?_
   refine zs2 ?_
   refine zlt <| zrt <| zf1 ⟨_, rfl, ?_⟩
   exact ⟨false_B (by rintro ⟨h1, h2, h3, h4⟩; omega), hS⟩
  iterate 2 refine zlo ?_
  refine zs2 ?_
  iterate 2 refine zlo ?_
  refine zs2 ?_
  iterate 4 refine zlo ?_
  refine zs2 ?_
  refine zlt <| zrt <| zf1 ⟨_, rfl, ?_⟩
  exact ⟨false_B (by rintro ⟨h1, h2, h3, h4⟩; omega), hS⟩

set_option maxRecDepth 20000 in
theorem c_lay1 {vN : Value} {n s y m r : Int} {T : Int → Int} {gn gr gx : Nat} {k : Int} (w0 : World) (hGn : (Ent.blk gn [vN]).holds w0) (hGr : (Ent.blk gr [.int .i64 r]).holds w0) (hGx : (Ent.blk gx [.int .i64 s, .int .i64 y, .int .i64 m]).holds w0) (hN : Row w0 vN 1 n (ints T)) (hTB : ∀ c, 0 ≤ c → c < n → 0 ≤ T c ∧ T c ≤ 4398046511104) (hs : 1 ≤ s) (hn4 : n ≤ 4001) (hy : 0 ≤ y ∧ y ≤ 1073741824) (r0 : 0 ≤ r) (k0 : 0 ≤ k) (hkn : r + k * s < n) :
    Calls Tryz.prog 169 [.int .i64 k, .pointer (some ⟨gn, 0, none⟩), .pointer (some ⟨gr, 0, none⟩), .pointer (some ⟨gx, 0, none⟩)].toArray w0 fun e w => ∃ v, e = .returned v ∧ v = .int .i64 (T (r + k * s) - k * y) ∧ Sat w0 w [] := by
  have hn1 := hN.slh.n1
  have hks0 := ks_rng k0 hs
  have hjs := js_in hs r0 k0 (Int.le_refl _) hkn
  have hjy := jy_rng k0 (by omega) hy.1 hy.2
  have htk := hTB (r + k * s) (by omega) (by omega)
  refine zenG Tryz.func169 Tryz.ntmps169 fun w hS => ?_
  refine zsr ?_
  refine zlv xas ?_
  refine zlt <| zsq ?_
  refine zdst [] [] 1000 mx_ hS ?_; clear hS; intro w hS
  refine zdla 0 (fun w hS => (xlf pl_22 (Ent.holds.cell hGn (o := 0) rfl) hS)) ?_
  refine zdla 1 (fun w hS => (xlf pl_3 (Ent.holds.cell hGr (o := 0) rfl) hS)) ?_
  refine zdv 2 (fun _ => xmv) ?_
  refine zdv 3 (fun _ => (xfb 0 fd_125_0)) ?_
  refine zdla 4 (fun w hS => (xlf pl_3 (Ent.holds.cell hGx (o := 0) rfl) hS)) ?_
  refine zdv 5 (fun _ => (xmul (r := (k * s)) (e := rfl))) ?_
  refine zdv 6 (fun _ => (xadd (r := r + (k * s)))) ?_
  refine zdv 7 (fun _ => (xix (kk := r + (k * s)) sl_22 hN.slh)) ?_
  refine zdla 8 (fun w hS => (xlr (u := .int .i64 (T (r + (k * s)))) pl_3 (hN.below hS.below))) ?_
  refine zdv 9 (fun _ => xmv) ?_
  refine zdv 10 (fun _ => (xfb 1 fd_125_1)) ?_
  refine zdla 11 (fun w hS => (xlf pl_3 (Ent.holds.cell hGx (o := 1) rfl) hS)) ?_
  refine zdv 12 (fun _ => (xmul (r := (k * y)) (e := rfl))) ?_
  refine zdv 13 (fun _ => (xsub (r := (T (r + (k * s))) - (k * y)))) ?_
  refine zdv 14 (fun _ => xas) ?_
  refine zdd <| ztn <| zrt <| zf1 ⟨_, rfl, ?_⟩
  exact ⟨rfl, hS⟩

set_option maxHeartbeats 4000000 in
set_option maxRecDepth 20000 in
theorem c_layer {vN : Value} {n s y m : Int} {T : Int → Int} (w0 : World) (hN : Row w0 vN 1 n (ints T)) (hTB : ∀ c, 0 ≤ c → c < n → 0 ≤ T c ∧ T c ≤ 4398046511104) (hs : 1 ≤ s) (hs4 : s ≤ 4000) (hn4 : n ≤ 4001) (hy : 0 ≤ y ∧ y ≤ 1073741824) (hm : 0 ≤ m ∧ m ≤ 1000) :
    Calls Tryz.prog 153 [.agg #[.int .i64 s, .int .i64 y, .int .i64 m], vN].toArray w0 fun e w => ∃ v, e = .returned v ∧ ∃ r, v = r ∧ Slh r n ∧ Sat w0 w [.own r 1 3 n (ints (R T s y m.toNat))] := by
  have hn0 := hN.slh.n0
  refine zenG Tryz.func153 Tryz.ntmps153 fun w hS => ?_
  refine zsr ?_
  refine zla (xbx (cs := [_, _, _]) hS) ?_; rintro _ w ⟨g1, rfl, hS⟩
  replace hS := hS.n1
  refine zla (xbx (cs := [_]) hS (hc := Slh.cells hN.slh)) ?_; rintro _ w ⟨g2, rfl, hS⟩
  replace hS := hS.n2
  refine zlv xas ?_
  refine zlz ?_
  refine zlv (xlb 1 pl_22 hS) ?_
  refine zlv (xln sl_22 hN.slh) ?_
  refine zla (xmk sl_22 el_3 hS) ?_; rintro v1 w ⟨hS, hv1⟩
  replace hS := hS.n3
  refine zlv xas ?_
  refine zlt <| zsq <| zsr ?_
  refine zlv (xfb 0 fd_125_0) ?_
  refine zlv (xlb 0 pl_3 hS) ?_
  refine zlv (xlb 1 pl_22 hS) ?_
  refine zlv (xln sl_22 hN.slh) ?_
  refine zlv (xmin (r := (min s n))) ?_
  refine zlv xmv ?_
  refine zlt <| zbk <| zlp (fun mm M w => ∃ (r : Int) (g : Int → Int), mm = ((min s n - r).toNat) ∧ (0 ≤ r) ∧ (r ≤ min s n) ∧ (∀ c, 0 ≤ c → c < n → c % s < r → g c = R T s y m.toNat c) ∧ M = [(2, .pointer (some ⟨g1, 0, none⟩)), (3, .pointer (some ⟨g2, 0, none⟩)), (4, .slice none 0 0), (5, v1), (17, .int .i64 (min s n)), (18, .int .i64 r)] ∧ Sat w0 w [.blk g1 [.int .i64 s, .int .i64 y, .int .i64 m], .blk g2 [vN], .own v1 1 3 n (ints g)]) ⟨0, (fun _ => 0), rfl, (by omega), (by omega), ?_, rfl, hS⟩ ?_
  ·
   intro c c0 c1 c2; have := Int.emod_nonneg c (show s ≠ 0 by omega); omega
  clear hS w
  rintro mm M w ⟨r, g, rfl, r0, r1, hg, rfl, hS⟩
  refine zsr ?_
  refine zlv xlss ?_
  refine zlt <| zsq ?_
  refine zcif ?_ ?_ <;> intro hc
  ·
   refine zsk <| ztn <| zsq <| zbk <| zsr ?_
   refine zlv xmv ?_
   refine zla (xal (cs := [_]) el_3 hS) ?_; rintro _ w ⟨g3, rfl, hS⟩
   replace hS := hS.n4
   refine zle (xsb 3 pl_3 hS) ?_; clear hS; rintro w hS
   replace hS := hS.n4
   refine zlz ?_
   refine zlv xas ?_
   refine zlz ?_
   refine zlv xmf ?_
   refine zlv xas ?_
   refine zlz ?_
   refine zlv xas ?_
   refine zlt <| zbk ?_
   replace hS := hS.dqnil 3 (fun _ => 0)
   replace hS := hS.n5
   refine zlp (fun mm M w => ∃ (q : Int) (k : Int) (gg2 : Int → Int) (wq : Value) (fq : Int → Int), mm = ((n - k).toNat) ∧ (0 ≤ k) ∧ (k ≤ n) ∧ (DQ (fun j => T (r + j * s) - j * y) m k q fq) ∧ (LY T s y m n r k gg2) ∧ (Slh wq q) ∧ M = [(2, .pointer (some ⟨g1, 0, none⟩)), (3, .pointer (some ⟨g2, 0, none⟩)), (4, .slice none 0 0), (5, v1), (6, .pointer (some ⟨g3, 0, none⟩)), (7, wq), (8, .func (.func 169) #[] #[.pointer (some ⟨g2, 0, none⟩), .pointer (some ⟨g3, 0, none⟩), .pointer (some ⟨g1, 0, none⟩)]), (9, .int .i64 k), (17, .int .i64 (min s n)), (18, .int .i64 r)] ∧ Sat w0 w [.blk g1 [.int .i64 s, .int .i64 y, .int .i64 m], .blk g2 [vN], .own v1 1 3 n (ints gg2), .blk g3 [.int .i64 r], .sem (Frame.dq 3 wq q fq)]) ⟨0, 0, g, (.slice none 0 0), (fun _ => 0), rfl, (by omega), (by omega), ?_, ?_, ?_, rfl, hS⟩ ?_
   ·
    exact DQ.start _ _ _
   ·
    exact LY.start T hg
   ·
    exact slh_nil
   clear hS w
   rintro mm M w ⟨q, k, gg2, wq, fq, rfl, k0, k1, hdq, hLY, hwq, rfl, hS⟩
   refine zsq <| zsr ?_
   refine zlv (xlb 3 pl_3 hS) ?_
   refine zlv xmv ?_
   refine zlv (xfb 0 fd_125_0) ?_
   refine zlv (xlb 0 pl_3 hS) ?_
   refine zlv (xmul (r := (k * s)) (e := rfl) (hr := (by have h1 := Int.mul_nonneg k0 (show 0 ≤ s by omega); have h2 := Int.mul_le_mul (show k ≤ 4001 by omega) hs4 (by omega) (show 0 ≤ (4001 : Int) by omega); unfold I64; omega))) ?_
   have hks0 := ks_rng k0 hs
   have hks1 : 0 ≤ k * s ∧ k * s ≤ 16008000 := by have h1 := Int.mul_nonneg k0 (show 0 ≤ s by omega); have h2 := Int.mul_le_mul (show k ≤ 4001 by omega) hs4 (by omega) (show 0 ≤ (4001 : Int) by omega); omega
   refine zlv (xadd (r := r + (k * s))) ?_
   refine zlv (xlb 1 pl_22 hS) ?_
   refine zlv (xln sl_22 hN.slh) ?_
   refine zlv xlss ?_
   refine zlt ?_
   refine zcif ?_ ?_ <;> intro hc
   ·
    refine zsk <| ztn <| zsq <| zbk <| zsq <| zbk ?_
    have hdp0 := hdq.p
    refine zlp (fun mm M w => ∃ (q3 : Int) (wp : Value), mm = q3.toNat ∧ (DQp (fun j => T (r + j * s) - j * y) m k q3 fq) ∧ (q3 ≤ k) ∧ (Slh wp q3) ∧ M = [(2, .pointer (some ⟨g1, 0, none⟩)), (3, .pointer (some ⟨g2, 0, none⟩)), (4, .slice none 0 0), (5, v1), (6, .pointer (some ⟨g3, 0, none⟩)), (7, wp), (8, .func (.func 169) #[] #[.pointer (some ⟨g2, 0, none⟩), .pointer (some ⟨g3, 0, none⟩), .pointer (some ⟨g1, 0, none⟩)]), (9, .int .i64 k), (17, .int .i64 (min s n)), (18, .int .i64 r)] ∧ Sat w0 w [.blk g1 [.int .i64 s, .int .i64 y, .int .i64 m], .blk g2 [vN], .own v1 1 3 n (ints gg2), .blk g3 [.int .i64 r], .sem (Frame.dq 3 wp q3 fq)]) ⟨q, wq, rfl, ?_, ?_, ?_, rfl, hS⟩ ?_
    ·
     exact hdp0
    ·
     exact hdq.len k0
    ·
     exact hwq
    clear hS w
    rintro mm M w ⟨q3, wp, rfl, hdp, hqk, hwp, rfl, hS⟩
    have hq30 := hdp.q0
    refine zsq <| zsr ?_
    refine zlv xmv ?_
    refine zlv (xln sl_22 hwp) ?_
    refine zs2 ?_
    refine zlb 36 ?_ ?_ <;> intro hc
    ·
     refine zs3 ?_
     refine zlv (xln sl_22 hwp) ?_
     refine zlv (xsub (r := q3 - 1)) ?_
     refine zlv (xix (kk := q3 - 1) sl_22 hwp) ?_
     refine zlv (xlr (u := .int .i64 (fq (q3 - 1))) pl_3 (Frame.dq.row (hS.dqOf 4 rfl))) ?_
     have hq9 := hdp.rng (q3 - 1) (by omega) (by omega)
     have hjs9 := js_in hs r0 (show 0 ≤ fq (q3 - 1) by omega) (show fq (q3 - 1) ≤ k by omega) (show r + k * s < n by omega)
     refine zlc (xcc (vs := [_]) cl_169) (c_lay1 (k := (fq (q3 - 1))) (n := n) (T := T) w (hS.holds _ (List.mem_of_getElem? (i := 1) rfl)) (hS.holds _ (List.mem_of_getElem? (i := 3) rfl)) (hS.holds _ (List.mem_of_getElem? (i := 0) rfl)) (hN.below hS.below) hTB hs hn4 hy (by omega) (by omega) (by omega)) ?_; rintro _ w ⟨rfl, hS'⟩
     replace hS := hS.cmp hS'; clear hS'
     refine zs2 ?_
     refine zlc (xcc (vs := [_]) cl_169) (c_lay1 (k := k) (n := n) (T := T) w (hS.holds _ (List.mem_of_getElem? (i := 1) rfl)) (hS.holds _ (List.mem_of_getElem? (i := 3) rfl)) (hS.holds _ (List.mem_of_getElem? (i := 0) rfl)) (hN.below hS.below) hTB hs hn4 hy (by omega) (by omega) (by omega)) ?_; rintro _ w ⟨rfl, hS'⟩
     replace hS := hS.cmp hS'; clear hS'
     refine zs2 ?_
     refine zlt ?_
     refine zcif ?_ ?_ <;> intro hc
     ·
      refine zsk <| ztn <| zbk <| zrg ?_
      refine zs2 ?_
      refine zlv (xln sl_22 hwp) ?_
      refine zlv (xsub (r := q3 - 1)) ?_
      refine zlv (xsl_hi (i := q3 - 1) (q3 - 1).toNat sl_22 hwp (Frame.dq.roomy (hS.dqOf 4 rfl))) ?_
      have hdqs1 := (dqpre_slh (e := q3 - 1) hwp (by omega) (by omega))
      replace hS := hS.dqpre (n := q3) 4 (q3 - 1).toNat (by omega)
      replace hS := hS.dqn 4 (by omega : ((q3 - 1).toNat : Int) = q3 - 1)
      replace hS := hS.n5
      refine zlv xas ?_
      refine zln <| zbn <| zlq ⟨q3 - 1, (preV wp (q3 - 1).toNat), rfl, ?_, ?_, ?_, rfl, hS⟩
      ·
       exact hdp.pop (by omega) (by show T _ - _ ≤ T _ - _; omega)
      ·
       omega
      ·
       exact hdqs1
     refine zxt <| ztx <| ztx <| zbh <| ztn <| zsr ?_
     refine zs2 ?_
     refine zla (xli (n := 1) (len := 1) (pv := [(0, .int .i64 k)]) (cs := [.int .i64 k]) (c := ints (fun _ => k)) sl_22 el_3 hS) ?_; rintro v2 w ⟨hS, hv2⟩
     replace hS := hS.n6
     refine zla (xdqa 4 sl_22 el_3 hS (hS.rowN 5 rfl)) ?_; rintro v3 w ⟨hS, hv3⟩
     replace hS := hS.n6
     have hda := hdp.push k0 hm.1 (by show _ ≤ _ ∨ T _ - _ < T _ - _; omega)
     have hdr := hda.rng 0 (by omega) (by omega)
     refine zlv xas ?_
     refine zlt <| zsq <| zsq ?_
     refine zdst [0, 1, 2, 3, 4, 5] [0, 1, 2, 3, 4, 5] 1000 mx_ hS ?_; clear hS; intro w hS
     refine zdv 0 (fun _ => xmv) ?_
     refine zdv 1 (fun _ => (xix (kk := 0) sl_22 hv3)) ?_
     refine zdla 2 (fun w hS => (xlr (u := .int .i64 ((snoc fq q3 k) 0)) pl_3 (Frame.dq.row (hS.dqOf 4 rfl)))) ?_
     refine zdv 3 (fun _ => xmv) ?_
     refine zdv 4 (fun _ => (xfb 2 fd_125_2)) ?_
     refine zdla 5 (fun w hS => (xlb 0 pl_3 hS)) ?_
     refine zdv 6 (fun _ => (xsub (r := k - m))) ?_
     refine zdv 7 (fun _ => xlss) ?_
     refine zdd <| ztn ?_
     refine zcif ?_ ?_ <;> intro hc
     ·
      refine zrg ?_
      refine zlv xmv ?_
      have hdm := hda.more hm.1 (by omega)
      refine zlvr rfl rfl rfl (ex_slice_lo (q := 1) rfl sl_22 rfl rfl rfl hv3 rfl (by omega) (by omega)) ?_
      have hdqs2 := (dqsuf_slh (m := q3) hv3 (Frame.dq.roomy (hS.dqOf 4 rfl)) (by omega) (by omega))
      replace hS := hS.dqsuf (n := q3 + 1) 4 1 (by omega)
      replace hS := hS.dqn 4 (by omega : (q3 + 1 - ((1 : Nat) : Int) : Int) = q3)
      replace hS : Sat w0 w [.blk g1 [.int .i64 s, .int .i64 y, .int .i64 m], .blk g2 [vN], .own v1 1 3 n (ints gg2), .blk g3 [.int .i64 r], .sem (Frame.dq 3 (sufV v3 1) q3 (fun z9 => (snoc fq q3 k) (z9 + 1))), .own v2 1 3 1 (ints (fun _ => k))] := hS
      refine zlv xas ?_
      refine zlt ?_
      refine zdst [0, 1, 2, 3, 4, 5] [0, 1, 3, 4, 5] 18 mx_ hS ?_; clear hS; intro w hS
      refine zdv 0 (fun _ => xmv) ?_
      have hdq2 : DQ (fun j => T (r + j * s) - j * y) m (k + 1) (q3) ((fun z9 => (snoc fq q3 k) (z9 + 1))) := hda.drop k0 hm.1 (by omega)
      have hbst := hdq2.best k0 hm.1
      have hb2 : max 0 (k - m) ≤ ((fun z9 => (snoc fq q3 k) (z9 + 1))) 0 := hbst.2.1
      have hb3 : ((fun z9 => (snoc fq q3 k) (z9 + 1))) 0 ≤ k := hbst.2.2.1
      have hjs2 := js_in hs r0 (show 0 ≤ ((fun z9 => (snoc fq q3 k) (z9 + 1))) 0 by omega) hb3 (show r + k * s < n by omega)
      have hjy3 := jy_rng k0 (by omega) hy.1 hy.2
      have hjy2 := jy_rng (show 0 ≤ ((fun z9 => (snoc fq q3 k) (z9 + 1))) 0 by omega) (by omega) hy.1 hy.2
      have htk2 := hTB (r + ((fun z9 => (snoc fq q3 k) (z9 + 1))) 0 * s) (by omega) (by omega)
      refine zdla 1 (fun w hS => (xlb 2 pl_3 hS)) ?_
      refine zdv 2 (fun _ => xmv) ?_
      refine zdv 3 (fun _ => (xfb 0 fd_125_0)) ?_
      refine zdla 4 (fun w hS => (xlb 0 pl_3 hS)) ?_
      refine zdv 5 (fun _ => (xmul (r := (k * s)) (e := rfl))) ?_
      refine zdv 6 (fun _ => (xadd (r := r + (k * s)))) ?_
      refine zdv 7 (fun _ => xmv) ?_
      refine zdv 8 (fun _ => xmv) ?_
      refine zdv 9 (fun _ => (xix (kk := 0) sl_22 hdqs2)) ?_
      refine zdla 10 (fun w hS => (xlr (u := .int .i64 ((fun z9 => (snoc fq q3 k) (z9 + 1)) 0)) pl_3 (Frame.dq.row (hS.dqOf 3 rfl)))) ?_
      refine zdv 12 (fun _ => xmv) ?_
      refine zdv 13 (fun _ => (xfb 1 fd_125_1)) ?_
      refine zdla 14 (fun w hS => (xlb 0 pl_3 hS)) ?_
      refine zdv 15 (fun _ => (xmul (r := (k * y)) (e := rfl))) ?_
      refine zdc 11 (xcc (vs := [_]) cl_169) (c_lay1 (k := ((fun z9 => (snoc fq q3 k) (z9 + 1)) 0)) (n := n) (T := T) w (hS.holds _ (List.mem_of_getElem? (i := 1) rfl)) (hS.holds _ (List.mem_of_getElem? (i := 3) rfl)) (hS.holds _ (List.mem_of_getElem? (i := 0) rfl)) (hN.below hS.below) hTB hs hn4 hy (by omega) (by omega) (by omega)) ?_; rintro _ w ⟨rfl, hS'⟩
      replace hS := hS.cmp hS'; clear hS'
      refine ⟨⟨fun _ => hS, hS.pk [0, 1, 3, 4, 5]⟩, ?_⟩
      refine zdv 16 (fun _ => (xadd (r := (T (r + ((fun z9 => (snoc fq q3 k) (z9 + 1)) 0) * s) - ((fun z9 => (snoc fq q3 k) (z9 + 1)) 0) * y) + (k * y)))) ?_
      refine zdv 17 (fun _ => (xix (kk := r + (k * s)) sl_22 hv1)) ?_
      refine zde 18 (xso 2 pl_3 hS (upd_ints _ _ _)) ?_; clear hS; rintro w hS
      replace hS := hS.n6
      refine ⟨⟨fun h => absurd h (by decide), hS.pk [0, 1, 3, 4, 5]⟩, ?_⟩
      refine zdd <| zbn <| ztn <| zrg ?_
      refine zlv xmv ?_
      refine zlv (xadd (r := k + 1)) ?_
      refine zlv xas ?_
      refine zln <| zlq ⟨q3, k + 1, (upd gg2 (r + (k * s)) ((T (r + ((fun z9 => (snoc fq q3 k) (z9 + 1)) 0) * s) - ((fun z9 => (snoc fq q3 k) (z9 + 1)) 0) * y) + (k * y))), (sufV v3 1), (fun z9 => (snoc fq q3 k) (z9 + 1)), rfl, (by omega), (by omega), ?_, ?_, ?_, rfl, hS.pk [0, 1, 2, 3, 4]⟩
      ·
       exact hdq2
      ·
       exact hLY.step hs r0 (by omega) k0 (R_start hs hm.1 r0 (by omega) k0 hbst.2.1 hbst.2.2.1 (fun j j0 j1 => hbst.2.2.2 j j0 j1))
      ·
       exact hdqs2
     refine zsk <| ztn ?_
     refine zdst [0, 1, 2, 3, 4, 5] [0, 1, 3, 4, 5] 18 mx_ hS ?_; clear hS; intro w hS
     refine zdv 0 (fun _ => xmv) ?_
     have hdq2 : DQ (fun j => T (r + j * s) - j * y) m (k + 1) (q3 + 1) ((snoc fq q3 k)) := hda.keep k0 (by omega)
     have hbst := hdq2.best k0 hm.1
     have hb2 : max 0 (k - m) ≤ ((snoc fq q3 k)) 0 := hbst.2.1
     have hb3 : ((snoc fq q3 k)) 0 ≤ k := hbst.2.2.1
     have hjs2 := js_in hs r0 (show 0 ≤ ((snoc fq q3 k)) 0 by omega) hb3 (show r + k * s < n by omega)
     have hjy3 := jy_rng k0 (by omega) hy.1 hy.2
     have hjy2 := jy_rng (show 0 ≤ ((snoc fq q3 k)) 0 by omega) (by omega) hy.1 hy.2
     have htk2 := hTB (r + ((snoc fq q3 k)) 0 * s) (by omega) (by omega)
     refine zdla 1 (fun w hS => (xlb 2 pl_3 hS)) ?_
     refine zdv 2 (fun _ => xmv) ?_
     refine zdv 3 (fun _ => (xfb 0 fd_125_0)) ?_
     refine zdla 4 (fun w hS => (xlb 0 pl_3 hS)) ?_
     refine zdv 5 (fun _ => (xmul (r := (k * s)) (e := rfl))) ?_
     refine zdv 6 (fun _ => (xadd (r := r + (k * s)))) ?_
     refine zdv 7 (fun _ => xmv) ?_
     refine zdv 8 (fun _ => xmv) ?_
     refine zdv 9 (fun _ => (xix (kk := 0) sl_22 hv3)) ?_
     refine zdla 10 (fun w hS => (xlr (u := .int .i64 ((snoc fq q3 k) 0)) pl_3 (Frame.dq.row (hS.dqOf 3 rfl)))) ?_
     refine zdv 12 (fun _ => xmv) ?_
     refine zdv 13 (fun _ => (xfb 1 fd_125_1)) ?_
     refine zdla 14 (fun w hS => (xlb 0 pl_3 hS)) ?_
     refine zdv 15 (fun _ => (xmul (r := (k * y)) (e := rfl))) ?_
     refine zdc 11 (xcc (vs := [_]) cl_169) (c_lay1 (k := ((snoc fq q3 k) 0)) (n := n) (T := T) w (hS.holds _ (List.mem_of_getElem? (i := 1) rfl)) (hS.holds _ (List.mem_of_getElem? (i := 3) rfl)) (hS.holds _ (List.mem_of_getElem? (i := 0) rfl)) (hN.below hS.below) hTB hs hn4 hy (by omega) (by omega) (by omega)) ?_; rintro _ w ⟨rfl, hS'⟩
     replace hS := hS.cmp hS'; clear hS'
     refine ⟨⟨fun _ => hS, hS.pk [0, 1, 3, 4, 5]⟩, ?_⟩
     refine zdv 16 (fun _ => (xadd (r := (T (r + ((snoc fq q3 k) 0) * s) - ((snoc fq q3 k) 0) * y) + (k * y)))) ?_
     refine zdv 17 (fun _ => (xix (kk := r + (k * s)) sl_22 hv1)) ?_
     refine zde 18 (xso 2 pl_3 hS (upd_ints _ _ _)) ?_; clear hS; rintro w hS
     replace hS := hS.n6
     refine ⟨⟨fun h => absurd h (by decide), hS.pk [0, 1, 3, 4, 5]⟩, ?_⟩
     refine zdd <| zbn <| ztn <| zrg ?_
     refine zlv xmv ?_
     refine zlv (xadd (r := k + 1)) ?_
     refine zlv xas ?_
     refine zln <| zlq ⟨q3 + 1, k + 1, (upd gg2 (r + (k * s)) ((T (r + ((snoc fq q3 k) 0) * s) - ((snoc fq q3 k) 0) * y) + (k * y))), v3, (snoc fq q3 k), rfl, (by omega), (by omega), ?_, ?_, ?_, rfl, hS.pk [0, 1, 2, 3, 4]⟩
     ·
      exact hdq2
     ·
      exact hLY.step hs r0 (by omega) k0 (R_start hs hm.1 r0 (by omega) k0 hbst.2.1 hbst.2.2.1 (fun j j0 j1 => hbst.2.2.2 j j0 j1))
     ·
      exact hv3
    iterate 12 refine zlo ?_
    refine zlv xpf ?_
    refine zlt <| zcf <| zxt <| ztx <| ztx <| zbh <| ztn <| zsr ?_
    refine zs2 ?_
    refine zla (xli (n := 1) (len := 1) (pv := [(0, .int .i64 k)]) (cs := [.int .i64 k]) (c := ints (fun _ => k)) sl_22 el_3 hS) ?_; rintro v4 w ⟨hS, hv4⟩
    replace hS := hS.n6
    refine zla (xdqa 4 sl_22 el_3 hS (hS.rowN 5 rfl)) ?_; rintro v5 w ⟨hS, hv5⟩
    replace hS := hS.n6
    have hda := hdp.push k0 hm.1 (by show _ ≤ _ ∨ T _ - _ < T _ - _; omega)
    have hdr := hda.rng 0 (by omega) (by omega)
    refine zlv xas ?_
    refine zlt <| zsq <| zsq ?_
    refine zdst [0, 1, 2, 3, 4, 5] [0, 1, 2, 3, 4, 5] 1000 mx_ hS ?_; clear hS; intro w hS
    refine zdv 0 (fun _ => xmv) ?_
    refine zdv 1 (fun _ => (xix (kk := 0) sl_22 hv5)) ?_
    refine zdla 2 (fun w hS => (xlr (u := .int .i64 ((snoc fq q3 k) 0)) pl_3 (Frame.dq.row (hS.dqOf 4 rfl)))) ?_
    refine zdv 3 (fun _ => xmv) ?_
    refine zdv 4 (fun _ => (xfb 2 fd_125_2)) ?_
    refine zdla 5 (fun w hS => (xlb 0 pl_3 hS)) ?_
    refine zdv 6 (fun _ => (xsub (r := k - m))) ?_
    refine zdv 7 (fun _ => xlss) ?_
    refine zdd <| ztn ?_
    refine zcif ?_ ?_ <;> intro hc
    ·
     refine zrg ?_
     refine zlv xmv ?_
     have hdm := hda.more hm.1 (by omega)
     refine zlvr rfl rfl rfl (ex_slice_lo (q := 1) rfl sl_22 rfl rfl rfl hv5 rfl (by omega) (by omega)) ?_
     have hdqs3 := (dqsuf_slh (m := q3) hv5 (Frame.dq.roomy (hS.dqOf 4 rfl)) (by omega) (by omega))
     replace hS := hS.dqsuf (n := q3 + 1) 4 1 (by omega)
     replace hS := hS.dqn 4 (by omega : (q3 + 1 - ((1 : Nat) : Int) : Int) = q3)
     replace hS : Sat w0 w [.blk g1 [.int .i64 s, .int .i64 y, .int .i64 m], .blk g2 [vN], .own v1 1 3 n (ints gg2), .blk g3 [.int .i64 r], .sem (Frame.dq 3 (sufV v5 1) q3 (fun z9 => (snoc fq q3 k) (z9 + 1))), .own v4 1 3 1 (ints (fun _ => k))] := hS
     refine zlv xas ?_
     refine zlt ?_
     refine zdst [0, 1, 2, 3, 4, 5] [0, 1, 3, 4, 5] 18 mx_ hS ?_; clear hS; intro w hS
     refine zdv 0 (fun _ => xmv) ?_
     have hdq2 : DQ (fun j => T (r + j * s) - j * y) m (k + 1) (q3) ((fun z9 => (snoc fq q3 k) (z9 + 1))) := hda.drop k0 hm.1 (by omega)
     have hbst := hdq2.best k0 hm.1
     have hb2 : max 0 (k - m) ≤ ((fun z9 => (snoc fq q3 k) (z9 + 1))) 0 := hbst.2.1
     have hb3 : ((fun z9 => (snoc fq q3 k) (z9 + 1))) 0 ≤ k := hbst.2.2.1
     have hjs2 := js_in hs r0 (show 0 ≤ ((fun z9 => (snoc fq q3 k) (z9 + 1))) 0 by omega) hb3 (show r + k * s < n by omega)
     have hjy3 := jy_rng k0 (by omega) hy.1 hy.2
     have hjy2 := jy_rng (show 0 ≤ ((fun z9 => (snoc fq q3 k) (z9 + 1))) 0 by omega) (by omega) hy.1 hy.2
     have htk2 := hTB (r + ((fun z9 => (snoc fq q3 k) (z9 + 1))) 0 * s) (by omega) (by omega)
     refine zdla 1 (fun w hS => (xlb 2 pl_3 hS)) ?_
     refine zdv 2 (fun _ => xmv) ?_
     refine zdv 3 (fun _ => (xfb 0 fd_125_0)) ?_
     refine zdla 4 (fun w hS => (xlb 0 pl_3 hS)) ?_
     refine zdv 5 (fun _ => (xmul (r := (k * s)) (e := rfl))) ?_
     refine zdv 6 (fun _ => (xadd (r := r + (k * s)))) ?_
     refine zdv 7 (fun _ => xmv) ?_
     refine zdv 8 (fun _ => xmv) ?_
     refine zdv 9 (fun _ => (xix (kk := 0) sl_22 hdqs3)) ?_
     refine zdla 10 (fun w hS => (xlr (u := .int .i64 ((fun z9 => (snoc fq q3 k) (z9 + 1)) 0)) pl_3 (Frame.dq.row (hS.dqOf 3 rfl)))) ?_
     refine zdv 12 (fun _ => xmv) ?_
     refine zdv 13 (fun _ => (xfb 1 fd_125_1)) ?_
     refine zdla 14 (fun w hS => (xlb 0 pl_3 hS)) ?_
     refine zdv 15 (fun _ => (xmul (r := (k * y)) (e := rfl))) ?_
     refine zdc 11 (xcc (vs := [_]) cl_169) (c_lay1 (k := ((fun z9 => (snoc fq q3 k) (z9 + 1)) 0)) (n := n) (T := T) w (hS.holds _ (List.mem_of_getElem? (i := 1) rfl)) (hS.holds _ (List.mem_of_getElem? (i := 3) rfl)) (hS.holds _ (List.mem_of_getElem? (i := 0) rfl)) (hN.below hS.below) hTB hs hn4 hy (by omega) (by omega) (by omega)) ?_; rintro _ w ⟨rfl, hS'⟩
     replace hS := hS.cmp hS'; clear hS'
     refine ⟨⟨fun _ => hS, hS.pk [0, 1, 3, 4, 5]⟩, ?_⟩
     refine zdv 16 (fun _ => (xadd (r := (T (r + ((fun z9 => (snoc fq q3 k) (z9 + 1)) 0) * s) - ((fun z9 => (snoc fq q3 k) (z9 + 1)) 0) * y) + (k * y)))) ?_
     refine zdv 17 (fun _ => (xix (kk := r + (k * s)) sl_22 hv1)) ?_
     refine zde 18 (xso 2 pl_3 hS (upd_ints _ _ _)) ?_; clear hS; rintro w hS
     replace hS := hS.n6
     refine ⟨⟨fun h => absurd h (by decide), hS.pk [0, 1, 3, 4, 5]⟩, ?_⟩
     refine zdd <| zbn <| ztn <| zrg ?_
     refine zlv xmv ?_
     refine zlv (xadd (r := k + 1)) ?_
     refine zlv xas ?_
     refine zln <| zlq ⟨q3, k + 1, (upd gg2 (r + (k * s)) ((T (r + ((fun z9 => (snoc fq q3 k) (z9 + 1)) 0) * s) - ((fun z9 => (snoc fq q3 k) (z9 + 1)) 0) * y) + (k * y))), (sufV v5 1), (fun z9 => (snoc fq q3 k) (z9 + 1)), rfl, (by omega), (by omega), ?_, ?_, ?_, rfl, hS.pk [0, 1, 2, 3, 4]⟩
     ·
      exact hdq2
     ·
      exact hLY.step hs r0 (by omega) k0 (R_start hs hm.1 r0 (by omega) k0 hbst.2.1 hbst.2.2.1 (fun j j0 j1 => hbst.2.2.2 j j0 j1))
     ·
      exact hdqs3
    refine zsk <| ztn ?_
    refine zdst [0, 1, 2, 3, 4, 5] [0, 1, 3, 4, 5] 18 mx_ hS ?_; clear hS; intro w hS
    refine zdv 0 (fun _ => xmv) ?_
    have hdq2 : DQ (fun j => T (r + j * s) - j * y) m (k + 1) (q3 + 1) ((snoc fq q3 k)) := hda.keep k0 (by omega)
    have hbst := hdq2.best k0 hm.1
    have hb2 : max 0 (k - m) ≤ ((snoc fq q3 k)) 0 := hbst.2.1
    have hb3 : ((snoc fq q3 k)) 0 ≤ k := hbst.2.2.1
    have hjs2 := js_in hs r0 (show 0 ≤ ((snoc fq q3 k)) 0 by omega) hb3 (show r + k * s < n by omega)
    have hjy3 := jy_rng k0 (by omega) hy.1 hy.2
    have hjy2 := jy_rng (show 0 ≤ ((snoc fq q3 k)) 0 by omega) (by omega) hy.1 hy.2
    have htk2 := hTB (r + ((snoc fq q3 k)) 0 * s) (by omega) (by omega)
    refine zdla 1 (fun w hS => (xlb 2 pl_3 hS)) ?_
    refine zdv 2 (fun _ => xmv) ?_
    refine zdv 3 (fun _ => (xfb 0 fd_125_0)) ?_
    refine zdla 4 (fun w hS => (xlb 0 pl_3 hS)) ?_
    refine zdv 5 (fun _ => (xmul (r := (k * s)) (e := rfl))) ?_
    refine zdv 6 (fun _ => (xadd (r := r + (k * s)))) ?_
    refine zdv 7 (fun _ => xmv) ?_
    refine zdv 8 (fun _ => xmv) ?_
    refine zdv 9 (fun _ => (xix (kk := 0) sl_22 hv5)) ?_
    refine zdla 10 (fun w hS => (xlr (u := .int .i64 ((snoc fq q3 k) 0)) pl_3 (Frame.dq.row (hS.dqOf 3 rfl)))) ?_
    refine zdv 12 (fun _ => xmv) ?_
    refine zdv 13 (fun _ => (xfb 1 fd_125_1)) ?_
    refine zdla 14 (fun w hS => (xlb 0 pl_3 hS)) ?_
    refine zdv 15 (fun _ => (xmul (r := (k * y)) (e := rfl))) ?_
    refine zdc 11 (xcc (vs := [_]) cl_169) (c_lay1 (k := ((snoc fq q3 k) 0)) (n := n) (T := T) w (hS.holds _ (List.mem_of_getElem? (i := 1) rfl)) (hS.holds _ (List.mem_of_getElem? (i := 3) rfl)) (hS.holds _ (List.mem_of_getElem? (i := 0) rfl)) (hN.below hS.below) hTB hs hn4 hy (by omega) (by omega) (by omega)) ?_; rintro _ w ⟨rfl, hS'⟩
    replace hS := hS.cmp hS'; clear hS'
    refine ⟨⟨fun _ => hS, hS.pk [0, 1, 3, 4, 5]⟩, ?_⟩
    refine zdv 16 (fun _ => (xadd (r := (T (r + ((snoc fq q3 k) 0) * s) - ((snoc fq q3 k) 0) * y) + (k * y)))) ?_
    refine zdv 17 (fun _ => (xix (kk := r + (k * s)) sl_22 hv1)) ?_
    refine zde 18 (xso 2 pl_3 hS (upd_ints _ _ _)) ?_; clear hS; rintro w hS
    replace hS := hS.n6
    refine ⟨⟨fun h => absurd h (by decide), hS.pk [0, 1, 3, 4, 5]⟩, ?_⟩
    refine zdd <| zbn <| ztn <| zrg ?_
    refine zlv xmv ?_
    refine zlv (xadd (r := k + 1)) ?_
    refine zlv xas ?_
    refine zln <| zlq ⟨q3 + 1, k + 1, (upd gg2 (r + (k * s)) ((T (r + ((snoc fq q3 k) 0) * s) - ((snoc fq q3 k) 0) * y) + (k * y))), v5, (snoc fq q3 k), rfl, (by omega), (by omega), ?_, ?_, ?_, rfl, hS.pk [0, 1, 2, 3, 4]⟩
    ·
     exact hdq2
    ·
     exact hLY.step hs r0 (by omega) k0 (R_start hs hm.1 r0 (by omega) k0 hbst.2.1 hbst.2.2.1 (fun j j0 j1 => hbst.2.2.2 j j0 j1))
    ·
     exact hv5
   refine zxt <| ztx <| ztx <| zbh <| zbn <| ztn <| zrg ?_
   refine zlv (xadd (r := r + 1)) ?_
   refine zlv xmv ?_
   refine zln <| zlq ⟨r + 1, gg2, rfl, (by omega), (by omega), ?_, rfl, hS.pk [0, 1, 2]⟩
   ·
    exact hLY.fin (by omega)
  refine zxt <| ztx <| ztx <| zbh <| ztn <| zsr ?_
  refine zs2 ?_
  refine zlt <| zrt <| zf1 ⟨_, rfl, ?_⟩
  obtain ⟨hs1, hs2⟩ : r = min s n ∧ r ≤ n := by omega
  replace hS := hS.recont 2 rfl (d := ints (R T s y m.toNat)) (fun c c0 c1 => by
    unfold ints; rw [hg c c0 (by omega) (by rcases Int.lt_or_le c s with h1 | h1; rw [Int.emod_eq_of_lt c0 h1]; omega; have := Int.emod_lt_of_pos c (show 0 < s by omega); omega)])
  exact ⟨_, rfl, hv1, hS.pk [2]⟩

theorem Sat.revrows {w w0 : World} {l : List Ent} {E : TypeId} {n : Int} {vv : Int → Value} {ln : Int → Int} {f : Int → Int → Int} (i : Nat) (h : Sat w0 w l) (hi : l[i]? = some (.sem (Frame.rows E n vv ln f))) : Sat w0 w (l.set i (.sem (Frame.rows E n (fun k => vv (n - 1 - k)) (fun k => ln (n - 1 - k)) (fun k => f (n - 1 - k))))) :=
  h.resem i hi (fun ⟨h1, h2⟩ => ⟨fun k k0 k1 => h1 (n - 1 - k) (by omega) (by omega), fun a b a0 a1 b0 b1 hab => h2 (n - 1 - a) (n - 1 - b) (by omega) (by omega) (by omega) (by omega) (by omega)⟩) fun g ⟨k, k0, k1, hk⟩ => ⟨n - 1 - k, by omega, by omega, hk⟩
theorem KI_R (t : Its) {i : Int} (i0 : 0 ≤ i) (i1 : i < t.n) : ints (R (KI t (i + 1)) (t.S i) (t.V i) (t.M i).toNat) = ints (KI t i) := by rw [KI_step t i0 i1]

theorem row_eq {w : World} {v : Value} {n : Int} {f g : Int → Int} (h : Row w v 1 n (ints f)) (e : f = g) : Row w v 1 n (ints g) := e ▸ h

set_option maxHeartbeats 4000000 in
set_option maxRecDepth 20000 in
theorem c_layers {vI : Value} {t : Its} {cap : Int} (w0 : World) (hI : Row w0 vI 3 t.n (dcells t.S t.V t.M)) (hk : t.Ok cap) :
    Calls Tryz.prog 115 [vI, .int .i64 cap].toArray w0 fun e w => ∃ v, e = .returned v ∧ ∃ r vv, v = r ∧ Slh r (t.n + 1) ∧ Sat w0 w [.own r 1 22 (t.n + 1) vv, .sem (Frame.rows 3 (t.n + 1) vv (fun _ => cap + 1) (KI t))] := by
  have hn := hI.slh.n0
  have hk1 := hk.n; have hk2 := hk.c0; have hk3 := hk.c1
  refine zenG Tryz.func115 Tryz.ntmps115 fun w hS => ?_
  refine zsr ?_
  refine zlv xas ?_
  refine zlz ?_
  refine zlv xmv ?_
  refine zlv (xln sl_123 hI.slh) ?_
  refine zlv (xadd (r := t.n + 1)) ?_
  refine zla (xmk sl_27 el_22 hS) ?_; rintro v1 w ⟨hS, hv1⟩
  replace hS := hS.n1
  refine zlv xas ?_
  refine zlz ?_
  refine zs2 ?_
  refine zlv (xln sl_123 hI.slh) ?_
  refine zlv xmv ?_
  refine zlv (xadd (r := cap + 1)) ?_
  refine zla (xmk sl_22 el_3 hS) ?_; rintro v2 w ⟨hS, hv2⟩
  replace hS := hS.n2
  refine zlv (xix (kk := t.n) sl_27 hv1) ?_
  refine zle (xso 0 pl_22 hS rfl (hv := hv2.one)) ?_; clear hS; rintro w hS
  replace hS := hS.n2
  refine zlt <| zsq <| zsr ?_
  refine zlv xmv ?_
  refine zlv (xln sl_123 hI.slh) ?_
  refine zlv (xsub (r := t.n - 1)) ?_
  refine zlv xas ?_
  refine zlt <| zbk ?_
  replace hS := hS.addrows 3 (fun _ => Value.slice none 0 0) (fun _ => cap + 1) (fun j => KI t (t.n - j))
  replace hS := hS.n3
  have hrs0 := fun k (k0 : 0 ≤ k) (k1 : k < 0) => hS.slhIn 2 rfl k0 k1
  replace hS := Sat.merge2 (l1 := [_]) (l2 := []) (l3 := []) hS (by omega)
  have hrs1 := fun k (k0 : 0 ≤ k) (k1 : k < 1) => hS.slhIn 1 rfl k0 k1
  replace hS := hS.n2
  replace hS := hS.rerows (vv' := gsn (fun _ => Value.slice none 0 0) 0 v2) (ln' := fun _ => cap + 1) (f' := fun j => KI t (t.n - j)) 1 rfl (fun k k0 k1 => by
    by_cases e : k < 0
    · exact ⟨rfl, gsn_lt e, fun j _ _ => by rw [gsn_lt e]⟩
    · have hk9 : k = 0 := by omega
      refine ⟨rfl, gsn_at e, fun j _ _ => ?_⟩
      rw [gsn_at e, hk9]; rw [show t.n - (0 : Int) = t.n by omega, KI_end])
  replace hS := hS.n2
  have hrs1x := fun k (k0 : 0 ≤ k) (k1 : k < 1) => hS.slhIn 1 rfl k0 k1
  refine zlp (fun mm M w => ∃ (nC : Int) (wv : Int → Value) (rv : Int → Value) (i : Int), mm = ((i + 1).toNat) ∧ (-1 ≤ i) ∧ (i ≤ t.n - 1) ∧ (nC = t.n - i) ∧ (∀ j, 0 ≤ j → j < nC → wv (t.n - j) = rv j) ∧ M = [(0, vI), (4, .slice none 0 0), (5, v1), (6, .int .i64 i)] ∧ Sat w0 w [.own v1 1 22 (t.n + 1) wv, .sem (Frame.rows 3 nC rv (fun _ => cap + 1) (fun j => KI t (t.n - j)))]) ⟨1, upd (fun _ => .slice none 0 0) t.n (v2), gsn (fun _ => Value.slice none 0 0) 0 v2, (t.n - 1), rfl, (by omega), (by omega), (by omega), ?_, rfl, hS⟩ ?_
  ·
   intro j j0 j1; obtain rfl : j = 0 := by omega
   rw [show t.n - (0 : Int) = t.n by omega, gu_self, gsn_at (by omega)]
  clear hS w
  rintro mm M w ⟨nC, wv, rv, i, rfl, i0, i1, hnC, hwv, rfl, hS⟩
  have hrs2 := fun k (k0 : 0 ≤ k) (k1 : k < nC) => hS.slhIn 1 rfl k0 k1
  refine zsq <| zsr ?_
  refine zs2 ?_
  refine zlt ?_
  refine zcif ?_ ?_ <;> intro hc
  ·
   refine zsk <| ztn <| zsq <| zbk ?_
   refine zdst [0, 1] [1] 13 mx_ hS ?_; clear hS; intro w hS
   refine zdv 0 (fun _ => xmv) ?_
   refine zdv 1 (fun _ => xmv) ?_
   refine zdv 2 (fun _ => xmv) ?_
   refine zdv 3 (fun _ => xmv) ?_
   refine zdv 4 (fun _ => (xix (kk := 3 * i) sl_123 hI.slh)) ?_
   refine zdla 5 (fun w hS => (xlw (cs := [.int .i64 (t.S i), .int .i64 (t.V i), .int .i64 (t.M i)]) st_125 (hI.below hS.below) (dcells_at (k := 3 * i) (i := i) t.S t.V t.M (by omega)))) ?_
   have hev := hk.all i (by omega) (by omega); unfold Its.each eachI at hev
   refine zdv 6 (fun _ => xmv) ?_
   refine zdv 7 (fun _ => xmv) ?_
   refine zdv 8 (fun _ => (xadd (r := i + 1))) ?_
   refine zdv 9 (fun _ => (xix (kk := i + 1) sl_27 hv1)) ?_
   refine zdl 10 (fun w hS => (xlr (u := (rv (t.n - i - 1))) pl_22 (hS.rowN 0 rfl) (e := (by have := hwv (t.n - i - 1) (by omega) (by omega); rwa [show t.n - (t.n - i - 1) = i + 1 by omega] at this)))) ?_
   refine zdc 11 (xc0 cl_153) (c_layer (n := cap + 1) (s := (t.S i)) (y := (t.V i)) (m := (t.M i)) (T := KI t (i + 1)) w (row_eq (hS.rowIn (k := t.n - i - 1) 1 rfl (by omega) (by omega)) (by show KI t (t.n - (t.n - i - 1)) = _; congr 1; omega)) (fun c c0 c1 => by have := KI_bound hk (i := i + 1) (by omega) (by omega) c0; omega) (by omega) (by omega) (by omega) (by omega) (by omega)) ?_; rintro vlly1 w ⟨_, rfl, hvlly1, hS'⟩
   replace hS : Sat w0 w [.own v1 1 22 (t.n + 1) wv, .sem (Frame.rows 3 nC rv (fun _ => cap + 1) (fun j => KI t (t.n - j))), .own vlly1 1 3 (cap + 1) (ints (R (KI t (i + 1)) (t.S i) (t.V i) ((t.M i)).toNat))] := hS.comp hS'; clear hS'
   refine ⟨⟨fun _ => hS.pk [0, 1], hS.pk [1]⟩, ?_⟩
   refine zdv 12 (fun _ => (xix (kk := i) sl_27 hv1)) ?_
   refine zde 13 (xso 0 pl_22 hS rfl (hv := hvlly1.one)) ?_; clear hS; rintro w hS
   replace hS := hS.n3
   refine ⟨⟨fun h => absurd h (by decide), hS.pk [1]⟩, ?_⟩
   refine zdd <| zbn <| ztn <| zrg ?_
   refine zlv xmv ?_
   refine zlv (xsub (r := i - 1)) ?_
   refine zlv xas ?_
   refine zln ?_
   replace hS := Sat.merge (l1 := [_]) (l2 := []) (l3 := []) hS (by omega)
   have hrs3 := fun k (k0 : 0 ≤ k) (k1 : k < nC + 1) => hS.slhIn 1 rfl k0 k1
   replace hS := hS.n2
   replace hS := hS.rerows (vv' := gsn rv nC vlly1) (ln' := fun _ => cap + 1) (f' := fun j => KI t (t.n - j)) 1 rfl (fun k k0 k1 => by
     by_cases e : k < nC
     · exact ⟨rfl, gsn_lt e, fun j _ _ => by rw [gsn_lt e]⟩
     · have hk9 : k = nC := by omega
       refine ⟨rfl, gsn_at e, fun j _ _ => ?_⟩
       rw [gsn_at e, hk9]; rw [hnC, show t.n - (t.n - i) = i by omega, KI_step t (i := i) (by omega) (by omega)])
   replace hS := hS.n2
   have hrs3x := fun k (k0 : 0 ≤ k) (k1 : k < nC + 1) => hS.slhIn 1 rfl k0 k1
   refine zlq ⟨nC + 1, upd wv i (vlly1), gsn rv nC vlly1, i - 1, rfl, (by omega), (by omega), (by omega), ?_, rfl, hS⟩
   ·
    intro j j0 j1; by_cases e : j = nC
    · rw [e, hnC, show t.n - (t.n - i) = i by omega, gu_self, gsn_at (by omega)]
    · rw [gu_ne (by omega), gsn_lt (by omega)]; exact hwv j j0 (by omega)
  refine zxt <| ztx <| ztx <| zbh <| ztn <| zsr ?_
  refine zs2 ?_
  refine zlt <| zrt <| zf1 ⟨_, rfl, ?_⟩
  obtain rfl : i = -1 := by omega
  obtain rfl : nC = t.n + 1 := by omega
  replace hS := Sat.revrows 1 hS rfl
  replace hS := hS.rerows (vv' := wv) (ln' := fun _ => cap + 1) (f' := KI t) 1 rfl (fun k k0 k1 => ⟨by rw [← hwv _ (by omega) (by omega)]; congr 1; omega, rfl, fun j _ _ => by show KI t (t.n - (t.n + 1 - 1 - k)) j = _; congr 1; omega⟩)
  exact ⟨_, _, rfl, hv1, hS.pk [0, 1]⟩

def KSolR (t : Its) (cap n : Int) (x : Int → Int) (val e : Int) : Prop := (¬ t.Ok cap ∧ n = 0 ∧ val = 0 ∧ e = 1) ∨ (t.Ok cap ∧ n = t.n ∧ KX t cap x t.n ∧ val = KI t 0 cap ∧ e = 0)
theorem it_size {t : Its} {cap : Int} (hk : t.Ok cap) {i j c : Int} (i0 : 0 ≤ i) (i1 : i < t.n) (j0 : 0 ≤ j) (j1 : j ≤ c.tdiv (t.S i)) (c0 : 0 ≤ c) : 0 ≤ j * t.S i ∧ j * t.S i ≤ c := by
  have he := hk.all i i0 i1
  unfold Its.each eachI at he
  have hq := quo_facts (a := c) (b := t.S i) c0 he.1
  have h1 := Int.mul_nonneg j0 (show 0 ≤ t.S i by omega)
  have h2 := Int.mul_le_mul_of_nonneg_right j1 (show 0 ≤ t.S i by omega)
  omega
theorem it_div {t : Its} {cap : Int} (hk : t.Ok cap) {i j c : Int} (i0 : 0 ≤ i) (i1 : i < t.n) (h : j * t.S i ≤ c) (c0 : 0 ≤ c) : j ≤ c.tdiv (t.S i) := by
  have he := hk.all i i0 i1
  unfold Its.each eachI at he
  rw [Int.tdiv_eq_ediv_of_nonneg c0]
  exact (Int.le_ediv_iff_mul_le (by omega)).2 h
theorem it_val {t : Its} {cap : Int} (hk : t.Ok cap) {i j : Int} (i0 : 0 ≤ i) (i1 : i < t.n) (j0 : 0 ≤ j) (j1 : j ≤ 4001) : 0 ≤ j * t.V i ∧ j * t.V i ≤ 4296041037824 := by
  have he := hk.all i i0 i1
  unfold Its.each eachI at he
  exact jy_rng j0 j1 he.2.2.1 he.2.2.2.1

set_option maxHeartbeats 4000000 in
set_option maxRecDepth 20000 in
theorem c_ksolve {vI : Value} {t : Its} {cap : Int} (w0 : World) (hI : Row w0 vI 3 t.n (dcells t.S t.V t.M)) :
    Calls Tryz.prog 80 [vI, .int .i64 cap].toArray w0 fun e w => ∃ v, e = .returned v ∧ ∃ r n x val e, v = .tuple #[r, .int .i64 val, .int .i64 e] ∧ KSolR t cap n x val e ∧ Slh r n ∧ Sat w0 w [.own r 1 3 n (ints x)] := by
  have hn := hI.slh.n0
  refine zenG Tryz.func80 Tryz.ntmps80 fun w hS => ?_
  refine zsr ?_
  refine zs3 ?_
  refine zlt <| zsq <| zsr ?_
  refine zs2 ?_
  refine zlc (xc0 cl_114) (c_kvalid (t := t) (cap := cap) w (hI.below hS.below)) ?_; rintro _ w ⟨rfl, hS'⟩
  replace hS := hS.cmp hS'; clear hS'
  refine zlv xnot ?_
  refine zlt ?_
  refine zcif ?_ ?_ <;> intro hc
  ·
   refine zsr ?_
   refine zs3 ?_
   refine zlt <| zrt <| ztr <| zf3 ⟨_, rfl, ?_⟩
   exact ⟨_, 0, fun _ => 0, 0, 1, rfl, .inl ⟨‹¬ t.Ok cap›, rfl, rfl, rfl⟩, slh_nil, (hS.addnil 1 3 (ints fun _ => 0)).pk [0]⟩
  refine zsk <| ztn <| zsr ?_
  refine zlv xmv ?_
  have hk : t.Ok cap := by first | assumption | exact Classical.not_not.1 ‹_›
  refine zlv xmv ?_
  refine zlc (xc0 cl_115) (c_layers (t := t) (cap := cap) w (hI.below hS.below) hk) ?_; rintro vlsls1 w ⟨_, wlls1, rfl, hvlsls1, hS'⟩
  replace hS : Sat w0 w [.own vlsls1 1 22 (t.n + 1) wlls1, .sem (Frame.rows 3 (t.n + 1) wlls1 (fun _ => cap + 1) (KI t))] := hS.comp hS'; clear hS'
  have hrlls1 := fun k (k0 : 0 ≤ k) (k1 : k < (t.n + 1)) => hS.slhIn 1 rfl k0 k1
  refine zlv xas ?_
  refine zlz ?_
  refine zs2 ?_
  refine zlt <| zsq <| zsr ?_
  refine zlv xmv ?_
  refine zlv (xln sl_123 hI.slh) ?_
  refine zlv xmv ?_
  refine zlt <| zbk ?_
  replace hS := hS.addnil 1 3 (ints (fun _ => 0))
  replace hS := hS.n3
  have hk1 := hk.n; have hk2 := hk.c0; have hk3 := hk.c1
  refine zlp (fun mm M w => ∃ (nx : Int) (c : Int) (i : Int) (wx : Value) (fx : Int → Int), mm = ((t.n - i).toNat) ∧ (0 ≤ i) ∧ (i ≤ t.n) ∧ (nx = i) ∧ (0 ≤ c) ∧ (c ≤ cap) ∧ (c = cap - KU t fx i.toNat) ∧ (KX t cap fx i) ∧ (Slh wx nx) ∧ M = [(1, .int .i64 cap), (4, wx), (5, .int .i64 0), (6, .int .i64 0), (7, vlsls1), (8, .int .i64 c), (20, vI), (21, .int .i64 t.n), (22, .int .i64 i)] ∧ Sat w0 w [.own vlsls1 1 22 (t.n + 1) wlls1, .sem (Frame.rows 3 (t.n + 1) wlls1 (fun _ => cap + 1) (KI t)), .own wx 1 3 nx (ints fx)]) ⟨0, cap, 0, (.slice none 0 0), (fun _ => 0), rfl, (by omega), (by omega), (by omega), (by omega), (by omega), ?_, ?_, ?_, rfl, hS⟩ ?_
  ·
   show cap = cap - 0; omega
  ·
   intro k k0 k1; omega
  ·
   exact slh_nil
  clear hS w
  rintro mm M w ⟨nx, c, i, wx, fx, rfl, i0, i1, hnx, c0, c1, hcu, hkx, hwx, rfl, hS⟩
  refine zsr ?_
  refine zlv xlss ?_
  refine zlt <| zsq ?_
  refine zcif ?_ ?_ <;> intro hc
  ·
   refine zsk <| ztn <| zsq <| zbk <| zsr ?_
   refine zlv xmv ?_
   refine zlv (xix (kk := 3 * i) sl_123 hI.slh) ?_
   refine zlv (xlw (cs := [.int .i64 (t.S i), .int .i64 (t.V i), .int .i64 (t.M i)]) st_125 (hI.below hS.below) (dcells_at (k := 3 * i) (i := i) t.S t.V t.M (by omega))) ?_
   have hev := hk.all i i0 (by omega); unfold Its.each eachI at hev
   obtain ⟨j0, hj0, hj1, hj2, hj3⟩ := KI_ex hk i0 (by omega : i < t.n) (c := c) (by omega)
   have hjd := it_div hk i0 (by omega : i < t.n) hj2 (by omega)
   have hqf := quo_facts (a := c) (b := t.S i) (by omega) hev.1
   refine zla (xal (cs := [_, _, _]) el_125 hS) ?_; rintro _ w ⟨g1, rfl, hS⟩
   replace hS := hS.n4
   refine zlv xas ?_
   refine zle (xsw 3 st_125 hS) ?_; clear hS; rintro w hS
   replace hS := hS.n4
   refine zlt <| zsq ?_
   refine zdst [0, 1, 2, 3] [0, 1, 2, 3] 1000 mx_ hS ?_; clear hS; intro w hS
   refine zdv 0 (fun _ => (xfb 2 fd_125_2)) ?_
   refine zdla 1 (fun w hS => (xlb 3 pl_3 hS)) ?_
   refine zdv 2 (fun _ => xmv) ?_
   refine zdv 3 (fun _ => (xfb 0 fd_125_0)) ?_
   refine zdla 4 (fun w hS => (xlb 3 pl_3 hS)) ?_
   refine zdv 5 (fun _ => (xquo (r := (Int.tdiv c (t.S i))))) ?_
   refine zdv 6 (fun _ => (xmin (r := (min (t.M i) (Int.tdiv c (t.S i)))))) ?_
   refine zdv 7 (fun _ => xas) ?_
   refine zdd <| ztn <| zsq <| zbk <| zlp (fun mm M w => ∃ (n : Int), mm = ((n - j0).toNat) ∧ (j0 ≤ n) ∧ (n ≤ min (t.M i) (c.tdiv (t.S i))) ∧ (∀ j, n < j → j ≤ t.M i → j * t.S i ≤ c → KI t (i + 1) (c - j * t.S i) + j * t.V i ≠ KI t i c) ∧ M = [(1, .int .i64 cap), (4, wx), (5, .int .i64 0), (6, .int .i64 0), (7, vlsls1), (8, .int .i64 c), (9, .int .i64 i), (10, .pointer (some ⟨g1, 0, none⟩)), (11, .int .i64 n), (20, vI), (21, .int .i64 t.n), (22, .int .i64 i)] ∧ Sat w0 w [.own vlsls1 1 22 (t.n + 1) wlls1, .sem (Frame.rows 3 (t.n + 1) wlls1 (fun _ => cap + 1) (KI t)), .own wx 1 3 nx (ints fx), .blk g1 [.int .i64 (t.S i), .int .i64 (t.V i), .int .i64 (t.M i)]]) ⟨(min (t.M i) (c.tdiv (t.S i))), rfl, (by omega), (by omega), ?_, rfl, hS⟩ ?_
   ·
    intro j h1 h2 h3; have := it_div hk i0 (by omega : i < t.n) h3 (by omega); omega
   clear hS w
   rintro mm M w ⟨n, rfl, hnj, hnm, hall, rfl, hS⟩
   refine zsq <| zsq ?_
   refine zdst [0, 1, 2, 3] [0, 1, 2, 3] 1000 mx_ hS ?_; clear hS; intro w hS
   refine zdv 0 (fun _ => xmv) ?_
   refine zdv 1 (fun _ => xmv) ?_
   refine zdv 2 (fun _ => (xadd (r := i + 1))) ?_
   refine zdv 3 (fun _ => (xix (kk := i + 1) sl_27 hvlsls1)) ?_
   refine zdla 4 (fun w hS => (xlr (u := (wlls1 (i + 1))) pl_22 (hS.rowN 0 rfl))) ?_
   refine zdv 5 (fun _ => xmv) ?_
   refine zdv 6 (fun _ => xmv) ?_
   have hjs := it_size hk i0 (by omega : i < t.n) (show 0 ≤ n by omega) (show n ≤ c.tdiv (t.S i) by omega) (by omega)
   have hjv := it_val hk i0 (by omega : i < t.n) (show 0 ≤ n by omega) (by omega)
   have hkb := KI_bound hk (i := i + 1) (by omega) (by omega) (c := c - n * t.S i) (by omega)
   have hkc := KI_bound hk (i := i) (by omega) (by omega) (c := c) (by omega)
   refine zdv 7 (fun _ => (xfb 0 fd_125_0)) ?_
   refine zdla 8 (fun w hS => (xlb 3 pl_3 hS)) ?_
   refine zdv 9 (fun _ => (xmul (r := (n * (t.S i))) (e := rfl))) ?_
   refine zdv 10 (fun _ => (xsub (r := c - (n * (t.S i))))) ?_
   refine zdv 11 (fun _ => (xix (kk := c - (n * (t.S i))) sl_22 (hrlls1 (i + 1) (by omega) (by omega)))) ?_
   refine zdla 12 (fun w hS => (xlr (u := .int .i64 ((KI t) (i + 1) (c - (n * (t.S i))))) pl_3 (hS.rowIn (k := i + 1) 1 rfl (by omega) (by omega)))) ?_
   refine zdv 13 (fun _ => xmv) ?_
   refine zdv 14 (fun _ => (xfb 1 fd_125_1)) ?_
   refine zdla 15 (fun w hS => (xlb 3 pl_3 hS)) ?_
   refine zdv 16 (fun _ => (xmul (r := (n * (t.V i))) (e := rfl))) ?_
   refine zdv 17 (fun _ => (xadd (r := ((KI t) (i + 1) (c - (n * (t.S i)))) + (n * (t.V i))))) ?_
   refine zdv 18 (fun _ => xmv) ?_
   refine zdv 19 (fun _ => xmv) ?_
   refine zdv 20 (fun _ => (xix (kk := i) sl_27 hvlsls1)) ?_
   refine zdla 21 (fun w hS => (xlr (u := (wlls1 i)) pl_22 (hS.rowN 0 rfl))) ?_
   refine zdv 22 (fun _ => xmv) ?_
   refine zdv 23 (fun _ => (xix (kk := c) sl_22 (hrlls1 i (by omega) (by omega)))) ?_
   refine zdla 24 (fun w hS => (xlr (u := .int .i64 ((KI t) i c)) pl_3 (hS.rowIn (k := i) 1 rfl (by omega) (by omega)))) ?_
   refine zdv 25 (fun _ => xneq) ?_
   refine zdd <| ztn ?_
   refine zcif ?_ ?_ <;> intro hc
   ·
    refine zsk <| ztn <| zbk <| zrg ?_
    refine zlv xmv ?_
    refine zlv (xsub (r := n - 1)) ?_
    refine zlv xas ?_
    refine zln <| zbn ?_
    have hne : j0 ≠ n := fun hh => by rw [hh] at hj3; omega
    refine zlq ⟨n - 1, rfl, (by omega), (by omega), ?_, rfl, hS⟩
    ·
     intro j h1 h2 h3; by_cases e : j = n
     · rw [e]; assumption
     · exact hall j (by omega) h2 h3
   refine zxt <| ztx <| ztx <| zbh <| ztn <| zsr ?_
   refine zlv xmv ?_
   have hjs := it_size hk i0 (by omega : i < t.n) (show 0 ≤ n by omega) (show n ≤ c.tdiv (t.S i) by omega) (by omega)
   have hjv := it_val hk i0 (by omega : i < t.n) (show 0 ≤ n by omega) (by omega)
   have hkb := KI_bound hk (i := i + 1) (by omega) (by omega) (c := c - n * t.S i) (by omega)
   have hkc := KI_bound hk (i := i) (by omega) (by omega) (c := c) (by omega)
   have hqe : KI t (i + 1) (c - n * t.S i) + n * t.V i = KI t i c := by omega
   refine zlv xmv ?_
   refine zla (xli (n := 1) (len := 1) (pv := [(0, .int .i64 n)]) (cs := [.int .i64 n]) (c := ints (fun _ => n)) sl_22 el_3 hS) ?_; rintro v1 w ⟨hS, hv1⟩
   replace hS := hS.n5
   refine zla (xap 2 (r := nx + 1) sl_22 el_3 hS (hS.rowN 4 rfl) (cat_snoc _ _ _)) ?_; rintro v2 w ⟨hS, hv2⟩
   replace hS := hS.n5
   refine zlv xas ?_
   refine zlt <| zrg ?_
   refine zs2 ?_
   refine zlv (xfb 0 fd_125_0) ?_
   refine zlv (xlb 3 pl_3 hS) ?_
   refine zlv (xmul (r := (n * (t.S i))) (e := rfl)) ?_
   refine zlv (xsub (r := c - (n * (t.S i)))) ?_
   refine zlv xas ?_
   refine zln <| zbn <| ztn <| zrg ?_
   refine zlv (xadd (r := i + 1)) ?_
   refine zlv xmv ?_
   refine zln <| zlq ⟨nx + 1, c - (n * (t.S i)), i + 1, v2, (snoc fx nx n), rfl, (by omega), (by omega), (by omega), (by omega), (by omega), ?_, ?_, ?_, rfl, hS.pk [0, 1, 2]⟩
   ·
    rw [hnx, KU_snoc t fx n i0]; omega
   ·
    rw [hnx]; rw [hcu] at hall hjs hqe; exact KX.snoc hkx i0 (by omega) (by omega) (by omega) hqe (fun j j0 j1 j2 => hall j j0 j1 j2)
   ·
    exact hv2
  refine zxt <| ztx <| ztx <| zbh <| ztn <| zsq ?_
  refine zdst [0, 1, 2] [0, 1, 2] 1000 mx_ hS ?_; clear hS; intro w hS
  refine zdv 0 (fun _ => xmv) ?_
  refine zdv 1 (fun _ => xmv) ?_
  refine zdv 2 (fun _ => (xix (kk := 0) sl_27 hvlsls1)) ?_
  have hk0 := KI_bound hk (i := 0) (by omega) (by omega) (c := cap) (by omega)
  refine zdla 3 (fun w hS => (xlr (u := (wlls1 0)) pl_22 (hS.rowN 0 rfl))) ?_
  refine zdv 4 (fun _ => xmv) ?_
  refine zdv 5 (fun _ => (xix (kk := cap) sl_22 (hrlls1 0 (by omega) (by omega)))) ?_
  refine zdla 6 (fun w hS => (xlr (u := .int .i64 ((KI t) 0 cap)) pl_3 (hS.rowIn (k := 0) 1 rfl (by omega) (by omega)))) ?_
  refine zdv 7 (fun _ => xas) ?_
  refine zdv 8 (fun _ => xas) ?_
  refine zdv 9 (fun _ => xas) ?_
  refine zdd <| ztn <| zrt <| zf3 ⟨_, rfl, ?_⟩
  obtain rfl : i = t.n := by omega
  subst hnx
  exact ⟨_, _, _, _, 0, rfl, .inr ⟨hk, rfl, hkx, rfl, rfl⟩, hwx, hS.pk [2]⟩

end Go.Proofs.YtopmifmfecfaaaaGreat
