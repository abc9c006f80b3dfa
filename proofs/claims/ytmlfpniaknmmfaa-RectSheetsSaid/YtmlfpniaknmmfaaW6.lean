/- The walks of the candidates. -/
import Derived.Test.YtmlfpniaknmmfaaGv
import Derived.Test.YtmlfpniaknmmfaaW5
import Derived.Test.YtmlfpniaknmmfaaSh
import Derived.Test.YtmlfpniaknmmfaaFc
namespace Go.Proofs.Ytmlfpniaknmmfaa
open Go Go.RowKit Go.Proofs.Gw
set_option linter.unusedVariables false

theorem cl_37 : calledT Try.prog 37 = true := by kernel_rfl
theorem cl_38 : calledT Try.prog 38 = true := by kernel_rfl
theorem el_26 : elemT Try.prog 26 = some (.agg #[.int .i64 0, .int .i64 0], 2, 16) := by kernel_rfl
theorem el_34 : elemT Try.prog 34 = some (.agg #[.int .i64 0, .int .i64 0], 2, 16) := by kernel_rfl
theorem sl_52 : sliceT Try.prog 52 = some (3, 1) := by kernel_rfl
theorem sl_76 : sliceT Try.prog 76 = some (34, 2) := by kernel_rfl
theorem sl_78 : sliceT Try.prog 78 = some (26, 2) := by kernel_rfl
set_option maxRecDepth 20000 in
theorem c_cand {vs : Value} {n c : Int} {f : Int → Int} {F : Go.Proofs.Gw.Frame} (w0 w : World) (hS : Sat w0 w [.own vs 1 3 n (ints f), .sem F]) (hsl : Slh vs n) (hn : n ≤ 1000) (hc : 0 ≤ c) (hc2 : c ≤ 1000000) :
    Calls Try.prog 28 [vs, .int .i64 c].toArray w fun e w => ∃ v, e = .returned v ∧ ∃ vr m K A g, v = vr ∧ Slh vr m ∧ CandL (CandR f n c) (candOf (CandR f n c)) ∧ FL (candOf (CandR f n c)) m K A ∧ m ≤ n + 6 ∧ Kept f g n ∧ Sat w0 w [.own vs 1 3 n (ints g), .sem F, .own vr 2 34 m (fcells K A)] := by
  have hh := half_facts hc
  have hn0 := hsl.n0
  refine zenF Try.func28 Try.ntmps28 ?_
  refine zsr ?_
  refine zlv xas ?_
  refine zlz ?_
  refine zlv (xany (v := .agg #[.int .i64 0, .int .i64 0])) ?_
  refine zla (xli (n := 1) (len := 1) (pv := [(0, .agg #[.int .i64 0, .int .i64 0])]) (cs := [.int .i64 0, .int .i64 0]) (c := fcells (fun _ => 0) (fun _ => 0)) sl_76 el_34 hS) ?_; rintro v1 w ⟨hS, hv1⟩
  replace hS := hS.n3
  refine zlv xas ?_
  refine zlt <| zsq <| zsr ?_
  refine zlv xmv ?_
  refine zlt <| zbk <| zlp (fun mm M w => ∃ (m : Int) (K : Int → Int) (A : Int → Int) (i : Int) (vb : Value), mm = (((5 : Int) - i).toNat) ∧ (0 ≤ i) ∧ (i ≤ 5) ∧ (m = i + 1) ∧ (FL (base i.toNat) m K A) ∧ (Slh vb m) ∧ M = [(0, vs), (1, .int .i64 c), (4, .slice none 0 0), (5, vb), (11, .int .i64 i)] ∧ Sat w0 w [.own vs 1 3 n (ints f), .sem F, .own vb 2 34 m (fcells K A)]) ⟨1, (fun _ => 0), (fun _ => 0), 0, v1, rfl, (by omega), (by omega), (by omega), ?_, ?_, rfl, hS⟩ ?_
  ·
   exact fl_start
  ·
   exact hv1
  clear hS w
  rintro mm M w ⟨m, K, A, i, vb, rfl, h0, h1, hm, hfl, hvb, rfl, hS⟩
  refine zsr ?_
  refine zlv xlss ?_
  refine zlt <| zsq ?_
  refine zcif ?_ ?_ <;> intro hc
  ·
   refine zsk <| ztn <| zsq <| zbk <| zsr ?_
   refine zs2 ?_
   refine zlt <| zrg ?_
   refine zs2 ?_
   refine zlv (xadd (r := i + 1)) ?_
   refine zlv (xany (v := .agg #[.int .i64 1, .int .i64 (i + 1)])) ?_
   refine zla (xli (n := 1) (len := 1) (pv := [(0, .agg #[.int .i64 1, .int .i64 (i + 1)])]) (cs := [.int .i64 1, .int .i64 (i + 1)]) (c := fcells (fun _ => 1) (fun _ => i + 1)) sl_76 el_34 hS) ?_; rintro v2 w ⟨hS, hv2⟩
   replace hS := hS.n4
   refine zla (xap 2 (r := m + 1) sl_76 el_34 hS (hS.rowN 3 rfl) (cat_fn ..) (h1 := (fun k _ _ => fcells_one _ _ k))) ?_; rintro v3 w ⟨hS, hv3⟩
   replace hS := hS.n4
   refine zlv xas ?_
   refine zln <| zbn <| ztn <| zrg ?_
   refine zlv (xadd (r := i + 1)) ?_
   refine zlv xmv ?_
   refine zln <| zlq ⟨m + 1, (snoc K m 1), (snoc A m (i + 1)), i + 1, v3, rfl, (by omega), (by omega), (by omega), ?_, ?_, rfl, hS.pk [0, 1, 2]⟩
   ·
    exact (hfl.snoc 1 (i + 1)).congr (base_next h0 rfl)
   ·
    exact hv3
  refine zxt <| ztx <| ztx <| zbh <| ztn <| zsr ?_
  refine zlv xmv ?_
  refine zlc (xc0 cl_37) (sort_sat (fun p cap w => slices_Sort_int_none p cap w) (fun blk off cap zs w => slices_Sort_int blk off cap zs w) (l1 := []) (l2 := [.sem F, .own vb 2 34 m (fcells K A)]) hS) ?_; rintro _ w ⟨rfl, sg1, hsosg1, hS⟩
  replace hS := hS.n3
  refine zlt <| zsq <| zsr ?_
  refine zlv xmv ?_
  refine zlc (xc0 cl_38) (compact_sat (fun p cap w => slices_Compact_int_empty p cap w) (fun blk off cap zs w => slices_Compact_int blk off cap zs w) (l1 := []) (l2 := [.sem F, .own vb 2 34 m (fcells K A)]) hS hsosg1.rise) ?_; rintro rcg1 w ⟨_, lcg1, cg1, rfl, hcocg1, hpfcg1, hgecg1, hgzcg1, hS⟩
  replace hS := hS.n3
  have hlen := hcocg1.len
  obtain ⟨hfl0, him⟩ := (⟨hfl, (by omega : i = 5)⟩ : _ ∧ i = 5)
  subst him
  refine zlv (xln sl_52 hpfcg1.slh) ?_
  refine zlv xmv ?_
  refine zlt <| zbk <| zlp (fun mm M w => ∃ (m : Int) (K : Int → Int) (A : Int → Int) (i : Int) (vc : Value), mm = (((lcg1.length : Int) - i).toNat) ∧ (0 ≤ i) ∧ (i ≤ (lcg1.length : Int)) ∧ (m ≤ i + 6) ∧ (∃ lc, FL lc m K A ∧ CandL (Sel cg1 (c.tdiv 2) i) lc) ∧ (Slh vc m) ∧ M = [(1, .int .i64 c), (4, .slice none 0 0), (5, vc), (24, rcg1), (25, .int .i64 (lcg1.length : Int)), (26, .int .i64 i)] ∧ Sat w0 w [.own vs 1 3 n (ints cg1), .sem F, .own vc 2 34 m (fcells K A)]) ⟨m, K, A, 0, vb, rfl, (by omega), (by omega), (by omega), ?_, ?_, rfl, hS⟩ ?_
  ·
   exact ⟨_, hfl0, CandL.sel_start _ _⟩
  ·
   exact hvb
  clear hS w
  rintro mm M w ⟨m, K, A, i, vc, rfl, h0, h1, hm, hcl, hvc, rfl, hS⟩
  refine zsr ?_
  refine zlv xlss ?_
  refine zlt <| zsq ?_
  refine zcif ?_ ?_ <;> intro hc
  ·
   refine zsk <| ztn <| zsq <| zbk <| zsr ?_
   refine zlv (xix (kk := i) sl_52 hpfcg1.slh) ?_
   refine zlv (xlr (u := .int .i64 (cg1 i)) pl_3 (hpfcg1.row (hS.rowN 0 rfl))) ?_
   refine zlv xas ?_
   refine zlz ?_
   refine zs2 ?_
   refine zlv (xquo (r := (Int.tdiv c 2)) (hn := (by omega)) (hr := (by unfold I64; omega))) ?_
   refine zlc (xc0 cl_32) (c_in w) ?_; rintro _ w ⟨rfl, hS'⟩
   replace hS := hS.cmp hS'; clear hS'
   refine zlt ?_
   refine zcif ?_ ?_ <;> intro hc
   ·
    refine zrg ?_
    refine zs2 ?_
    refine zlv (xany (v := .agg #[.int .i64 2, .int .i64 (cg1 i)])) ?_
    refine zla (xli (n := 1) (len := 1) (pv := [(0, .agg #[.int .i64 2, .int .i64 (cg1 i)])]) (cs := [.int .i64 2, .int .i64 (cg1 i)]) (c := fcells (fun _ => 2) (fun _ => (cg1 i))) sl_76 el_34 hS) ?_; rintro v4 w ⟨hS, hv4⟩
    replace hS := hS.n4
    refine zla (xap 2 (r := m + 1) sl_76 el_34 hS (hS.rowN 3 rfl) (cat_fn ..) (h1 := (fun k _ _ => fcells_one _ _ k))) ?_; rintro v5 w ⟨hS, hv5⟩
    replace hS := hS.n4
    refine zlv xas ?_
    refine zln <| zbn <| ztn <| zrg ?_
    refine zlv (xadd (r := i + 1)) ?_
    refine zlv xmv ?_
    refine zln <| zlq ⟨m + 1, (snoc K m 2), (snoc A m (cg1 i)), i + 1, v5, rfl, (by omega), (by omega), (by omega), ?_, ?_, rfl, hS.pk [0, 1, 2]⟩
    ·
     obtain ⟨lc, hf, hc3⟩ := hcl
     first | exact ⟨_, hf.snoc 2 (cg1 i), hc3.sel_in h0 (fun k k0 k1 => comp_rise hcocg1 hgecg1 k0 k1 (by omega)) ‹1 ≤ cg1 i ∧ _›⟩ | exact ⟨_, hf, hc3.sel_out ‹¬ (1 ≤ cg1 i ∧ _)›⟩
    ·
     exact hv5
   refine zsk <| zbn <| ztn <| zrg ?_
   refine zlv (xadd (r := i + 1)) ?_
   refine zlv xmv ?_
   refine zln <| zlq ⟨m, K, A, i + 1, vc, rfl, (by omega), (by omega), (by omega), ?_, ?_, rfl, hS⟩
   ·
    obtain ⟨lc, hf, hc3⟩ := hcl
    first | exact ⟨_, hf.snoc 2 (cg1 i), hc3.sel_in h0 (fun k k0 k1 => comp_rise hcocg1 hgecg1 k0 k1 (by omega)) ‹1 ≤ cg1 i ∧ _›⟩ | exact ⟨_, hf, hc3.sel_out ‹¬ (1 ≤ cg1 i ∧ _)›⟩
   ·
    exact hvc
  refine zxt <| ztx <| ztx <| zbh <| ztn <| zsr ?_
  refine zs2 ?_
  refine zlt <| zrt <| zf1 ⟨_, rfl, ?_⟩
  obtain ⟨lc, hf, hc3⟩ := hcl
  obtain rfl : i = (lcg1.length : Int) := by omega
  have hc4 := hc3.sel_fin hsosg1 hcocg1 hgecg1
  obtain ⟨rfl, hc5⟩ := hc4.eq
  exact ⟨_, _, _, _, cg1, rfl, hvc, hc5, hf, by omega, kept_comp hsosg1 hcocg1 hgecg1 hgzcg1, hS⟩

set_option maxRecDepth 20000 in
theorem c_rcand {vs : Value} {n c : Int} {f : Int → Int} (w0 : World) (hR : Row w0 vs 1 n (ints f)) (hn : n ≤ 1000) (hc : 0 ≤ c) (hc2 : c ≤ 1000000) :
    Calls Try.prog 29 [vs, .int .i64 c].toArray w0 fun e w => ∃ v, e = .returned v ∧ ∃ vr m K A, v = vr ∧ Slh vr m ∧ CandL (CandR f n c) (candOf (CandR f n c)) ∧ FL (candOf (CandR f n c)) m K A ∧ m ≤ 1000010 ∧ Sat w0 w [.own vr 2 26 m (fcells K A)] := by
  have hh := half_facts hc
  have hn0 := hR.slh.n0; have hn1 := hR.slh.n1
  refine zenG Try.func29 Try.ntmps29 fun w hS => ?_
  refine zsr ?_
  refine zlv xas ?_
  refine zlz ?_
  refine zlv (xany (v := .agg #[.int .i64 0, .int .i64 0])) ?_
  refine zla (xli (n := 1) (len := 1) (pv := [(0, .agg #[.int .i64 0, .int .i64 0])]) (cs := [.int .i64 0, .int .i64 0]) (c := fcells (fun _ => 0) (fun _ => 0)) sl_78 el_26 hS) ?_; rintro v1 w ⟨hS, hv1⟩
  replace hS := hS.n1
  refine zlv xas ?_
  refine zlt <| zsq <| zsr ?_
  refine zlv xas ?_
  refine zlt <| zbk <| zlp (fun mm M w => ∃ (m : Int) (K : Int → Int) (A : Int → Int) (i : Int) (vb : Value), mm = (((6 : Int) - i).toNat) ∧ (1 ≤ i) ∧ (i ≤ 6) ∧ (m = i) ∧ (FL (base (i - 1).toNat) m K A) ∧ (Slh vb m) ∧ M = [(0, vs), (1, .int .i64 c), (4, .slice none 0 0), (5, vb), (6, .int .i64 i)] ∧ Sat w0 w [.own vb 2 26 m (fcells K A)]) ⟨1, (fun _ => 0), (fun _ => 0), 1, v1, rfl, (by omega), (by omega), (by omega), ?_, ?_, rfl, hS⟩ ?_
  ·
   exact fl_start
  ·
   exact hv1
  clear hS w
  rintro mm M w ⟨m, K, A, i, vb, rfl, h0, h1, hm, hfl, hvb, rfl, hS⟩
  refine zsq <| zsr ?_
  refine zs2 ?_
  refine zlt ?_
  refine zcif ?_ ?_ <;> intro hc
  ·
   refine zsk <| ztn <| zsq <| zbk <| zrg ?_
   refine zs2 ?_
   refine zlv (xany (v := .agg #[.int .i64 1, .int .i64 i])) ?_
   refine zla (xli (n := 1) (len := 1) (pv := [(0, .agg #[.int .i64 1, .int .i64 i])]) (cs := [.int .i64 1, .int .i64 i]) (c := fcells (fun _ => 1) (fun _ => i)) sl_78 el_26 hS) ?_; rintro v2 w ⟨hS, hv2⟩
   replace hS := hS.n2
   refine zla (xap 0 (r := m + 1) sl_78 el_26 hS (hS.rowN 1 rfl) (cat_fn ..) (h1 := (fun k _ _ => fcells_one _ _ k))) ?_; rintro v3 w ⟨hS, hv3⟩
   replace hS := hS.n2
   refine zlv xas ?_
   refine zln <| zbn <| ztn <| zrg ?_
   refine zlv xmv ?_
   refine zlv (xadd (r := i + 1)) ?_
   refine zlv xas ?_
   refine zln <| zlq ⟨m + 1, (snoc K m 1), (snoc A m i), i + 1, v3, rfl, (by omega), (by omega), (by omega), ?_, ?_, rfl, hS.pk [0]⟩
   ·
    exact (hfl.snoc 1 i).congr ((base_next (by omega) (by omega)).trans (by congr 1; omega))
   ·
    exact hv3
  refine zxt <| ztx <| ztx <| zbh <| ztn <| zsq <| zsr ?_
  refine zlv xas ?_
  refine zlt <| zbk ?_
  obtain rfl : i = 6 := by omega
  refine zlp (fun mm M w => ∃ (m : Int) (K : Int → Int) (A : Int → Int) (k : Int) (vb : Value), mm = ((c.tdiv 2 + 2 - k).toNat) ∧ (1 ≤ k) ∧ (k ≤ c.tdiv 2 + 1 ∨ (c.tdiv 2 < 1 ∧ k = 1)) ∧ (m ≤ k + 5) ∧ (∃ lc, FL lc m K A ∧ CandL (Rng f n k) lc) ∧ (Slh vb m) ∧ M = [(0, vs), (1, .int .i64 c), (4, .slice none 0 0), (5, vb), (7, .int .i64 k)] ∧ Sat w0 w [.own vb 2 26 m (fcells K A)]) ⟨m, K, A, 1, vb, rfl, (by omega), (by omega), (by omega), ?_, ?_, rfl, hS⟩ ?_
  ·
   exact ⟨_, hfl, CandL.rng_start _ _⟩
  ·
   exact hvb
  clear hS w
  rintro mm M w ⟨m, K, A, k, vb, rfl, h0, h1, hm, hcl, hvb, rfl, hS⟩
  refine zsq <| zsr ?_
  refine zs2 ?_
  refine zlv (xquo (r := (Int.tdiv c 2)) (hn := (by omega)) (hr := (by unfold I64; omega))) ?_
  refine zlv xleq ?_
  refine zlt ?_
  refine zcif ?_ ?_ <;> intro hc
  ·
   refine zsk <| ztn <| zsq <| zbk <| zsr ?_
   refine zlv xas ?_
   refine zlt <| zbk <| zlp (fun mm M w => ∃ (j : Int), mm = ((n - j).toNat) ∧ (0 ≤ j) ∧ (j ≤ n) ∧ (∀ q, 0 ≤ q → q < j → f q ≠ k) ∧ M = [(0, vs), (1, .int .i64 c), (4, .slice none 0 0), (5, vb), (7, .int .i64 k), (8, .int .i64 j)] ∧ Sat w0 w [.own vb 2 26 m (fcells K A)]) ⟨0, rfl, (by omega), (by omega), ?_, rfl, hS⟩ ?_
   ·
    intro q q0 q1; omega
   clear hS w
   rintro mm M w ⟨j, rfl, j0, j1, hno, rfl, hS⟩
   refine zsq <| zsr ?_
   refine zs2 ?_
   refine zlv (xln sl_52 hR.slh) ?_
   refine zlv xlss ?_
   refine zlt ?_
   refine zcif ?_ ?_ <;> intro hc
   ·
    refine zsk <| ztn <| zsq <| zbk <| zsr ?_
    refine zs2 ?_
    refine zlv (xix (kk := j) sl_52 hR.slh) ?_
    refine zlv (xlr (u := .int .i64 (f j)) pl_3 (hR.below hS.below)) ?_
    refine zs2 ?_
    refine zlt ?_
    refine zcif ?_ ?_ <;> intro hc
    ·
     refine zsr ?_
     refine zs2 ?_
     refine zlv (xany (v := .agg #[.int .i64 2, .int .i64 k])) ?_
     refine zla (xli (n := 1) (len := 1) (pv := [(0, .agg #[.int .i64 2, .int .i64 k])]) (cs := [.int .i64 2, .int .i64 k]) (c := fcells (fun _ => 2) (fun _ => k)) sl_78 el_26 hS) ?_; rintro v4 w ⟨hS, hv4⟩
     replace hS := hS.n2
     refine zla (xap 0 (r := m + 1) sl_78 el_26 hS (hS.rowN 1 rfl) (cat_fn ..) (h1 := (fun k _ _ => fcells_one _ _ k))) ?_; rintro v5 w ⟨hS, hv5⟩
     replace hS := hS.n2
     refine zlv xas ?_
     refine zlt <| zxt <| zbm <| ztx <| ztx <| zbh <| zbn <| ztn <| zrg ?_
     refine zlv xmv ?_
     refine zlv (xadd (r := k + 1)) ?_
     refine zlv xas ?_
     refine zln <| zlq ⟨m + 1, (snoc K m 2), (snoc A m k), k + 1, v5, rfl, (by omega), (by omega), (by omega), ?_, ?_, rfl, hS.pk [0]⟩
     ·
      obtain ⟨lc, hf, hc3⟩ := hcl
      first | exact ⟨_, hf.snoc 2 k, hc3.rng_in h0 j0 (by omega) ‹_›⟩ | exact ⟨_, hf, hc3.rng_out (fun q q0 q1 => hno q q0 (by omega))⟩
     ·
      exact hv5
    refine zsk <| zbn <| ztn <| zrg ?_
    refine zlv xmv ?_
    refine zlv (xadd (r := j + 1)) ?_
    refine zlv xas ?_
    refine zln <| zlq ⟨j + 1, rfl, (by omega), (by omega), ?_, rfl, hS⟩
    ·
     intro q q0 q1; rcases Int.lt_or_eq_of_le (show q ≤ j by omega) with hh | hh; exact hno q q0 hh; rw [hh]; assumption
   refine zxt <| ztx <| ztx <| zbh <| zbn <| ztn <| zrg ?_
   refine zlv xmv ?_
   refine zlv (xadd (r := k + 1)) ?_
   refine zlv xas ?_
   refine zln <| zlq ⟨m, K, A, k + 1, vb, rfl, (by omega), (by omega), (by omega), ?_, ?_, rfl, hS⟩
   ·
    obtain ⟨lc, hf, hc3⟩ := hcl
    first | exact ⟨_, hf.snoc 2 k, hc3.rng_in h0 j0 (by omega) ‹_›⟩ | exact ⟨_, hf, hc3.rng_out (fun q q0 q1 => hno q q0 (by omega))⟩
   ·
    exact hvb
  refine zxt <| ztx <| ztx <| zbh <| ztn <| zsr ?_
  refine zs2 ?_
  refine zlt <| zrt <| zf1 ⟨_, rfl, ?_⟩
  obtain ⟨lc, hf, hc3⟩ := hcl
  have hc4 := hc3.rng_fin (c := c) (by omega)
  obtain ⟨rfl, hc5⟩ := hc4.eq
  exact ⟨_, _, _, _, rfl, hvb, hc5, hf, by omega, hS⟩

end Go.Proofs.Ytmlfpniaknmmfaa
