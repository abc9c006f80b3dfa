/- The walks of the small functions of the statements of layer 39. -/
import Derived.Test.YtmlfpniaknmmfaaGv
import Derived.Test.YtmlfpniaknmmfaaW4
namespace Go.Proofs.Ytmlfpniaknmmfaa
open Go Go.RowKit Go.Proofs.Gw
set_option linter.unusedVariables false

theorem el_36 : elemT Try.prog 36 = some (.agg #[.int .i64 0, .int .i64 0, .int .i64 0, .int .i64 0], 4, 32) := by kernel_rfl
theorem c_own {vD : Value} {d : Dem} (w0 : World) (hD : DAt w0 vD d.n d.W d.H d.N) (hfew : d.n ≤ 25) :
    Calls Try.prog 14 [vD].toArray w0 fun e w => ∃ v, e = .returned v ∧ ∃ vr, v = vr ∧ Slh vr d.n ∧ Sat w0 w [.own vr 3 60 d.n (dcells d.W d.H d.N)] := by
  have hn := hD.row.slh.n0
  refine zenG Try.func14 Try.ntmps14 fun w hS => ?_
  refine zsr ?_
  refine zlv xas ?_
  refine zlz ?_
  refine zlv xas ?_
  refine zlt <| zsq <| zsr ?_
  refine zlv xmv ?_
  refine zlv (xln sl_22 hD.row.slh) ?_
  refine zlv xmv ?_
  refine zlt <| zbk ?_
  replace hS := hS.addnil 3 60 (dcells (fun _ => 0) (fun _ => 0) (fun _ => 0))
  replace hS := hS.n1
  refine zlp (fun mm M w => ∃ (W : Int → Int) (H : Int → Int) (N : Int → Int) (i : Int) (vb : Value), mm = ((d.n - i).toNat) ∧ (0 ≤ i) ∧ (i ≤ d.n) ∧ (∀ k, 0 ≤ k → k < i → W k = d.W k ∧ H k = d.H k ∧ N k = d.N k) ∧ (Slh vb i) ∧ M = [(2, .slice none 0 0), (3, vb), (6, vD), (7, .int .i64 d.n), (8, .int .i64 i)] ∧ Sat w0 w [.own vb 3 60 i (dcells W H N)]) ⟨(fun _ => 0), (fun _ => 0), (fun _ => 0), 0, (.slice none 0 0), rfl, (by omega), (by omega), ?_, ?_, rfl, hS⟩ ?_
  ·
   intro k k0 k1; omega
  ·
   exact slh_nil
  clear hS w
  rintro mm M w ⟨W, H, N, i, vb, rfl, h0, h1, hW, hvb, rfl, hS⟩
  refine zsr ?_
  refine zlv xlss ?_
  refine zlt <| zsq ?_
  refine zcif ?_ ?_ <;> intro hc
  ·
   refine zsk <| ztn <| zsq <| zbk <| zsr ?_
   refine zlv (xix (kk := 3 * i) sl_22 hD.row.slh) ?_
   refine zlv (xlw (cs := [.int .i64 (d.W i), .int .i64 (d.H i), .int .i64 (d.N i)]) st_62 (hD.row.below hS.below) (dcells_at (k := 3 * i) (i := i) d.W d.H d.N (by omega))) ?_
   have hbv := hD.bw i
   have hbv := hD.bh i
   have hbv := hD.bn i
   refine zla (xal (cs := [_, _, _]) el_62 hS) ?_; rintro _ w ⟨g1, rfl, hS⟩
   replace hS := hS.n2
   refine zle (xsw 1 st_62 hS) ?_; clear hS; rintro w hS
   replace hS := hS.n2
   refine zlt <| zrg ?_
   refine zlv xmv ?_
   refine zlv (xls 1 st_62 hS) ?_
   refine zla (xli (n := 1) (len := 1) (pv := [(0, .agg #[.int .i64 (d.W i), .int .i64 (d.H i), .int .i64 (d.N i)])]) (cs := [.int .i64 (d.W i), .int .i64 (d.H i), .int .i64 (d.N i)]) (c := dcells (fun _ => (d.W i)) (fun _ => (d.H i)) (fun _ => (d.N i))) sl_38 el_60 hS) ?_; rintro v1 w ⟨hS, hv1⟩
   replace hS := hS.n3
   refine zla (xap 0 (r := i + 1) sl_38 el_60 hS (hS.rowN 2 rfl) (cat_demand ..) (h1 := (fun k _ _ => dcells_one _ _ _ k))) ?_; rintro v2 w ⟨hS, hv2⟩
   replace hS := hS.n3
   refine zlv xas ?_
   refine zln <| zbn <| ztn <| zrg ?_
   refine zlv (xadd (r := i + 1)) ?_
   refine zlv xmv ?_
   refine zln <| zlq ⟨(snoc W i (d.W i)), (snoc H i (d.H i)), (snoc N i (d.N i)), i + 1, v2, rfl, (by omega), (by omega), ?_, ?_, rfl, hS.pk [0]⟩
   ·
    intro k k0 k1; exact ⟨snoc_all (fun j j0 j1 => (hW j j0 j1).1) rfl k k0 k1, snoc_all (fun j j0 j1 => (hW j j0 j1).2.1) rfl k k0 k1, snoc_all (fun j j0 j1 => (hW j j0 j1).2.2) rfl k k0 k1⟩
   ·
    exact hv2
  refine zxt <| ztx <| ztx <| zbh <| ztn <| zsr ?_
  refine zs2 ?_
  refine zlt <| zrt <| zf1 ⟨_, rfl, ?_⟩
  obtain rfl : i = d.n := by omega
  exact ⟨_, rfl, hvb, (hS).recont 0 rfl (dcells_congr hW)⟩

theorem c_cert {x : Crt} (w0 : World) :
    Calls Try.prog 13 [.agg #[.int .i64 x.a, .int .i64 x.p, .int .i64 x.b, .int .i64 x.q]].toArray w0 fun e w => ∃ v, e = .returned v ∧ v = .agg #[.int .i64 x.a, .int .i64 x.p, .int .i64 x.b, .int .i64 x.q] ∧ Sat w0 w [] := by
  refine zenG Try.func13 Try.ntmps13 fun w hS => ?_
  refine zsr ?_
  refine zla (xbx (cs := [_, _, _, _]) hS) ?_; rintro _ w ⟨g1, rfl, hS⟩
  replace hS := hS.n1
  refine zla (xal (cs := [_, _, _, _]) el_36 hS) ?_; rintro _ w ⟨g2, rfl, hS⟩
  replace hS := hS.n2
  refine zlz ?_
  refine zlv (xfb 0 fd_28_0) ?_
  refine zlv (xlp 0 (ds := [.int .i64 x.a, .int .i64 x.p]) st_26 hS) ?_
  refine zlv (xfb 2 fd_28_1) ?_
  refine zlv (xlp 0 (ds := [.int .i64 x.b, .int .i64 x.q]) st_26 hS) ?_
  refine zlv (xany (v := .agg #[.int .i64 x.a, .int .i64 x.p, .int .i64 x.b, .int .i64 x.q])) ?_
  refine zle (xsw 1 st_36 hS) ?_; clear hS; rintro w hS
  replace hS := hS.n2
  refine zlt <| zrt <| zfc 1 st_36 hS ⟨_, rfl, ?_⟩
  exact ⟨rfl, hS.nl⟩

theorem c_few {vD : Value} {d : Dem} (w0 : World) (hD : DAt w0 vD d.n d.W d.H d.N) :
    Calls Try.prog 11 [vD].toArray w0 fun e w => ∃ v, e = .returned v ∧ v = B (d.n ≤ 25) ∧ Sat w0 w [] := by
  refine zenG Try.func11 Try.ntmps11 fun w hS => ?_
  refine zsr ?_
  refine zlv xas ?_
  refine zlz ?_
  refine zlv xmv ?_
  refine zlv (xln sl_22 hD.row.slh) ?_
  refine zs2 ?_
  refine zlt <| zrt <| zf1 ⟨_, rfl, ?_⟩
  exact ⟨B_congr (by omega), hS⟩

end Go.Proofs.Ytmlfpniaknmmfaa
