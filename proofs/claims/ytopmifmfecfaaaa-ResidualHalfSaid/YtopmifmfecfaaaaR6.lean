/- The walks of FirstFit, Bars, Material. -/
import Derived.Test.YtopmifmfecfaaaaGv
import Derived.Test.YtopmifmfecfaaaaR5
namespace Go.Proofs.Ytopmifmfecfaaaa
open Go Go.RowKit Go.Proofs.Gw
set_option linter.unusedVariables false

theorem cl_44 : calledT Try.prog 44 = true := by kernel_rfl
theorem cl_45 : calledT Try.prog 45 = true := by kernel_rfl
set_option maxRecDepth 20000 in
theorem c_ffit {vL vD : Value} {p : Prob} (w0 : World) (h : PAt w0 vL vD p) :
    Calls Try.prog 18 [.agg #[vL, vD, .int .i64 p.stock, .int .i64 p.kerf]].toArray w0 fun e w => ∃ v, e = .returned v ∧ ∃ r n pv ln pt cnt e, v = .tuple #[r, .int .i64 e] ∧ FFitR p (plL n ln pt cnt) e ∧ (∀ k, 0 ≤ k → k < n → 1 ≤ cnt k ∧ cnt k ≤ 1000000) ∧ n ≤ 1000 ∧ Slh r n ∧ Sat w0 w [.own r 2 50 n (ucells pv cnt), .sem (Frame.rows 3 n pv ln pt)] := by
  have hm := h.L.slh.n0; have hm1 := h.L.slh.n1; have hd := h.D.slh.n0; have hd1 := h.D.slh.n1; have hs := h.is; have hk := h.ik
  refine zenG Try.func18 Try.ntmps18 fun w hS => ?_
  refine zsr ?_
  refine zla (xbx (cs := [_, _, _, _]) hS) ?_; rintro _ w ⟨g1, rfl, hS⟩
  replace hS := hS.n1
  refine zs2 ?_
  refine zlt <| zsq <| zsr ?_
  refine zlv (xls 0 st_39 hS) ?_
  refine zlc (xc0 cl_44) (c_chk34 (p := p) w (h.below hS.below)) ?_; rintro _ w ⟨eck1, rfl, hck1, hS'⟩
  replace hS := hS.cmp hS'; clear hS'
  refine zlv xas ?_
  refine zlz ?_
  refine zs2 ?_
  refine zlt ?_
  refine zcif ?_ ?_ <;> intro hc
  ·
   refine zsr ?_
   refine zs3 ?_
   refine zlt <| zrt <| ztr <| zf2 ⟨_, rfl, ?_⟩
   exact ⟨_, 0, fun _ => undef, fun _ => 0, fun _ _ => 0, fun _ => 0, _, rfl, ⟨hck1, fun h => by omega, fun _ => rfl⟩, fun k k0 k1 => by omega, by omega, slh_nil, ((hS.sub (.cons _ .slnil)).addnil 2 50 (ucells (fun _ => undef) (fun _ => 0))).addrows 3 (fun _ => undef) (fun _ => 0) (fun _ _ => 0)⟩
  refine zsk <| ztn <| zsr ?_
  refine zlv (xls 0 st_39 hS) ?_
  obtain ⟨hok9, htot⟩ : p.Ok ∧ psum (fun _ => 1) p.D p.m.toNat ≤ 1000 := by rcases hck1 with ⟨_, h9⟩ | ⟨_, _, h9⟩ | ⟨h8, h9, _⟩; omega; omega; exact ⟨h8, h9⟩
  refine zlc (xc0 cl_45) (c_firstfit (p := p) w (h.below hS.below) hok9 (by omega)) ?_; rintro vnn1 w ⟨_, nnn1, pnn1, lnn1, gnn1, cnn1, rfl, hnrn1, hn0n1, hn1n1, hncn1, hvnn1, hS'⟩
  replace hS : Sat w0 w [.blk g1 [vL, vD, .int .i64 p.stock, .int .i64 p.kerf], .own vnn1 2 50 nnn1 (ucells pnn1 cnn1), .sem (Frame.rows 3 nnn1 pnn1 lnn1 gnn1)] := hS.comp hS'; clear hS'
  have hrnn1 := fun k (k0 : 0 ≤ k) (k1 : k < nnn1) => hS.slhIn 2 rfl k0 k1
  refine zs2 ?_
  refine zlt <| zrt <| zf2 ⟨_, rfl, ?_⟩
  exact ⟨_, _, _, _, _, _, 0, rfl, ⟨(show eck1 = 0 by omega) ▸ hck1, fun _ => hnrn1, fun h => absurd rfl h⟩, hncn1, hn1n1, hvnn1, hS.pk [1, 2]⟩

set_option maxRecDepth 20000 in
theorem c_pbars {vV : Value} {u : Int} {pv : Int → Value} {ln : Int → Int} {pt : Int → Int → Int} {cnt : Int → Int} (w0 : World) (hV : VAt w0 vV u pv ln pt cnt) (hu6 : u ≤ 100000) (hbc : ∀ k, 0 ≤ k → k < u → 0 ≤ cnt k ∧ cnt k ≤ 1000000000) :
    Calls Try.prog 16 [vV].toArray w0 fun e w => ∃ v, e = .returned v ∧ v = .int .i64 (psum (fun _ => 1) cnt u.toNat) ∧ Sat w0 w [] := by
  have hn := hV.row.slh.n0; have hn1 := hV.row.slh.n1
  refine zenG Try.func16 Try.ntmps16 fun w hS => ?_
  refine zsr ?_
  refine zlv xas ?_
  refine zlz ?_
  refine zlv xas ?_
  refine zlt <| zsq <| zsr ?_
  refine zlv xmv ?_
  refine zlv (xln sl_43 hV.row.slh) ?_
  refine zlv xmv ?_
  refine zlt <| zbk <| zlp (fun mm M w => ∃ (s : Int) (i : Int), mm = ((u - i).toNat) ∧ (0 ≤ i) ∧ (i ≤ u) ∧ (s = psum (fun _ => 1) cnt i.toNat) ∧ (0 ≤ s ∧ s ≤ 1000000000 * i) ∧ M = [(2, .int .i64 0), (3, .int .i64 s), (6, vV), (7, .int .i64 u), (8, .int .i64 i)] ∧ Sat w0 w []) ⟨0, 0, rfl, (by omega), (by omega), ?_, (by omega), rfl, hS⟩ ?_
  ·
   rfl
  clear hS w
  rintro mm M w ⟨s, i, rfl, h0, h1, hs9, hsb, rfl, hS⟩
  refine zsr ?_
  refine zlv xlss ?_
  refine zlt <| zsq ?_
  refine zcif ?_ ?_ <;> intro hc
  ·
   refine zsk <| ztn <| zsq <| zbk <| zsr ?_
   refine zlv (xix (kk := 2 * i) sl_43 hV.row.slh) ?_
   refine zlv (xlw (cs := [(pv i), .int .i64 (cnt i)]) st_50 (hV.row.below hS.below) (ucells_at (k := 2 * i) (i := i) pv cnt (by omega))) ?_
   have hci := hbc i h0 (by omega)
   refine zla (xal (cs := [_, _]) el_50 hS) ?_; rintro _ w ⟨g1, rfl, hS⟩
   replace hS := hS.n1
   refine zle (xsw 0 st_50 hS (hd := (ones_cons (hV.p i (by omega) (by omega)).slh.one (ones_cons rfl ones_nil)))) ?_; clear hS; rintro w hS
   replace hS := hS.n1
   refine zlt <| zrg ?_
   refine zlv xmv ?_
   refine zlv (xfb 1 fd_50_1) ?_
   refine zlv (xlb 0 pl_3 hS) ?_
   refine zlv (xadd (r := s + (cnt i))) ?_
   refine zlv xas ?_
   refine zln <| zbn <| ztn <| zrg ?_
   refine zlv (xadd (r := i + 1)) ?_
   refine zlv xmv ?_
   refine zln <| zlq ⟨s + (cnt i), i + 1, rfl, (by omega), (by omega), ?_, (by omega), rfl, hS.nl⟩
   ·
    rw [psum_next _ _ h0, ← hs9]; omega
  refine zxt <| ztx <| ztx <| zbh <| ztn <| zsr ?_
  refine zs2 ?_
  refine zlt <| zrt <| zf1 ⟨_, rfl, ?_⟩
  obtain rfl : i = u := by omega
  exact ⟨congrArg (Value.int .i64) hs9, hS⟩

def MatR (p : Prob) (m e : Int) : Prop := (¬ p.Ok ∧ m = 0 ∧ e = 1) ∨ (p.Ok ∧ m = (Used p p.D p.m.toNat + (p.stock + p.kerf) - 1).tdiv (p.stock + p.kerf) ∧ e = 0)
set_option maxRecDepth 20000 in
theorem c_mat28 {vL vD : Value} {p : Prob} (w0 : World) (h : PAt w0 vL vD p) (hua : p.Ok → ∀ k, 0 ≤ k → k < p.m → 0 ≤ p.D k ∧ p.D k ≤ 2000) :
    Calls Try.prog 19 [.agg #[vL, vD, .int .i64 p.stock, .int .i64 p.kerf]].toArray w0 fun e w => ∃ v, e = .returned v ∧ ∃ m e : Int, v = .tuple #[.int .i64 m, .int .i64 e] ∧ MatR p m e ∧ Sat w0 w [] := by
  have hm := h.L.slh.n0; have hm1 := h.L.slh.n1; have hd := h.D.slh.n0; have hd1 := h.D.slh.n1; have hs := h.is; have hk := h.ik
  refine zenG Try.func19 Try.ntmps19 fun w hS => ?_
  refine zsr ?_
  refine zla (xbx (cs := [_, _, _, _]) hS) ?_; rintro _ w ⟨g1, rfl, hS⟩
  replace hS := hS.n1
  refine zs2 ?_
  refine zlt <| zsq <| zsr ?_
  refine zlv (xls 0 st_24 hS) ?_
  refine zlc (xc0 cl_10) (c_rvalid28 (p := p) w (h.below hS.below)) ?_; rintro _ w ⟨rfl, hS'⟩
  replace hS := hS.cmp hS'; clear hS'
  refine zlv xnot ?_
  refine zlt ?_
  refine zcif ?_ ?_ <;> intro hc
  ·
   refine zsr ?_
   refine zs2 ?_
   refine zlt <| zrt <| ztr <| zf2 ⟨_, rfl, ?_⟩
   exact ⟨0, 1, rfl, .inl ⟨‹¬ p.Ok›, rfl, rfl⟩, hS.nl⟩
  refine zsk <| ztn <| zsr ?_
  refine zlv (xfb 2 fd_24_2) ?_
  refine zlv (xlb 0 pl_3 hS) ?_
  have hp : p.Ok := by first | assumption | exact Classical.not_not.1 ‹_›
  have hpm := hp.m1; have hpm2 := hp.m2; have hpd := hp.d; have hs1 := hp.s1; have hs2 := hp.s2; have hk1 := hp.k1; have hk2 := hp.k2
  refine zlv (xfb 3 fd_24_3) ?_
  refine zlv (xlb 0 pl_3 hS) ?_
  refine zlv (xadd (r := p.stock + p.kerf)) ?_
  refine zlv xas ?_
  refine zlz ?_
  refine zlv (xls 0 st_24 hS) ?_
  refine zlv (xfb 1 fd_24_1) ?_
  refine zlv (xlb 0 pl_22 hS) ?_
  refine zlc (xc0 cl_46) (c_used (p := p) w (h.below hS.below) (Classical.not_not.1 ‹¬ ¬ (p.Ok)›) (h.D.below hS.below) (by omega) (hua hp)) ?_; rintro _ w ⟨rfl, hS'⟩
  replace hS := hS.cmp hS'; clear hS'
  have hub := used_bound hp (hua hp) (n := p.m) (by omega) (by omega)
  have hqd := tdiv_abs (a := Used p p.D p.m.toNat + p.stock + p.kerf - 1) (d := p.stock + p.kerf) (A := 1000000000000) (by omega) (by omega)
  refine zlv xmv ?_
  refine zlv (xadd (r := (Used p p.D p.m.toNat) + p.stock + p.kerf)) ?_
  refine zlv (xsub (r := (Used p p.D p.m.toNat) + p.stock + p.kerf - 1)) ?_
  refine zlv xmv ?_
  refine zlv (xquo (r := (Int.tdiv ((Used p p.D p.m.toNat) + p.stock + p.kerf - 1) (p.stock + p.kerf)))) ?_
  refine zs2 ?_
  refine zlt <| zrt <| zf2 ⟨_, rfl, ?_⟩
  exact ⟨_, 0, rfl, .inr ⟨hp, (by first | rfl | (congr 1; omega)), rfl⟩, hS.nl⟩

end Go.Proofs.Ytopmifmfecfaaaa
