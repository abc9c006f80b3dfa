/- The walks of total, check, pieces. -/
import Derived.Test.YtopmifmfecfaaaaGv
import Derived.Test.YtopmifmfecfaaaaP3
import Derived.Test.YtopmifmfecfaaaaFf
import Derived.Test.YtopmifmfecfaaaaGh
namespace Go.Proofs.Ytopmifmfecfaaaa
open Go Go.RowKit Go.Proofs.Gw
set_option linter.unusedVariables false

theorem cl_76 : calledT Try.prog 76 = true := by kernel_rfl
set_option maxRecDepth 20000 in
theorem c_total {vL vD : Value} {p : Prob} (w0 : World) (h : PAt w0 vL vD p) (hok : p.Ok) :
    Calls Try.prog 76 [.agg #[vL, vD, .int .i64 p.stock, .int .i64 p.kerf]].toArray w0 fun e w => ∃ v, e = .returned v ∧ v = .int .i64 (psum (fun _ => 1) p.D p.m.toNat) ∧ Sat w0 w [] := by
  have hm := h.L.slh.n0; have hm1 := h.L.slh.n1; have hd := h.D.slh.n0; have hd1 := h.D.slh.n1; have hs := h.is; have hk := h.ik
  have hpd := hok.d; have hpm2 := hok.m2
  refine zenG Try.func76 Try.ntmps76 fun w hS => ?_
  refine zsr ?_
  refine zla (xbx (cs := [_, _, _, _]) hS) ?_; rintro _ w ⟨g1, rfl, hS⟩
  replace hS := hS.n1
  refine zlv xas ?_
  refine zlz ?_
  refine zlv xas ?_
  refine zlt <| zsq <| zsr ?_
  refine zlv (xfb 1 fd_39_1) ?_
  refine zlv (xlb 0 pl_22 hS) ?_
  refine zlv (xln sl_22 h.D.slh) ?_
  refine zlv xmv ?_
  refine zlt <| zbk <| zlp (fun mm M w => ∃ (s : Int) (i : Int), mm = ((p.d - i).toNat) ∧ (0 ≤ i) ∧ (i ≤ p.d) ∧ (s = psum (fun _ => 1) p.D i.toNat) ∧ (0 ≤ s ∧ s ≤ 1000000 * i) ∧ M = [(2, .int .i64 0), (3, .int .i64 s), (7, vD), (8, .int .i64 p.d), (9, .int .i64 i)] ∧ Sat w0 w [.blk g1 [vL, vD, .int .i64 p.stock, .int .i64 p.kerf]]) ⟨0, 0, rfl, (by omega), (by omega), ?_, (by omega), rfl, hS⟩ ?_
  ·
   rfl
  clear hS w
  rintro mm M w ⟨s, i, rfl, h0, h1, hs9, hsb, rfl, hS⟩
  refine zsr ?_
  refine zlv xlss ?_
  refine zlt <| zsq ?_
  refine zcif ?_ ?_ <;> intro hc
  ·
   refine zsk <| ztn <| zsq <| zbk <| zsr ?_
   refine zlv (xix (kk := i) sl_22 h.D.slh) ?_
   refine zlv (xlr (u := .int .i64 (p.D i)) pl_3 (h.D.below hS.below)) ?_
   have hbv := h.iD i
   have he := hok.all i h0 (by omega); unfold Prob.each at he
   refine zlv xas ?_
   refine zlt <| zrg ?_
   refine zs2 ?_
   refine zlv (xadd (r := s + p.D i)) ?_
   refine zlv xas ?_
   refine zln <| zbn <| ztn <| zrg ?_
   refine zlv (xadd (r := i + 1)) ?_
   refine zlv xmv ?_
   refine zln <| zlq ⟨s + p.D i, i + 1, rfl, (by omega), (by omega), ?_, (by omega), rfl, hS⟩
   ·
    rw [psum_next _ _ h0, ← hs9]; omega
  refine zxt <| ztx <| ztx <| zbh <| ztn <| zsr ?_
  refine zs2 ?_
  refine zlt <| zrt <| zf1 ⟨_, rfl, ?_⟩
  obtain rfl : p.m = i := by omega
  rw [← hs9]
  exact ⟨rfl, hS.nl⟩

def ChkR (p : Prob) (e : Int) : Prop := (¬ p.Ok ∧ e = 1) ∨ (p.Ok ∧ 1000 < psum (fun _ => 1) p.D p.m.toNat ∧ e = 9) ∨ (p.Ok ∧ psum (fun _ => 1) p.D p.m.toNat ≤ 1000 ∧ e = 0)
set_option maxRecDepth 20000 in
theorem c_chk34 {vL vD : Value} {p : Prob} (w0 : World) (h : PAt w0 vL vD p) :
    Calls Try.prog 44 [.agg #[vL, vD, .int .i64 p.stock, .int .i64 p.kerf]].toArray w0 fun e w => ∃ v, e = .returned v ∧ ∃ e : Int, v = .int .i64 e ∧ ChkR p e ∧ Sat w0 w [] := by
  have hm := h.L.slh.n0; have hm1 := h.L.slh.n1; have hd := h.D.slh.n0; have hd1 := h.D.slh.n1; have hs := h.is; have hk := h.ik
  refine zenG Try.func44 Try.ntmps44 fun w hS => ?_
  refine zsr ?_
  refine zla (xbx (cs := [_, _, _, _]) hS) ?_; rintro _ w ⟨g1, rfl, hS⟩
  replace hS := hS.n1
  refine zlv xas ?_
  refine zlt <| zsq <| zbk <| zsr ?_
  refine zlv (xls 0 st_39 hS) ?_
  refine zlc (xc0 cl_34) (c_pvalid (p := p) w (h.below hS.below)) ?_; rintro _ w ⟨rfl, hS'⟩
  replace hS := hS.cmp hS'; clear hS'
  refine zs2 ?_
  refine zlt ?_
  refine zcif ?_ ?_ <;> intro hc
  ·
   refine zsr ?_
   refine zlv xas ?_
   refine zlt <| zrt <| zbr <| ztr <| zf1 ⟨_, rfl, ?_⟩
   exact ⟨1, rfl, .inl ⟨‹¬ p.Ok›, rfl⟩, hS.nl⟩
  refine zsr ?_
  refine zlv (xls 0 st_39 hS) ?_
  have hok9 : p.Ok := by first | assumption | exact Classical.not_not.1 ‹_›
  refine zlc (xc0 cl_76) (c_total (p := p) w (h.below hS.below) hok9) ?_; rintro _ w ⟨rfl, hS'⟩
  replace hS := hS.cmp hS'; clear hS'
  refine zs2 ?_
  refine zlt ?_
  refine zcif ?_ ?_ <;> intro hc
  ·
   refine zsr ?_
   refine zlv xas ?_
   refine zlt <| zrt <| zbr <| ztr <| zf1 ⟨_, rfl, ?_⟩
   exact ⟨9, rfl, .inr (.inl ⟨hok9, by omega, rfl⟩), hS.nl⟩
  refine zsk <| zbn <| ztn <| zsr ?_
  refine zlv xas ?_
  refine zlt <| zrt <| zf1 ⟨_, rfl, ?_⟩
  exact ⟨0, rfl, .inr (.inr ⟨hok9, by omega, rfl⟩), hS.nl⟩

theorem c_pieces {vL vD : Value} {p : Prob} (w0 : World) (h : PAt w0 vL vD p) :
    Calls Try.prog 77 [.agg #[vL, vD, .int .i64 p.stock, .int .i64 p.kerf]].toArray w0 fun e w => ∃ v, e = .returned v ∧ ∃ g, v = .func (.func 95) #[] #[.pointer (some ⟨g, 0, none⟩)] ∧ Sat w0 w [.blk g [vL, vD, .int .i64 p.stock, .int .i64 p.kerf]] := by
  refine zenG Try.func77 Try.ntmps77 fun w hS => ?_
  refine zsr ?_
  refine zla (xbx (cs := [_, _, _, _]) hS) ?_; rintro _ w ⟨g1, rfl, hS⟩
  replace hS := hS.n1
  refine zlv xas ?_
  refine zlz ?_
  refine zlv xmf ?_
  refine zlv xas ?_
  refine zlt <| zrt <| zf1 ⟨_, rfl, ?_⟩
  exact ⟨_, rfl, hS⟩

set_option maxRecDepth 20000 in
theorem c_pieces1 {vL vD : Value} {p : Prob} {gp : Nat} {St : Type} (hist : St → List Int) (Inv : St → Prop) (s0 : St) (hs0 : hist s0 = []) (hI0 : Inv s0) (w0 : World) (h : PAt w0 vL vD p) (hok : p.Ok) : ItC (St := St) (X := Int) (Tt := Unit) Try.prog w0 95 [.pointer (some ⟨gp, 0, none⟩)] [.blk gp [vL, vD, .int .i64 p.stock, .int .i64 p.kerf]] (fun x => [.int .i64 x]) (fun s x rest => Inv s ∧ ∃ c, 0 ≤ x ∧ x < p.m ∧ 0 ≤ c ∧ c < p.D x ∧ hist s = pcsTo p.D x c) (fun s x s1 => hist s1 = hist s ++ [x] ∧ Inv s1) (fun _ _ _ => False) (s0) (fun s rest => Inv s ∧ hist s = pcsTo p.D p.m 0) (fun _ _ => False) := by
  intro l C D w hS hY
  have hm := h.L.slh.n0; have hm1 := h.L.slh.n1; have hd := h.D.slh.n0; have hd1 := h.D.slh.n1; have hs := h.is; have hk := h.ik
  have hpd := hok.d; have hpm2 := hok.m2
  refine henI Try.func95 Try.ntmps95 ?_
  refine hsq <| hrz ?_
  refine zlv (xfb 1 fd_39_1) ?_
  refine zlv (xlb 1 pl_22 hS) ?_
  refine zlv (xln sl_22 h.D.slh) ?_
  refine zlv xmv ?_
  refine zln <| zh <| htn <| hbk <| hlp (fun mm M w => ∃ (s : St) (i : Int), mm = ((p.d - i).toNat) ∧ (0 ≤ i) ∧ (i ≤ p.d) ∧ (Inv s) ∧ (hist s = pcsTo p.D i 0) ∧ M = [(0, .func (.yield l) #[] #[]), (6, vD), (7, .int .i64 p.d), (8, .int .i64 i)] ∧ Sat w0 w [.sem (C s), .blk gp [vL, vD, .int .i64 p.stock, .int .i64 p.kerf]]) ⟨s0, 0, rfl, (by omega), (by omega), ?_, ?_, rfl, hS⟩ ?_
  ·
   exact hI0
  ·
   exact hs0
  clear hS w
  rintro mm M w ⟨s, i, rfl, h0, h1, hI, hh, rfl, hS⟩
  refine hsq <| hrz ?_
  refine zlv xlss ?_
  refine zln <| zh <| htn <| hsq ?_
  refine hcif ?_ ?_ <;> intro hc
  ·
   refine hsk <| htn <| hsq <| hbk <| hsq <| hrz ?_
   refine zlv xmv ?_
   refine zlv (xix (kk := i) sl_22 h.D.slh) ?_
   refine zlv (xlr (u := .int .i64 (p.D i)) pl_3 (h.D.below hS.below)) ?_
   have hbv := h.iD i
   have he := hok.all i h0 (by omega); unfold Prob.each at he
   refine zs2 ?_
   refine zln <| zh <| htn <| hsq <| hrz ?_
   refine zs2 ?_
   refine zln <| zh <| htn <| hbk <| hlp (fun mm M w => ∃ (s2 : St) (c : Int), mm = ((p.D i - c).toNat) ∧ (0 ≤ c) ∧ (c ≤ p.D i) ∧ (Inv s2) ∧ (hist s2 = pcsTo p.D i c) ∧ M = [(0, .func (.yield l) #[] #[]), (3, .int .i64 i), (6, vD), (7, .int .i64 p.d), (8, .int .i64 i), (13, .int .i64 (p.D i)), (14, .int .i64 c)] ∧ Sat w0 w [.sem (C s2), .blk gp [vL, vD, .int .i64 p.stock, .int .i64 p.kerf]]) ⟨s, 0, rfl, (by omega), (by omega), ?_, ?_, rfl, hS⟩ ?_
   ·
    exact hI
   ·
    exact hh
   clear hS w
   rintro mm M w ⟨s2, c, rfl, c0, c1, hI2, hh2, rfl, hS⟩
   refine hsq <| hrz ?_
   refine zlv xlss ?_
   refine zln <| zh <| htn <| hsq ?_
   refine hcif ?_ ?_ <;> intro hc
   ·
    refine hsk <| htn <| hsq <| hbk <| hsq <| hrg ?_
    iterate 2 refine hlv xmv ?_
    refine hly (hY s2 i _ w ⟨hI2, c, h0, by omega, c0, by omega, hh2⟩ (Sat.bundle (l1 := [_, _]) (l2 := []) hS)) ?_; rintro _ w (⟨rfl, sy1, hny1, hS⟩ | ⟨rfl, ty1, hdy1, hS⟩)
    ·
     replace hS := Sat.unbundle (l1 := [_, _]) (l3 := []) hS
     replace hS := hS.n2
     refine hlv xnt ?_
     refine hln <| htn <| hcf <| hsk <| zbn <| htn <| hrz ?_
     refine zlv (xadd (r := c + 1)) ?_
     refine zlv xmv ?_
     refine zln <| zh <| hlq ⟨sy1, c + 1, rfl, (by omega), (by omega), ?_, ?_, rfl, hS⟩
     ·
      exact hny1.2
     ·
      rw [hny1.1, hh2, ← pcsTo_next _ c0]
    ·
     replace hS := Sat.unbundle (l1 := [_, _]) (l3 := []) hS
     replace hS := hS.n2
     refine hlv xnf ?_
     refine hln <| htn <| hct <| hrt <| zbr <| ztr <| ztr <| zbr <| zbr <| ztr <| ztr <| zbr <| zf0 ⟨_, rfl, ?_⟩
     exact hdy1.elim
   refine hxt <| ztx <| ztx <| zbh <| zbn <| htn <| hrz ?_
   refine zlv (xadd (r := i + 1)) ?_
   refine zlv xmv ?_
   refine zln <| zh <| hlq ⟨s2, i + 1, rfl, (by omega), (by omega), ?_, ?_, rfl, hS⟩
   ·
    exact hI2
   ·
    rw [pcsTo_kind _ h0 (c := c) (by omega)]; exact hh2
  refine hxt <| ztx <| ztx <| zbh <| zfn0 ⟨_, rfl, ?_⟩
  exact .inl ⟨s, _, ⟨hI, by rw [hh, show i = p.m by omega]⟩, Sat.bundle (l1 := [_, _]) (l2 := []) hS⟩

end Go.Proofs.Ytopmifmfecfaaaa
