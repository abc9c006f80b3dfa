/- The walks of SamePlan, Theirs. -/
import Derived.Test.YtelfplepnodbgaaGv
import Derived.Test.YtelfplepnodbgaaN2
namespace Go.Proofs.Ytelfplepnodbgaa
open Go Go.RowKit Go.Proofs.Gw
set_option linter.unusedVariables false

theorem st_139 : structT Try.prog 139 = some 2 := by kernel_rfl
set_option maxRecDepth 20000 in
theorem c_splan {vV : Value} {n : Int} {pv : Int → Value} {ln : Int → Int} {pt : Int → Int → Int} {cnt : Int → Int} {vV2 : Value} {n2 : Int} {pv2 : Int → Value} {ln2 : Int → Int} {pt2 : Int → Int → Int} {cnt2 : Int → Int} (w0 : World) (hV : VAt w0 vV n pv ln pt cnt) (hV2 : VAt w0 vV2 n2 pv2 ln2 pt2 cnt2) :
    Calls Try.prog 55 [vV, vV2].toArray w0 fun e w => ∃ v, e = .returned v ∧ v = B (SameP n n2 ln ln2 pt pt2 cnt cnt2) ∧ Sat w0 w [] := by
  have hn := hV.row.slh.n0; have hn1 := hV.row.slh.n1
  have hm1 := hV2.row.slh.n1
  refine zenG Try.func55 Try.ntmps55 fun w hS => ?_
  refine zsr ?_
  refine zlv xas ?_
  refine zlt <| zsq <| zsr ?_
  refine zlv xmv ?_
  refine zlv (xln sl_94 hV.row.slh) ?_
  refine zlv xmv ?_
  refine zlv (xln sl_94 hV2.row.slh) ?_
  refine zlv xneq ?_
  refine zlt ?_
  refine zcif ?_ ?_ <;> intro hc
  ·
   refine zsr ?_
   refine zlv xas ?_
   refine zlt <| zrt <| ztr <| zf1 ⟨_, rfl, ?_⟩
   exact ⟨false_B (by rintro ⟨h1, h2⟩; first | omega | (obtain ⟨g1, g2⟩ := h2 i h0 (by omega); first | omega | exact absurd g2 ‹_›)), hS⟩
  refine zsk <| ztn <| zsq <| zsr ?_
  refine zlv xas ?_
  refine zlt <| zbk <| zlp (fun mm M w => ∃ (i : Int), mm = ((n - i).toNat) ∧ (0 ≤ i) ∧ (i ≤ n) ∧ (∀ k, 0 ≤ k → k < i → cnt k = cnt2 k ∧ ln k = ln2 k ∧ ∀ j, 0 ≤ j → j < ln k → pt k j = pt2 k j) ∧ M = [(0, vV), (1, vV2), (5, .int .i64 i)] ∧ Sat w0 w []) ⟨0, rfl, (by omega), (by omega), ?_, rfl, hS⟩ ?_
  ·
   intro k k0 k1; omega
  clear hS w
  rintro mm M w ⟨i, rfl, h0, h1, hall, rfl, hS⟩
  refine zsq <| zsr ?_
  refine zs2 ?_
  refine zlv (xln sl_94 hV.row.slh) ?_
  refine zlv xlss ?_
  refine zlt ?_
  refine zcif ?_ ?_ <;> intro hc
  ·
   refine zsk <| ztn <| zsq <| zbk <| zsq ?_
   refine zdst [] [] 1000 mx_ hS ?_; clear hS; intro w hS
   refine zdv 0 (fun _ => xmv) ?_
   refine zdv 1 (fun _ => xmv) ?_
   refine zdv 2 (fun _ => (xix (kk := 2 * i) sl_94 hV.row.slh)) ?_
   refine zdv 3 (fun _ => (xfc (kk := 2 * i + 1) fd_106_1 hV.row.slh)) ?_
   refine zdla 4 (fun w hS => (xlr (u := .int .i64 (cnt i)) pl_3 (hV.row.below hS.below) (e := (ucells1 pv cnt (by omega))))) ?_
   refine zdv 5 (fun _ => xmv) ?_
   refine zdv 6 (fun _ => xmv) ?_
   refine zdv 7 (fun _ => (xix (kk := 2 * i) sl_94 hV2.row.slh)) ?_
   refine zdv 8 (fun _ => (xfc (kk := 2 * i + 1) fd_106_1 hV2.row.slh)) ?_
   refine zdla 9 (fun w hS => (xlr (u := .int .i64 (cnt2 i)) pl_3 (hV2.row.below hS.below) (e := (ucells1 pv2 cnt2 (by omega))))) ?_
   refine zdv 10 (fun _ => xneq) ?_
   refine zdv 11 (fun _ => xmv) ?_
   refine zdb 28 ?_ ?_ <;> intro hc
   ·
    refine zdof 12 ?_
    refine zdof 13 ?_
    refine zdof 14 ?_
    refine zdof 15 ?_
    refine zdof 16 ?_
    refine zdof 17 ?_
    refine zdof 18 ?_
    refine zdof 19 ?_
    refine zdof 20 ?_
    refine zdof 21 ?_
    refine zdof 22 ?_
    refine zdof 23 ?_
    refine zdv 24 (fun _ => xpt) ?_
    refine zdd <| ztn <| zct <| zsr ?_
    refine zlv xas ?_
    refine zlt <| zrt <| zbr <| ztr <| ztr <| zbr <| ztr <| zf1 ⟨_, rfl, ?_⟩
    exact ⟨false_B (by rintro ⟨h1, h2⟩; first | omega | (obtain ⟨g1, g2⟩ := h2 i h0 (by omega); first | omega | exact absurd g2 ‹_›)), hS⟩
   refine zdv 12 (fun _ => xmv) ?_
   refine zdv 13 (fun _ => xmv) ?_
   refine zdv 14 (fun _ => (xix (kk := 2 * i) sl_94 hV.row.slh)) ?_
   refine zdv 15 (fun _ => (xfc (kk := 2 * i) fd_106_0 hV.row.slh)) ?_
   refine zdla 16 (fun w hS => (xlr (u := (pv i)) pl_22 (hV.row.below hS.below) (e := (ucells0 pv cnt (by omega))))) ?_
   refine zdv 17 (fun _ => xmv) ?_
   refine zdv 18 (fun _ => xmv) ?_
   refine zdv 19 (fun _ => (xix (kk := 2 * i) sl_94 hV2.row.slh)) ?_
   refine zdv 20 (fun _ => (xfc (kk := 2 * i) fd_106_0 hV2.row.slh)) ?_
   refine zdla 21 (fun w hS => (xlr (u := (pv2 i)) pl_22 (hV2.row.below hS.below) (e := (ucells0 pv2 cnt2 (by omega))))) ?_
   refine zdc 22 (xc0 cl_86) (c_same28 (n := (ln i)) (m := (ln2 i)) (f := (pt i)) (g := (pt2 i)) w ((hV.p i (by omega) (by omega)).below hS.below) ((hV2.p i (by omega) (by omega)).below hS.below)) ?_; rintro _ w ⟨rfl, hS'⟩
   replace hS := hS.cmp hS'; clear hS'
   refine ⟨⟨fun _ => hS, hS⟩, ?_⟩
   refine zdv 23 (fun _ => xnot) ?_
   refine zdv 24 (fun _ => xpf) ?_
   refine zdd <| ztn ?_
   refine zcif ?_ ?_ <;> intro hc
   ·
    refine zsr ?_
    refine zlv xas ?_
    refine zlt <| zrt <| zbr <| ztr <| ztr <| zbr <| ztr <| zf1 ⟨_, rfl, ?_⟩
    exact ⟨false_B (by rintro ⟨h1, h2⟩; first | omega | (obtain ⟨g1, g2⟩ := h2 i h0 (by omega); first | omega | exact absurd g2 ‹_›)), hS⟩
   refine zsk <| zbn <| ztn <| zrg ?_
   refine zlv xmv ?_
   refine zlv (xadd (r := i + 1)) ?_
   refine zlv xas ?_
   refine zln <| zlq ⟨i + 1, rfl, (by omega), (by omega), ?_, rfl, hS⟩
   ·
    have hq : (ln i) = (ln2 i) ∧ ∀ k, 0 ≤ k → k < (ln i) → (pt i) k = (pt2 i) k := by first | assumption | exact Classical.not_not.1 ‹_›
    intro k k0 k1; rcases Int.lt_or_eq_of_le (show k ≤ i by omega) with hk | hk
    · exact hall k k0 hk
    · rw [hk]; exact ⟨by omega, hq⟩
  refine zxt <| ztx <| ztx <| zbh <| ztn <| zsr ?_
  refine zlv xas ?_
  refine zlt <| zrt <| zf1 ⟨_, rfl, ?_⟩
  exact ⟨true_B ⟨by omega, fun k k0 k1 => hall k k0 (by omega)⟩, hS⟩

set_option maxRecDepth 20000 in
theorem c_theirs {vV : Value} {n : Int} {pv : Int → Value} {ln : Int → Int} {pt : Int → Int → Int} {cnt : Int → Int} (w0 : World) (hV : VAt w0 vV n pv ln pt cnt) (hn5 : n ≤ 100000) :
    Calls Try.prog 56 [vV].toArray w0 fun e w => ∃ v, e = .returned v ∧ ∃ r, v = r ∧ Slh r n ∧ Sat w0 w [.own r 2 106 n (ucells pv cnt)] := by
  have hn := hV.row.slh.n0; have hn1 := hV.row.slh.n1
  refine zenG Try.func56 Try.ntmps56 fun w hS => ?_
  refine zsr ?_
  refine zlv xas ?_
  refine zlz ?_
  refine zlv xas ?_
  refine zlt <| zsq <| zsr ?_
  refine zlv xmv ?_
  refine zlv (xln sl_91 hV.row.slh) ?_
  refine zlv xmv ?_
  refine zlt <| zbk ?_
  replace hS := hS.addnil 2 106 (ucells (fun _ => Value.slice none 0 0) (fun _ => 0))
  replace hS := hS.n1
  refine zlp (fun mm M w => ∃ (nC : Int) (wv : Int → Value) (cC : Int → Int) (i : Int) (wC : Value), mm = ((n - i).toNat) ∧ (0 ≤ i) ∧ (i ≤ n) ∧ (nC = i) ∧ (∀ k, 0 ≤ k → k < i → wv k = pv k) ∧ (∀ k, 0 ≤ k → k < i → cC k = cnt k) ∧ (Slh wC nC) ∧ M = [(2, .slice none 0 0), (3, wC), (6, vV), (7, .int .i64 n), (8, .int .i64 i)] ∧ Sat w0 w [.own wC 2 106 nC (ucells wv cC)]) ⟨0, (fun _ => Value.slice none 0 0), (fun _ => 0), 0, (.slice none 0 0), rfl, (by omega), (by omega), (by omega), ?_, ?_, ?_, rfl, hS⟩ ?_
  ·
   intro k k0 k1; omega
  ·
   intro k k0 k1; omega
  ·
   exact slh_nil
  clear hS w
  rintro mm M w ⟨nC, wv, cC, i, wC, rfl, h0, h1, hnC, hwv, hcC, hwC, rfl, hS⟩
  refine zsr ?_
  refine zlv xlss ?_
  refine zlt <| zsq ?_
  refine zcif ?_ ?_ <;> intro hc
  ·
   refine zsk <| ztn <| zsq <| zbk <| zsr ?_
   refine zlv (xix (kk := 2 * i) sl_91 hV.row.slh) ?_
   refine zlv (xlw (cs := [(pv i), .int .i64 (cnt i)]) st_139 (hV.row.below hS.below) (ucells_at (k := 2 * i) (i := i) pv cnt (by omega))) ?_
   refine zla (xal (cs := [_, _]) el_139 hS) ?_; rintro _ w ⟨g1, rfl, hS⟩
   replace hS := hS.n2
   refine zle (xsw 1 st_139 hS (hd := (ones_cons (hV.p i (by omega) (by omega)).slh.one (ones_cons rfl ones_nil)))) ?_; clear hS; rintro w hS
   replace hS := hS.n2
   refine zlt <| zrg ?_
   refine zlv xmv ?_
   refine zlv (xls 1 st_139 hS) ?_
   refine zla (xli (n := 1) (len := 1) (pv := [(0, .agg #[(pv i), .int .i64 (cnt i)])]) (cs := [(pv i), .int .i64 (cnt i)]) (c := ucells (fun _ => (pv i)) (fun _ => (cnt i))) sl_94 el_106 hS (hf := by have hz := (hV.p i (by omega) (by omega)).slh; revert hz; generalize (pv i) = z; rintro ⟨_, _, _, _, rfl, _⟩; show _ = _; kernel_rfl)) ?_; rintro v1 w ⟨hS, hv1⟩
   replace hS := hS.n3
   refine zla (xap 0 (r := nC + 1) sl_94 el_106 hS (hS.rowN 2 rfl) (cat_ucells _ _ _ _ _) (h1 := fun k _ _ => ucells_one (fun _ => (hV.p i (by omega) (by omega)).slh.one) k)) ?_; rintro v2 w ⟨hS, hv2⟩
   replace hS := hS.n3
   refine zlv xas ?_
   refine zln <| zbn <| ztn <| zrg ?_
   refine zlv (xadd (r := i + 1)) ?_
   refine zlv xmv ?_
   refine zln <| zlq ⟨nC + 1, (gsn wv nC (pv i)), (snoc cC nC (cnt i)), i + 1, v2, rfl, (by omega), (by omega), (by omega), ?_, ?_, ?_, rfl, hS.pk [0]⟩
   ·
    intro k k0 k1; by_cases e : k < nC
    · rw [gsn_lt e]; exact hwv k k0 (by omega)
    · rw [gsn_at e, show k = i by omega]
   ·
    intro k k0 k1; by_cases e : k < nC
    · rw [snoc_lt e]; exact hcC k k0 (by omega)
    · rw [snoc_at e, show k = i by omega]
   ·
    exact hv2
  refine zxt <| ztx <| ztx <| zbh <| ztn <| zsr ?_
  refine zs2 ?_
  refine zlt <| zrt <| zf1 ⟨_, rfl, ?_⟩
  obtain rfl : i = n := by omega
  subst hnC
  replace hS := hS.recont 0 rfl (d := ucells pv cnt) (fun k k0 k1 => by unfold ucells; rw [hwv _ (by omega) (by omega), hcC _ (by omega) (by omega)])
  exact ⟨_, rfl, hwC, hS⟩

end Go.Proofs.Ytelfplepnodbgaa
