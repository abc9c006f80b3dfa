/- Part 4 of the texts that the proof needs. -/
import Derived.Test.YtkichmnjjblodaaGreatPpAC
import Derived.ProofKit
import Derived.OpenShut
import Derived.ChangeOld
import Derived.SizedLaws
import Derived.Lib.SmallJoins
import Derived.Deep.Slices
set_option linter.unusedVariables false
set_option linter.unusedSimpArgs false
set_option maxRecDepth 20000
set_option maxHeartbeats 4000000
namespace Go.Proofs.YtkichmnjjblodaaGreat
open Go Go.RowKit Go.Proofs.Gw
theorem cl_11 : calledT Tryz.prog 11 = true := by kernel_rfl
theorem cl_12 : calledT Tryz.prog 12 = true := by kernel_rfl
theorem cl_13 : calledT Tryz.prog 13 = true := by kernel_rfl
theorem cl_14 : calledT Tryz.prog 14 = true := by kernel_rfl
theorem cl_15 : calledT Tryz.prog 15 = true := by kernel_rfl
theorem cl_16 : calledT Tryz.prog 16 = true := by kernel_rfl
theorem cl_17 : calledT Tryz.prog 17 = true := by kernel_rfl
theorem cl_18 : calledT Tryz.prog 18 = true := by kernel_rfl
theorem c_same28 {va vb : Value} {n m : Int} {f g : Int → Int} (w0 : World) (hA : Row w0 va 1 n (ints f)) (hB2 : Row w0 vb 1 m (ints g)) :
    Calls Tryz.prog 18 [va, vb].toArray w0 fun e w => ∃ v, e = .returned v ∧ v = B (n = m ∧ ∀ k, 0 ≤ k → k < n → f k = g k) ∧ Sat w0 w [] := by
  have hn := hA.slh.n0; have hm1 := hB2.slh.n1; have hn1 := hA.slh.n1
  refine zenG Tryz.func18 Tryz.ntmps18 fun w hS => ?_
  refine zsr ?_
  refine zlv xas ?_
  refine zlt <| zsq <| zsr ?_
  refine zlv xmv ?_
  refine zlv (xln sl_22 hA.slh) ?_
  refine zlv xmv ?_
  refine zlv (xln sl_22 hB2.slh) ?_
  refine zlv xneq ?_
  refine zlt ?_
  refine zcif ?_ ?_ <;> intro hc
  ·
   refine zsr ?_
   refine zlv xas ?_
   refine zlt <| zrt <| ztr <| zf1 ⟨_, rfl, ?_⟩
   exact ⟨false_B (by rintro ⟨h1, h2⟩; first | omega | exact absurd (h2 i h0 (by omega)) (by omega)), hS⟩
  refine zsk <| ztn <| zsq <| zsr ?_
  refine zlv xas ?_
  refine zlt <| zbk <| zlp (fun mm M w => ∃ (i : Int), mm = ((n - i).toNat) ∧ (0 ≤ i) ∧ (i ≤ n) ∧ (∀ k, 0 ≤ k → k < i → f k = g k) ∧ M = [(0, va), (1, vb), (5, .int .i64 i)] ∧ Sat w0 w []) ⟨0, rfl, (by omega), (by omega), ?_, rfl, hS⟩ ?_
  ·
   intro k h0 h1; omega
  clear hS w
  rintro mm M w ⟨i, rfl, h0, h1, hall, rfl, hS⟩
  refine zsq <| zsr ?_
  refine zs2 ?_
  refine zlv (xln sl_22 hA.slh) ?_
  refine zlv xlss ?_
  refine zlt ?_
  refine zcif ?_ ?_ <;> intro hc
  ·
   refine zsk <| ztn <| zsq <| zbk <| zsq ?_
   refine zdst [] [] 1000 mx_ hS ?_; clear hS; intro w hS
   refine zdv 0 (fun _ => xmv) ?_
   refine zdv 1 (fun _ => xmv) ?_
   refine zdv 2 (fun _ => (xix (kk := i) sl_22 hA.slh)) ?_
   refine zdla 3 (fun w hS => (xlr (u := .int .i64 (f i)) pl_3 (hA.below hS.below))) ?_
   refine zdv 4 (fun _ => xmv) ?_
   refine zdv 5 (fun _ => xmv) ?_
   refine zdv 6 (fun _ => (xix (kk := i) sl_22 hB2.slh)) ?_
   refine zdla 7 (fun w hS => (xlr (u := .int .i64 (g i)) pl_3 (hB2.below hS.below))) ?_
   refine zdv 8 (fun _ => xneq) ?_
   refine zdd <| ztn ?_
   refine zcif ?_ ?_ <;> intro hc
   ·
    refine zsr ?_
    refine zlv xas ?_
    refine zlt <| zrt <| zbr <| ztr <| ztr <| zbr <| ztr <| zf1 ⟨_, rfl, ?_⟩
    exact ⟨false_B (by rintro ⟨h1, h2⟩; first | omega | exact absurd (h2 i h0 (by omega)) (by omega)), hS⟩
   refine zsk <| zbn <| ztn <| zrg ?_
   refine zlv xmv ?_
   refine zlv (xadd (r := i + 1)) ?_
   refine zlv xas ?_
   refine zln <| zlq ⟨i + 1, rfl, (by omega), (by omega), ?_, rfl, hS⟩
   ·
    intro k h0' h1'; rcases Int.lt_or_eq_of_le (show k ≤ i by omega) with hk | hk; exact hall k h0' hk; rw [hk]; omega
  refine zxt <| ztx <| ztx <| zbh <| ztn <| zsr ?_
  refine zlv xas ?_
  refine zlt <| zrt <| zf1 ⟨_, rfl, ?_⟩
  exact ⟨true_B ⟨by omega, fun k k0 k1 => hall k k0 (by omega)⟩, hS⟩
theorem c_awk (w0 : World) : Calls Tryz.prog 11 #[] w0 fun e w => ∃ v, e = .returned v ∧ v = .bool true ∧ Sat w0 w [] := (c_awake36 w0).mono fun e w ⟨h1, h2⟩ => ⟨_, h1, rfl, h2⟩
theorem law_parts {vL vD : Value} {p : Prob} {b : Int} {wi nl : Int} {vl : Value} {l : Int → Int} (w0 : World) (h : PAt w0 vL vD p) (hl : IAt w0 vl nl l) (hrm : Go.Proofs.Gw.Roomy vl) :
    Calls Tryz.prog 3 [.agg #[vL, vD, .int .i64 p.stock, .int .i64 p.kerf, .int .i64 b], .int .i64 wi, vl].toArray w0 fun e w => ∃ v, e = .returned v ∧ v = .bool true ∧ Sat w0 w [] := by
  have hm := h.L.slh.n0; have hm1 := h.L.slh.n1; have hd := h.D.slh.n0; have hd1 := h.D.slh.n1; have hs := h.is; have hk := h.ik
  refine zenG Tryz.func3 Tryz.ntmps3 fun w hS => ?_
  refine zsr ?_
  refine zla (xbx (cs := [_, _, _, _, _]) hS) ?_; rintro _ w ⟨g1, rfl, hS⟩
  replace hS := hS.n1
  refine zlv xas ?_
  refine zlt <| zsq <| zsr ?_
  refine zlc (xc0 cl_11) (c_awk w) ?_; rintro _ w ⟨rfl, hS'⟩
  replace hS := hS.cmp hS'; clear hS'
  refine zs2 ?_
  refine zlv (xfb 0 fd_26_0) ?_
  refine zlv (xlp 0 (ds := [vL, vD, .int .i64 p.stock, .int .i64 p.kerf]) st_24 hS) ?_
  refine zlc (xc0 cl_12) (c_few28 (p := p) w (h.below hS.below)) ?_; rintro _ w ⟨rfl, hS'⟩
  replace hS := hS.cmp hS'; clear hS'
  refine zs3 ?_
  refine zlb 22 ?_ ?_ <;> intro hc
  ·
   iterate 3 refine zlo ?_
   refine zlv xpt ?_
   refine zlt <| zct <| zsr ?_
   refine zlc (xc0 cl_11) (c_awk w) ?_; rintro _ w ⟨rfl, hS'⟩
   replace hS := hS.cmp hS'; clear hS'
   refine zlv xas ?_
   refine zlt <| zrt <| ztr <| zf1 ⟨_, rfl, ?_⟩
   exact ⟨rfl, hS.nl⟩
  refine zlv xmv ?_
  refine zlv (xln sl_22 hl.row.slh) ?_
  refine zs2 ?_
  refine zlt ?_
  refine zcif ?_ ?_ <;> intro hc
  ·
   refine zsr ?_
   refine zlc (xc0 cl_11) (c_awk w) ?_; rintro _ w ⟨rfl, hS'⟩
   replace hS := hS.cmp hS'; clear hS'
   refine zlv xas ?_
   refine zlt <| zrt <| ztr <| zf1 ⟨_, rfl, ?_⟩
   exact ⟨rfl, hS.nl⟩
  refine zsk <| ztn <| zsr ?_
  refine zlv (xls 0 st_26 hS) ?_
  refine zlc (xc0 cl_14) (c_own36 (p := p) (b := b) w (h.below hS.below)) ?_; rintro _ w ⟨rfl, hS'⟩
  replace hS := hS.cmp hS'; clear hS'
  refine zlv xmv ?_
  refine zlc (xc0 cl_13) (c_split (p := p) (b := b) (wi := wi) w (h.below hS.below)) ?_; rintro _ w ⟨vgg2, vvg2, rfl, hvgg2, hS'⟩
  replace hS : Sat w0 w [.blk g1 [vL, vD, .int .i64 p.stock, .int .i64 p.kerf, .int .i64 b], .own vgg2 5 34 (partsN p b wi) (gcells vvg2 p.stock p.kerf (b - 1)), .sem (Frame.rows 3 (2 * (partsN p b wi)) vvg2 (fun _ => p.m) (gfn p (MX p wi)))] := hS.comp hS'; clear hS'
  have hrsg2 : ∀ k, 0 ≤ k → k < 2 * (partsN p b wi) → Slh (vvg2 k) p.m := fun k k0 k1 => hS.slhIn 2 rfl k0 k1
  refine zs5 ?_
  refine zlz ?_
  refine zlv (xls 0 st_26 hS) ?_
  refine zlv xmv ?_
  refine zlc (xc0 cl_15) (c_rsplit (p := p) (b := b) (wi := wi) w (h.below hS.below)) ?_; rintro _ w ⟨vgg3, vvg3, rfl, hvgg3, hS'⟩
  replace hS : Sat w0 w [.blk g1 [vL, vD, .int .i64 p.stock, .int .i64 p.kerf, .int .i64 b], .own vgg2 5 34 (partsN p b wi) (gcells vvg2 p.stock p.kerf (b - 1)), .sem (Frame.rows 3 (2 * (partsN p b wi)) vvg2 (fun _ => p.m) (gfn p (MX p wi))), .own vgg3 5 26 (partsN p b wi) (gcells vvg3 p.stock p.kerf (b - 1)), .sem (Frame.rows 3 (2 * (partsN p b wi)) vvg3 (fun _ => p.m) (gfn p (MX p wi)))] := hS.comp hS'; clear hS'
  have hrsg3 : ∀ k, 0 ≤ k → k < 2 * (partsN p b wi) → Slh (vvg3 k) p.m := fun k k0 k1 => hS.slhIn 4 rfl k0 k1
  refine zs5 ?_
  refine zlt <| zsq <| zsq ?_
  refine zdst [0, 1, 2, 3, 4] [0, 1, 2, 3, 4] 1000 mx_ hS ?_; clear hS; intro w hS
  refine zdv 0 (fun _ => xmv) ?_
  refine zdv 1 (fun _ => xmv) ?_
  refine zdb 41 ?_ ?_ <;> intro hc
  ·
   refine zdb 42 ?_ ?_ <;> intro hc
   ·
    refine zdv 2 (fun _ => (xany (v := .bool false))) ?_
    refine zdv 3 (fun _ => xmv) ?_
    refine zdv 4 (fun _ => xmv) ?_
    refine zdv 5 (fun _ => (xln sl_29 hvgg2)) ?_
    refine zdv 6 (fun _ => xmv) ?_
    refine zdv 7 (fun _ => (xln sl_36 hvgg3)) ?_
    refine zdv 8 (fun _ => (xkf xneq)) ?_
    refine zdv 9 (fun _ => xpf) ?_
    refine zdv 10 (fun _ => xmv) ?_
    refine zdla 11 (fun w hS => (xls 0 st_26 hS)) ?_
    refine zdv 13 (fun _ => xmv) ?_
    refine zdla 15 (fun w hS => (xls 0 st_26 hS)) ?_
    refine zdv 16 (fun _ => xmv) ?_
    refine zdc 12 (xc0 cl_14) (c_own36 (p := p) (b := b) w (h.below hS.below)) ?_; rintro _ w ⟨rfl, hS'⟩
    replace hS := hS.cmp hS'; clear hS'
    refine ⟨⟨fun _ => hS, hS⟩, ?_⟩
    refine zdc 14 (xc0 cl_16) (c_leaf (p := p) (b := b) w (h.below hS.below) (hl.below hS.below) hrm) ?_; rintro _ w ⟨rfl, hS'⟩
    replace hS := hS.cmp hS'; clear hS'
    refine ⟨⟨fun _ => hS, hS⟩, ?_⟩
    refine zdc 17 (xc0 cl_17) (c_rleaf (p := p) (b := b) w (h.below hS.below) (hl.below hS.below) hrm) ?_; rintro _ w ⟨rfl, hS'⟩
    replace hS := hS.cmp hS'; clear hS'
    refine ⟨⟨fun _ => hS, hS⟩, ?_⟩
    refine zdb 55 ?_ ?_ <;> intro hc
    ·
     refine zdb 58 ?_ ?_ <;> intro hc
     ·
      refine zdv 18 (fun _ => (xany (v := .bool false))) ?_
      refine zdv 19 (fun _ => xpf) ?_
      refine zdd <| ztn <| zcf <| zsk <| ztn <| zsq <| zsr ?_
      refine zlv xmv ?_
      refine zlv (xln sl_29 hvgg2) ?_
      have hpn := hvgg2.n0; have hpn1 := hvgg2.n1
      refine zlv xmv ?_
      refine zlt <| zbk <| zlp (fun mm M w => ∃ (i : Int), mm = ((partsN p b wi - i).toNat) ∧ (0 ≤ i) ∧ (i ≤ partsN p b wi) ∧ M = [(7, vgg2), (9, vgg3), (62, .int .i64 (partsN p b wi)), (63, .int .i64 i)] ∧ Sat w0 w [.blk g1 [vL, vD, .int .i64 p.stock, .int .i64 p.kerf, .int .i64 b], .own vgg2 5 34 (partsN p b wi) (gcells vvg2 p.stock p.kerf (b - 1)), .sem (Frame.rows 3 (2 * (partsN p b wi)) vvg2 (fun _ => p.m) (gfn p (MX p wi))), .own vgg3 5 26 (partsN p b wi) (gcells vvg3 p.stock p.kerf (b - 1)), .sem (Frame.rows 3 (2 * (partsN p b wi)) vvg3 (fun _ => p.m) (gfn p (MX p wi)))]) ⟨0, rfl, (by omega), (by omega), rfl, hS⟩ ?_
      clear hS w
      rintro mm M w ⟨i, rfl, h0, h1, rfl, hS⟩
      refine zsr ?_
      refine zlv xlss ?_
      refine zlt <| zsq ?_
      refine zcif ?_ ?_ <;> intro hc
      ·
       refine zsk <| ztn <| zsq <| zbk <| zsr ?_
       refine zs2 ?_
       refine zlt <| zsq ?_
       refine zdst [0, 1, 2, 3, 4] [0, 1, 2, 3, 4] 10 mx_ hS ?_; clear hS; intro w hS
       refine zdv 0 (fun _ => xmv) ?_
       refine zdv 1 (fun _ => xmv) ?_
       refine zdv 2 (fun _ => (xix (kk := 5 * i) sl_29 hvgg2)) ?_
       refine zdla 3 (fun w hS => (xlw (cs := [(vvg2 (2 * i)), (vvg2 (2 * i + 1)), .int .i64 p.stock, .int .i64 p.kerf, .int .i64 (b - 1)]) st_34 (hS.rowN 1 rfl) (gcells_at (q := 5 * i) (i := i) vvg2 p.stock p.kerf (b - 1) (by omega)))) ?_
       refine zdv 4 (fun _ => xmv) ?_
       refine zdv 5 (fun _ => xmv) ?_
       refine zdv 6 (fun _ => (xix (kk := 5 * i) sl_36 hvgg3)) ?_
       refine zdla 7 (fun w hS => (xlw (cs := [(vvg3 (2 * i)), (vvg3 (2 * i + 1)), .int .i64 p.stock, .int .i64 p.kerf, .int .i64 (b - 1)]) st_26 (hS.rowN 3 rfl) (gcells_at (q := 5 * i) (i := i) vvg3 p.stock p.kerf (b - 1) (by omega)))) ?_
       refine zdfk (r := [8, 9]) ((zdn1 ?_ (zdn1 ?_ zdn0)))
       ·
        refine zka (xal (cs := [_, _, _, _, _]) el_34 hS) ?_; rintro _ w ⟨g4, rfl, hS⟩
        replace hS := hS.n6
        refine ⟨⟨fun _ => hS.pk [0, 1, 2, 3, 4], hS.pk [0, 1, 2, 3, 4]⟩, ?_⟩
        refine zda 9 (xal (cs := [_, _, _, _, _]) el_26 hS) ?_; rintro _ w ⟨g5, rfl, hS⟩
        replace hS := hS.n7
        refine ⟨⟨fun _ => hS.pk [0, 1, 2, 3, 4], hS.pk [0, 1, 2, 3, 4]⟩, ?_⟩
        refine zde 10 (xsw 5 st_34 hS (hd := (ones_cons (hrsg2 (2 * i) (by omega) (by omega)).one (ones_cons (hrsg2 (2 * i + 1) (by omega) (by omega)).one (ones_cons rfl (ones_cons rfl (ones_cons rfl ones_nil))))))) ?_; clear hS; rintro w hS
        replace hS := hS.n7
        refine ⟨⟨fun h => absurd h (by decide), hS.pk [0, 1, 2, 3, 4]⟩, ?_⟩
        refine zde 11 (xsw 6 st_26 hS (hd := (ones_cons (hrsg3 (2 * i) (by omega) (by omega)).one (ones_cons (hrsg3 (2 * i + 1) (by omega) (by omega)).one (ones_cons rfl (ones_cons rfl (ones_cons rfl ones_nil))))))) ?_; clear hS; rintro w hS
        replace hS := hS.n7
        refine ⟨⟨fun h => absurd h (by decide), hS.pk [0, 1, 2, 3, 4]⟩, ?_⟩
        refine zdd <| ztn <| zsr ?_
        refine zlv (xfb 4 fd_34_1) ?_
        refine zlv (xlb 5 pl_3 hS) ?_
        refine zlv (xfb 4 fd_26_1) ?_
        refine zlv (xlb 6 pl_3 hS) ?_
        refine zlv (xkf xneq) ?_
        refine zlv xmv ?_
        refine zlv (xfb 0 fd_34_0) ?_
        refine zlv (xfb 1 fd_32_1) ?_
        refine zlv (xlb 5 pl_22 hS) ?_
        refine zlv (xfb 0 fd_26_0) ?_
        refine zlv (xfb 1 fd_24_1) ?_
        refine zlv (xlb 6 pl_22 hS) ?_
        refine zlc (xc0 cl_18) (c_same28 (n := p.m) (m := p.m) (f := ((gfn p (MX p wi)) (2 * i + 1))) (g := ((gfn p (MX p wi)) (2 * i + 1))) w (show Row _ _ 1 p.m _ from (hS.rowIn (k := 2 * i + 1) 2 rfl (by omega) (by omega))) (show Row _ _ 1 p.m _ from (hS.rowIn (k := 2 * i + 1) 4 rfl (by omega) (by omega)))) ?_; rintro _ w ⟨rfl, hS'⟩
        replace hS := hS.cmp hS'; clear hS'
        refine zlas 86 (u := .bool true) (B_true (show p.m = p.m ∧ ∀ k, 0 ≤ k → k < p.m → ((gfn p (MX p wi)) (2 * i + 1)) k = ((gfn p (MX p wi)) (2 * i + 1)) k from ⟨rfl, fun _ _ _ => rfl⟩)) ?_
        refine zs3 ?_
        refine zlv (xfb 0 fd_34_0) ?_
        refine zlv (xfb 0 fd_32_0) ?_
        refine zlv (xlb 5 pl_22 hS) ?_
        refine zlv (xfb 0 fd_26_0) ?_
        refine zlv (xfb 0 fd_24_0) ?_
        refine zlv (xlb 6 pl_22 hS) ?_
        refine zlc (xc0 cl_18) (c_same28 (n := p.m) (m := p.m) (f := ((gfn p (MX p wi)) (2 * i))) (g := ((gfn p (MX p wi)) (2 * i))) w (show Row _ _ 1 p.m _ from (hS.rowIn (k := 2 * i) 2 rfl (by omega) (by omega))) (show Row _ _ 1 p.m _ from (hS.rowIn (k := 2 * i) 4 rfl (by omega) (by omega)))) ?_; rintro _ w ⟨rfl, hS'⟩
        replace hS := hS.cmp hS'; clear hS'
        refine zlas 96 (u := .bool true) (B_true (show p.m = p.m ∧ ∀ k, 0 ≤ k → k < p.m → ((gfn p (MX p wi)) (2 * i)) k = ((gfn p (MX p wi)) (2 * i)) k from ⟨rfl, fun _ _ _ => rfl⟩)) ?_
        refine zs3 ?_
        refine zlv (xfb 0 fd_34_0) ?_
        refine zlv (xfb 2 fd_32_2) ?_
        refine zlv (xlb 5 pl_3 hS) ?_
        refine zlv (xfb 0 fd_26_0) ?_
        refine zlv (xfb 2 fd_24_2) ?_
        refine zlv (xlb 6 pl_3 hS) ?_
        refine zlv (xkf xneq) ?_
        refine zs2 ?_
        refine zlv (xfb 0 fd_34_0) ?_
        refine zlv (xfb 3 fd_32_3) ?_
        refine zlv (xlb 5 pl_3 hS) ?_
        refine zlv (xfb 0 fd_26_0) ?_
        refine zlv (xfb 3 fd_24_3) ?_
        refine zlv (xlb 6 pl_3 hS) ?_
        refine zlv (xkf xneq) ?_
        refine zlv xpf ?_
        refine zlt <| zcf <| zsk <| zbn <| ztn <| zrg ?_
        refine zlv (xadd (r := i + 1)) ?_
        refine zlv xmv ?_
        refine zln <| zlq ⟨i + 1, rfl, (by omega), (by omega), rfl, hS.pk [0, 1, 2, 3, 4]⟩
       refine zka (xal (cs := [_, _, _, _, _]) el_26 hS) ?_; rintro _ w ⟨g4, rfl, hS⟩
       replace hS := hS.n6
       refine ⟨⟨fun _ => hS.pk [0, 1, 2, 3, 4], hS.pk [0, 1, 2, 3, 4]⟩, ?_⟩
       refine zda 8 (xal (cs := [_, _, _, _, _]) el_34 hS) ?_; rintro _ w ⟨g5, rfl, hS⟩
       replace hS := hS.n7
       refine ⟨⟨fun _ => hS.pk [0, 1, 2, 3, 4], hS.pk [0, 1, 2, 3, 4]⟩, ?_⟩
       refine zde 10 (xsw 6 st_34 hS (hd := (ones_cons (hrsg2 (2 * i) (by omega) (by omega)).one (ones_cons (hrsg2 (2 * i + 1) (by omega) (by omega)).one (ones_cons rfl (ones_cons rfl (ones_cons rfl ones_nil))))))) ?_; clear hS; rintro w hS
       replace hS := hS.n7
       refine ⟨⟨fun h => absurd h (by decide), hS.pk [0, 1, 2, 3, 4]⟩, ?_⟩
       refine zde 11 (xsw 5 st_26 hS (hd := (ones_cons (hrsg3 (2 * i) (by omega) (by omega)).one (ones_cons (hrsg3 (2 * i + 1) (by omega) (by omega)).one (ones_cons rfl (ones_cons rfl (ones_cons rfl ones_nil))))))) ?_; clear hS; rintro w hS
       replace hS := hS.n7
       refine ⟨⟨fun h => absurd h (by decide), hS.pk [0, 1, 2, 3, 4]⟩, ?_⟩
       refine zdd <| ztn <| zsr ?_
       refine zlv (xfb 4 fd_34_1) ?_
       refine zlv (xlb 6 pl_3 hS) ?_
       refine zlv (xfb 4 fd_26_1) ?_
       refine zlv (xlb 5 pl_3 hS) ?_
       refine zlv (xkf xneq) ?_
       refine zlv xmv ?_
       refine zlv (xfb 0 fd_34_0) ?_
       refine zlv (xfb 1 fd_32_1) ?_
       refine zlv (xlb 6 pl_22 hS) ?_
       refine zlv (xfb 0 fd_26_0) ?_
       refine zlv (xfb 1 fd_24_1) ?_
       refine zlv (xlb 5 pl_22 hS) ?_
       refine zlc (xc0 cl_18) (c_same28 (n := p.m) (m := p.m) (f := ((gfn p (MX p wi)) (2 * i + 1))) (g := ((gfn p (MX p wi)) (2 * i + 1))) w (show Row _ _ 1 p.m _ from (hS.rowIn (k := 2 * i + 1) 2 rfl (by omega) (by omega))) (show Row _ _ 1 p.m _ from (hS.rowIn (k := 2 * i + 1) 4 rfl (by omega) (by omega)))) ?_; rintro _ w ⟨rfl, hS'⟩
       replace hS := hS.cmp hS'; clear hS'
       refine zlas 86 (u := .bool true) (B_true (show p.m = p.m ∧ ∀ k, 0 ≤ k → k < p.m → ((gfn p (MX p wi)) (2 * i + 1)) k = ((gfn p (MX p wi)) (2 * i + 1)) k from ⟨rfl, fun _ _ _ => rfl⟩)) ?_
       refine zs3 ?_
       refine zlv (xfb 0 fd_34_0) ?_
       refine zlv (xfb 0 fd_32_0) ?_
       refine zlv (xlb 6 pl_22 hS) ?_
       refine zlv (xfb 0 fd_26_0) ?_
       refine zlv (xfb 0 fd_24_0) ?_
       refine zlv (xlb 5 pl_22 hS) ?_
       refine zlc (xc0 cl_18) (c_same28 (n := p.m) (m := p.m) (f := ((gfn p (MX p wi)) (2 * i))) (g := ((gfn p (MX p wi)) (2 * i))) w (show Row _ _ 1 p.m _ from (hS.rowIn (k := 2 * i) 2 rfl (by omega) (by omega))) (show Row _ _ 1 p.m _ from (hS.rowIn (k := 2 * i) 4 rfl (by omega) (by omega)))) ?_; rintro _ w ⟨rfl, hS'⟩
       replace hS := hS.cmp hS'; clear hS'
       refine zlas 96 (u := .bool true) (B_true (show p.m = p.m ∧ ∀ k, 0 ≤ k → k < p.m → ((gfn p (MX p wi)) (2 * i)) k = ((gfn p (MX p wi)) (2 * i)) k from ⟨rfl, fun _ _ _ => rfl⟩)) ?_
       refine zs3 ?_
       refine zlv (xfb 0 fd_34_0) ?_
       refine zlv (xfb 2 fd_32_2) ?_
       refine zlv (xlb 6 pl_3 hS) ?_
       refine zlv (xfb 0 fd_26_0) ?_
       refine zlv (xfb 2 fd_24_2) ?_
       refine zlv (xlb 5 pl_3 hS) ?_
       refine zlv (xkf xneq) ?_
       refine zs2 ?_
       refine zlv (xfb 0 fd_34_0) ?_
       refine zlv (xfb 3 fd_32_3) ?_
       refine zlv (xlb 6 pl_3 hS) ?_
       refine zlv (xfb 0 fd_26_0) ?_
       refine zlv (xfb 3 fd_24_3) ?_
       refine zlv (xlb 5 pl_3 hS) ?_
       refine zlv (xkf xneq) ?_
       refine zlv xpf ?_
       refine zlt <| zcf <| zsk <| zbn <| ztn <| zrg ?_
       refine zlv (xadd (r := i + 1)) ?_
       refine zlv xmv ?_
       refine zln <| zlq ⟨i + 1, rfl, (by omega), (by omega), rfl, hS.pk [0, 1, 2, 3, 4]⟩
      refine zxt <| ztx <| ztx <| zbh <| ztn <| zsr ?_
      refine zlv xas ?_
      refine zlt <| zrt <| zf1 ⟨_, rfl, ?_⟩
      exact ⟨rfl, hS.nl⟩
     exact absurd ‹LeafP p b nl l› ‹¬ (LeafP p b nl l)›
    refine zdb 58 ?_ ?_ <;> intro hc
    ·
     exact absurd ‹LeafP p b nl l› ‹¬ (LeafP p b nl l)›
    refine zdv 18 (fun _ => (xany (v := .bool false))) ?_
    refine zdv 19 (fun _ => xpf) ?_
    refine zdd <| ztn <| zcf <| zsk <| ztn <| zsq <| zsr ?_
    refine zlv xmv ?_
    refine zlv (xln sl_29 hvgg2) ?_
    have hpn := hvgg2.n0; have hpn1 := hvgg2.n1
    refine zlv xmv ?_
    refine zlt <| zbk <| zlp (fun mm M w => ∃ (i : Int), mm = ((partsN p b wi - i).toNat) ∧ (0 ≤ i) ∧ (i ≤ partsN p b wi) ∧ M = [(7, vgg2), (9, vgg3), (62, .int .i64 (partsN p b wi)), (63, .int .i64 i)] ∧ Sat w0 w [.blk g1 [vL, vD, .int .i64 p.stock, .int .i64 p.kerf, .int .i64 b], .own vgg2 5 34 (partsN p b wi) (gcells vvg2 p.stock p.kerf (b - 1)), .sem (Frame.rows 3 (2 * (partsN p b wi)) vvg2 (fun _ => p.m) (gfn p (MX p wi))), .own vgg3 5 26 (partsN p b wi) (gcells vvg3 p.stock p.kerf (b - 1)), .sem (Frame.rows 3 (2 * (partsN p b wi)) vvg3 (fun _ => p.m) (gfn p (MX p wi)))]) ⟨0, rfl, (by omega), (by omega), rfl, hS⟩ ?_
    clear hS w
    rintro mm M w ⟨i, rfl, h0, h1, rfl, hS⟩
    refine zsr ?_
    refine zlv xlss ?_
    refine zlt <| zsq ?_
    refine zcif ?_ ?_ <;> intro hc
    ·
     refine zsk <| ztn <| zsq <| zbk <| zsr ?_
     refine zs2 ?_
     refine zlt <| zsq ?_
     refine zdst [0, 1, 2, 3, 4] [0, 1, 2, 3, 4] 10 mx_ hS ?_; clear hS; intro w hS
     refine zdv 0 (fun _ => xmv) ?_
     refine zdv 1 (fun _ => xmv) ?_
     refine zdv 2 (fun _ => (xix (kk := 5 * i) sl_29 hvgg2)) ?_
     refine zdla 3 (fun w hS => (xlw (cs := [(vvg2 (2 * i)), (vvg2 (2 * i + 1)), .int .i64 p.stock, .int .i64 p.kerf, .int .i64 (b - 1)]) st_34 (hS.rowN 1 rfl) (gcells_at (q := 5 * i) (i := i) vvg2 p.stock p.kerf (b - 1) (by omega)))) ?_
     refine zdv 4 (fun _ => xmv) ?_
     refine zdv 5 (fun _ => xmv) ?_
     refine zdv 6 (fun _ => (xix (kk := 5 * i) sl_36 hvgg3)) ?_
     refine zdla 7 (fun w hS => (xlw (cs := [(vvg3 (2 * i)), (vvg3 (2 * i + 1)), .int .i64 p.stock, .int .i64 p.kerf, .int .i64 (b - 1)]) st_26 (hS.rowN 3 rfl) (gcells_at (q := 5 * i) (i := i) vvg3 p.stock p.kerf (b - 1) (by omega)))) ?_
     refine zdfk (r := [8, 9]) ((zdn1 ?_ (zdn1 ?_ zdn0)))
     ·
      refine zka (xal (cs := [_, _, _, _, _]) el_34 hS) ?_; rintro _ w ⟨g6, rfl, hS⟩
      replace hS := hS.n6
      refine ⟨⟨fun _ => hS.pk [0, 1, 2, 3, 4], hS.pk [0, 1, 2, 3, 4]⟩, ?_⟩
      refine zda 9 (xal (cs := [_, _, _, _, _]) el_26 hS) ?_; rintro _ w ⟨g7, rfl, hS⟩
      replace hS := hS.n7
      refine ⟨⟨fun _ => hS.pk [0, 1, 2, 3, 4], hS.pk [0, 1, 2, 3, 4]⟩, ?_⟩
      refine zde 10 (xsw 5 st_34 hS (hd := (ones_cons (hrsg2 (2 * i) (by omega) (by omega)).one (ones_cons (hrsg2 (2 * i + 1) (by omega) (by omega)).one (ones_cons rfl (ones_cons rfl (ones_cons rfl ones_nil))))))) ?_; clear hS; rintro w hS
      replace hS := hS.n7
      refine ⟨⟨fun h => absurd h (by decide), hS.pk [0, 1, 2, 3, 4]⟩, ?_⟩
      refine zde 11 (xsw 6 st_26 hS (hd := (ones_cons (hrsg3 (2 * i) (by omega) (by omega)).one (ones_cons (hrsg3 (2 * i + 1) (by omega) (by omega)).one (ones_cons rfl (ones_cons rfl (ones_cons rfl ones_nil))))))) ?_; clear hS; rintro w hS
      replace hS := hS.n7
      refine ⟨⟨fun h => absurd h (by decide), hS.pk [0, 1, 2, 3, 4]⟩, ?_⟩
      refine zdd <| ztn <| zsr ?_
      refine zlv (xfb 4 fd_34_1) ?_
      refine zlv (xlb 5 pl_3 hS) ?_
      refine zlv (xfb 4 fd_26_1) ?_
      refine zlv (xlb 6 pl_3 hS) ?_
      refine zlv (xkf xneq) ?_
      refine zlv xmv ?_
      refine zlv (xfb 0 fd_34_0) ?_
      refine zlv (xfb 1 fd_32_1) ?_
      refine zlv (xlb 5 pl_22 hS) ?_
      refine zlv (xfb 0 fd_26_0) ?_
      refine zlv (xfb 1 fd_24_1) ?_
      refine zlv (xlb 6 pl_22 hS) ?_
      refine zlc (xc0 cl_18) (c_same28 (n := p.m) (m := p.m) (f := ((gfn p (MX p wi)) (2 * i + 1))) (g := ((gfn p (MX p wi)) (2 * i + 1))) w (show Row _ _ 1 p.m _ from (hS.rowIn (k := 2 * i + 1) 2 rfl (by omega) (by omega))) (show Row _ _ 1 p.m _ from (hS.rowIn (k := 2 * i + 1) 4 rfl (by omega) (by omega)))) ?_; rintro _ w ⟨rfl, hS'⟩
      replace hS := hS.cmp hS'; clear hS'
      refine zlas 86 (u := .bool true) (B_true (show p.m = p.m ∧ ∀ k, 0 ≤ k → k < p.m → ((gfn p (MX p wi)) (2 * i + 1)) k = ((gfn p (MX p wi)) (2 * i + 1)) k from ⟨rfl, fun _ _ _ => rfl⟩)) ?_
      refine zs3 ?_
      refine zlv (xfb 0 fd_34_0) ?_
      refine zlv (xfb 0 fd_32_0) ?_
      refine zlv (xlb 5 pl_22 hS) ?_
      refine zlv (xfb 0 fd_26_0) ?_
      refine zlv (xfb 0 fd_24_0) ?_
      refine zlv (xlb 6 pl_22 hS) ?_
      refine zlc (xc0 cl_18) (c_same28 (n := p.m) (m := p.m) (f := ((gfn p (MX p wi)) (2 * i))) (g := ((gfn p (MX p wi)) (2 * i))) w (show Row _ _ 1 p.m _ from (hS.rowIn (k := 2 * i) 2 rfl (by omega) (by omega))) (show Row _ _ 1 p.m _ from (hS.rowIn (k := 2 * i) 4 rfl (by omega) (by omega)))) ?_; rintro _ w ⟨rfl, hS'⟩
      replace hS := hS.cmp hS'; clear hS'
      refine zlas 96 (u := .bool true) (B_true (show p.m = p.m ∧ ∀ k, 0 ≤ k → k < p.m → ((gfn p (MX p wi)) (2 * i)) k = ((gfn p (MX p wi)) (2 * i)) k from ⟨rfl, fun _ _ _ => rfl⟩)) ?_
      refine zs3 ?_
      refine zlv (xfb 0 fd_34_0) ?_
      refine zlv (xfb 2 fd_32_2) ?_
      refine zlv (xlb 5 pl_3 hS) ?_
      refine zlv (xfb 0 fd_26_0) ?_
      refine zlv (xfb 2 fd_24_2) ?_
      refine zlv (xlb 6 pl_3 hS) ?_
      refine zlv (xkf xneq) ?_
      refine zs2 ?_
      refine zlv (xfb 0 fd_34_0) ?_
      refine zlv (xfb 3 fd_32_3) ?_
      refine zlv (xlb 5 pl_3 hS) ?_
      refine zlv (xfb 0 fd_26_0) ?_
      refine zlv (xfb 3 fd_24_3) ?_
      refine zlv (xlb 6 pl_3 hS) ?_
      refine zlv (xkf xneq) ?_
      refine zlv xpf ?_
      refine zlt <| zcf <| zsk <| zbn <| ztn <| zrg ?_
      refine zlv (xadd (r := i + 1)) ?_
      refine zlv xmv ?_
      refine zln <| zlq ⟨i + 1, rfl, (by omega), (by omega), rfl, hS.pk [0, 1, 2, 3, 4]⟩
     refine zka (xal (cs := [_, _, _, _, _]) el_26 hS) ?_; rintro _ w ⟨g6, rfl, hS⟩
     replace hS := hS.n6
     refine ⟨⟨fun _ => hS.pk [0, 1, 2, 3, 4], hS.pk [0, 1, 2, 3, 4]⟩, ?_⟩
     refine zda 8 (xal (cs := [_, _, _, _, _]) el_34 hS) ?_; rintro _ w ⟨g7, rfl, hS⟩
     replace hS := hS.n7
     refine ⟨⟨fun _ => hS.pk [0, 1, 2, 3, 4], hS.pk [0, 1, 2, 3, 4]⟩, ?_⟩
     refine zde 10 (xsw 6 st_34 hS (hd := (ones_cons (hrsg2 (2 * i) (by omega) (by omega)).one (ones_cons (hrsg2 (2 * i + 1) (by omega) (by omega)).one (ones_cons rfl (ones_cons rfl (ones_cons rfl ones_nil))))))) ?_; clear hS; rintro w hS
     replace hS := hS.n7
     refine ⟨⟨fun h => absurd h (by decide), hS.pk [0, 1, 2, 3, 4]⟩, ?_⟩
     refine zde 11 (xsw 5 st_26 hS (hd := (ones_cons (hrsg3 (2 * i) (by omega) (by omega)).one (ones_cons (hrsg3 (2 * i + 1) (by omega) (by omega)).one (ones_cons rfl (ones_cons rfl (ones_cons rfl ones_nil))))))) ?_; clear hS; rintro w hS
     replace hS := hS.n7
     refine ⟨⟨fun h => absurd h (by decide), hS.pk [0, 1, 2, 3, 4]⟩, ?_⟩
     refine zdd <| ztn <| zsr ?_
     refine zlv (xfb 4 fd_34_1) ?_
     refine zlv (xlb 6 pl_3 hS) ?_
     refine zlv (xfb 4 fd_26_1) ?_
     refine zlv (xlb 5 pl_3 hS) ?_
     refine zlv (xkf xneq) ?_
     refine zlv xmv ?_
     refine zlv (xfb 0 fd_34_0) ?_
     refine zlv (xfb 1 fd_32_1) ?_
     refine zlv (xlb 6 pl_22 hS) ?_
     refine zlv (xfb 0 fd_26_0) ?_
     refine zlv (xfb 1 fd_24_1) ?_
     refine zlv (xlb 5 pl_22 hS) ?_
     refine zlc (xc0 cl_18) (c_same28 (n := p.m) (m := p.m) (f := ((gfn p (MX p wi)) (2 * i + 1))) (g := ((gfn p (MX p wi)) (2 * i + 1))) w (show Row _ _ 1 p.m _ from (hS.rowIn (k := 2 * i + 1) 2 rfl (by omega) (by omega))) (show Row _ _ 1 p.m _ from (hS.rowIn (k := 2 * i + 1) 4 rfl (by omega) (by omega)))) ?_; rintro _ w ⟨rfl, hS'⟩
     replace hS := hS.cmp hS'; clear hS'
     refine zlas 86 (u := .bool true) (B_true (show p.m = p.m ∧ ∀ k, 0 ≤ k → k < p.m → ((gfn p (MX p wi)) (2 * i + 1)) k = ((gfn p (MX p wi)) (2 * i + 1)) k from ⟨rfl, fun _ _ _ => rfl⟩)) ?_
     refine zs3 ?_
     refine zlv (xfb 0 fd_34_0) ?_
     refine zlv (xfb 0 fd_32_0) ?_
     refine zlv (xlb 6 pl_22 hS) ?_
     refine zlv (xfb 0 fd_26_0) ?_
     refine zlv (xfb 0 fd_24_0) ?_
     refine zlv (xlb 5 pl_22 hS) ?_
     refine zlc (xc0 cl_18) (c_same28 (n := p.m) (m := p.m) (f := ((gfn p (MX p wi)) (2 * i))) (g := ((gfn p (MX p wi)) (2 * i))) w (show Row _ _ 1 p.m _ from (hS.rowIn (k := 2 * i) 2 rfl (by omega) (by omega))) (show Row _ _ 1 p.m _ from (hS.rowIn (k := 2 * i) 4 rfl (by omega) (by omega)))) ?_; rintro _ w ⟨rfl, hS'⟩
     replace hS := hS.cmp hS'; clear hS'
     refine zlas 96 (u := .bool true) (B_true (show p.m = p.m ∧ ∀ k, 0 ≤ k → k < p.m → ((gfn p (MX p wi)) (2 * i)) k = ((gfn p (MX p wi)) (2 * i)) k from ⟨rfl, fun _ _ _ => rfl⟩)) ?_
     refine zs3 ?_
     refine zlv (xfb 0 fd_34_0) ?_
     refine zlv (xfb 2 fd_32_2) ?_
     refine zlv (xlb 6 pl_3 hS) ?_
     refine zlv (xfb 0 fd_26_0) ?_
     refine zlv (xfb 2 fd_24_2) ?_
     refine zlv (xlb 5 pl_3 hS) ?_
     refine zlv (xkf xneq) ?_
     refine zs2 ?_
     refine zlv (xfb 0 fd_34_0) ?_
     refine zlv (xfb 3 fd_32_3) ?_
     refine zlv (xlb 6 pl_3 hS) ?_
     refine zlv (xfb 0 fd_26_0) ?_
     refine zlv (xfb 3 fd_24_3) ?_
     refine zlv (xlb 5 pl_3 hS) ?_
     refine zlv (xkf xneq) ?_
     refine zlv xpf ?_
     refine zlt <| zcf <| zsk <| zbn <| ztn <| zrg ?_
     refine zlv (xadd (r := i + 1)) ?_
     refine zlv xmv ?_
     refine zln <| zlq ⟨i + 1, rfl, (by omega), (by omega), rfl, hS.pk [0, 1, 2, 3, 4]⟩
    refine zxt <| ztx <| ztx <| zbh <| ztn <| zsr ?_
    refine zlv xas ?_
    refine zlt <| zrt <| zf1 ⟨_, rfl, ?_⟩
    exact ⟨rfl, hS.nl⟩
   exact absurd ‹SplOk p b wi› ‹¬ (SplOk p b wi)›
  refine zdb 42 ?_ ?_ <;> intro hc
  ·
   exact absurd ‹SplOk p b wi› ‹¬ (SplOk p b wi)›
  refine zdv 2 (fun _ => (xany (v := .bool false))) ?_
  refine zdv 3 (fun _ => xmv) ?_
  refine zdv 4 (fun _ => xmv) ?_
  refine zdv 5 (fun _ => (xln sl_29 hvgg2)) ?_
  refine zdv 6 (fun _ => xmv) ?_
  refine zdv 7 (fun _ => (xln sl_36 hvgg3)) ?_
  refine zdv 8 (fun _ => (xkf xneq)) ?_
  refine zdv 9 (fun _ => xpf) ?_
  refine zdv 10 (fun _ => xmv) ?_
  refine zdla 11 (fun w hS => (xls 0 st_26 hS)) ?_
  refine zdv 13 (fun _ => xmv) ?_
  refine zdla 15 (fun w hS => (xls 0 st_26 hS)) ?_
  refine zdv 16 (fun _ => xmv) ?_
  refine zdc 12 (xc0 cl_14) (c_own36 (p := p) (b := b) w (h.below hS.below)) ?_; rintro _ w ⟨rfl, hS'⟩
  replace hS := hS.cmp hS'; clear hS'
  refine ⟨⟨fun _ => hS, hS⟩, ?_⟩
  refine zdc 14 (xc0 cl_16) (c_leaf (p := p) (b := b) w (h.below hS.below) (hl.below hS.below) hrm) ?_; rintro _ w ⟨rfl, hS'⟩
  replace hS := hS.cmp hS'; clear hS'
  refine ⟨⟨fun _ => hS, hS⟩, ?_⟩
  refine zdc 17 (xc0 cl_17) (c_rleaf (p := p) (b := b) w (h.below hS.below) (hl.below hS.below) hrm) ?_; rintro _ w ⟨rfl, hS'⟩
  replace hS := hS.cmp hS'; clear hS'
  refine ⟨⟨fun _ => hS, hS⟩, ?_⟩
  refine zdb 55 ?_ ?_ <;> intro hc
  ·
   refine zdb 58 ?_ ?_ <;> intro hc
   ·
    refine zdv 18 (fun _ => (xany (v := .bool false))) ?_
    refine zdv 19 (fun _ => xpf) ?_
    refine zdd <| ztn <| zcf <| zsk <| ztn <| zsq <| zsr ?_
    refine zlv xmv ?_
    refine zlv (xln sl_29 hvgg2) ?_
    have hpn := hvgg2.n0; have hpn1 := hvgg2.n1
    refine zlv xmv ?_
    refine zlt <| zbk <| zlp (fun mm M w => ∃ (i : Int), mm = ((partsN p b wi - i).toNat) ∧ (0 ≤ i) ∧ (i ≤ partsN p b wi) ∧ M = [(7, vgg2), (9, vgg3), (62, .int .i64 (partsN p b wi)), (63, .int .i64 i)] ∧ Sat w0 w [.blk g1 [vL, vD, .int .i64 p.stock, .int .i64 p.kerf, .int .i64 b], .own vgg2 5 34 (partsN p b wi) (gcells vvg2 p.stock p.kerf (b - 1)), .sem (Frame.rows 3 (2 * (partsN p b wi)) vvg2 (fun _ => p.m) (gfn p (MX p wi))), .own vgg3 5 26 (partsN p b wi) (gcells vvg3 p.stock p.kerf (b - 1)), .sem (Frame.rows 3 (2 * (partsN p b wi)) vvg3 (fun _ => p.m) (gfn p (MX p wi)))]) ⟨0, rfl, (by omega), (by omega), rfl, hS⟩ ?_
    clear hS w
    rintro mm M w ⟨i, rfl, h0, h1, rfl, hS⟩
    refine zsr ?_
    refine zlv xlss ?_
    refine zlt <| zsq ?_
    refine zcif ?_ ?_ <;> intro hc
    ·
     refine zsk <| ztn <| zsq <| zbk <| zsr ?_
     refine zs2 ?_
     refine zlt <| zsq ?_
     refine zdst [0, 1, 2, 3, 4] [0, 1, 2, 3, 4] 10 mx_ hS ?_; clear hS; intro w hS
     refine zdv 0 (fun _ => xmv) ?_
     refine zdv 1 (fun _ => xmv) ?_
     refine zdv 2 (fun _ => (xix (kk := 5 * i) sl_29 hvgg2)) ?_
     refine zdla 3 (fun w hS => (xlw (cs := [(vvg2 (2 * i)), (vvg2 (2 * i + 1)), .int .i64 p.stock, .int .i64 p.kerf, .int .i64 (b - 1)]) st_34 (hS.rowN 1 rfl) (gcells_at (q := 5 * i) (i := i) vvg2 p.stock p.kerf (b - 1) (by omega)))) ?_
     refine zdv 4 (fun _ => xmv) ?_
     refine zdv 5 (fun _ => xmv) ?_
     refine zdv 6 (fun _ => (xix (kk := 5 * i) sl_36 hvgg3)) ?_
     refine zdla 7 (fun w hS => (xlw (cs := [(vvg3 (2 * i)), (vvg3 (2 * i + 1)), .int .i64 p.stock, .int .i64 p.kerf, .int .i64 (b - 1)]) st_26 (hS.rowN 3 rfl) (gcells_at (q := 5 * i) (i := i) vvg3 p.stock p.kerf (b - 1) (by omega)))) ?_
     refine zdfk (r := [8, 9]) ((zdn1 ?_ (zdn1 ?_ zdn0)))
     ·
      refine zka (xal (cs := [_, _, _, _, _]) el_34 hS) ?_; rintro _ w ⟨g8, rfl, hS⟩
      replace hS := hS.n6
      refine ⟨⟨fun _ => hS.pk [0, 1, 2, 3, 4], hS.pk [0, 1, 2, 3, 4]⟩, ?_⟩
      refine zda 9 (xal (cs := [_, _, _, _, _]) el_26 hS) ?_; rintro _ w ⟨g9, rfl, hS⟩
      replace hS := hS.n7
      refine ⟨⟨fun _ => hS.pk [0, 1, 2, 3, 4], hS.pk [0, 1, 2, 3, 4]⟩, ?_⟩
      refine zde 10 (xsw 5 st_34 hS (hd := (ones_cons (hrsg2 (2 * i) (by omega) (by omega)).one (ones_cons (hrsg2 (2 * i + 1) (by omega) (by omega)).one (ones_cons rfl (ones_cons rfl (ones_cons rfl ones_nil))))))) ?_; clear hS; rintro w hS
      replace hS := hS.n7
      refine ⟨⟨fun h => absurd h (by decide), hS.pk [0, 1, 2, 3, 4]⟩, ?_⟩
      refine zde 11 (xsw 6 st_26 hS (hd := (ones_cons (hrsg3 (2 * i) (by omega) (by omega)).one (ones_cons (hrsg3 (2 * i + 1) (by omega) (by omega)).one (ones_cons rfl (ones_cons rfl (ones_cons rfl ones_nil))))))) ?_; clear hS; rintro w hS
      replace hS := hS.n7
      refine ⟨⟨fun h => absurd h (by decide), hS.pk [0, 1, 2, 3, 4]⟩, ?_⟩
      refine zdd <| ztn <| zsr ?_
      refine zlv (xfb 4 fd_34_1) ?_
      refine zlv (xlb 5 pl_3 hS) ?_
      refine zlv (xfb 4 fd_26_1) ?_
      refine zlv (xlb 6 pl_3 hS) ?_
      refine zlv (xkf xneq) ?_
      refine zlv xmv ?_
      refine zlv (xfb 0 fd_34_0) ?_
      refine zlv (xfb 1 fd_32_1) ?_
      refine zlv (xlb 5 pl_22 hS) ?_
      refine zlv (xfb 0 fd_26_0) ?_
      refine zlv (xfb 1 fd_24_1) ?_
      refine zlv (xlb 6 pl_22 hS) ?_
      refine zlc (xc0 cl_18) (c_same28 (n := p.m) (m := p.m) (f := ((gfn p (MX p wi)) (2 * i + 1))) (g := ((gfn p (MX p wi)) (2 * i + 1))) w (show Row _ _ 1 p.m _ from (hS.rowIn (k := 2 * i + 1) 2 rfl (by omega) (by omega))) (show Row _ _ 1 p.m _ from (hS.rowIn (k := 2 * i + 1) 4 rfl (by omega) (by omega)))) ?_; rintro _ w ⟨rfl, hS'⟩
      replace hS := hS.cmp hS'; clear hS'
      refine zlas 86 (u := .bool true) (B_true (show p.m = p.m ∧ ∀ k, 0 ≤ k → k < p.m → ((gfn p (MX p wi)) (2 * i + 1)) k = ((gfn p (MX p wi)) (2 * i + 1)) k from ⟨rfl, fun _ _ _ => rfl⟩)) ?_
      refine zs3 ?_
      refine zlv (xfb 0 fd_34_0) ?_
      refine zlv (xfb 0 fd_32_0) ?_
      refine zlv (xlb 5 pl_22 hS) ?_
      refine zlv (xfb 0 fd_26_0) ?_
      refine zlv (xfb 0 fd_24_0) ?_
      refine zlv (xlb 6 pl_22 hS) ?_
      refine zlc (xc0 cl_18) (c_same28 (n := p.m) (m := p.m) (f := ((gfn p (MX p wi)) (2 * i))) (g := ((gfn p (MX p wi)) (2 * i))) w (show Row _ _ 1 p.m _ from (hS.rowIn (k := 2 * i) 2 rfl (by omega) (by omega))) (show Row _ _ 1 p.m _ from (hS.rowIn (k := 2 * i) 4 rfl (by omega) (by omega)))) ?_; rintro _ w ⟨rfl, hS'⟩
      replace hS := hS.cmp hS'; clear hS'
      refine zlas 96 (u := .bool true) (B_true (show p.m = p.m ∧ ∀ k, 0 ≤ k → k < p.m → ((gfn p (MX p wi)) (2 * i)) k = ((gfn p (MX p wi)) (2 * i)) k from ⟨rfl, fun _ _ _ => rfl⟩)) ?_
      refine zs3 ?_
      refine zlv (xfb 0 fd_34_0) ?_
      refine zlv (xfb 2 fd_32_2) ?_
      refine zlv (xlb 5 pl_3 hS) ?_
      refine zlv (xfb 0 fd_26_0) ?_
      refine zlv (xfb 2 fd_24_2) ?_
      refine zlv (xlb 6 pl_3 hS) ?_
      refine zlv (xkf xneq) ?_
      refine zs2 ?_
      refine zlv (xfb 0 fd_34_0) ?_
      refine zlv (xfb 3 fd_32_3) ?_
      refine zlv (xlb 5 pl_3 hS) ?_
      refine zlv (xfb 0 fd_26_0) ?_
      refine zlv (xfb 3 fd_24_3) ?_
      refine zlv (xlb 6 pl_3 hS) ?_
      refine zlv (xkf xneq) ?_
      refine zlv xpf ?_
      refine zlt <| zcf <| zsk <| zbn <| ztn <| zrg ?_
      refine zlv (xadd (r := i + 1)) ?_
      refine zlv xmv ?_
      refine zln <| zlq ⟨i + 1, rfl, (by omega), (by omega), rfl, hS.pk [0, 1, 2, 3, 4]⟩
     refine zka (xal (cs := [_, _, _, _, _]) el_26 hS) ?_; rintro _ w ⟨g8, rfl, hS⟩
     replace hS := hS.n6
     refine ⟨⟨fun _ => hS.pk [0, 1, 2, 3, 4], hS.pk [0, 1, 2, 3, 4]⟩, ?_⟩
     refine zda 8 (xal (cs := [_, _, _, _, _]) el_34 hS) ?_; rintro _ w ⟨g9, rfl, hS⟩
     replace hS := hS.n7
     refine ⟨⟨fun _ => hS.pk [0, 1, 2, 3, 4], hS.pk [0, 1, 2, 3, 4]⟩, ?_⟩
     refine zde 10 (xsw 6 st_34 hS (hd := (ones_cons (hrsg2 (2 * i) (by omega) (by omega)).one (ones_cons (hrsg2 (2 * i + 1) (by omega) (by omega)).one (ones_cons rfl (ones_cons rfl (ones_cons rfl ones_nil))))))) ?_; clear hS; rintro w hS
     replace hS := hS.n7
     refine ⟨⟨fun h => absurd h (by decide), hS.pk [0, 1, 2, 3, 4]⟩, ?_⟩
     refine zde 11 (xsw 5 st_26 hS (hd := (ones_cons (hrsg3 (2 * i) (by omega) (by omega)).one (ones_cons (hrsg3 (2 * i + 1) (by omega) (by omega)).one (ones_cons rfl (ones_cons rfl (ones_cons rfl ones_nil))))))) ?_; clear hS; rintro w hS
     replace hS := hS.n7
     refine ⟨⟨fun h => absurd h (by decide), hS.pk [0, 1, 2, 3, 4]⟩, ?_⟩
     refine zdd <| ztn <| zsr ?_
     refine zlv (xfb 4 fd_34_1) ?_
     refine zlv (xlb 6 pl_3 hS) ?_
     refine zlv (xfb 4 fd_26_1) ?_
     refine zlv (xlb 5 pl_3 hS) ?_
     refine zlv (xkf xneq) ?_
     refine zlv xmv ?_
     refine zlv (xfb 0 fd_34_0) ?_
     refine zlv (xfb 1 fd_32_1) ?_
     refine zlv (xlb 6 pl_22 hS) ?_
     refine zlv (xfb 0 fd_26_0) ?_
     refine zlv (xfb 1 fd_24_1) ?_
     refine zlv (xlb 5 pl_22 hS) ?_
     refine zlc (xc0 cl_18) (c_same28 (n := p.m) (m := p.m) (f := ((gfn p (MX p wi)) (2 * i + 1))) (g := ((gfn p (MX p wi)) (2 * i + 1))) w (show Row _ _ 1 p.m _ from (hS.rowIn (k := 2 * i + 1) 2 rfl (by omega) (by omega))) (show Row _ _ 1 p.m _ from (hS.rowIn (k := 2 * i + 1) 4 rfl (by omega) (by omega)))) ?_; rintro _ w ⟨rfl, hS'⟩
     replace hS := hS.cmp hS'; clear hS'
     refine zlas 86 (u := .bool true) (B_true (show p.m = p.m ∧ ∀ k, 0 ≤ k → k < p.m → ((gfn p (MX p wi)) (2 * i + 1)) k = ((gfn p (MX p wi)) (2 * i + 1)) k from ⟨rfl, fun _ _ _ => rfl⟩)) ?_
     refine zs3 ?_
     refine zlv (xfb 0 fd_34_0) ?_
     refine zlv (xfb 0 fd_32_0) ?_
     refine zlv (xlb 6 pl_22 hS) ?_
     refine zlv (xfb 0 fd_26_0) ?_
     refine zlv (xfb 0 fd_24_0) ?_
     refine zlv (xlb 5 pl_22 hS) ?_
     refine zlc (xc0 cl_18) (c_same28 (n := p.m) (m := p.m) (f := ((gfn p (MX p wi)) (2 * i))) (g := ((gfn p (MX p wi)) (2 * i))) w (show Row _ _ 1 p.m _ from (hS.rowIn (k := 2 * i) 2 rfl (by omega) (by omega))) (show Row _ _ 1 p.m _ from (hS.rowIn (k := 2 * i) 4 rfl (by omega) (by omega)))) ?_; rintro _ w ⟨rfl, hS'⟩
     replace hS := hS.cmp hS'; clear hS'
     refine zlas 96 (u := .bool true) (B_true (show p.m = p.m ∧ ∀ k, 0 ≤ k → k < p.m → ((gfn p (MX p wi)) (2 * i)) k = ((gfn p (MX p wi)) (2 * i)) k from ⟨rfl, fun _ _ _ => rfl⟩)) ?_
     refine zs3 ?_
     refine zlv (xfb 0 fd_34_0) ?_
     refine zlv (xfb 2 fd_32_2) ?_
     refine zlv (xlb 6 pl_3 hS) ?_
     refine zlv (xfb 0 fd_26_0) ?_
     refine zlv (xfb 2 fd_24_2) ?_
     refine zlv (xlb 5 pl_3 hS) ?_
     refine zlv (xkf xneq) ?_
     refine zs2 ?_
     refine zlv (xfb 0 fd_34_0) ?_
     refine zlv (xfb 3 fd_32_3) ?_
     refine zlv (xlb 6 pl_3 hS) ?_
     refine zlv (xfb 0 fd_26_0) ?_
     refine zlv (xfb 3 fd_24_3) ?_
     refine zlv (xlb 5 pl_3 hS) ?_
     refine zlv (xkf xneq) ?_
     refine zlv xpf ?_
     refine zlt <| zcf <| zsk <| zbn <| ztn <| zrg ?_
     refine zlv (xadd (r := i + 1)) ?_
     refine zlv xmv ?_
     refine zln <| zlq ⟨i + 1, rfl, (by omega), (by omega), rfl, hS.pk [0, 1, 2, 3, 4]⟩
    refine zxt <| ztx <| ztx <| zbh <| ztn <| zsr ?_
    refine zlv xas ?_
    refine zlt <| zrt <| zf1 ⟨_, rfl, ?_⟩
    exact ⟨rfl, hS.nl⟩
   exact absurd ‹LeafP p b nl l› ‹¬ (LeafP p b nl l)›
  refine zdb 58 ?_ ?_ <;> intro hc
  ·
   exact absurd ‹LeafP p b nl l› ‹¬ (LeafP p b nl l)›
  refine zdv 18 (fun _ => (xany (v := .bool false))) ?_
  refine zdv 19 (fun _ => xpf) ?_
  refine zdd <| ztn <| zcf <| zsk <| ztn <| zsq <| zsr ?_
  refine zlv xmv ?_
  refine zlv (xln sl_29 hvgg2) ?_
  have hpn := hvgg2.n0; have hpn1 := hvgg2.n1
  refine zlv xmv ?_
  refine zlt <| zbk <| zlp (fun mm M w => ∃ (i : Int), mm = ((partsN p b wi - i).toNat) ∧ (0 ≤ i) ∧ (i ≤ partsN p b wi) ∧ M = [(7, vgg2), (9, vgg3), (62, .int .i64 (partsN p b wi)), (63, .int .i64 i)] ∧ Sat w0 w [.blk g1 [vL, vD, .int .i64 p.stock, .int .i64 p.kerf, .int .i64 b], .own vgg2 5 34 (partsN p b wi) (gcells vvg2 p.stock p.kerf (b - 1)), .sem (Frame.rows 3 (2 * (partsN p b wi)) vvg2 (fun _ => p.m) (gfn p (MX p wi))), .own vgg3 5 26 (partsN p b wi) (gcells vvg3 p.stock p.kerf (b - 1)), .sem (Frame.rows 3 (2 * (partsN p b wi)) vvg3 (fun _ => p.m) (gfn p (MX p wi)))]) ⟨0, rfl, (by omega), (by omega), rfl, hS⟩ ?_
  clear hS w
  rintro mm M w ⟨i, rfl, h0, h1, rfl, hS⟩
  refine zsr ?_
  refine zlv xlss ?_
  refine zlt <| zsq ?_
  refine zcif ?_ ?_ <;> intro hc
  ·
   refine zsk <| ztn <| zsq <| zbk <| zsr ?_
   refine zs2 ?_
   refine zlt <| zsq ?_
   refine zdst [0, 1, 2, 3, 4] [0, 1, 2, 3, 4] 10 mx_ hS ?_; clear hS; intro w hS
   refine zdv 0 (fun _ => xmv) ?_
   refine zdv 1 (fun _ => xmv) ?_
   refine zdv 2 (fun _ => (xix (kk := 5 * i) sl_29 hvgg2)) ?_
   refine zdla 3 (fun w hS => (xlw (cs := [(vvg2 (2 * i)), (vvg2 (2 * i + 1)), .int .i64 p.stock, .int .i64 p.kerf, .int .i64 (b - 1)]) st_34 (hS.rowN 1 rfl) (gcells_at (q := 5 * i) (i := i) vvg2 p.stock p.kerf (b - 1) (by omega)))) ?_
   refine zdv 4 (fun _ => xmv) ?_
   refine zdv 5 (fun _ => xmv) ?_
   refine zdv 6 (fun _ => (xix (kk := 5 * i) sl_36 hvgg3)) ?_
   refine zdla 7 (fun w hS => (xlw (cs := [(vvg3 (2 * i)), (vvg3 (2 * i + 1)), .int .i64 p.stock, .int .i64 p.kerf, .int .i64 (b - 1)]) st_26 (hS.rowN 3 rfl) (gcells_at (q := 5 * i) (i := i) vvg3 p.stock p.kerf (b - 1) (by omega)))) ?_
   refine zdfk (r := [8, 9]) ((zdn1 ?_ (zdn1 ?_ zdn0)))
   ·
    refine zka (xal (cs := [_, _, _, _, _]) el_34 hS) ?_; rintro _ w ⟨g10, rfl, hS⟩
    replace hS := hS.n6
    refine ⟨⟨fun _ => hS.pk [0, 1, 2, 3, 4], hS.pk [0, 1, 2, 3, 4]⟩, ?_⟩
    refine zda 9 (xal (cs := [_, _, _, _, _]) el_26 hS) ?_; rintro _ w ⟨g11, rfl, hS⟩
    replace hS := hS.n7
    refine ⟨⟨fun _ => hS.pk [0, 1, 2, 3, 4], hS.pk [0, 1, 2, 3, 4]⟩, ?_⟩
    refine zde 10 (xsw 5 st_34 hS (hd := (ones_cons (hrsg2 (2 * i) (by omega) (by omega)).one (ones_cons (hrsg2 (2 * i + 1) (by omega) (by omega)).one (ones_cons rfl (ones_cons rfl (ones_cons rfl ones_nil))))))) ?_; clear hS; rintro w hS
    replace hS := hS.n7
    refine ⟨⟨fun h => absurd h (by decide), hS.pk [0, 1, 2, 3, 4]⟩, ?_⟩
    refine zde 11 (xsw 6 st_26 hS (hd := (ones_cons (hrsg3 (2 * i) (by omega) (by omega)).one (ones_cons (hrsg3 (2 * i + 1) (by omega) (by omega)).one (ones_cons rfl (ones_cons rfl (ones_cons rfl ones_nil))))))) ?_; clear hS; rintro w hS
    replace hS := hS.n7
    refine ⟨⟨fun h => absurd h (by decide), hS.pk [0, 1, 2, 3, 4]⟩, ?_⟩
    refine zdd <| ztn <| zsr ?_
    refine zlv (xfb 4 fd_34_1) ?_
    refine zlv (xlb 5 pl_3 hS) ?_
    refine zlv (xfb 4 fd_26_1) ?_
    refine zlv (xlb 6 pl_3 hS) ?_
    refine zlv (xkf xneq) ?_
    refine zlv xmv ?_
    refine zlv (xfb 0 fd_34_0) ?_
    refine zlv (xfb 1 fd_32_1) ?_
    refine zlv (xlb 5 pl_22 hS) ?_
    refine zlv (xfb 0 fd_26_0) ?_
    refine zlv (xfb 1 fd_24_1) ?_
    refine zlv (xlb 6 pl_22 hS) ?_
    refine zlc (xc0 cl_18) (c_same28 (n := p.m) (m := p.m) (f := ((gfn p (MX p wi)) (2 * i + 1))) (g := ((gfn p (MX p wi)) (2 * i + 1))) w (show Row _ _ 1 p.m _ from (hS.rowIn (k := 2 * i + 1) 2 rfl (by omega) (by omega))) (show Row _ _ 1 p.m _ from (hS.rowIn (k := 2 * i + 1) 4 rfl (by omega) (by omega)))) ?_; rintro _ w ⟨rfl, hS'⟩
    replace hS := hS.cmp hS'; clear hS'
    refine zlas 86 (u := .bool true) (B_true (show p.m = p.m ∧ ∀ k, 0 ≤ k → k < p.m → ((gfn p (MX p wi)) (2 * i + 1)) k = ((gfn p (MX p wi)) (2 * i + 1)) k from ⟨rfl, fun _ _ _ => rfl⟩)) ?_
    refine zs3 ?_
    refine zlv (xfb 0 fd_34_0) ?_
    refine zlv (xfb 0 fd_32_0) ?_
    refine zlv (xlb 5 pl_22 hS) ?_
    refine zlv (xfb 0 fd_26_0) ?_
    refine zlv (xfb 0 fd_24_0) ?_
    refine zlv (xlb 6 pl_22 hS) ?_
    refine zlc (xc0 cl_18) (c_same28 (n := p.m) (m := p.m) (f := ((gfn p (MX p wi)) (2 * i))) (g := ((gfn p (MX p wi)) (2 * i))) w (show Row _ _ 1 p.m _ from (hS.rowIn (k := 2 * i) 2 rfl (by omega) (by omega))) (show Row _ _ 1 p.m _ from (hS.rowIn (k := 2 * i) 4 rfl (by omega) (by omega)))) ?_; rintro _ w ⟨rfl, hS'⟩
    replace hS := hS.cmp hS'; clear hS'
    refine zlas 96 (u := .bool true) (B_true (show p.m = p.m ∧ ∀ k, 0 ≤ k → k < p.m → ((gfn p (MX p wi)) (2 * i)) k = ((gfn p (MX p wi)) (2 * i)) k from ⟨rfl, fun _ _ _ => rfl⟩)) ?_
    refine zs3 ?_
    refine zlv (xfb 0 fd_34_0) ?_
    refine zlv (xfb 2 fd_32_2) ?_
    refine zlv (xlb 5 pl_3 hS) ?_
    refine zlv (xfb 0 fd_26_0) ?_
    refine zlv (xfb 2 fd_24_2) ?_
    refine zlv (xlb 6 pl_3 hS) ?_
    refine zlv (xkf xneq) ?_
    refine zs2 ?_
    refine zlv (xfb 0 fd_34_0) ?_
    refine zlv (xfb 3 fd_32_3) ?_
    refine zlv (xlb 5 pl_3 hS) ?_
    refine zlv (xfb 0 fd_26_0) ?_
    refine zlv (xfb 3 fd_24_3) ?_
    refine zlv (xlb 6 pl_3 hS) ?_
    refine zlv (xkf xneq) ?_
    refine zlv xpf ?_
    refine zlt <| zcf <| zsk <| zbn <| ztn <| zrg ?_
    refine zlv (xadd (r := i + 1)) ?_
    refine zlv xmv ?_
    refine zln <| zlq ⟨i + 1, rfl, (by omega), (by omega), rfl, hS.pk [0, 1, 2, 3, 4]⟩
   refine zka (xal (cs := [_, _, _, _, _]) el_26 hS) ?_; rintro _ w ⟨g10, rfl, hS⟩
   replace hS := hS.n6
   refine ⟨⟨fun _ => hS.pk [0, 1, 2, 3, 4], hS.pk [0, 1, 2, 3, 4]⟩, ?_⟩
   refine zda 8 (xal (cs := [_, _, _, _, _]) el_34 hS) ?_; rintro _ w ⟨g11, rfl, hS⟩
   replace hS := hS.n7
   refine ⟨⟨fun _ => hS.pk [0, 1, 2, 3, 4], hS.pk [0, 1, 2, 3, 4]⟩, ?_⟩
   refine zde 10 (xsw 6 st_34 hS (hd := (ones_cons (hrsg2 (2 * i) (by omega) (by omega)).one (ones_cons (hrsg2 (2 * i + 1) (by omega) (by omega)).one (ones_cons rfl (ones_cons rfl (ones_cons rfl ones_nil))))))) ?_; clear hS; rintro w hS
   replace hS := hS.n7
   refine ⟨⟨fun h => absurd h (by decide), hS.pk [0, 1, 2, 3, 4]⟩, ?_⟩
   refine zde 11 (xsw 5 st_26 hS (hd := (ones_cons (hrsg3 (2 * i) (by omega) (by omega)).one (ones_cons (hrsg3 (2 * i + 1) (by omega) (by omega)).one (ones_cons rfl (ones_cons rfl (ones_cons rfl ones_nil))))))) ?_; clear hS; rintro w hS
   replace hS := hS.n7
   refine ⟨⟨fun h => absurd h (by decide), hS.pk [0, 1, 2, 3, 4]⟩, ?_⟩
   refine zdd <| ztn <| zsr ?_
   refine zlv (xfb 4 fd_34_1) ?_
   refine zlv (xlb 6 pl_3 hS) ?_
   refine zlv (xfb 4 fd_26_1) ?_
   refine zlv (xlb 5 pl_3 hS) ?_
   refine zlv (xkf xneq) ?_
   refine zlv xmv ?_
   refine zlv (xfb 0 fd_34_0) ?_
   refine zlv (xfb 1 fd_32_1) ?_
   refine zlv (xlb 6 pl_22 hS) ?_
   refine zlv (xfb 0 fd_26_0) ?_
   refine zlv (xfb 1 fd_24_1) ?_
   refine zlv (xlb 5 pl_22 hS) ?_
   refine zlc (xc0 cl_18) (c_same28 (n := p.m) (m := p.m) (f := ((gfn p (MX p wi)) (2 * i + 1))) (g := ((gfn p (MX p wi)) (2 * i + 1))) w (show Row _ _ 1 p.m _ from (hS.rowIn (k := 2 * i + 1) 2 rfl (by omega) (by omega))) (show Row _ _ 1 p.m _ from (hS.rowIn (k := 2 * i + 1) 4 rfl (by omega) (by omega)))) ?_; rintro _ w ⟨rfl, hS'⟩
   replace hS := hS.cmp hS'; clear hS'
   refine zlas 86 (u := .bool true) (B_true (show p.m = p.m ∧ ∀ k, 0 ≤ k → k < p.m → ((gfn p (MX p wi)) (2 * i + 1)) k = ((gfn p (MX p wi)) (2 * i + 1)) k from ⟨rfl, fun _ _ _ => rfl⟩)) ?_
   refine zs3 ?_
   refine zlv (xfb 0 fd_34_0) ?_
   refine zlv (xfb 0 fd_32_0) ?_
   refine zlv (xlb 6 pl_22 hS) ?_
   refine zlv (xfb 0 fd_26_0) ?_
   refine zlv (xfb 0 fd_24_0) ?_
   refine zlv (xlb 5 pl_22 hS) ?_
   refine zlc (xc0 cl_18) (c_same28 (n := p.m) (m := p.m) (f := ((gfn p (MX p wi)) (2 * i))) (g := ((gfn p (MX p wi)) (2 * i))) w (show Row _ _ 1 p.m _ from (hS.rowIn (k := 2 * i) 2 rfl (by omega) (by omega))) (show Row _ _ 1 p.m _ from (hS.rowIn (k := 2 * i) 4 rfl (by omega) (by omega)))) ?_; rintro _ w ⟨rfl, hS'⟩
   replace hS := hS.cmp hS'; clear hS'
   refine zlas 96 (u := .bool true) (B_true (show p.m = p.m ∧ ∀ k, 0 ≤ k → k < p.m → ((gfn p (MX p wi)) (2 * i)) k = ((gfn p (MX p wi)) (2 * i)) k from ⟨rfl, fun _ _ _ => rfl⟩)) ?_
   refine zs3 ?_
   refine zlv (xfb 0 fd_34_0) ?_
   refine zlv (xfb 2 fd_32_2) ?_
   refine zlv (xlb 6 pl_3 hS) ?_
   refine zlv (xfb 0 fd_26_0) ?_
   refine zlv (xfb 2 fd_24_2) ?_
   refine zlv (xlb 5 pl_3 hS) ?_
   refine zlv (xkf xneq) ?_
   refine zs2 ?_
   refine zlv (xfb 0 fd_34_0) ?_
   refine zlv (xfb 3 fd_32_3) ?_
   refine zlv (xlb 6 pl_3 hS) ?_
   refine zlv (xfb 0 fd_26_0) ?_
   refine zlv (xfb 3 fd_24_3) ?_
   refine zlv (xlb 5 pl_3 hS) ?_
   refine zlv (xkf xneq) ?_
   refine zlv xpf ?_
   refine zlt <| zcf <| zsk <| zbn <| ztn <| zrg ?_
   refine zlv (xadd (r := i + 1)) ?_
   refine zlv xmv ?_
   refine zln <| zlq ⟨i + 1, rfl, (by omega), (by omega), rfl, hS.pk [0, 1, 2, 3, 4]⟩
  refine zxt <| ztx <| ztx <| zbh <| ztn <| zsr ?_
  refine zlv xas ?_
  refine zlt <| zrt <| zf1 ⟨_, rfl, ?_⟩
  exact ⟨rfl, hS.nl⟩
end Go.Proofs.YtkichmnjjblodaaGreat
namespace Go.Proofs.Gw
open Go Go.RowKit Go.ChangeShapes Go.WideShapes Go.ChangeAt
section
variable {H : Type} {enc : TypeId × Value → H} {P : Program} {w : World} {held : Bool}
def Small {H : Type} (P : Program) (t : TypeId) (d : DataW H) : Prop := (d.weights P t).all (· ≤ reachBytes) = true
theorem small_each {ts : List TypeId} {ds : List (DataW H)} (h : (DataW.weightsEach P ts ds).all (· ≤ reachBytes) = true) {j : Nat} {t : TypeId} {d : DataW H} (ht : ts[j]? = some t) (hd : ds[j]? = some d) : Small P t d :=
  List.all_eq_true.2 fun n hn => List.all_eq_true.1 h n (DataW.weights_mem_each ht hd n hn)
theorem small_struct {t : TypeId} {fs : Array Field} {parts : List (DataW H)} (h : Small P t (.agg parts)) (hu : P.underlying t = some (.struct fs)) {j : Nat} {u : TypeId} {d : DataW H} (ht : (fs.toList.map (·.type))[j]? = some u) (hd : parts[j]? = some d) : Small P u d := by
  unfold Small at h
  simp only [DataW.weights, hu] at h
  exact small_each h ht hd
theorem small_all {e : TypeId} : ∀ {ds : List (DataW H)}, (DataW.weightsAll P e ds).all (· ≤ reachBytes) = true → ∀ d ∈ ds, Small P e d
  | [], _, d, hd => by cases hd
  | x :: r, h, d, hd => by
    simp only [DataW.weightsAll, List.all_append, Bool.and_eq_true] at h
    rcases List.mem_cons.1 hd with rfl | hd
    · exact h.1
    · exact small_all h.2 d hd
theorem small_slice {t e : TypeId} {elems spare : List (DataW H)} (h : Small P t (.slice elems spare)) (hu : P.underlying t = some (.slice e)) : (elems.length + spare.length) * P.bytesOf e ≤ reachBytes ∧ ∀ d ∈ elems, Small P e d := by
  unfold Small at h
  simp only [DataW.weights, hu, List.all_cons, List.all_append, Bool.and_eq_true, decide_eq_true_eq] at h
  exact ⟨h.1, small_all h.2.1⟩
theorem wf_i64 {n : Int} (h : (Lit.int .i64 n).wf = true) : -9223372036854775808 ≤ n ∧ n ≤ 9223372036854775807 := by
  simp only [Lit.wf, Bool.and_eq_true, decide_eq_true_eq] at h
  have h1 : IntKind.i64.min = -9223372036854775808 := by decide
  have h2 : IntKind.i64.max = 9223372036854775807 := by decide
  omega
theorem spot_none {a : Addr} {v : Value} (h : w.cell? a = some v) : a.spot = none := World.cell?_spot h
end
end Go.Proofs.Gw
namespace Go.Proofs.Gw
open Go Go.RowKit Go.ChangeShapes Go.WideShapes Go.ChangeAt
section
variable {H : Type} {enc : TypeId × Value → H} {P : Program} {w : World} {held : Bool}
def Rd {H : Type} (enc : TypeId × Value → H) (P : Program) (w : World) (held : Bool) (t : TypeId) (cs : List Value) : Prop := ∃ fuel y, DataW.trod enc P w 0 (fun _ => true) held fuel t cs = some y ∧ Small P t y.1
theorem Rd.int {k : IntKind} {t : TypeId} {cs : List Value} (h : Rd enc P w held t cs) (ht : P.underlying t = some (.int k)) : ∃ n, cs = [.int k n] ∧ (Lit.int k n).wf = true := by
  obtain ⟨fuel, y, h, _⟩ := h
  obtain ⟨n, h1, _, h2⟩ := DataW.trod_int ht h
  exact ⟨n, h1, h2⟩
theorem Rd.intv {k : IntKind} {t : TypeId} {v : Value} (h : Rd enc P w held t [v]) (ht : P.underlying t = some (.int k)) : ∃ n, v = .int k n ∧ (Lit.int k n).wf = true := by
  obtain ⟨n, h1, h2⟩ := h.int ht
  exact ⟨n, by simpa using h1, h2⟩
theorem Rd.struct {fs : Array Field} {t : TypeId} {cs : List Value} (h : Rd enc P w held t cs) (ht : P.underlying t = some (.struct fs)) : ∀ (j : Nat) (f : Field), fs[j]? = some f → Rd enc P w held f.type ((cs.drop f.offset).take (P.cellsOf f.type)) := fun j f hf => by
  obtain ⟨fuel, y, h, hs⟩ := h
  obtain ⟨xs, n, _, rfl, hl, hlen, hx⟩ := DataW.trod_struct ht h
  have hj : j < xs.length := by rw [hlen]; exact (Array.getElem?_eq_some_iff.1 hf).1
  have h1 := hx j f hf
  rw [List.getElem?_eq_getElem hj] at h1
  exact ⟨n, _, h1, small_struct (j := j) hs ht (by simp [hf]) (by simp [hj])⟩
theorem Rd.len {fs : Array Field} {t : TypeId} {cs : List Value} (h : Rd enc P w held t cs) (ht : P.underlying t = some (.struct fs)) : cs.length = P.cellsOf t := by
  obtain ⟨fuel, y, h, hs⟩ := h
  obtain ⟨xs, n, _, rfl, hl, hlen, hx⟩ := DataW.trod_struct ht h
  exact hl
theorem Rd.slice {t e : TypeId} {s b : Nat} {v : Value} (h : Rd enc P w held t [v]) (ht : P.underlying t = some (.slice e)) (ce : P.cellsOf e = s) (be : P.bytesOf e = b) (hs1 : 1 ≤ s) (hsb : s ≤ b) :
    ∃ (n : Int) (c : Int → Value), Row w v s n c ∧ b * n ≤ 140737488351232 ∧ ∀ i : Int, 0 ≤ i → i < n → Rd enc P w held e ((List.range s).map fun j : Nat => c (i * s + j)) := by
  obtain ⟨fuel, y, h, hs⟩ := h
  rcases Go.Deep.open_slice ht h with ⟨hcs, _⟩ | ⟨a, len, cap, m, n, D, Pl, hcs, _, hl, hm, hmm, hy, hx⟩
  · simp only [List.cons.injEq, and_true] at hcs
    subst hcs
    exact ⟨0, fun _ => undef, ⟨⟨by omega, by omega, none, 0, rfl, .inl rfl⟩, fun k hk => by rw [Int.zero_mul] at hk; omega⟩, by omega, fun i a0 a1 => by omega⟩
  · simp only [List.cons.injEq, and_true] at hcs
    subst hcs
    simp only [if_true] at hmm
    subst hmm
    rw [hy] at hs
    have hsm := small_slice hs ht
    have hb1 := hsm.1
    rw [be] at hb1
    simp only [List.length_map, List.length_range] at hb1
    have h2 : len * b ≤ (len + (m - len)) * b := Nat.mul_le_mul_right _ (by omega)
    have h3 : len * b ≤ 140737488351232 := by unfold reachBytes at hb1; omega
    have h4 : len * 1 ≤ len * b := Nat.mul_le_mul_left _ (by omega)
    rw [ce] at hx
    have e0 : ∀ i : Nat, ∃ cs' : List Value, i < len → w.cells? 0 (a.add (i * s)) s = some cs' ∧ DataW.trod enc P w 0 (fun _ => true) held n e cs' = some (D i, Pl i) := fun i => by
      by_cases hi : i < len
      · obtain ⟨cs', h5, h6⟩ := hx i (by omega)
        exact ⟨cs', fun _ => ⟨h5, h6⟩⟩
      · exact ⟨[], fun h => absurd h hi⟩
    obtain ⟨C, hC⟩ := Classical.axiomOfChoice e0
    have hsp0 : 0 < len → a.spot = none := fun h0 => by
      obtain ⟨_, h7, h8⟩ := World.cells?_some (hC 0 h0).1
      have h9 := h8 0 (by omega)
      rw [List.getElem?_eq_getElem (by omega)] at h9
      have h10 := spot_none h9
      simpa [Addr.add] using h10
    refine ⟨len, fun k => (C (k / s).toNat).getD (k % s).toNat undef, ⟨⟨by omega, by omega, some a, m, by simp, ?_⟩, fun j hj => ?_⟩, ?_, fun i i0 i1 => ?_⟩
    · by_cases hl0 : len = 0
      · left; omega
      · right
        have hsp := hsp0 (by omega)
        exact ⟨a.block, a.off, by cases a; simp at hsp; simp [hsp]⟩
    · have hjs : j < len * s := by rw [← Int.natCast_mul] at hj; omega
      have hi : j / s < len := (Nat.div_lt_iff_lt_mul (by omega)).2 hjs
      have hlen0 : 0 < len := Nat.lt_of_le_of_lt (Nat.zero_le _) hi
      have hsp := hsp0 hlen0
      obtain ⟨_, h7, h8⟩ := World.cells?_some (hC (j / s) hi).1
      have hr : j % s < s := Nat.mod_lt _ (by omega)
      have h9 := h8 (j % s) hr
      rw [Addr.add_eq a hsp, Addr.add_eq _ rfl] at h9
      have e1 : ((j : Int) / (s : Int)).toNat = j / s := by rw [← Int.natCast_ediv, Int.toNat_natCast]
      have e2 : ((j : Int) % (s : Int)).toNat = j % s := by rw [← Int.natCast_emod, Int.toNat_natCast]
      have e3 : a.off + j / s * s + j % s = a.off + j := by rw [Nat.add_assoc, Nat.mul_comm, Nat.div_add_mod]
      rw [List.getElem?_eq_getElem (by omega)] at h9
      simp only [e1, e2, List.getD_eq_getElem?_getD]
      rw [List.getElem?_eq_getElem (by omega)]
      simp only [cad, Int.toNat_natCast, Option.getD_some]
      simp only [e3] at h9
      exact h9
    · have : ((len * b : Nat) : Int) = b * len := by rw [Int.natCast_mul, Int.mul_comm]
      omega
    · obtain ⟨k, rfl⟩ := Int.eq_ofNat_of_zero_le i0
      have hk : k < len := by omega
      obtain ⟨h5, h6⟩ := hC k hk
      obtain ⟨_, h7, h8⟩ := World.cells?_some h5
      have e : ((List.range s).map fun j : Nat => (C (((k : Int) * (s : Int) + (j : Int)) / (s : Int)).toNat).getD (((k : Int) * (s : Int) + (j : Int)) % (s : Int)).toNat undef) = C k := by
        apply List.ext_getElem
        · simp [h7]
        · intro j hj1 hj2
          rw [List.getElem_map, List.getElem_range]
          have hjs : j < s := by simpa using hj1
          have e0 : ((k : Int) * (s : Int) + (j : Int)) = ((k * s + j : Nat) : Int) := by rw [Int.natCast_add, Int.natCast_mul]
          have e1 : (((k * s + j : Nat) : Int) / (s : Int)).toNat = k := by
            rw [← Int.natCast_ediv, Int.toNat_natCast, Nat.mul_comm, Nat.mul_add_div (by omega), Nat.div_eq_of_lt hjs, Nat.add_zero]
          have e2 : (((k * s + j : Nat) : Int) % (s : Int)).toNat = j := by
            rw [← Int.natCast_emod, Int.toNat_natCast, Nat.mul_comm, Nat.mul_add_mod, Nat.mod_eq_of_lt hjs]
          rw [e0, e1, e2, List.getD_eq_getElem?_getD, List.getElem?_eq_getElem hj2, Option.getD_some]
      rw [e]
      exact ⟨n, _, h6, hsm.2 (D k) (List.mem_map.2 ⟨k, List.mem_range.2 hk, rfl⟩)⟩
theorem Rd.array {n : Nat} {t e : TypeId} {cs : List Value} (h : Rd enc P w held t cs) (ht : P.underlying t = some (.array n e)) : ∀ i, i < n → Rd enc P w held e ((cs.drop (i * P.cellsOf e)).take (P.cellsOf e)) := fun i hi => by
  obtain ⟨fuel, y, h, hs⟩ := h
  obtain ⟨xs, m, _, rfl, _, hl, hel⟩ := DataW.trod_array ht h
  have h1 := hel i hi
  rw [List.getElem?_eq_getElem (by omega)] at h1
  refine ⟨m, _, h1, ?_⟩
  unfold Small at hs
  simp only [DataW.weights, ht] at hs
  exact small_all hs _ (List.mem_map.2 ⟨xs[i], List.getElem_mem _, rfl⟩)
theorem Rd.field {fs : Array Field} {t u : TypeId} {cs ds : List Value} (h : Rd enc P w held t cs) (ht : P.underlying t = some (.struct fs)) (j : Nat) {f : Field} (hf : fs[j]? = some f) {k : Nat} (hu : f.type = u) (hk : P.cellsOf u = k) (hd : (cs.drop f.offset).take k = ds) : Rd enc P w held u ds := by
  subst hu; subst hd; rw [← hk]; exact h.struct ht j f hf
theorem toList_inj {cs : Array Value} {l : List Value} (h : cs.toList = l) : cs = l.toArray := by subst h; simp
theorem Rd.arg {t : TypeId} {v : Value} {d : DataW H} {p : List MemPlace} (h : DataW.Trod enc P w 0 (fun _ => true) held t v d p) (hs : Small P t d) : Rd enc P w held t v.cells.toList := by
  obtain ⟨fuel, hf⟩ := h
  exact ⟨fuel, _, hf, hs⟩
theorem list5 {cs : List Value} (h : cs.length = 5) : ∃ a b c d e, cs = [a, b, c, d, e] := by match cs, h with | [a, b, c, d, e], _ => exact ⟨_, _, _, _, _, rfl⟩
theorem Rd.nums {k : IntKind} {t e : TypeId} {b : Nat} {v : Value} (h : Rd enc P w held t [v]) (ht : P.underlying t = some (.slice e)) (he : P.underlying e = some (.int k)) (hc : P.cellsOf e = 1) (hb : P.bytesOf e = b) (hb1 : 1 ≤ b) :
    ∃ (n : Int) (f : Int → Int), Row w v 1 n (fun j => .int k (f j)) ∧ b * n ≤ 140737488351232 ∧ ∀ j, (Lit.int k (f j)).wf = true := by
  obtain ⟨n, c, h1, h2, h3⟩ := h.slice ht hc hb (by omega) hb1
  have h0 : (Lit.int k 0).wf = true := by cases k <;> decide
  have e0 : ∀ i : Int, ∃ x : Int, (Lit.int k x).wf = true ∧ (0 ≤ i → i < n → c i = .int k x) := fun i => by
    by_cases hi : 0 ≤ i ∧ i < n
    · have h4 := h3 i hi.1 hi.2
      simp only [List.range_one, List.map_cons, List.map_nil] at h4
      obtain ⟨x, hx, hw⟩ := h4.intv he
      refine ⟨x, hw, fun _ _ => ?_⟩
      rw [← hx]; congr 1; omega
    · exact ⟨0, h0, fun a0 a1 => absurd ⟨a0, a1⟩ hi⟩
  obtain ⟨f, hf⟩ := Classical.axiomOfChoice e0
  exact ⟨n, f, h1.congr fun i i0 i1 => (hf i).2 i0 (by omega), h2, fun j => (hf j).1⟩
theorem Rd.ints {t e : TypeId} {v : Value} (h : Rd enc P w held t [v]) (ht : P.underlying t = some (.slice e)) (he : P.underlying e = some (.int .i64)) (hc : P.cellsOf e = 1) (hb : P.bytesOf e = 8) : ∃ (n : Int) (f : Int → Int), IAt w v n f := by
  obtain ⟨n, f, h1, _, h2⟩ := h.nums ht he hc hb (by omega)
  exact ⟨n, f, h1, fun k => wf_i64 (h2 k)⟩
end
end Go.Proofs.Gw
namespace Go.Proofs.Gw
open Go Go.RowKit
section
variable {H : Type} {enc : TypeId × Value → H} {P : Program} {w : World} {held : Bool}
theorem Rd.roomy {t e : TypeId} {v : Value} (h : Rd enc P w true t [v]) (ht : P.underlying t = some (.slice e)) : Roomy v := by
  obtain ⟨fuel, y, h, hs⟩ := h
  rcases Go.Deep.open_slice ht h with ⟨hcs, _⟩ | ⟨a, len, cap, m, n, D, Pl, hcs, _, hl, hm, hmm, hy, hx⟩
  · simp only [List.cons.injEq, and_true] at hcs
    subst hcs
    intro a len cap e
    cases e
    omega
  · simp only [List.cons.injEq, and_true] at hcs
    subst hcs
    simp only [if_true] at hmm
    subst hmm
    intro a len cap e
    cases e
    omega
end
end Go.Proofs.Gw
