/- Part 5 of the texts that the proof needs. -/
import Derived.Test.YtopmifmfecfaaaaRrD
import Derived.ProofKit
import Derived.OpenShut
import Derived.ChangeOld
import Derived.SizedLaws
import Derived.Lib.SmallJoins
import Derived.Deep.Slices
set_option linter.unusedVariables false
set_option linter.unusedSimpArgs false
namespace Go.Proofs.Ytopmifmfecfaaaa
open Go Go.RowKit Go.Proofs.Gw
theorem el_24 : elemT Try.prog 24 = some (.agg #[.slice none 0 0, .slice none 0 0, .int .i64 0, .int .i64 0], 4, 64) := by kernel_rfl
def LeftR (p : Prob) (u : Int) (ln : Int → Int) (pt : Int → Int → Int) (cnt : Int → Int) (q : Prob) (e : Int) : Prop :=
  (¬ PlanOk p u ln pt cnt ∧ q = ⟨0, fun _ => 0, 0, fun _ => 0, 0, 0⟩ ∧ e = 1) ∨ (PlanOk p u ln pt cnt ∧ q = ⟨p.m, p.L, p.d, leftF p (madeF u pt cnt), p.stock, p.kerf⟩ ∧ e = 0)
theorem LeftR.same {p q q2 : Prob} {u e e2 : Int} {ln cnt : Int → Int} {pt : Int → Int → Int} (h : LeftR p u ln pt cnt q e) (k : LeftR p u ln pt cnt q2 e2) : q = q2 ∧ e = e2 := by
  rcases h with ⟨h1, h2, h3⟩ | ⟨h1, h2, h3⟩ <;> rcases k with ⟨k1, k2, k3⟩ | ⟨k1, k2, k3⟩
  · exact ⟨by rw [h2, k2], by omega⟩
  · exact absurd k1 h1
  · exact absurd h1 k1
  · exact ⟨by rw [h2, k2], by omega⟩
set_option maxHeartbeats 4000000 in
set_option maxRecDepth 20000 in
theorem c_rleft {vV : Value} {u : Int} {pv : Int → Value} {ln : Int → Int} {pt : Int → Int → Int} {cnt : Int → Int} {vL vD : Value} {p : Prob} (w0 : World) (hV : VAt w0 vV u pv ln pt cnt) (h : PAt w0 vL vD p) :
    Calls Try.prog 55 [.agg #[vL, vD, .int .i64 p.stock, .int .i64 p.kerf], vV].toArray w0 fun e w => ∃ v, e = .returned v ∧ ∃ vl vd q e, v = .tuple #[.agg #[vl, vd, .int .i64 (Prob.stock q), .int .i64 (Prob.kerf q)], .int .i64 e] ∧ LeftR p u ln pt cnt q e ∧ Slh vl q.m ∧ Slh vd q.d ∧ Sat w0 w [.own vl 1 3 q.m (ints q.L), .own vd 1 3 q.d (ints q.D)] := by
  have hm := h.L.slh.n0; have hm1 := h.L.slh.n1; have hd := h.D.slh.n0; have hd1 := h.D.slh.n1; have hs := h.is; have hk := h.ik
  have hu := hV.row.slh.n0; have hu1 := hV.row.slh.n1
  refine zenG Try.func55 Try.ntmps55 fun w hS => ?_
  refine zsr ?_
  refine zla (xbx (cs := [_, _, _, _]) hS) ?_; rintro _ w ⟨g1, rfl, hS⟩
  replace hS := hS.n1
  refine zla (xal (cs := [_, _, _, _]) el_24 hS) ?_; rintro _ w ⟨g2, rfl, hS⟩
  replace hS := hS.n2
  refine zlv xas ?_
  refine zlz ?_
  refine zlv (xls 0 st_24 hS) ?_
  refine zlv xmv ?_
  refine zlc (xc0 cl_31) (c_vmade (u := u) (pv := pv) (ln := ln) (pt := pt) (cnt := cnt) (p := p) w (hV.below hS.below) (h.below hS.below)) ?_; rintro _ w ⟨vdmd1, ndmd1, fdmd1, edmd1, rfl, hmdmd1, hvdmd1, hS'⟩
  replace hS : Sat w0 w [.blk g1 [vL, vD, .int .i64 p.stock, .int .i64 p.kerf], .blk g2 [.slice none 0 0, .slice none 0 0, .int .i64 0, .int .i64 0], .own vdmd1 1 3 ndmd1 (ints fdmd1)] := hS.comp hS'; clear hS'
  refine zs5 ?_
  refine zlt <| zsq <| zsr ?_
  refine zs2 ?_
  refine zlt ?_
  refine zcif ?_ ?_ <;> intro hc
  ·
   refine zsr ?_
   refine zlv (xany (v := .agg #[.slice none 0 0, .slice none 0 0, .int .i64 0, .int .i64 0])) ?_
   refine zlv xmv ?_
   refine zle (xsw 1 st_24 hS) ?_; clear hS; rintro w hS
   replace hS := hS.n3
   refine zlv xas ?_
   refine zlt <| zrt <| ztr <| zfct 1 st_24 hS ⟨_, rfl, ?_⟩
   have hmd : ¬ PlanOk p u ln pt cnt ∧ edmd1 = 1 := by rcases hmdmd1 with ⟨q1, _, q3⟩ | ⟨_, _, _, q4⟩; exact ⟨q1, q3⟩; omega
   exact ⟨_, _, ⟨0, fun _ => 0, 0, fun _ => 0, 0, 0⟩, _, rfl, .inl ⟨hmd.1, rfl, by omega⟩, slh_nil, slh_nil, ((hS.sub (.cons _ (.cons _ (.cons _ .slnil)))).addnil 1 3 (ints fun _ => 0)).addnil 1 3 (ints fun _ => 0)⟩
  refine zsk <| ztn <| zsq ?_
  refine zdst [0, 1, 2] [0, 1, 2] 10 mx_ hS ?_; clear hS; intro w hS
  refine zdv 1 (fun _ => (xfb 0 fd_24_0)) ?_
  refine zdla 2 (fun w hS => (xlb 0 pl_22 hS)) ?_
  obtain ⟨hplo, hnd9, hfd9⟩ : PlanOk p u ln pt cnt ∧ ndmd1 = p.m ∧ fdmd1 = madeF u pt cnt := by rcases hmdmd1 with ⟨_, _, q3⟩ | ⟨q1, q2, q3, _⟩; omega; exact ⟨q1, q2, q3⟩
  have hokp := hplo.1
  have hpm1 := hokp.m1; have hpm2 := hokp.m2; have hpd := hokp.d; have hu3 := hplo.2.1
  have hfbb : ∀ k, 0 ≤ k → k < p.m → 0 ≤ fdmd1 k ∧ fdmd1 k ≤ 2000000000 := fun k k0 k1 => by rw [hfd9]; have h9 := madeF_rng hplo.2.2 hu (Int.le_refl _) k0 k1; omega
  have hfb9 := fun k (k0 : 0 ≤ k) (k1 : k < p.m) => (hfbb k k0 k1).1
  refine zdv 4 (fun _ => (xfb 2 fd_24_2)) ?_
  refine zdla 5 (fun w hS => (xlb 0 pl_3 hS)) ?_
  refine zdv 6 (fun _ => (xfb 3 fd_24_3)) ?_
  refine zdla 7 (fun w hS => (xlb 0 pl_3 hS)) ?_
  refine zdfk (r := [0, 9]) ((zdn1 ?_ (zdn1 ?_ zdn0)))
  ·
   refine zka (xl0 (c := ints p.L) sl_22 hS) ?_; rintro v1 w ⟨hS, hv1⟩
   replace hS := hS.n4
   refine ⟨⟨fun _ => hS.pk [0, 1, 2], hS.pk [0, 1, 2]⟩, ?_⟩
   refine zdfk (r := [3, 9]) ((zdn1 ?_ (zdn1 ?_ zdn0)))
   ·
    refine zka (xap 3 (r := p.m) (f := ints p.L) sl_22 el_3 hS (h.L.below hS.below) (by exact cat_self _ _)) ?_; rintro v2 w ⟨hS, hv2⟩
    replace hS := hS.n4
    refine ⟨⟨fun _ => hS.pk [0, 1, 2], hS.pk [0, 1, 2]⟩, ?_⟩
    refine zdv 8 (fun _ => (xany (v := .agg #[v2, .slice none 0 0, .int .i64 p.stock, .int .i64 p.kerf]) (hr := by obtain ⟨_, _, _, _, rfl, _⟩ := hv2; kernel_rfl))) ?_
    refine zda 9 (xal (cs := [_, _, _, _]) el_24 hS) ?_; rintro _ w ⟨g3, rfl, hS⟩
    replace hS := hS.n5
    refine ⟨⟨fun _ => hS.pk [0, 1, 2], hS.pk [0, 1, 2]⟩, ?_⟩
    refine zde 10 (xsw 4 st_24 hS (hd := (ones_cons hv2.one (ones_cons rfl (ones_cons rfl (ones_cons rfl ones_nil)))))) ?_; clear hS; rintro w hS
    replace hS := hS.n5
    refine ⟨⟨fun h => absurd h (by decide), hS.pk [0, 1, 2]⟩, ?_⟩
    refine zdd <| ztn <| zsq <| zsr ?_
    refine zlv xas ?_
    refine zlt <| zbk ?_
    replace hS := hS.addnil 1 3 (ints (fun _ => 0))
    replace hS := hS.n6
    refine zlp (fun mm M w => ∃ (i : Int) (vb9 : Value) (f9 : Int → Int), mm = ((p.m - i).toNat) ∧ (0 ≤ i) ∧ (i ≤ p.m) ∧ (∀ k, 0 ≤ k → k < i → f9 k = leftF p (madeF u pt cnt) k) ∧ (Slh vb9 i) ∧ M = [(2, .pointer (some ⟨g1, 0, none⟩)), (4, .pointer (some ⟨g2, 0, none⟩)), (5, .int .i64 0), (6, vdmd1), (8, .pointer (some ⟨g3, 0, none⟩)), (9, .int .i64 i)] ∧ Sat w0 w [.blk g1 [vL, vD, .int .i64 p.stock, .int .i64 p.kerf], .blk g2 [.slice none 0 0, .slice none 0 0, .int .i64 0, .int .i64 0], .own vdmd1 1 3 ndmd1 (ints fdmd1), .own v2 1 3 p.m (ints p.L), .blk g3 [v2, vb9, .int .i64 p.stock, .int .i64 p.kerf], .own vb9 1 3 i (ints f9)]) ⟨0, (.slice none 0 0), (fun _ => 0), rfl, (by omega), (by omega), ?_, ?_, rfl, hS⟩ ?_
    ·
     intro k k0 k1; omega
    ·
     exact slh_nil
    clear hS w
    rintro mm M w ⟨i, vb9, f9, rfl, h0, h1, hf9, hvb9, rfl, hS⟩
    refine zsq <| zsr ?_
    refine zs2 ?_
    refine zlv (xln sl_22 hvdmd1) ?_
    refine zlv xlss ?_
    refine zlt ?_
    refine zcif ?_ ?_ <;> intro hc
    ·
     refine zsk <| ztn <| zsq <| zbk ?_
     refine zdst [0, 1, 2, 4] [0, 1, 2] 16 mx_ hS ?_; clear hS; intro w hS
     refine zdv 0 (fun _ => (xfb 1 fd_24_1)) ?_
     refine zdl 1 (fun w hS => (xlb 3 pl_22 hS)) ?_
     refine zdv 2 (fun _ => (xfb 1 fd_24_1)) ?_
     refine zdla 3 (fun w hS => (xlb 0 pl_22 hS)) ?_
     have hfi := hfbb i h0 (by omega)
     have hdi := dnn9 hokp h0 (by omega : i < p.m)
     refine zdv 4 (fun _ => xmv) ?_
     refine zdv 5 (fun _ => (xix (kk := i) sl_22 h.D.slh)) ?_
     refine zdla 6 (fun w hS => (xlr (u := .int .i64 (p.D i)) pl_3 (h.D.below hS.below))) ?_
     have hbv := h.iD i
     refine zdv 7 (fun _ => xmv) ?_
     refine zdv 8 (fun _ => xmv) ?_
     refine zdv 9 (fun _ => (xix (kk := i) sl_22 hvdmd1)) ?_
     refine zdla 10 (fun w hS => (xlr (u := .int .i64 (fdmd1 i)) pl_3 (hS.rowN 2 rfl))) ?_
     refine zdv 11 (fun _ => (xsub (r := p.D i - (fdmd1 i)))) ?_
     refine zdv 12 (fun _ => (xmax (r := (max 0 (p.D i - (fdmd1 i)))))) ?_
     refine zda 13 (xli (n := 1) (len := 1) (pv := [(0, .int .i64 (max 0 (p.D i - (fdmd1 i))))]) (cs := [.int .i64 (max 0 (p.D i - (fdmd1 i)))]) (c := ints (fun _ => (max 0 (p.D i - (fdmd1 i))))) sl_22 el_3 hS) ?_; rintro v3 w ⟨hS, hv3⟩
     replace hS := hS.n7
     refine ⟨⟨fun _ => hS.pk [0, 1, 2, 4], hS.pk [0, 1, 2]⟩, ?_⟩
     refine zda 14 (xap 5 (r := i + 1) sl_22 el_3 hS (hS.rowN 6 rfl) (cat_snoc _ _ _)) ?_; rintro v4 w ⟨hS, hv4⟩
     replace hS := hS.n7
     refine ⟨⟨fun _ => hS.pk [0, 1, 2, 4], hS.pk [0, 1, 2]⟩, ?_⟩
     refine zdv 15 (fun _ => (xfb 1 fd_24_1)) ?_
     refine zde 16 (xsb 4 pl_22 hS (hv := hv4.one)) ?_; clear hS; rintro w hS
     replace hS := hS.n7
     refine ⟨⟨fun h => absurd h (by decide), hS.pk [0, 1, 2]⟩, ?_⟩
     refine zdd <| zbn <| ztn <| zrg ?_
     refine zlv xmv ?_
     refine zlv (xadd (r := i + 1)) ?_
     refine zlv xas ?_
     refine zln <| zlq ⟨i + 1, v4, (snoc f9 i (max 0 (p.D i - (fdmd1 i)))), rfl, (by omega), (by omega), ?_, ?_, rfl, hS.pk [0, 1, 2, 3, 4, 5]⟩
     ·
      exact snoc_all hf9 (by unfold leftF; rw [if_pos ⟨h0, by omega⟩, ← hfd9])
     ·
      exact hv4
    refine zxt <| ztx <| ztx <| zbh <| ztn <| zsr ?_
    refine zlv (xls 4 st_24 hS) ?_
    refine zle (xsw 1 st_24 hS (hd := (ones_cons hv2.one (ones_cons hvb9.one (ones_cons rfl (ones_cons rfl ones_nil)))))) ?_; clear hS; rintro w hS
    replace hS := hS.n6
    refine zlv xas ?_
    refine zlt <| zrt <| zfct 1 st_24 hS ⟨_, rfl, ?_⟩
    have hin : i = p.m := by omega
    replace hS := hS.recont 5 rfl (d := ints (leftF p (madeF u pt cnt))) (fun k k0 k1 => congrArg (Value.int .i64) (hf9 k k0 (by omega)))
    have hsD9 := hvb9
    rw [show i = p.d by omega] at hsD9 hS
    exact ⟨_, _, ⟨p.m, p.L, p.d, leftF p (madeF u pt cnt), p.stock, p.kerf⟩, 0, rfl, .inr ⟨hplo, rfl, rfl⟩, hv2, hsD9, hS.pk [3, 5]⟩
   refine zka (xal (cs := [_, _, _, _]) el_24 hS) ?_; rintro _ w ⟨g3, rfl, hS⟩
   replace hS := hS.n5
   refine ⟨⟨fun _ => hS.pk [0, 1, 2], hS.pk [0, 1, 2]⟩, ?_⟩
   refine zda 3 (xap 3 (r := p.m) (f := ints p.L) sl_22 el_3 hS (h.L.below hS.below) (by exact cat_self _ _)) ?_; rintro v2 w ⟨hS, hv2⟩
   replace hS := hS.n5
   refine ⟨⟨fun _ => hS.pk [0, 1, 2], hS.pk [0, 1, 2]⟩, ?_⟩
   refine zdv 8 (fun _ => (xany (v := .agg #[v2, .slice none 0 0, .int .i64 p.stock, .int .i64 p.kerf]) (hr := by obtain ⟨_, _, _, _, rfl, _⟩ := hv2; kernel_rfl))) ?_
   refine zde 10 (xsw 4 st_24 hS (hd := (ones_cons hv2.one (ones_cons rfl (ones_cons rfl (ones_cons rfl ones_nil)))))) ?_; clear hS; rintro w hS
   replace hS := hS.n5
   refine ⟨⟨fun h => absurd h (by decide), hS.pk [0, 1, 2]⟩, ?_⟩
   refine zdd <| ztn <| zsq <| zsr ?_
   refine zlv xas ?_
   refine zlt <| zbk ?_
   replace hS := hS.addnil 1 3 (ints (fun _ => 0))
   replace hS := hS.n6
   refine zlp (fun mm M w => ∃ (i : Int) (vb9 : Value) (f9 : Int → Int), mm = ((p.m - i).toNat) ∧ (0 ≤ i) ∧ (i ≤ p.m) ∧ (∀ k, 0 ≤ k → k < i → f9 k = leftF p (madeF u pt cnt) k) ∧ (Slh vb9 i) ∧ M = [(2, .pointer (some ⟨g1, 0, none⟩)), (4, .pointer (some ⟨g2, 0, none⟩)), (5, .int .i64 0), (6, vdmd1), (8, .pointer (some ⟨g3, 0, none⟩)), (9, .int .i64 i)] ∧ Sat w0 w [.blk g1 [vL, vD, .int .i64 p.stock, .int .i64 p.kerf], .blk g2 [.slice none 0 0, .slice none 0 0, .int .i64 0, .int .i64 0], .own vdmd1 1 3 ndmd1 (ints fdmd1), .own v2 1 3 p.m (ints p.L), .blk g3 [v2, vb9, .int .i64 p.stock, .int .i64 p.kerf], .own vb9 1 3 i (ints f9)]) ⟨0, (.slice none 0 0), (fun _ => 0), rfl, (by omega), (by omega), ?_, ?_, rfl, hS⟩ ?_
   ·
    intro k k0 k1; omega
   ·
    exact slh_nil
   clear hS w
   rintro mm M w ⟨i, vb9, f9, rfl, h0, h1, hf9, hvb9, rfl, hS⟩
   refine zsq <| zsr ?_
   refine zs2 ?_
   refine zlv (xln sl_22 hvdmd1) ?_
   refine zlv xlss ?_
   refine zlt ?_
   refine zcif ?_ ?_ <;> intro hc
   ·
    refine zsk <| ztn <| zsq <| zbk ?_
    refine zdst [0, 1, 2, 4] [0, 1, 2] 16 mx_ hS ?_; clear hS; intro w hS
    refine zdv 0 (fun _ => (xfb 1 fd_24_1)) ?_
    refine zdl 1 (fun w hS => (xlb 3 pl_22 hS)) ?_
    refine zdv 2 (fun _ => (xfb 1 fd_24_1)) ?_
    refine zdla 3 (fun w hS => (xlb 0 pl_22 hS)) ?_
    have hfi := hfbb i h0 (by omega)
    have hdi := dnn9 hokp h0 (by omega : i < p.m)
    refine zdv 4 (fun _ => xmv) ?_
    refine zdv 5 (fun _ => (xix (kk := i) sl_22 h.D.slh)) ?_
    refine zdla 6 (fun w hS => (xlr (u := .int .i64 (p.D i)) pl_3 (h.D.below hS.below))) ?_
    have hbv := h.iD i
    refine zdv 7 (fun _ => xmv) ?_
    refine zdv 8 (fun _ => xmv) ?_
    refine zdv 9 (fun _ => (xix (kk := i) sl_22 hvdmd1)) ?_
    refine zdla 10 (fun w hS => (xlr (u := .int .i64 (fdmd1 i)) pl_3 (hS.rowN 2 rfl))) ?_
    refine zdv 11 (fun _ => (xsub (r := p.D i - (fdmd1 i)))) ?_
    refine zdv 12 (fun _ => (xmax (r := (max 0 (p.D i - (fdmd1 i)))))) ?_
    refine zda 13 (xli (n := 1) (len := 1) (pv := [(0, .int .i64 (max 0 (p.D i - (fdmd1 i))))]) (cs := [.int .i64 (max 0 (p.D i - (fdmd1 i)))]) (c := ints (fun _ => (max 0 (p.D i - (fdmd1 i))))) sl_22 el_3 hS) ?_; rintro v3 w ⟨hS, hv3⟩
    replace hS := hS.n7
    refine ⟨⟨fun _ => hS.pk [0, 1, 2, 4], hS.pk [0, 1, 2]⟩, ?_⟩
    refine zda 14 (xap 5 (r := i + 1) sl_22 el_3 hS (hS.rowN 6 rfl) (cat_snoc _ _ _)) ?_; rintro v4 w ⟨hS, hv4⟩
    replace hS := hS.n7
    refine ⟨⟨fun _ => hS.pk [0, 1, 2, 4], hS.pk [0, 1, 2]⟩, ?_⟩
    refine zdv 15 (fun _ => (xfb 1 fd_24_1)) ?_
    refine zde 16 (xsb 4 pl_22 hS (hv := hv4.one)) ?_; clear hS; rintro w hS
    replace hS := hS.n7
    refine ⟨⟨fun h => absurd h (by decide), hS.pk [0, 1, 2]⟩, ?_⟩
    refine zdd <| zbn <| ztn <| zrg ?_
    refine zlv xmv ?_
    refine zlv (xadd (r := i + 1)) ?_
    refine zlv xas ?_
    refine zln <| zlq ⟨i + 1, v4, (snoc f9 i (max 0 (p.D i - (fdmd1 i)))), rfl, (by omega), (by omega), ?_, ?_, rfl, hS.pk [0, 1, 2, 3, 4, 5]⟩
    ·
     exact snoc_all hf9 (by unfold leftF; rw [if_pos ⟨h0, by omega⟩, ← hfd9])
    ·
     exact hv4
   refine zxt <| ztx <| ztx <| zbh <| ztn <| zsr ?_
   refine zlv (xls 4 st_24 hS) ?_
   refine zle (xsw 1 st_24 hS (hd := (ones_cons hv2.one (ones_cons hvb9.one (ones_cons rfl (ones_cons rfl ones_nil)))))) ?_; clear hS; rintro w hS
   replace hS := hS.n6
   refine zlv xas ?_
   refine zlt <| zrt <| zfct 1 st_24 hS ⟨_, rfl, ?_⟩
   have hin : i = p.m := by omega
   replace hS := hS.recont 5 rfl (d := ints (leftF p (madeF u pt cnt))) (fun k k0 k1 => congrArg (Value.int .i64) (hf9 k k0 (by omega)))
   have hsD9 := hvb9
   rw [show i = p.d by omega] at hsD9 hS
   exact ⟨_, _, ⟨p.m, p.L, p.d, leftF p (madeF u pt cnt), p.stock, p.kerf⟩, 0, rfl, .inr ⟨hplo, rfl, rfl⟩, hv2, hsD9, hS.pk [3, 5]⟩
  refine zka (xal (cs := [_, _, _, _]) el_24 hS) ?_; rintro _ w ⟨g3, rfl, hS⟩
  replace hS := hS.n4
  refine ⟨⟨fun _ => hS.pk [0, 1, 2], hS.pk [0, 1, 2]⟩, ?_⟩
  refine zda 0 (xl0 (c := ints p.L) sl_22 hS) ?_; rintro v1 w ⟨hS, hv1⟩
  replace hS := hS.n5
  refine ⟨⟨fun _ => hS.pk [0, 1, 2], hS.pk [0, 1, 2]⟩, ?_⟩
  refine zda 3 (xap 4 (r := p.m) (f := ints p.L) sl_22 el_3 hS (h.L.below hS.below) (by exact cat_self _ _)) ?_; rintro v2 w ⟨hS, hv2⟩
  replace hS := hS.n5
  refine ⟨⟨fun _ => hS.pk [0, 1, 2], hS.pk [0, 1, 2]⟩, ?_⟩
  refine zdv 8 (fun _ => (xany (v := .agg #[v2, .slice none 0 0, .int .i64 p.stock, .int .i64 p.kerf]) (hr := by obtain ⟨_, _, _, _, rfl, _⟩ := hv2; kernel_rfl))) ?_
  refine zde 10 (xsw 3 st_24 hS (hd := (ones_cons hv2.one (ones_cons rfl (ones_cons rfl (ones_cons rfl ones_nil)))))) ?_; clear hS; rintro w hS
  replace hS := hS.n5
  refine ⟨⟨fun h => absurd h (by decide), hS.pk [0, 1, 2]⟩, ?_⟩
  refine zdd <| ztn <| zsq <| zsr ?_
  refine zlv xas ?_
  refine zlt <| zbk ?_
  replace hS := hS.addnil 1 3 (ints (fun _ => 0))
  replace hS := hS.n6
  refine zlp (fun mm M w => ∃ (i : Int) (vb9 : Value) (f9 : Int → Int), mm = ((p.m - i).toNat) ∧ (0 ≤ i) ∧ (i ≤ p.m) ∧ (∀ k, 0 ≤ k → k < i → f9 k = leftF p (madeF u pt cnt) k) ∧ (Slh vb9 i) ∧ M = [(2, .pointer (some ⟨g1, 0, none⟩)), (4, .pointer (some ⟨g2, 0, none⟩)), (5, .int .i64 0), (6, vdmd1), (8, .pointer (some ⟨g3, 0, none⟩)), (9, .int .i64 i)] ∧ Sat w0 w [.blk g1 [vL, vD, .int .i64 p.stock, .int .i64 p.kerf], .blk g2 [.slice none 0 0, .slice none 0 0, .int .i64 0, .int .i64 0], .own vdmd1 1 3 ndmd1 (ints fdmd1), .blk g3 [v2, vb9, .int .i64 p.stock, .int .i64 p.kerf], .own v2 1 3 p.m (ints p.L), .own vb9 1 3 i (ints f9)]) ⟨0, (.slice none 0 0), (fun _ => 0), rfl, (by omega), (by omega), ?_, ?_, rfl, hS⟩ ?_
  ·
   intro k k0 k1; omega
  ·
   exact slh_nil
  clear hS w
  rintro mm M w ⟨i, vb9, f9, rfl, h0, h1, hf9, hvb9, rfl, hS⟩
  refine zsq <| zsr ?_
  refine zs2 ?_
  refine zlv (xln sl_22 hvdmd1) ?_
  refine zlv xlss ?_
  refine zlt ?_
  refine zcif ?_ ?_ <;> intro hc
  ·
   refine zsk <| ztn <| zsq <| zbk ?_
   refine zdst [0, 1, 2, 3] [0, 1, 2] 16 mx_ hS ?_; clear hS; intro w hS
   refine zdv 0 (fun _ => (xfb 1 fd_24_1)) ?_
   refine zdl 1 (fun w hS => (xlb 3 pl_22 hS)) ?_
   refine zdv 2 (fun _ => (xfb 1 fd_24_1)) ?_
   refine zdla 3 (fun w hS => (xlb 0 pl_22 hS)) ?_
   have hfi := hfbb i h0 (by omega)
   have hdi := dnn9 hokp h0 (by omega : i < p.m)
   refine zdv 4 (fun _ => xmv) ?_
   refine zdv 5 (fun _ => (xix (kk := i) sl_22 h.D.slh)) ?_
   refine zdla 6 (fun w hS => (xlr (u := .int .i64 (p.D i)) pl_3 (h.D.below hS.below))) ?_
   have hbv := h.iD i
   refine zdv 7 (fun _ => xmv) ?_
   refine zdv 8 (fun _ => xmv) ?_
   refine zdv 9 (fun _ => (xix (kk := i) sl_22 hvdmd1)) ?_
   refine zdla 10 (fun w hS => (xlr (u := .int .i64 (fdmd1 i)) pl_3 (hS.rowN 2 rfl))) ?_
   refine zdv 11 (fun _ => (xsub (r := p.D i - (fdmd1 i)))) ?_
   refine zdv 12 (fun _ => (xmax (r := (max 0 (p.D i - (fdmd1 i)))))) ?_
   refine zda 13 (xli (n := 1) (len := 1) (pv := [(0, .int .i64 (max 0 (p.D i - (fdmd1 i))))]) (cs := [.int .i64 (max 0 (p.D i - (fdmd1 i)))]) (c := ints (fun _ => (max 0 (p.D i - (fdmd1 i))))) sl_22 el_3 hS) ?_; rintro v3 w ⟨hS, hv3⟩
   replace hS := hS.n7
   refine ⟨⟨fun _ => hS.pk [0, 1, 2, 3], hS.pk [0, 1, 2]⟩, ?_⟩
   refine zda 14 (xap 5 (r := i + 1) sl_22 el_3 hS (hS.rowN 6 rfl) (cat_snoc _ _ _)) ?_; rintro v4 w ⟨hS, hv4⟩
   replace hS := hS.n7
   refine ⟨⟨fun _ => hS.pk [0, 1, 2, 3], hS.pk [0, 1, 2]⟩, ?_⟩
   refine zdv 15 (fun _ => (xfb 1 fd_24_1)) ?_
   refine zde 16 (xsb 3 pl_22 hS (hv := hv4.one)) ?_; clear hS; rintro w hS
   replace hS := hS.n7
   refine ⟨⟨fun h => absurd h (by decide), hS.pk [0, 1, 2]⟩, ?_⟩
   refine zdd <| zbn <| ztn <| zrg ?_
   refine zlv xmv ?_
   refine zlv (xadd (r := i + 1)) ?_
   refine zlv xas ?_
   refine zln <| zlq ⟨i + 1, v4, (snoc f9 i (max 0 (p.D i - (fdmd1 i)))), rfl, (by omega), (by omega), ?_, ?_, rfl, hS.pk [0, 1, 2, 3, 4, 5]⟩
   ·
    exact snoc_all hf9 (by unfold leftF; rw [if_pos ⟨h0, by omega⟩, ← hfd9])
   ·
    exact hv4
  refine zxt <| ztx <| ztx <| zbh <| ztn <| zsr ?_
  refine zlv (xls 3 st_24 hS) ?_
  refine zle (xsw 1 st_24 hS (hd := (ones_cons hv2.one (ones_cons hvb9.one (ones_cons rfl (ones_cons rfl ones_nil)))))) ?_; clear hS; rintro w hS
  replace hS := hS.n6
  refine zlv xas ?_
  refine zlt <| zrt <| zfct 1 st_24 hS ⟨_, rfl, ?_⟩
  have hin : i = p.m := by omega
  replace hS := hS.recont 5 rfl (d := ints (leftF p (madeF u pt cnt))) (fun k k0 k1 => congrArg (Value.int .i64) (hf9 k k0 (by omega)))
  have hsD9 := hvb9
  rw [show i = p.d by omega] at hsD9 hS
  exact ⟨_, _, ⟨p.m, p.L, p.d, leftF p (madeF u pt cnt), p.stock, p.kerf⟩, 0, rfl, .inr ⟨hplo, rfl, rfl⟩, hv2, hsD9, hS.pk [4, 5]⟩
theorem c_rleft_ok {vV : Value} {u : Int} {pv : Int → Value} {ln : Int → Int} {pt : Int → Int → Int} {cnt : Int → Int} {vL vD : Value} {p : Prob} (w0 : World) (hV : VAt w0 vV u pv ln pt cnt) (h : PAt w0 vL vD p) (hp9 : PlanOk p u ln pt cnt) :
    Calls Try.prog 55 [.agg #[vL, vD, .int .i64 p.stock, .int .i64 p.kerf], vV].toArray w0 fun e w => ∃ v, e = .returned v ∧ ∃ vl vd, v = .tuple #[.agg #[vl, vd, .int .i64 p.stock, .int .i64 p.kerf], .int .i64 0] ∧ Slh vl p.m ∧ Slh vd p.d ∧ Sat w0 w [.own vl 1 3 p.m (ints p.L), .own vd 1 3 p.d (ints (leftF p (madeF u pt cnt)))] :=
  (c_rleft w0 hV h).mono fun e w ⟨v, he, vl, vd, q, e2, hv, hl, h1, h2, h3⟩ => by
    rcases hl with ⟨hn, _⟩ | ⟨_, rfl, rfl⟩
    · exact absurd hp9 hn
    · exact ⟨v, he, vl, vd, hv, h1, h2, h3⟩
end Go.Proofs.Ytopmifmfecfaaaa
namespace Go.Proofs.Ytopmifmfecfaaaa
open Go Go.RowKit Go.Proofs.Gw
theorem cl_11 : calledT Try.prog 11 = true := by kernel_rfl
theorem cl_54 : calledT Try.prog 54 = true := by kernel_rfl
theorem cl_55 : calledT Try.prog 55 = true := by kernel_rfl
theorem cl_56 : calledT Try.prog 56 = true := by kernel_rfl
theorem vat_cat2 {w : World} {v v2 : Value} {n1 n2 : Int} {pv1 pv2 : Int → Value} {ln1 ln2 c1 c2 : Int → Int} {pt1 pt2 : Int → Int → Int} (hr : Row w v 2 (n1 + n2) (ucells (cat n1 pv1 pv2) (cat n1 c1 c2))) (h1 : ∀ i, 0 ≤ i → i < n1 → Row w (pv1 i) 1 (ln1 i) (ints (pt1 i))) (h1r : ∀ i, 0 ≤ i → i < n1 → Gw.Roomy (pv1 i)) (h2 : VAt w v2 n2 pv2 ln2 pt2 c2) (n10 : 0 ≤ n1) : VAt w v (n1 + n2) (cat n1 pv1 pv2) (cat n1 ln1 ln2) (cat n1 pt1 pt2) (cat n1 c1 c2) := by
  refine ⟨hr, fun i i0 i1 => ?_, fun i i0 i1 => ?_⟩
  · unfold Gw.cat
    by_cases h : i < n1
    · rw [if_pos h, if_pos h, if_pos h]; exact h1 i i0 h
    · rw [if_neg h, if_neg h, if_neg h]; exact h2.p (i - n1) (by omega) (by omega)
  · unfold Gw.cat
    by_cases h : i < n1
    · rw [if_pos h]; exact h1r i i0 h
    · rw [if_neg h]; exact h2.room (i - n1) (by omega) (by omega)
set_option maxHeartbeats 4000000 in
set_option maxRecDepth 20000 in
theorem c_rdown {vL vD : Value} {p : Prob} {vM : Value} {u : Int} {mv : Int → Value} {ml : Int → Int} {mf : Int → Int → Int} {vX vY : Value} {s : So} (w0 : World) (h : PAt w0 vL vD p) (hM : MAt w0 vM u mv ml mf) (hX : Row w0 vX 1 s.n (ints s.X)) (hY : Row w0 vY 1 s.m (ints s.Y)) (hn60 : s.n ≤ 1000) :
    Calls Try.prog 23 [.agg #[vL, vD, .int .i64 p.stock, .int .i64 p.kerf], .agg #[vM, vX, vY, .int .i64 s.val, .int .i64 s.den]].toArray w0 fun e w => ∃ v, e = .returned v ∧ ∃ r n pv ln pt cnt e, v = .tuple #[r, .int .i64 e] ∧ DownR p u ml mf s (plL n ln pt cnt) e ∧ (∀ k, 0 ≤ k → k < n → 1 ≤ cnt k ∧ cnt k ≤ 1000000000) ∧ n ≤ 1000000 ∧ Slh r n ∧ Sat w0 w [.own r 2 34 n (ucells pv cnt), .sem (Frame.rows 3 n pv ln pt)] := by
  have hm := h.L.slh.n0; have hm1 := h.L.slh.n1; have hd := h.D.slh.n0; have hd1 := h.D.slh.n1; have hs := h.is; have hk := h.ik
  have hu := hM.row.slh.n0; have hu1 := hM.row.slh.n1; have hn := hX.slh.n0; have hn1 := hX.slh.n1
  refine zenG Try.func23 Try.ntmps23 fun w hS => ?_
  refine zsr ?_
  refine zla (xbx (cs := [_, _, _, _]) hS) ?_; rintro _ w ⟨g1, rfl, hS⟩
  replace hS := hS.n1
  refine zla (xbx (cs := [_, _, _, _, _]) hS) ?_; rintro _ w ⟨g2, rfl, hS⟩
  replace hS := hS.n2
  refine zs2 ?_
  refine zlt <| zsq <| zbk <| zsr ?_
  refine zlv (xls 0 st_24 hS) ?_
  refine zlv (xls 1 st_54 hS) ?_
  refine zlc (xc0 cl_27) (c_rfit34 (p := p) (u := u) (ml := ml) (mf := mf) (s := s) w (h.below hS.below) (hM.below hS.below) (hX.below hS.below) (hY.below hS.below) hn60) ?_; rintro _ w ⟨rfl, hS'⟩
  replace hS := hS.cmp hS'; clear hS'
  refine zs2 ?_
  refine zlt ?_
  refine zcif ?_ ?_ <;> intro hc
  ·
   refine zsr ?_
   refine zs2 ?_
   refine zlt <| zrt <| zbr <| ztr <| zf2 ⟨_, rfl, ?_⟩
   exact ⟨_, 0, fun _ => undef, fun _ => 0, fun _ _ => 0, fun _ => 0, _, rfl, .inl ⟨by omega, rfl, 0, fun _ => 0, fun _ _ => 0, fun _ => 0, .inl ⟨‹¬ (p.Ok ∧ _)›, rfl, rfl⟩⟩, fun k k0 k1 => by omega, by omega, slh_nil, ((hS.sub (.cons _ (.cons _ .slnil))).addnil 2 34 (ucells (fun _ => undef) (fun _ => 0))).addrows 3 (fun _ => undef) (fun _ => 0) (fun _ _ => 0)⟩
  refine zsr ?_
  refine zlv (xls 0 st_24 hS) ?_
  obtain ⟨hokp, hfitt⟩ : p.Ok ∧ FitR p u ml mf s := by first | assumption | exact Classical.not_not.1 ‹_›
  have hok9 := hokp
  have hpm1 := hokp.m1; have hpm2 := hokp.m2; have hpd := hokp.d
  refine zlc (xc0 cl_53) (c_many (p := p) w (h.below hS.below) hok9) ?_; rintro _ w ⟨rfl, hS'⟩
  replace hS := hS.cmp hS'; clear hS'
  refine zlv xas ?_
  refine zlt ?_
  refine zcif ?_ ?_ <;> intro hc
  ·
   refine zsr ?_
   refine zs2 ?_
   refine zlt <| zrt <| zbr <| ztr <| zf2 ⟨_, rfl, ?_⟩
   exact ⟨_, 0, fun _ => undef, fun _ => 0, fun _ _ => 0, fun _ => 0, _, rfl, .inl ⟨by omega, rfl, 0, fun _ => 0, fun _ _ => 0, fun _ => 0, .inr (.inl ⟨hokp, hfitt, .inr (.inl ⟨hokp, by omega, rfl⟩), by omega, rfl⟩)⟩, fun k k0 k1 => by omega, by omega, slh_nil, ((hS.sub (.cons _ (.cons _ .slnil))).addnil 2 34 (ucells (fun _ => undef) (fun _ => 0))).addrows 3 (fun _ => undef) (fun _ => 0) (fun _ _ => 0)⟩
  refine zsk <| zbn <| ztn <| zsr ?_
  refine zlv (xfb 0 fd_54_0) ?_
  refine zlv (xlb 1 pl_32 hS) ?_
  refine zlv (xfb 1 fd_54_1) ?_
  refine zlv (xlp 1 (ds := [vX, vY, .int .i64 s.val, .int .i64 s.den]) st_52 hS) ?_
  have hml := fun k k0 k1 => (show ml k ≤ 100000 by have := (prop_rng (hfitt.2.2.2.1 k k0 k1).1).1; omega)
  have hun := hfitt.2.1
  have hu6 := hfitt.2.2.1
  refine zlc (xc0 cl_54) (c_rfloor30 (u := u) (ml := ml) (mf := mf) (s := s) w (hM.below hS.below) (hX.below hS.below) (hY.below hS.below) (by omega) (fun k k0 k1 => by have := hml k k0 k1; omega)) ?_; rintro _ w ⟨vffl1, fnfl1, fvfl1, flfl1, fgfl1, fcfl1, fefl1, rfl, hflfl1, hvffl1, hS'⟩
  replace hS : Sat w0 w [.blk g1 [vL, vD, .int .i64 p.stock, .int .i64 p.kerf], .blk g2 [vM, vX, vY, .int .i64 s.val, .int .i64 s.den], .own vffl1 2 34 fnfl1 (ucells fvfl1 fcfl1), .sem (Frame.rows 3 fnfl1 fvfl1 flfl1 fgfl1)] := hS.comp hS'; clear hS'
  have hfrfl1 := fun k (k0 : 0 ≤ k) (k1 : k < fnfl1) => hS.slhIn 3 rfl k0 k1
  have hfl := hflfl1.resolve_left fun hh => hh.1 ⟨hfitt.1, hfitt.2.1.symm⟩
  have hwh : WholeR p u ml mf s fnfl1 flfl1 fgfl1 fcfl1 0 := .inr (.inr ⟨hokp, hfitt, .inr (.inr ⟨hokp, by omega, rfl⟩), rfl, hfl.2.2.1, hfl.2.2.2.1, hfl.2.2.2.2.1, hfl.2.2.2.2.2.1⟩)
  obtain ⟨_, _, htot, hn60w, hplw, hn19⟩ := hwh.ok rfl hu
  have hfb9 := fun k (k0 : 0 ≤ k) (k1 : k < p.m) => (madeF_rng hplw.2.2 hn19 (Int.le_refl _) k0 k1).1
  refine zs5 ?_
  refine zlz ?_
  refine zlv (xls 0 st_24 hS) ?_
  refine zlv xmv ?_
  refine zlc (xc0 cl_55) (c_rleft_ok (u := fnfl1) (pv := fvfl1) (ln := flfl1) (pt := fgfl1) (cnt := fcfl1) (p := p) w (⟨(hS.rowN 2 rfl), fun k k0 k1 => hS.rowIn 3 rfl k0 k1, fun k k0 k1 => hS.roomIn 3 rfl k0 k1⟩ : VAt _ vffl1 fnfl1 fvfl1 flfl1 fgfl1 fcfl1) (h.below hS.below) hplw) ?_; rintro _ w ⟨vllf1, wllf1, rfl, hvllf1, hwllf1, hS'⟩
  replace hS : Sat w0 w [.blk g1 [vL, vD, .int .i64 p.stock, .int .i64 p.kerf], .blk g2 [vM, vX, vY, .int .i64 s.val, .int .i64 s.den], .own vffl1 2 34 fnfl1 (ucells fvfl1 fcfl1), .sem (Frame.rows 3 fnfl1 fvfl1 flfl1 fgfl1), .own vllf1 1 3 p.m (ints p.L), .own wllf1 1 3 p.d (ints (leftF p (madeF fnfl1 fgfl1 fcfl1)))] := hS.comp hS'; clear hS'
  refine zs3 ?_
  refine zla (xal (cs := [_, _, _, _]) el_24 hS) ?_; rintro _ w ⟨g3, rfl, hS⟩
  replace hS := hS.n7
  refine zle (xsw 6 st_24 hS (hd := (ones_cons hvllf1.one (ones_cons hwllf1.one (ones_cons rfl (ones_cons rfl ones_nil)))))) ?_; clear hS; rintro w hS
  replace hS := hS.n7
  refine zlv xas ?_
  refine zlz ?_
  refine zlv (xls 6 st_24 hS) ?_
  refine zlc (xc0 cl_56) (c_rffit (p := (⟨p.m, p.L, p.d, (leftF p (madeF fnfl1 fgfl1 fcfl1)), p.stock, p.kerf⟩ : Prob)) w (⟨(hS.rowN 4 rfl), (hS.rowN 5 rfl), h.iL, (leftF_bnd hokp hfb9), (by (try dsimp only); omega), (by (try dsimp only); omega)⟩ : PAt _ _ _ (⟨p.m, p.L, p.d, (leftF p (madeF fnfl1 fgfl1 fcfl1)), p.stock, p.kerf⟩ : Prob))) ?_; rintro _ w ⟨vnff1, nnff1, pnff1, lnff1, gnff1, cnff1, enff1, rfl, hffff1, hfcff1, hfnff1, hvnff1, hS'⟩
  replace hS : Sat w0 w [.blk g1 [vL, vD, .int .i64 p.stock, .int .i64 p.kerf], .blk g2 [vM, vX, vY, .int .i64 s.val, .int .i64 s.den], .own vffl1 2 34 fnfl1 (ucells fvfl1 fcfl1), .sem (Frame.rows 3 fnfl1 fvfl1 flfl1 fgfl1), .own vllf1 1 3 p.m (ints p.L), .own wllf1 1 3 p.d (ints (leftF p (madeF fnfl1 fgfl1 fcfl1))), .blk g3 [vllf1, wllf1, .int .i64 p.stock, .int .i64 p.kerf], .own vnff1 2 34 nnff1 (ucells pnff1 cnff1), .sem (Frame.rows 3 nnff1 pnff1 lnff1 gnff1)] := hS.comp hS'; clear hS'
  have hrnff1 := fun k (k0 : 0 ≤ k) (k1 : k < nnff1) => hS.slhIn 8 rfl k0 k1
  have hqok := leftP_ok hokp hfb9
  have htl := leftP_tot hokp hfb9 p.m.toNat (by omega)
  have he0 : enff1 = 0 := by
    rcases hffff1.1 with ⟨q1, _⟩ | ⟨_, q2, _⟩ | ⟨_, _, q3⟩
    · exact absurd hqok q1
    · (dsimp only at q2; omega)
    · exact q3
  have hnff0 := hvnff1.n0
  refine zs5 ?_
  refine zlt <| zsq ?_
  refine zdst [0, 1, 6] [0, 1, 6] 1000 mx_ hS ?_; clear hS; intro w hS
  refine zdla 0 (fun w hS => (xls 0 st_24 hS)) ?_
  refine zdv 1 (fun _ => xmv) ?_
  refine zdv 2 (fun _ => xmv) ?_
  refine zda 3 (xap 2 (r := fnfl1 + nnff1) (f := ucells (cat fnfl1 fvfl1 pnff1) (cat fnfl1 fcfl1 cnff1)) sl_25 el_34 hS (hS.rowN 7 rfl) (by exact cat_ucells2 _ _ _ _ _) (h1 := (ucells_oneR (fun k k0 k1 => (hrnff1 k k0 k1).one)))) ?_; rintro v1 w ⟨hS, hv1⟩
  replace hS := hS.n9
  refine ⟨⟨fun _ => hS.pk [0, 1, 6], hS.pk [0, 1, 6]⟩, ?_⟩
  refine zdc 4 (xc0 cl_11) (c_rtrim (u := (fnfl1 + nnff1)) (pv := (cat fnfl1 fvfl1 pnff1)) (ln := (cat fnfl1 flfl1 lnff1)) (pt := (cat fnfl1 fgfl1 gnff1)) (cnt := (cat fnfl1 fcfl1 cnff1)) (p := p) w (vat_cat2 (hS.rowN 2 rfl) (fun k k0 k1 => hS.rowIn 3 rfl k0 k1) (fun k k0 k1 => hS.roomIn 3 rfl k0 k1) (⟨(hS.rowN 7 rfl), fun k k0 k1 => hS.rowIn 8 rfl k0 k1, fun k k0 k1 => hS.roomIn 8 rfl k0 k1⟩ : VAt _ vnff1 nnff1 pnff1 lnff1 gnff1 cnff1) (by omega)) (h.below hS.below)) ?_; rintro _ w ⟨vntr1, nntr1, pntr1, lntr1, gntr1, cntr1, entr1, rfl, htrtr1, htctr1, htntr1, hvntr1, hS'⟩
  replace hS : Sat w0 w [.blk g1 [vL, vD, .int .i64 p.stock, .int .i64 p.kerf], .blk g2 [vM, vX, vY, .int .i64 s.val, .int .i64 s.den], .own v1 2 34 (fnfl1 + nnff1) (ucells (cat fnfl1 fvfl1 pnff1) (cat fnfl1 fcfl1 cnff1)), .sem (Frame.rows 3 fnfl1 fvfl1 flfl1 fgfl1), .own vllf1 1 3 p.m (ints p.L), .own wllf1 1 3 p.d (ints (leftF p (madeF fnfl1 fgfl1 fcfl1))), .blk g3 [vllf1, wllf1, .int .i64 p.stock, .int .i64 p.kerf], .own vnff1 2 34 nnff1 (ucells pnff1 cnff1), .sem (Frame.rows 3 nnff1 pnff1 lnff1 gnff1), .own vntr1 2 34 nntr1 (ucells pntr1 cntr1), .sem (Frame.rows 3 nntr1 pntr1 lntr1 gntr1)] := hS.comp hS'; clear hS'
  have hrntr1 := fun k (k0 : 0 ≤ k) (k1 : k < nntr1) => hS.slhIn 10 rfl k0 k1
  refine ⟨⟨fun _ => hS.pk [0, 1, 6], hS.pk [0, 1, 6]⟩, ?_⟩
  refine zdv 5 (fun _ => xex) ?_
  refine zdv 6 (fun _ => xex) ?_
  refine zdv 7 (fun _ => xas) ?_
  refine zdv 8 (fun _ => xas) ?_
  refine zdd <| ztn <| zrt <| zf2 ⟨_, rfl, ?_⟩
  exact ⟨_, _, _, _, _, _, _, rfl, .inr ⟨_, _, _, _, _, _, _, _, hwh, hn19, hnff0, hffff1.2.1 he0, htrtr1⟩, htctr1, htntr1, hvntr1, hS.pk [9, 10]⟩
end Go.Proofs.Ytopmifmfecfaaaa
namespace Go.Proofs.Ytopmifmfecfaaaa
open Go Go.RowKit Go.Proofs.Gw
theorem cl_59 : calledT Try.prog 59 = true := by kernel_rfl
theorem el_4 : elemT Try.prog 4 = some (.bool false, 1, 1) := by kernel_rfl
theorem pl_4 : plainT Try.prog 4 = true := by kernel_rfl
theorem sl_98 : sliceT Try.prog 98 = some (4, 1) := by kernel_rfl
set_option maxHeartbeats 4000000 in
set_option maxRecDepth 20000 in
theorem c_needed {vV : Value} {u : Int} {pv : Int → Value} {ln : Int → Int} {pt : Int → Int → Int} {cnt : Int → Int} {vL vD : Value} {p : Prob} {vA : Value} {f : Int → Int} (w0 : World) (hV : VAt w0 vV u pv ln pt cnt) (h : PAt w0 vL vD p) (hpl9 : PlanOk p u ln pt cnt) (hA : Row w0 vA 1 p.m (ints f)) :
    Calls Try.prog 59 [.agg #[vL, vD, .int .i64 p.stock, .int .i64 p.kerf], vV, vA].toArray w0 fun e w => ∃ v, e = .returned v ∧ v = B (∃ q, 0 ≤ q ∧ q < p.m ∧ 0 < f q ∧ 0 < leftF p (madeF u pt cnt) q) ∧ Sat w0 w [] := by
  have hm := h.L.slh.n0; have hm1 := h.L.slh.n1; have hd := h.D.slh.n0; have hd1 := h.D.slh.n1; have hs := h.is; have hk := h.ik
  have hu := hV.row.slh.n0; have hu1 := hV.row.slh.n1
  have hokp := hpl9.1
  have hpd := hokp.d; have hpm1 := hokp.m1; have hpm2 := hokp.m2
  have hfb9 := fun k (k0 : 0 ≤ k) (k1 : k < p.m) => (madeF_rng hpl9.2.2 hu (Int.le_refl _) k0 k1).1
  refine zenG Try.func59 Try.ntmps59 fun w hS => ?_
  refine zsr ?_
  refine zla (xbx (cs := [_, _, _, _]) hS) ?_; rintro _ w ⟨g1, rfl, hS⟩
  replace hS := hS.n1
  refine zlv xas ?_
  refine zlz ?_
  refine zlv (xls 0 st_24 hS) ?_
  refine zlv xmv ?_
  refine zlc (xc0 cl_55) (c_rleft_ok (u := u) (pv := pv) (ln := ln) (pt := pt) (cnt := cnt) (p := p) w (hV.below hS.below) (h.below hS.below) hpl9) ?_; rintro _ w ⟨vllf1, wllf1, rfl, hvllf1, hwllf1, hS'⟩
  replace hS : Sat w0 w [.blk g1 [vL, vD, .int .i64 p.stock, .int .i64 p.kerf], .own vllf1 1 3 p.m (ints p.L), .own wllf1 1 3 p.d (ints (leftF p (madeF u pt cnt)))] := hS.comp hS'; clear hS'
  refine zs3 ?_
  refine zla (xal (cs := [_, _, _, _]) el_24 hS) ?_; rintro _ w ⟨g2, rfl, hS⟩
  replace hS := hS.n4
  refine zle (xsw 3 st_24 hS (hd := (ones_cons hvllf1.one (ones_cons hwllf1.one (ones_cons rfl (ones_cons rfl ones_nil)))))) ?_; clear hS; rintro w hS
  replace hS := hS.n4
  refine zlv xas ?_
  refine zlt <| zsq <| zsr ?_
  refine zlv xas ?_
  refine zlt <| zbk <| zlp (fun mm M w => ∃ (i : Int), mm = ((p.m - i).toNat) ∧ (0 ≤ i) ∧ (i ≤ p.m) ∧ (∀ k, 0 ≤ k → k < i → ¬ (0 < f k ∧ 0 < leftF p (madeF u pt cnt) k)) ∧ M = [(2, vA), (7, .pointer (some ⟨g2, 0, none⟩)), (9, .int .i64 i)] ∧ Sat w0 w [.blk g1 [vL, vD, .int .i64 p.stock, .int .i64 p.kerf], .own vllf1 1 3 p.m (ints p.L), .own wllf1 1 3 p.d (ints (leftF p (madeF u pt cnt))), .blk g2 [vllf1, wllf1, .int .i64 p.stock, .int .i64 p.kerf]]) ⟨0, rfl, (by omega), (by omega), ?_, rfl, hS⟩ ?_
  ·
   intro k k0 k1; omega
  clear hS w
  rintro mm M w ⟨i, rfl, h0, h1, hno, rfl, hS⟩
  refine zsq <| zsr ?_
  refine zs2 ?_
  refine zlv (xln sl_22 hA.slh) ?_
  refine zlv xlss ?_
  refine zlt ?_
  refine zcif ?_ ?_ <;> intro hc
  ·
   refine zsk <| ztn <| zsq <| zbk <| zsr ?_
   refine zs2 ?_
   refine zlv (xix (kk := i) sl_22 hA.slh) ?_
   refine zlv (xlr (u := .int .i64 (f i)) pl_3 (hA.below hS.below)) ?_
   refine zs2 ?_
   refine zlb 27 ?_ ?_ <;> intro hc
   ·
    refine zlv (xfb 1 fd_24_1) ?_
    refine zlv (xlb 3 pl_22 hS) ?_
    refine zlv xmv ?_
    refine zlv (xix (kk := i) sl_22 hwllf1) ?_
    refine zlv (xlr (u := .int .i64 ((leftF p (madeF u pt cnt)) i)) pl_3 (hS.rowN 2 rfl)) ?_
    refine zs2 ?_
    refine zlt ?_
    refine zcif ?_ ?_ <;> intro hc
    ·
     refine zsr ?_
     refine zlv xas ?_
     refine zlt <| zrt <| zbr <| ztr <| ztr <| zbr <| ztr <| zf1 ⟨_, rfl, ?_⟩
     exact ⟨true_B ⟨i, h0, by omega, by assumption, by assumption⟩, hS.nl⟩
    refine zsk <| zbn <| ztn <| zrg ?_
    refine zlv xmv ?_
    refine zlv (xadd (r := i + 1)) ?_
    refine zlv xas ?_
    refine zln <| zlq ⟨i + 1, rfl, (by omega), (by omega), ?_, rfl, hS⟩
    ·
     intro k k0 k1; rcases Int.lt_or_eq_of_le (show k ≤ i by omega) with h9 | h9
     · exact hno k k0 h9
     · rw [h9]; rintro ⟨ha9, hb9⟩; first | omega | exact absurd hb9 ‹_› | exact absurd ha9 ‹_›
   iterate 6 refine zlo ?_
   refine zlv xpf ?_
   refine zlt <| zcf <| zsk <| zbn <| ztn <| zrg ?_
   refine zlv xmv ?_
   refine zlv (xadd (r := i + 1)) ?_
   refine zlv xas ?_
   refine zln <| zlq ⟨i + 1, rfl, (by omega), (by omega), ?_, rfl, hS⟩
   ·
    intro k k0 k1; rcases Int.lt_or_eq_of_le (show k ≤ i by omega) with h9 | h9
    · exact hno k k0 h9
    · rw [h9]; rintro ⟨ha9, hb9⟩; first | omega | exact absurd hb9 ‹_› | exact absurd ha9 ‹_›
  refine zxt <| ztx <| ztx <| zbh <| ztn <| zsr ?_
  refine zlv xas ?_
  refine zlt <| zrt <| zf1 ⟨_, rfl, ?_⟩
  exact ⟨false_B (fun ⟨q, q0, q1, q2, q3⟩ => hno q q0 (by omega) ⟨q2, q3⟩), hS.nl⟩
theorem planOk_same {p : Prob} {n m : Int} {ln ln2 cnt cnt2 : Int → Int} {pt pt2 : Int → Int → Int} (n0 : 0 ≤ n) (m0 : 0 ≤ m) (e : plL n ln pt cnt = plL m ln2 pt2 cnt2) (h : PlanOk p n ln pt cnt) : PlanOk p m ln2 pt2 cnt2 := by
  have hl := congrArg List.length e
  rw [plL_len, plL_len] at hl
  exact planOk_list' h.1 (by have := h.2.1; omega) (by rw [← e]; exact planOk_mem h)
theorem TrimR.same {p : Prob} {n m e1 e2 : Int} {ln ln2 cnt cnt2 : Int → Int} {pt pt2 : Int → Int → Int} {o1 o2 : Us} (n0 : 0 ≤ n) (m0 : 0 ≤ m) (eL : plL n ln pt cnt = plL m ln2 pt2 cnt2) (h : TrimR p n ln pt cnt o1 e1) (k : TrimR p m ln2 pt2 cnt2 o2 e2) : o1 = o2 ∧ e1 = e2 := by
  have hP : PlanOk p n ln pt cnt ↔ PlanOk p m ln2 pt2 cnt2 := ⟨planOk_same n0 m0 eL, planOk_same m0 n0 eL.symm⟩
  have hM : PlanOk p n ln pt cnt → ∀ j, 0 ≤ j → j < p.m → madeF n pt cnt j = madeF m pt2 cnt2 j := fun hp j j0 j1 => by rw [hp.mk n0 j0 j1, (hP.1 hp).mk m0 j0 j1, eL]
  rcases h with ⟨h1, h2, h3⟩ | ⟨h1, h2, h3, h4⟩ | ⟨h1, h2, h3, N, hN, hO⟩ <;> rcases k with ⟨k1, k2, k3⟩ | ⟨k1, k2, k3, k4⟩ | ⟨k1, k2, k3, M, kN, kO⟩
  · exact ⟨by rw [h2, k2], by omega⟩
  · exact absurd (hP.2 k1) h1
  · exact absurd (hP.2 k1) h1
  · exact absurd (hP.1 h1) k1
  · exact ⟨by rw [h3, k3], by omega⟩
  · exact absurd (fun j j0 j1 => by rw [hM h1 j j0 j1]; exact k2 j j0 j1) h2
  · exact absurd (hP.1 h1) k1
  · exact absurd (fun j j0 j1 => by rw [← hM h1 j j0 j1]; exact h2 j j0 j1) k2
  · rw [eL] at hN
    obtain rfl := hN.same kN
    have e : (lst p.m fun j => madeF n pt cnt j - p.D j) = lst p.m fun j => madeF m pt2 cnt2 j - p.D j := lst_congr fun j j0 j1 => by rw [hM h1 j j0 j1]
    rw [e] at hO
    exact ⟨hO.same kO, by omega⟩
theorem WholeR.same {p : Prob} {u n m e f : Int} {ml ln cnt ln2 cnt2 : Int → Int} {mf pt pt2 : Int → Int → Int} {s : So} (h : WholeR p u ml mf s n ln pt cnt e) (k : WholeR p u ml mf s m ln2 pt2 cnt2 f) : e = f ∧ (e = 0 → n = m ∧ ln = ln2 ∧ pt = pt2 ∧ cnt = cnt2) := by
  rcases h with ⟨h1, h2, h3⟩ | ⟨h1, h2, h3, h4, _⟩ | ⟨h1, h2, h3, h4, h5, h6, h7, h8⟩ <;> rcases k with ⟨k1, k2, k3⟩ | ⟨k1, k2, k3, k4, _⟩ | ⟨k1, k2, k3, k4, k5, k6, k7, k8⟩
  · exact ⟨by omega, fun h => by omega⟩
  · exact absurd ⟨k1, k2⟩ h1
  · exact absurd ⟨k1, k2⟩ h1
  · exact absurd ⟨h1, h2⟩ k1
  · exact ⟨h3.same k3, fun h => absurd h h4⟩
  · exact absurd (h3.same k3) h4
  · exact absurd ⟨h1, h2⟩ k1
  · exact absurd (h3.same k3).symm k4
  · exact ⟨by omega, fun _ => ⟨by rw [h5, k5], by rw [h6, k6], by rw [h7, k7], by rw [h8, k8]⟩⟩
theorem DownR.same {p : Prob} {u e1 e2 : Int} {ml : Int → Int} {mf : Int → Int → Int} {s : So} {o1 o2 : Us} (h : DownR p u ml mf s o1 e1) (k : DownR p u ml mf s o2 e2) : o1 = o2 ∧ e1 = e2 := by
  rcases h with ⟨h1, h2, _, _, _, _, h3⟩ | ⟨n1, ln1, pt1, cnt1, n2, ln2, pt2, cnt2, hw, n10, n20, hN, hT⟩ <;> rcases k with ⟨k1, k2, _, _, _, _, k3⟩ | ⟨m1, lm1, qt1, dnt1, m2, lm2, qt2, dnt2, kw, m10, m20, kN, kT⟩
  · exact ⟨by rw [h2, k2], (h3.same k3).1⟩
  · exact absurd (h3.same kw).1 h1
  · exact absurd (k3.same hw).1 k1
  · obtain ⟨rfl, rfl, rfl, rfl⟩ := (hw.same kw).2 rfl
    exact TrimR.same (by omega) (by omega) (by rw [plL_cat n10 n20, plL_cat n10 m20, hN.same kN]) hT kT
def SelR (s : So) (u N : Int) (h : Int → Int) : Prop := ∀ j, 0 ≤ j → j < N → (0 ≤ h j ∧ h j < u ∧ (s.X (h j)).tmod s.den ≠ 0) ∧ (∀ q, 0 ≤ q → q < j → h q ≠ h j) ∧
  ∀ i, 0 ≤ i → i < u → (s.X i).tmod s.den ≠ 0 → (∀ q, 0 ≤ q → q < j → h q ≠ i) → (s.X i).tmod s.den < (s.X (h j)).tmod s.den ∨ ((s.X i).tmod s.den = (s.X (h j)).tmod s.den ∧ h j ≤ i)
theorem sel_same {s : So} {u N : Int} {h t : Int → Int} (u0 : 0 ≤ u) (N0 : 0 ≤ N) (hp : PermOn 0 (frN s u.toNat) (frF s u.toNat) t) (ho : Srt (Tie fun x y => (s.X y).tmod s.den < (s.X x).tmod s.den) 0 (frN s u.toNat) t)
    (hs : SelR s u N h) (ha : ∀ i, 0 ≤ i → i < u → (s.X i).tmod s.den ≠ 0 → ∃ j, 0 ≤ j ∧ j < N ∧ h j = i) : frN s u.toNat = N ∧ ∀ j, 0 ≤ j → j < N → t j = h j := by
  obtain ⟨r1, r2, r3, _, r5⟩ := fr_rng s u.toNat
  rw [Int.toNat_of_nonneg u0] at r2 r3 r5
  have tv : ∀ k, 0 ≤ k → k < frN s u.toNat → 0 ≤ t k ∧ t k < u ∧ (s.X (t k)).tmod s.den ≠ 0 := fun k k0 k1 => by
    obtain ⟨q, q0, q1, q2⟩ := hp.fr k0 k1
    rw [q2]; exact r3 q q0 q1
  have tc : ∀ i, 0 ≤ i → i < u → (s.X i).tmod s.den ≠ 0 → ∃ k, 0 ≤ k ∧ k < frN s u.toNat ∧ t k = i := fun i i0 i1 hi => by
    obtain ⟨k, k0, k1, e⟩ := r5 i i0 i1 hi
    obtain ⟨q, q0, q1, q2⟩ := hp.symm.fr k0 k1
    exact ⟨q, q0, q1, by rw [← q2]; exact e⟩
  have ti : ∀ j k, 0 ≤ j → j < k → k < frN s u.toNat → t j ≠ t k := fun j k j0 jk k1 e => by
    have := ho j k j0 jk k1
    rw [e] at this
    rcases this with h | ⟨_, h⟩ <;> omega
  have key : ∀ j : Nat, (j : Int) ≤ frN s u.toNat → (j : Int) ≤ N → ∀ q, 0 ≤ q → q < (j : Int) → t q = h q := by
    intro j
    induction j with
    | zero => intro _ _ q q0 q1; omega
    | succ j ih =>
      intro h1 h2 q q0 q1
      have ih := ih (by omega) (by omega)
      by_cases e : q < (j : Int)
      · exact ih q q0 e
      · obtain rfl : q = j := by omega
        apply Classical.byContradiction
        intro hne
        obtain ⟨⟨g1, g2, g3⟩, g4, g5⟩ := hs j q0 (by omega)
        obtain ⟨k, k0, k1, ek⟩ := tc _ g1 g2 g3
        have hk : (j : Int) < k := by
          apply Classical.byContradiction
          intro hh
          by_cases e2 : k = (j : Int)
          · rw [e2] at ek; exact hne ek
          · have := ih k k0 (by omega)
            exact g4 k k0 (by omega) (by rw [← this, ek])
        have hT := ho j k q0 hk k1
        obtain ⟨f1, f2, f3⟩ := tv j q0 (by omega)
        have g6 := g5 (t j) f1 f2 f3 fun r r0 r1 => by rw [← ih r r0 r1]; exact ti r j r0 r1 (by omega)
        rw [ek] at hT
        rcases hT with hT | ⟨hT, hT2⟩ <;> rcases g6 with g6 | ⟨g6, g7⟩ <;> omega
  have hNM : frN s u.toNat = N := by
    rcases Int.lt_trichotomy (frN s u.toNat) N with h1 | h1 | h1
    · have k1 := key (frN s u.toNat).toNat (by omega) (by omega)
      rw [Int.toNat_of_nonneg r1] at k1
      obtain ⟨⟨g1, g2, g3⟩, g4, _⟩ := hs (frN s u.toNat) r1 h1
      obtain ⟨k, k0, k2, ek⟩ := tc _ g1 g2 g3
      exact absurd (by rw [← k1 k k0 k2, ek]) (g4 k k0 k2)
    · exact h1
    · have k1 := key N.toNat (by omega) (by omega)
      rw [Int.toNat_of_nonneg N0] at k1
      obtain ⟨f1, f2, f3⟩ := tv N N0 h1
      obtain ⟨j, j0, j1, ej⟩ := ha _ f1 f2 f3
      exact absurd (by rw [k1 j j0 j1, ej]) (ti j N j0 j1 h1)
  refine ⟨hNM, fun j j0 j1 => ?_⟩
  have k1 := key N.toNat (by omega) (by omega)
  exact k1 j j0 (by omega)
def UpRr (p : Prob) (u : Int) (ml : Int → Int) (mf : Int → Int → Int) (s : So) (out : Us) (e : Int) : Prop :=
  (e ≠ 0 ∧ out = [] ∧ ∃ n ln pt cnt, WholeR p u ml mf s n ln pt cnt e) ∨ (∃ n1 ln1 pt1 cnt1 N h n ln pt cnt, WholeR p u ml mf s n1 ln1 pt1 cnt1 0 ∧ 0 ≤ n1 ∧ 0 ≤ n ∧ 0 ≤ N ∧ SelR s u N h ∧ (∀ i, 0 ≤ i → i < u → (s.X i).tmod s.den ≠ 0 → ∃ j, 0 ≤ j ∧ j < N ∧ h j = i) ∧
    plL n ln pt cnt = (uRun p.m mf (lst p.m (leftF p (madeF n1 pt1 cnt1))) (plL n1 ln1 pt1 cnt1) (lst N h)).2 ∧ TrimR p n ln pt cnt out e)
theorem UpR.same {p : Prob} {u e1 e2 : Int} {ml : Int → Int} {mf : Int → Int → Int} {s : So} {o1 o2 : Us} (u0 : 0 ≤ u) (h : UpR p u ml mf s o1 e1) (k : UpRr p u ml mf s o2 e2) : o1 = o2 ∧ e1 = e2 := by
  rcases h with ⟨h1, h2, _, _, _, _, h3⟩ | ⟨n1, ln1, pt1, cnt1, t, n, ln, pt, cnt, hw, n10, n0, hp, ho, hU, hT⟩ <;> rcases k with ⟨k1, k2, _, _, _, _, k3⟩ | ⟨m1, lm1, qt1, dnt1, N, g, m, lm, qt, dnt, kw, m10, m0, N0, ks, ka, kU, kT⟩
  · exact ⟨by rw [h2, k2], (h3.same k3).1⟩
  · exact absurd (h3.same kw).1 h1
  · exact absurd (k3.same hw).1 k1
  · obtain ⟨rfl, rfl, rfl, rfl⟩ := (hw.same kw).2 rfl
    obtain ⟨e1, e2⟩ := sel_same u0 N0 hp ho ks ka
    exact TrimR.same n0 m0 (by rw [hU, kU, e1, lst_congr e2]) hT kT
def dnP (h : Int → Int) (N k : Int) : Prop := ∃ q, 0 ≤ q ∧ q < N ∧ h q = k
open Classical in
noncomputable def nd (P : Int → Prop) : Nat → Nat
  | 0 => 0
  | n + 1 => nd P n + if P n then 0 else 1
theorem nd_le (P : Int → Prop) : ∀ n : Nat, nd P n ≤ n
  | 0 => Nat.le_refl _
  | n + 1 => by have := nd_le P n; simp only [nd]; split <;> omega
theorem nd_mono {P Q : Int → Prop} (h : ∀ k, P k → Q k) : ∀ n : Nat, nd Q n ≤ nd P n
  | 0 => Nat.le_refl _
  | n + 1 => by
    have := nd_mono h n
    simp only [nd]
    by_cases hp : P n
    · rw [if_pos hp, if_pos (h _ hp)]; omega
    · rw [if_neg hp]; split <;> omega
theorem nd_lt {P Q : Int → Prop} (h : ∀ k, P k → Q k) {b : Int} (b0 : 0 ≤ b) (hq : Q b) (hp : ¬ P b) : ∀ n : Nat, b < (n : Int) → nd Q n < nd P n
  | 0, hn => by omega
  | n + 1, hn => by
    simp only [nd]
    by_cases e : b = (n : Int)
    · rw [← e, if_pos hq, if_neg hp]; have := nd_mono h n; omega
    · have := nd_lt h b0 hq hp n (by omega)
      by_cases hp : P n
      · rw [if_pos hp, if_pos (h _ hp)]; omega
      · rw [if_neg hp]; split <;> omega
theorem dnP_snoc {h : Int → Int} {N b : Int} (N0 : 0 ≤ N) (k : Int) : dnP (snoc h N b) (N + 1) k ↔ (dnP h N k ∨ b = k) := by
  constructor
  · rintro ⟨q, q0, q1, q2⟩
    by_cases e : q < N
    · rw [snoc_lt e] at q2; exact .inl ⟨q, q0, e, q2⟩
    · rw [snoc_at e] at q2; exact .inr q2
  · rintro (⟨q, q0, q1, q2⟩ | rfl)
    · exact ⟨q, q0, by omega, by rw [snoc_lt q1]; exact q2⟩
    · exact ⟨N, N0, by omega, snoc_at (by omega)⟩
theorem dn_lt {h : Int → Int} {N b n : Int} (N0 : 0 ≤ N) (b0 : 0 ≤ b) (b1 : b < n) (hb : ¬ dnP h N b) : nd (dnP (snoc h N b) (N + 1)) n.toNat < nd (dnP h N) n.toNat :=
  nd_lt (fun k hk => (dnP_snoc N0 k).2 (.inl hk)) b0 ((dnP_snoc N0 b).2 (.inr rfl)) hb n.toNat (by omega)
def Bst (s : So) (dn : Int → Prop) (b i : Int) : Prop := (b = -1 ∧ ∀ k, 0 ≤ k → k < i → dn k ∨ (s.X k).tmod s.den = 0) ∨ (0 ≤ b ∧ b < i ∧ ¬ dn b ∧ (s.X b).tmod s.den ≠ 0 ∧ ∀ k, 0 ≤ k → k < i → ¬ dn k → (s.X k).tmod s.den ≠ 0 → (s.X k).tmod s.den < (s.X b).tmod s.den ∨ ((s.X k).tmod s.den = (s.X b).tmod s.den ∧ b ≤ k))
theorem Bst.rng {s : So} {dn : Int → Prop} {b i : Int} (h : Bst s dn b i) : b = -1 ∨ (0 ≤ b ∧ b < i) := by
  rcases h with ⟨h, _⟩ | ⟨h1, h2, _⟩
  · exact .inl h
  · exact .inr ⟨h1, h2⟩
theorem Bst.keep {s : So} {dn : Int → Prop} {b i : Int} (h : Bst s dn b i) (hk : dn i ∨ (s.X i).tmod s.den = 0 ∨ (0 ≤ b ∧ (s.X i).tmod s.den ≤ (s.X b).tmod s.den)) : Bst s dn b (i + 1) := by
  rcases h with ⟨h1, h2⟩ | ⟨h1, h2, h3, h4, h5⟩
  · refine .inl ⟨h1, fun k k0 k1 => ?_⟩
    by_cases e : k = i
    · rw [e]; rcases hk with hk | hk | ⟨hk, _⟩
      · exact .inl hk
      · exact .inr hk
      · omega
    · exact h2 k k0 (by omega)
  · refine .inr ⟨h1, by omega, h3, h4, fun k k0 k1 g1 g2 => ?_⟩
    by_cases e : k = i
    · rw [e] at g1 g2 ⊢
      rcases hk with hk | hk | ⟨_, hk⟩
      · exact absurd hk g1
      · exact absurd hk g2
      · omega
    · exact h5 k k0 (by omega) g1 g2
theorem Bst.new {s : So} {dn : Int → Prop} {b i : Int} (h : Bst s dn b i) (i0 : 0 ≤ i) (h1 : ¬ dn i) (h2 : (s.X i).tmod s.den ≠ 0) (h3 : b < 0 ∨ (s.X b).tmod s.den < (s.X i).tmod s.den) : Bst s dn i (i + 1) := by
  refine .inr ⟨i0, by omega, h1, h2, fun k k0 k1 g1 g2 => ?_⟩
  by_cases e : k = i
  · right; rw [e]; exact ⟨rfl, Int.le_refl _⟩
  · rcases h with ⟨_, h5⟩ | ⟨h4, _, _, _, h5⟩
    · rcases h5 k k0 (by omega) with h6 | h6
      · exact absurd h6 g1
      · exact absurd h6 g2
    · have := h5 k k0 (by omega) g1 g2; omega
theorem sel_next {s : So} {u N b : Int} {h : Int → Int} (N0 : 0 ≤ N) (hs : SelR s u N h) (hB : Bst s (dnP h N) b u) (b0 : 0 ≤ b) : SelR s u (N + 1) (snoc h N b) := by
  have e1 : ∀ q, q < N → snoc h N b q = h q := fun q hq => snoc_lt hq
  intro j j0 j1
  by_cases e : j < N
  · obtain ⟨ha, hb, hc⟩ := hs j j0 e
    rw [e1 j e]
    exact ⟨ha, fun q q0 q1 => by rw [e1 q (by omega)]; exact hb q q0 q1, fun i i0 i1 hi hq => hc i i0 i1 hi fun q q0 q1 => by have := hq q q0 q1; rw [e1 q (by omega)] at this; exact this⟩
  · obtain rfl : j = N := by omega
    rw [snoc_at e]
    rcases hB with ⟨h1, _⟩ | ⟨_, h2, h3, h4, h5⟩
    · omega
    · exact ⟨⟨b0, h2, h4⟩, fun q q0 q1 => by rw [e1 q q1]; exact fun hh => h3 ⟨q, q0, q1, hh⟩, fun i i0 i1 hi hq => h5 i i0 i1 (fun ⟨q, q0, q1, hh⟩ => hq q q0 q1 (by rw [e1 q q1]; exact hh)) hi⟩
theorem uNo2 {m N b : Int} {mf : Int → Int → Int} {r0 : List Int} {L0 : Us} {t g ln cnt : Int → Int} {pt : Int → Int → Int} {n : Int} (N0 : 0 ≤ N) (h : (lst m g, plL n ln pt cnt) = uRun m mf r0 L0 (lst N t)) (hn : ¬ ∃ i, 0 ≤ i ∧ i < m ∧ 0 < mf b i ∧ 0 < g i) : (lst m g, plL n ln pt cnt) = uRun m mf r0 L0 (lst (N + 1) (snoc t N b)) := by
  refine uNo N0 ?_ (by rw [snoc_at (by omega)]; exact hn)
  rw [lst_congr (f := snoc t N b) (g := t) fun k _ k1 => snoc_lt k1]; exact h
theorem uYes2 {p : Prob} {N b n l : Int} {mf : Int → Int → Int} {r0 : List Int} {L0 : Us} {t ln cnt : Int → Int} {pt : Int → Int → Int} (N0 : 0 ≤ N) (n0 : 0 ≤ n) (h : (lst p.m (leftF p (madeF n pt cnt)), plL n ln pt cnt) = uRun p.m mf r0 L0 (lst N t)) (hl : l = p.m) (hb : ∀ j, 0 ≤ j → j < p.m → 0 ≤ mf b j) (hn : ∃ q, 0 ≤ q ∧ q < p.m ∧ 0 < mf b q ∧ 0 < leftF p (madeF n pt cnt) q) :
    (lst p.m (leftF p (madeF (n + 1) (gsn pt n (mf b)) (snoc cnt n 1))), plL (n + 1) (gsn ln n l) (gsn pt n (mf b)) (snoc cnt n 1)) = uRun p.m mf r0 L0 (lst (N + 1) (snoc t N b)) := by
  have e : snoc t N b N = b := snoc_at (by omega)
  refine uYes (g := leftF p (madeF n pt cnt)) (ln := ln) (cnt := cnt) (pt := pt) N0 n0 ?_ (by rw [e]; exact hn) (fun k k0 k1 => ?_) (fun k k0 k1 => ⟨gsn_lt k1, snoc_lt k1, gsn_lt k1⟩) ((gsn_at (by omega)).trans hl) (snoc_at (by omega)) ((gsn_at (by omega)).trans (by rw [e]))
  · rw [lst_congr (f := snoc t N b) (g := t) fun k _ k1 => snoc_lt k1]; exact h
  · have e2 : madeF n (gsn pt n (mf b)) (snoc cnt n 1) k = madeF n pt cnt k := psum_congr fun q hq => ⟨by rw [gsn_lt (by omega)], by rw [snoc_lt (by omega)]⟩
    have h3 := hb k k0 k1
    rw [e]
    unfold leftF
    rw [if_pos ⟨k0, k1⟩, if_pos ⟨k0, k1⟩, madeF_next n0, e2, gsn_at (by omega), snoc_at (by omega)]
    omega
theorem planOk_snoc {p : Prob} {n l : Int} {ln cnt f : Int → Int} {pt : Int → Int → Int} (h : PlanOk p n ln pt cnt) (hn : n + 1 ≤ 1000) (hf : FitsP p l f) : PlanOk p (n + 1) (gsn ln n l) (gsn pt n f) (snoc cnt n 1) :=
  ⟨h.1, hn, fun k k0 k1 => by
    by_cases e : k < n
    · rw [gsn_lt e, gsn_lt e, snoc_lt e]; exact h.2.2 k k0 e
    · rw [gsn_at e, gsn_at e, snoc_at e]; exact ⟨by omega, by omega, hf⟩⟩
set_option maxHeartbeats 4000000 in
set_option maxRecDepth 20000 in
theorem c_rup {vL vD : Value} {p : Prob} {vM : Value} {u : Int} {mv : Int → Value} {ml : Int → Int} {mf : Int → Int → Int} {vX vY : Value} {s : So} (w0 : World) (h : PAt w0 vL vD p) (hM : MAt w0 vM u mv ml mf) (hX : Row w0 vX 1 s.n (ints s.X)) (hY : Row w0 vY 1 s.m (ints s.Y)) (hn60 : s.n ≤ 1000) :
    Calls Try.prog 25 [.agg #[vL, vD, .int .i64 p.stock, .int .i64 p.kerf], .agg #[vM, vX, vY, .int .i64 s.val, .int .i64 s.den]].toArray w0 fun e w => ∃ v, e = .returned v ∧ ∃ r n pv ln pt cnt e, v = .tuple #[r, .int .i64 e] ∧ UpRr p u ml mf s (plL n ln pt cnt) e ∧ (∀ k, 0 ≤ k → k < n → 1 ≤ cnt k ∧ cnt k ≤ 1000000000) ∧ n ≤ 1000000 ∧ Slh r n ∧ Sat w0 w [.own r 2 34 n (ucells pv cnt), .sem (Frame.rows 3 n pv ln pt)] := by
  have hm := h.L.slh.n0; have hm1 := h.L.slh.n1; have hd := h.D.slh.n0; have hd1 := h.D.slh.n1; have hs := h.is; have hk := h.ik
  have hu := hM.row.slh.n0; have hu1 := hM.row.slh.n1; have hn := hX.slh.n0; have hn1 := hX.slh.n1
  refine zenG Try.func25 Try.ntmps25 fun w hS => ?_
  refine zsr ?_
  refine zla (xbx (cs := [_, _, _, _]) hS) ?_; rintro _ w ⟨g1, rfl, hS⟩
  replace hS := hS.n1
  refine zla (xbx (cs := [_, _, _, _, _]) hS) ?_; rintro _ w ⟨g2, rfl, hS⟩
  replace hS := hS.n2
  refine zs2 ?_
  refine zlt <| zsq <| zbk <| zsr ?_
  refine zlv (xls 0 st_24 hS) ?_
  refine zlv (xls 1 st_54 hS) ?_
  refine zlc (xc0 cl_27) (c_rfit34 (p := p) (u := u) (ml := ml) (mf := mf) (s := s) w (h.below hS.below) (hM.below hS.below) (hX.below hS.below) (hY.below hS.below) hn60) ?_; rintro _ w ⟨rfl, hS'⟩
  replace hS := hS.cmp hS'; clear hS'
  refine zs2 ?_
  refine zlt ?_
  refine zcif ?_ ?_ <;> intro hc
  ·
   refine zsr ?_
   refine zs2 ?_
   refine zlt <| zrt <| zbr <| ztr <| zf2 ⟨_, rfl, ?_⟩
   exact ⟨_, 0, fun _ => undef, fun _ => 0, fun _ _ => 0, fun _ => 0, _, rfl, .inl ⟨by omega, rfl, 0, fun _ => 0, fun _ _ => 0, fun _ => 0, .inl ⟨‹¬ (p.Ok ∧ _)›, rfl, rfl⟩⟩, fun k k0 k1 => by omega, by omega, slh_nil, ((hS.sub (.cons _ (.cons _ .slnil))).addnil 2 34 (ucells (fun _ => undef) (fun _ => 0))).addrows 3 (fun _ => undef) (fun _ => 0) (fun _ _ => 0)⟩
  refine zsr ?_
  refine zlv (xls 0 st_24 hS) ?_
  obtain ⟨hokp, hfitt⟩ : p.Ok ∧ FitR p u ml mf s := by first | assumption | exact Classical.not_not.1 ‹_›
  have hok9 := hokp
  have hpm1 := hokp.m1; have hpm2 := hokp.m2; have hpd := hokp.d
  refine zlc (xc0 cl_53) (c_many (p := p) w (h.below hS.below) hok9) ?_; rintro _ w ⟨rfl, hS'⟩
  replace hS := hS.cmp hS'; clear hS'
  refine zlv xas ?_
  refine zlt ?_
  refine zcif ?_ ?_ <;> intro hc
  ·
   refine zsr ?_
   refine zs2 ?_
   refine zlt <| zrt <| zbr <| ztr <| zf2 ⟨_, rfl, ?_⟩
   exact ⟨_, 0, fun _ => undef, fun _ => 0, fun _ _ => 0, fun _ => 0, _, rfl, .inl ⟨by omega, rfl, 0, fun _ => 0, fun _ _ => 0, fun _ => 0, .inr (.inl ⟨hokp, hfitt, .inr (.inl ⟨hokp, by omega, rfl⟩), by omega, rfl⟩)⟩, fun k k0 k1 => by omega, by omega, slh_nil, ((hS.sub (.cons _ (.cons _ .slnil))).addnil 2 34 (ucells (fun _ => undef) (fun _ => 0))).addrows 3 (fun _ => undef) (fun _ => 0) (fun _ _ => 0)⟩
  refine zsk <| zbn <| ztn <| zsr ?_
  refine zlv (xfb 1 fd_54_1) ?_
  refine zlv (xlp 1 (ds := [vX, vY, .int .i64 s.val, .int .i64 s.den]) st_52 hS) ?_
  refine zla (xal (cs := [_, _, _, _]) el_52 hS) ?_; rintro _ w ⟨g3, rfl, hS⟩
  replace hS := hS.n3
  refine zle (xsw 2 st_52 hS (hd := (ones_cons hX.slh.one (ones_cons hY.slh.one (ones_cons rfl (ones_cons rfl ones_nil)))))) ?_; clear hS; rintro w hS
  replace hS := hS.n3
  refine zlz ?_
  refine zlv (xfb 0 fd_54_0) ?_
  refine zlv (xlb 1 pl_32 hS) ?_
  have hml := fun k k0 k1 => (show ml k ≤ 100000 by have := (prop_rng (hfitt.2.2.2.1 k k0 k1).1).1; omega)
  have hun := hfitt.2.1
  have hu6 := hfitt.2.2.1
  refine zlv (xls 2 st_52 hS) ?_
  refine zlc (xc0 cl_54) (c_rfloor30 (u := u) (ml := ml) (mf := mf) (s := s) w (hM.below hS.below) (hX.below hS.below) (hY.below hS.below) (by omega) (fun k k0 k1 => by have := hml k k0 k1; omega)) ?_; rintro _ w ⟨vffl1, fnfl1, fvfl1, flfl1, fgfl1, fcfl1, fefl1, rfl, hflfl1, hvffl1, hS'⟩
  replace hS : Sat w0 w [.blk g1 [vL, vD, .int .i64 p.stock, .int .i64 p.kerf], .blk g2 [vM, vX, vY, .int .i64 s.val, .int .i64 s.den], .blk g3 [vX, vY, .int .i64 s.val, .int .i64 s.den], .own vffl1 2 34 fnfl1 (ucells fvfl1 fcfl1), .sem (Frame.rows 3 fnfl1 fvfl1 flfl1 fgfl1)] := hS.comp hS'; clear hS'
  have hfrfl1 := fun k (k0 : 0 ≤ k) (k1 : k < fnfl1) => hS.slhIn 4 rfl k0 k1
  have hfl := hflfl1.resolve_left fun hh => hh.1 ⟨hfitt.1, hfitt.2.1.symm⟩
  have hwh : WholeR p u ml mf s fnfl1 flfl1 fgfl1 fcfl1 0 := .inr (.inr ⟨hokp, hfitt, .inr (.inr ⟨hokp, by omega, rfl⟩), rfl, hfl.2.2.1, hfl.2.2.2.1, hfl.2.2.2.2.1, hfl.2.2.2.2.2.1⟩)
  obtain ⟨_, _, htot, hn60w, hplw, hn19⟩ := hwh.ok rfl hu
  have hfb9 := fun k (k0 : 0 ≤ k) (k1 : k < p.m) => (madeF_rng hplw.2.2 hn19 (Int.le_refl _) k0 k1).1
  obtain ⟨⟨d1, d2⟩, ⟨d3, d4⟩, d5⟩ := id hfitt.1
  refine zs5 ?_
  refine zlz ?_
  refine zlv (xfb 0 fd_52_0) ?_
  refine zlv (xlb 2 pl_22 hS) ?_
  refine zlv (xln sl_22 hX.slh) ?_
  refine zla (xmk sl_98 el_4 hS) ?_; rintro v1 w ⟨hS, hv1⟩
  replace hS := hS.n6
  refine zlv xas ?_
  refine zlt <| zbk <| zlp (fun mm M w => ∃ (nC : Int) (wC : Int → Value) (lC : Int → Int) (gC : Int → Int → Int) (cC : Int → Int) (cS : Int → Value) (h6 : Int → Int) (N6 : Int) (xC : Value), mm = (nd (dnP h6 N6) s.n.toNat) ∧ (0 ≤ N6) ∧ (SelR s u N6 h6) ∧ (N6 + (nd (dnP h6 N6) s.n.toNat : Int) ≤ s.n) ∧ (∀ k, 0 ≤ k → k < s.n → cS k = B (dnP h6 N6 k)) ∧ ((lst p.m (leftF p (madeF nC gC cC)), plL nC lC gC cC) = uRun p.m mf (lst p.m (leftF p (madeF fnfl1 fgfl1 fcfl1))) (plL fnfl1 flfl1 fgfl1 fcfl1) (lst N6 h6)) ∧ (PlanOk p nC lC gC cC) ∧ (0 ≤ nC ∧ nC ≤ 60 + N6) ∧ (Slh xC nC) ∧ M = [(2, .pointer (some ⟨g1, 0, none⟩)), (3, .pointer (some ⟨g2, 0, none⟩)), (6, .pointer (some ⟨g3, 0, none⟩)), (7, xC), (9, v1)] ∧ Sat w0 w [.blk g1 [vL, vD, .int .i64 p.stock, .int .i64 p.kerf], .blk g2 [vM, vX, vY, .int .i64 s.val, .int .i64 s.den], .blk g3 [vX, vY, .int .i64 s.val, .int .i64 s.den], .own xC 2 34 nC (ucells wC cC), .sem (Frame.rows 3 nC wC lC gC), .own v1 1 4 s.n cS]) ⟨fnfl1, fvfl1, flfl1, fgfl1, fcfl1, fun _ => .bool false, (fun _ => 0), 0, vffl1, rfl, (by omega), ?_, ?_, ?_, ?_, ?_, (by omega), ?_, rfl, hS⟩ ?_
  ·
   intro j j0 j1; omega
  ·
   have h9 := nd_le (dnP (fun _ => 0) 0) s.n.toNat; omega
  ·
   intro k k0 k1; exact false_B (fun ⟨q, q0, q1, _⟩ => by omega)
  ·
   rfl
  ·
   exact hplw
  ·
   exact hvffl1
  clear hS w
  rintro mm M w ⟨nC, wC, lC, gC, cC, cS, h6, N6, xC, rfl, hN0, hSel, hnd, hcS, hU, hPl, hnC, hxC, rfl, hS⟩
  have hrs1 := fun k (k0 : 0 ≤ k) (k1 : k < nC) => hS.slhIn 4 rfl k0 k1
  have hnC0 := hnC.1
  refine zbk <| zsr ?_
  refine zlv xas ?_
  refine zlt <| zsq <| zsr ?_
  refine zlv xas ?_
  refine zlt <| zbk <| zlp (fun mm M w => ∃ (b6 : Int) (i6 : Int), mm = ((s.n - i6).toNat) ∧ (0 ≤ i6) ∧ (i6 ≤ s.n) ∧ (Bst s (dnP h6 N6) b6 i6) ∧ M = [(2, .pointer (some ⟨g1, 0, none⟩)), (3, .pointer (some ⟨g2, 0, none⟩)), (6, .pointer (some ⟨g3, 0, none⟩)), (7, xC), (9, v1), (10, .int .i64 b6), (11, .int .i64 i6)] ∧ Sat w0 w [.blk g1 [vL, vD, .int .i64 p.stock, .int .i64 p.kerf], .blk g2 [vM, vX, vY, .int .i64 s.val, .int .i64 s.den], .blk g3 [vX, vY, .int .i64 s.val, .int .i64 s.den], .own xC 2 34 nC (ucells wC cC), .sem (Frame.rows 3 nC wC lC gC), .own v1 1 4 s.n cS]) ⟨(-1), 0, rfl, (by omega), (by omega), ?_, rfl, hS⟩ ?_
  ·
   exact .inl ⟨rfl, fun k k0 k1 => by omega⟩
  clear hS w
  rintro mm M w ⟨b6, i6, rfl, i60, i61, hB, rfl, hS⟩
  have hbb := hB.rng
  refine zsq <| zsr ?_
  refine zlv xmv ?_
  refine zlv (xfb 0 fd_52_0) ?_
  refine zlv (xlb 2 pl_22 hS) ?_
  refine zlv (xln sl_22 hX.slh) ?_
  refine zlv xlss ?_
  refine zlt ?_
  refine zcif ?_ ?_ <;> intro hc
  ·
   refine zsk <| ztn <| zsq <| zbk <| zsq ?_
   refine zdst [0, 1, 2, 3, 4, 5] [0, 1, 2, 3, 4, 5] 1000 mx_ hS ?_; clear hS; intro w hS
   refine zdv 0 (fun _ => xmv) ?_
   refine zdv 1 (fun _ => xmv) ?_
   refine zdv 2 (fun _ => (xix (kk := i6) sl_98 hv1)) ?_
   refine zdla 3 (fun w hS => (xlr (u := B (dnP h6 N6 i6)) pl_4 (hS.rowN 5 rfl) (e := (hcS i6 i60 (by omega))))) ?_
   refine zdv 4 (fun _ => xnot) ?_
   refine zdv 5 (fun _ => xmv) ?_
   refine zdb 45 ?_ ?_ <;> intro hc
   ·
    refine zdv 6 (fun _ => (xfb 0 fd_52_0)) ?_
    refine zdla 7 (fun w hS => (xlb 2 pl_22 hS)) ?_
    refine zdv 8 (fun _ => xmv) ?_
    refine zdv 9 (fun _ => (xix (kk := i6) sl_22 hX.slh)) ?_
    refine zdla 10 (fun w hS => (xlr (u := .int .i64 (s.X i6)) pl_3 (hX.below hS.below))) ?_
    refine zdv 11 (fun _ => (xfb 3 fd_52_3)) ?_
    refine zdla 12 (fun w hS => (xlb 2 pl_3 hS)) ?_
    refine zdv 13 (fun _ => (xrem (r := (Int.tmod (s.X i6) s.den)))) ?_
    refine zdv 14 (fun _ => xneq) ?_
    refine zdv 15 (fun _ => xpt) ?_
    refine zdv 16 (fun _ => xmv) ?_
    refine zdb 56 ?_ ?_ <;> intro hc
    ·
     refine zdv 17 (fun _ => xmv) ?_
     refine zdv 18 (fun _ => xlss) ?_
     refine zdv 19 (fun _ => xmv) ?_
     refine zdb 59 ?_ ?_ <;> intro hc
     ·
      refine zdof 20 ?_
      refine zdof 21 ?_
      refine zdof 22 ?_
      refine zdof 23 ?_
      refine zdof 24 ?_
      refine zdof 25 ?_
      refine zdof 26 ?_
      refine zdof 27 ?_
      refine zdof 28 ?_
      refine zdof 29 ?_
      refine zdof 30 ?_
      refine zdof 31 ?_
      refine zdof 32 ?_
      refine zdof 33 ?_
      refine zdof 34 ?_
      refine zdof 35 ?_
      refine zdof 36 ?_
      refine zdv 37 (fun _ => xpt) ?_
      refine zdv 38 (fun _ => xpt) ?_
      refine zdd <| ztn <| zct <| zrg ?_
      refine zs2 ?_
      refine zln <| zbn <| ztn <| zrg ?_
      refine zlv xmv ?_
      refine zlv (xadd (r := i6 + 1)) ?_
      refine zlv xas ?_
      refine zln <| zlq ⟨i6, i6 + 1, rfl, (by omega), (by omega), ?_, rfl, hS⟩
      ·
       first
       | exact hB.new i60 ‹¬ (dnP h6 N6 i6)› (by omega) (by omega)
       | exact hB.keep (.inl (Classical.not_not.1 ‹¬ ¬ (dnP h6 N6 i6)›))
       | exact hB.keep (.inr (.inl (by omega)))
       | exact hB.keep (.inr (.inr ⟨by omega, by omega⟩))
     refine zdv 20 (fun _ => (xfb 0 fd_52_0)) ?_
     refine zdla 21 (fun w hS => (xlb 2 pl_22 hS)) ?_
     refine zdv 22 (fun _ => xmv) ?_
     refine zdv 23 (fun _ => (xix (kk := i6) sl_22 hX.slh)) ?_
     refine zdla 24 (fun w hS => (xlr (u := .int .i64 (s.X i6)) pl_3 (hX.below hS.below))) ?_
     refine zdv 25 (fun _ => (xfb 3 fd_52_3)) ?_
     refine zdla 26 (fun w hS => (xlb 2 pl_3 hS)) ?_
     refine zdv 27 (fun _ => (xrem (r := (Int.tmod (s.X i6) s.den)))) ?_
     refine zdv 28 (fun _ => (xfb 0 fd_52_0)) ?_
     refine zdla 29 (fun w hS => (xlb 2 pl_22 hS)) ?_
     refine zdv 30 (fun _ => xmv) ?_
     refine zdv 31 (fun _ => (xix (kk := b6) sl_22 hX.slh)) ?_
     refine zdla 32 (fun w hS => (xlr (u := .int .i64 (s.X b6)) pl_3 (hX.below hS.below))) ?_
     refine zdv 33 (fun _ => (xfb 3 fd_52_3)) ?_
     refine zdla 34 (fun w hS => (xlb 2 pl_3 hS)) ?_
     refine zdv 35 (fun _ => (xrem (r := (Int.tmod (s.X b6) s.den)))) ?_
     refine zdv 36 (fun _ => xgtr) ?_
     refine zdv 37 (fun _ => xpf) ?_
     refine zdv 38 (fun _ => xpt) ?_
     refine zdd <| ztn ?_
     refine zcif ?_ ?_ <;> intro hc
     ·
      refine zrg ?_
      refine zs2 ?_
      refine zln <| zbn <| ztn <| zrg ?_
      refine zlv xmv ?_
      refine zlv (xadd (r := i6 + 1)) ?_
      refine zlv xas ?_
      refine zln <| zlq ⟨i6, i6 + 1, rfl, (by omega), (by omega), ?_, rfl, hS⟩
      ·
       first
       | exact hB.new i60 ‹¬ (dnP h6 N6 i6)› (by omega) (by omega)
       | exact hB.keep (.inl (Classical.not_not.1 ‹¬ ¬ (dnP h6 N6 i6)›))
       | exact hB.keep (.inr (.inl (by omega)))
       | exact hB.keep (.inr (.inr ⟨by omega, by omega⟩))
     refine zsk <| zbn <| ztn <| zrg ?_
     refine zlv xmv ?_
     refine zlv (xadd (r := i6 + 1)) ?_
     refine zlv xas ?_
     refine zln <| zlq ⟨b6, i6 + 1, rfl, (by omega), (by omega), ?_, rfl, hS⟩
     ·
      first
      | exact hB.new i60 ‹¬ (dnP h6 N6 i6)› (by omega) (by omega)
      | exact hB.keep (.inl (Classical.not_not.1 ‹¬ ¬ (dnP h6 N6 i6)›))
      | exact hB.keep (.inr (.inl (by omega)))
      | exact hB.keep (.inr (.inr ⟨by omega, by omega⟩))
    refine zdof 17 ?_
    refine zdof 18 ?_
    refine zdof 19 ?_
    refine zdof 20 ?_
    refine zdof 21 ?_
    refine zdof 22 ?_
    refine zdof 23 ?_
    refine zdof 24 ?_
    refine zdof 25 ?_
    refine zdof 26 ?_
    refine zdof 27 ?_
    refine zdof 28 ?_
    refine zdof 29 ?_
    refine zdof 30 ?_
    refine zdof 31 ?_
    refine zdof 32 ?_
    refine zdof 33 ?_
    refine zdof 34 ?_
    refine zdof 35 ?_
    refine zdof 36 ?_
    refine zdof 37 ?_
    refine zdv 38 (fun _ => xpf) ?_
    refine zdd <| ztn <| zcf <| zsk <| zbn <| ztn <| zrg ?_
    refine zlv xmv ?_
    refine zlv (xadd (r := i6 + 1)) ?_
    refine zlv xas ?_
    refine zln <| zlq ⟨b6, i6 + 1, rfl, (by omega), (by omega), ?_, rfl, hS⟩
    ·
     first
     | exact hB.new i60 ‹¬ (dnP h6 N6 i6)› (by omega) (by omega)
     | exact hB.keep (.inl (Classical.not_not.1 ‹¬ ¬ (dnP h6 N6 i6)›))
     | exact hB.keep (.inr (.inl (by omega)))
     | exact hB.keep (.inr (.inr ⟨by omega, by omega⟩))
   refine zdof 6 ?_
   refine zdof 7 ?_
   refine zdof 8 ?_
   refine zdof 9 ?_
   refine zdof 10 ?_
   refine zdof 11 ?_
   refine zdof 12 ?_
   refine zdof 13 ?_
   refine zdof 14 ?_
   refine zdv 15 (fun _ => xpf) ?_
   refine zdv 16 (fun _ => xmv) ?_
   refine zdof 17 ?_
   refine zdof 18 ?_
   refine zdof 19 ?_
   refine zdof 20 ?_
   refine zdof 21 ?_
   refine zdof 22 ?_
   refine zdof 23 ?_
   refine zdof 24 ?_
   refine zdof 25 ?_
   refine zdof 26 ?_
   refine zdof 27 ?_
   refine zdof 28 ?_
   refine zdof 29 ?_
   refine zdof 30 ?_
   refine zdof 31 ?_
   refine zdof 32 ?_
   refine zdof 33 ?_
   refine zdof 34 ?_
   refine zdof 35 ?_
   refine zdof 36 ?_
   refine zdof 37 ?_
   refine zdv 38 (fun _ => xpf) ?_
   refine zdd <| ztn <| zcf <| zsk <| zbn <| ztn <| zrg ?_
   refine zlv xmv ?_
   refine zlv (xadd (r := i6 + 1)) ?_
   refine zlv xas ?_
   refine zln <| zlq ⟨b6, i6 + 1, rfl, (by omega), (by omega), ?_, rfl, hS⟩
   ·
    first
    | exact hB.new i60 ‹¬ (dnP h6 N6 i6)› (by omega) (by omega)
    | exact hB.keep (.inl (Classical.not_not.1 ‹¬ ¬ (dnP h6 N6 i6)›))
    | exact hB.keep (.inr (.inl (by omega)))
    | exact hB.keep (.inr (.inr ⟨by omega, by omega⟩))
  refine zxt <| ztx <| ztx <| zbh <| ztn <| zsq <| zsr ?_
  refine zlv xmv ?_
  have hbb := hB.rng
  refine zlv xlss ?_
  refine zlt ?_
  refine zcif ?_ ?_ <;> intro hc
  ·
   refine zsr ?_
   refine zlv (xls 0 st_24 hS) ?_
   refine zlv xmv ?_
   refine zlc (xc0 cl_11) (c_rtrim (u := nC) (pv := wC) (ln := lC) (pt := gC) (cnt := cC) (p := p) w (⟨(hS.rowN 3 rfl), fun k k0 k1 => hS.rowIn 4 rfl k0 k1, fun k k0 k1 => hS.roomIn 4 rfl k0 k1⟩ : VAt _ xC nC wC lC gC cC) (h.below hS.below)) ?_; rintro _ w ⟨vntr1, nntr1, pntr1, lntr1, gntr1, cntr1, entr1, rfl, htrtr1, htctr1, htntr1, hvntr1, hS'⟩
   replace hS : Sat w0 w [.blk g1 [vL, vD, .int .i64 p.stock, .int .i64 p.kerf], .blk g2 [vM, vX, vY, .int .i64 s.val, .int .i64 s.den], .blk g3 [vX, vY, .int .i64 s.val, .int .i64 s.den], .own xC 2 34 nC (ucells wC cC), .sem (Frame.rows 3 nC wC lC gC), .own v1 1 4 s.n cS, .own vntr1 2 34 nntr1 (ucells pntr1 cntr1), .sem (Frame.rows 3 nntr1 pntr1 lntr1 gntr1)] := hS.comp hS'; clear hS'
   have hrntr1 := fun k (k0 : 0 ≤ k) (k1 : k < nntr1) => hS.slhIn 7 rfl k0 k1
   refine zs4 ?_
   refine zlt <| zrt <| ztr <| zbr <| ztr <| zbr <| zf2 ⟨_, rfl, ?_⟩
   have hfull : ∀ i, 0 ≤ i → i < u → (s.X i).tmod s.den ≠ 0 → ∃ j, 0 ≤ j ∧ j < N6 ∧ h6 j = i := fun i i0 i1 hi => by
     rcases hB with ⟨_, q⟩ | ⟨q, _⟩
     · exact (q i i0 (by omega)).resolve_right hi
     · omega
   exact ⟨_, _, _, _, _, _, _, rfl, .inr ⟨_, _, _, _, N6, h6, _, _, _, _, hwh, hn19, hnC0, hN0, hSel, hfull, (by rw [← hU]), htrtr1⟩, htctr1, htntr1, hvntr1, hS.pk [6, 7]⟩
  refine zsk <| ztn <| zsr ?_
  refine zlv xmv ?_
  have hnb6 : ¬ dnP h6 N6 b6 := by rcases hB with ⟨q, _⟩ | ⟨_, _, q, _⟩; omega; exact q
  have hpr6 := (hfitt.2.2.2.1 b6 (by omega) (by omega)).1
  have hpf6 := hpr6.1
  have hpb := prop_rng hpr6
  refine zlv xmv ?_
  refine zlv (xix (kk := b6) sl_98 hv1) ?_
  refine zle (xso 5 pl_4 hS rfl) ?_; clear hS; rintro w hS
  replace hS := hS.n6
  refine zlt <| zsq ?_
  refine zdst [0, 1, 2, 3, 4, 5] [0, 1, 2, 3, 4, 5] 1000 mx_ hS ?_; clear hS; intro w hS
  refine zdla 0 (fun w hS => (xls 0 st_24 hS)) ?_
  refine zdv 1 (fun _ => xmv) ?_
  refine zdv 2 (fun _ => (xfb 0 fd_54_0)) ?_
  refine zdla 3 (fun w hS => (xlb 1 pl_32 hS)) ?_
  refine zdv 4 (fun _ => xmv) ?_
  refine zdv 5 (fun _ => (xix (kk := b6) sl_32 hM.row.slh)) ?_
  refine zdla 6 (fun w hS => (xlr (u := (mv b6)) pl_22 (hM.row.below hS.below))) ?_
  refine zdc 7 (xc0 cl_59) (c_needed (u := nC) (pv := wC) (ln := lC) (pt := gC) (cnt := cC) (p := p) (f := (mf b6)) w (⟨(hS.rowN 3 rfl), fun k k0 k1 => hS.rowIn 4 rfl k0 k1, fun k k0 k1 => hS.roomIn 4 rfl k0 k1⟩ : VAt _ xC nC wC lC gC cC) (h.below hS.below) hPl (hpb.1 ▸ ((hM.p b6 (by omega) (by omega)).below hS.below))) ?_; rintro _ w ⟨rfl, hS'⟩
  replace hS := hS.cmp hS'; clear hS'
  refine ⟨⟨fun _ => hS, hS⟩, ?_⟩
  refine zdd <| ztn ?_
  refine zcif ?_ ?_ <;> intro hc
  ·
   refine zrg ?_
   refine zlv xmv ?_
   refine zla (xl0 (c := ints (mf b6)) sl_22 hS) ?_; rintro v2 w ⟨hS, hv2⟩
   replace hS := hS.n7
   refine zlv (xfb 0 fd_54_0) ?_
   refine zlv (xlb 1 pl_32 hS) ?_
   refine zlv xmv ?_
   refine zlv (xix (kk := b6) sl_32 hM.row.slh) ?_
   refine zlv (xlr (u := (mv b6)) pl_22 (hM.row.below hS.below)) ?_
   refine zla (xap 6 (r := (ml b6)) (f := ints (mf b6)) sl_22 el_3 hS ((hM.p b6 (by omega) (by omega)).below hS.below) (by exact cat_self _ _)) ?_; rintro v3 w ⟨hS, hv3⟩
   replace hS := hS.n7
   refine zlv (xany (v := .agg #[v3, .int .i64 1]) (hr := by obtain ⟨_, _, _, _, rfl, _⟩ := hv3; kernel_rfl)) ?_
   refine zla (xli (n := 1) (len := 1) (pv := [(0, .agg #[v3, .int .i64 1])]) (cs := [v3, .int .i64 1]) (c := ucells (fun _ => v3) (fun _ => 1)) sl_25 el_34 hS (hf := by obtain ⟨_, _, _, _, rfl, _⟩ := hv3; kernel_rfl)) ?_; rintro v4 w ⟨hS, hv4⟩
   replace hS := hS.n8
   refine zla (xap 3 (r := nC + 1) sl_25 el_34 hS (hS.rowN 7 rfl) (cat_ucells _ _ _ _ _) (h1 := fun k _ _ => ucells_one (fun _ => hv3.one) k)) ?_; rintro v5 w ⟨hS, hv5⟩
   replace hS := hS.n8
   replace hS := Sat.merge (l1 := [_, _, _, _]) (l2 := [_]) (l3 := [_]) hS (by omega)
   have hrs2 := fun k (k0 : 0 ≤ k) (k1 : k < nC + 1) => hS.slhIn 4 rfl k0 k1
   replace hS := hS.n7
   refine zlv xas ?_
   refine zln <| zbn <| zlq ⟨nC + 1, gsn wC nC v3, gsn lC nC (ml b6), gsn gC nC (mf b6), (snoc cC nC 1), upd cS b6 (.bool true), (snoc h6 N6 b6), N6 + 1, v5, rfl, (by omega), ?_, ?_, ?_, ?_, ?_, (by omega), ?_, rfl, hS.pk [0, 1, 2, 3, 4, 5]⟩ (hlt := (dn_lt hN0 (by omega) (by omega) hnb6))
   ·
    exact sel_next hN0 hSel (show Bst s (dnP h6 N6) b6 u by rw [show u = i6 by omega]; exact hB) (by omega)
   ·
    have h9 := dn_lt (n := s.n) hN0 (by omega) (by omega) hnb6; omega
   ·
    intro k k0 k1; unfold upd; by_cases e : k = b6
    · rw [if_pos e]; exact true_B ((dnP_snoc hN0 k).2 (.inr e.symm))
    · rw [if_neg e, hcS k k0 k1]; exact B_congr ⟨fun hh => (dnP_snoc hN0 k).2 (.inl hh), fun hh => ((dnP_snoc hN0 k).1 hh).resolve_right (fun e2 => e e2.symm)⟩
   ·
    first | exact uNo2 hN0 hU ‹_› | exact uYes2 hN0 hnC0 hU hpb.1 (fun j j0 j1 => (hpb.2 j j0 j1).1) ‹_›
   ·
    first | exact hPl | exact planOk_snoc hPl (by omega) hpf6
   ·
    exact hv5
  refine zsk <| zbn <| zlq ⟨nC, wC, lC, gC, cC, upd cS b6 (.bool true), (snoc h6 N6 b6), N6 + 1, xC, rfl, (by omega), ?_, ?_, ?_, ?_, ?_, (by omega), ?_, rfl, hS⟩ (hlt := (dn_lt hN0 (by omega) (by omega) hnb6))
  ·
   exact sel_next hN0 hSel (show Bst s (dnP h6 N6) b6 u by rw [show u = i6 by omega]; exact hB) (by omega)
  ·
   have h9 := dn_lt (n := s.n) hN0 (by omega) (by omega) hnb6; omega
  ·
   intro k k0 k1; unfold upd; by_cases e : k = b6
   · rw [if_pos e]; exact true_B ((dnP_snoc hN0 k).2 (.inr e.symm))
   · rw [if_neg e, hcS k k0 k1]; exact B_congr ⟨fun hh => (dnP_snoc hN0 k).2 (.inl hh), fun hh => ((dnP_snoc hN0 k).1 hh).resolve_right (fun e2 => e e2.symm)⟩
  ·
   first | exact uNo2 hN0 hU ‹_› | exact uYes2 hN0 hnC0 hU hpb.1 (fun j j0 j1 => (hpb.2 j j0 j1).1) ‹_›
  ·
   first | exact hPl | exact planOk_snoc hPl (by omega) hpf6
  ·
   exact hxC
end Go.Proofs.Ytopmifmfecfaaaa
namespace Go.Proofs.Ytopmifmfecfaaaa
open Go Go.RowKit Go.Proofs.Gw
theorem cl_23 : calledT Try.prog 23 = true := by kernel_rfl
theorem cl_25 : calledT Try.prog 25 = true := by kernel_rfl
structure ExU (p : Prob) (N : Us) : Prop where
  pat : ∀ x ∈ N, 1 ≤ x.2 ∧ FitL p x.1
  few : wsum (fun _ => 1) N ≤ psum (fun _ => 1) p.D p.m.toNat
  mks : ∀ j, 0 ≤ j → j < p.m → mkU j N = p.D j
theorem FFitR.ex {p : Prob} {N : Us} {e : Int} (hok : p.Ok) (h : FFitR p N e) (he : e = 0) : ExU p N := by
  obtain ⟨h1, h2, h3⟩ := fit_rest hok (fun k k0 k1 => (dnn9 hok k0 k1).1) (h.2.1 he)
  exact ⟨h1, h2, h3⟩
theorem brsU_sum (f : List Int → Int) : ∀ {N : Us}, (∀ x ∈ N, 0 ≤ x.2) → ((brsU N).map f).sum = wsum f N
  | [], _ => rfl
  | u :: N, h => by
    have h1 := brsU_sum f (N := N) fun x hx => h x (by simp [hx])
    have h2 := h u (by simp)
    unfold brsU at h1 ⊢
    rw [List.reverse_cons, List.flatMap_append, List.map_append, List.sum_append, h1]
    simp only [List.flatMap_cons, List.flatMap_nil, List.append_nil, List.map_replicate, wsum]
    have h3 : ∀ n : Nat, (List.replicate n (f u.1)).sum = f u.1 * n := fun n => by
      induction n with
      | zero => simp
      | succ n ih => rw [List.replicate_succ, List.sum_cons, ih]; push_cast; rw [Int.mul_add]; omega
    rw [h3, Int.toNat_of_nonneg h2]; omega
theorem brsU_mem {N : Us} : ∀ a ∈ brsU N, ∃ x ∈ N, a = x.1 := fun a ha => by
  unfold brsU at ha
  obtain ⟨x, hx, h⟩ := List.mem_flatMap.1 ha
  exact ⟨x, List.mem_reverse.1 hx, (List.mem_replicate.1 h).2⟩
theorem col_nn {m : Int} {j : Int} (j0 : 0 ≤ j) (j1 : j < m) : ∀ (h : List (List Int)), (∀ a ∈ h, ∃ f : Int → Int, (∀ k, 0 ≤ k → k < m → 0 ≤ f k) ∧ a = lst m f) → 0 ≤ (h.map fun a => a.getD j.toNat 0).sum
  | [], _ => by simp
  | a :: h, ha => by
    have h1 := col_nn j0 j1 h fun b hb => ha b (by simp [hb])
    obtain ⟨f, hf, rfl⟩ := ha a (by simp)
    have := hf j j0 j1
    rw [List.map_cons, List.sum_cons, lst_getD j0 j1]; omega
theorem tRun_col {m : Int} : ∀ (h : List (List Int)) (M : Int → Int) (L : Us), (∀ a ∈ h, ∃ f : Int → Int, (∀ k, 0 ≤ k → k < m → 0 ≤ f k) ∧ a = lst m f) → (∀ k, 0 ≤ k → k < m → 0 ≤ M k) →
    (∃ M' : Int → Int, (h.foldl tStep (lst m M, L)).1 = lst m M' ∧ ∀ j, 0 ≤ j → j < m → M' j = max 0 (M j - (h.map fun a => a.getD j.toNat 0).sum) ∧ mkU j (h.foldl tStep (lst m M, L)).2 = mkU j L + (h.map fun a => a.getD j.toNat 0).sum - (M j - M' j)) ∧
    ∀ x ∈ (h.foldl tStep (lst m M, L)).2, x ∈ L ∨ ∃ (f g : Int → Int), lst m f ∈ h ∧ x = (lst m g, 1) ∧ (∀ k, 0 ≤ k → k < m → 0 ≤ g k ∧ g k ≤ f k) ∧ ∃ k, 0 ≤ k ∧ k < m ∧ 0 < g k
  | [], M, L, _, hM => ⟨⟨M, rfl, fun j j0 j1 => by have := hM j j0 j1; simp only [List.foldl_nil, List.map_nil, List.sum_nil]; omega⟩, fun x hx => .inl hx⟩
  | a :: h, M, L, ha, hM => by
    obtain ⟨f, hf, rfl⟩ := ha a (by simp)
    have e1 : tM (lst m f) (lst m M) = lst m fun k => M k - min (f k) (M k) := zip_lst _ _ _ _
    have e2 : tA (lst m f) (lst m M) = lst m fun k => f k - min (f k) (M k) := zip_lst _ _ _ _
    have hM1 : ∀ k, 0 ≤ k → k < m → 0 ≤ M k - min (f k) (M k) := fun k k0 k1 => by omega
    have ha1 : ∀ a ∈ h, ∃ f : Int → Int, (∀ k, 0 ≤ k → k < m → 0 ≤ f k) ∧ a = lst m f := fun b hb => ha b (by simp [hb])
    rw [List.foldl_cons]
    by_cases hn : (lst m fun k => f k - min (f k) (M k)).any (fun x => decide (0 < x)) = true
    · have e : tStep (lst m M, L) (lst m f) = (lst m fun k => M k - min (f k) (M k), L ++ [(lst m fun k => f k - min (f k) (M k), 1)]) := by
        unfold tStep; dsimp only; rw [e1, e2, if_pos hn]
      rw [e]
      obtain ⟨⟨M', h1, h2⟩, h3⟩ := tRun_col h (fun k => M k - min (f k) (M k)) (L ++ [(lst m fun k => f k - min (f k) (M k), 1)]) ha1 hM1
      refine ⟨⟨M', h1, fun j j0 j1 => ?_⟩, fun x hx => ?_⟩
      · obtain ⟨g1, g2⟩ := h2 j j0 j1
        rw [List.map_cons, List.sum_cons, lst_getD j0 j1]
        have g3 : mkU j (L ++ [(lst m fun k => f k - min (f k) (M k), 1)]) = mkU j L + (f j - min (f j) (M j)) := by
          unfold mkU; rw [wsum_append]; simp only [wsum]; rw [lst_getD j0 j1]; omega
        rw [g3] at g2
        have := hf j j0 j1; have := hM j j0 j1; have := col_nn j0 j1 h ha1
        omega
      · rcases h3 x hx with h4 | ⟨f', g, h4, h5⟩
        · rcases List.mem_append.1 h4 with h4 | h4
          · exact .inl h4
          · obtain ⟨k, k0, k1, hk⟩ := any_lst.1 hn
            exact .inr ⟨f, _, by simp, by simpa using h4, fun k k0 k1 => by have := hf k k0 k1; have := hM k k0 k1; omega, k, k0, k1, hk⟩
        · exact .inr ⟨f', g, by simp [h4], h5⟩
    · have e : tStep (lst m M, L) (lst m f) = (lst m fun k => M k - min (f k) (M k), L) := by
        unfold tStep; dsimp only; rw [e1, e2, if_neg hn]
      rw [e]
      obtain ⟨⟨M', h1, h2⟩, h3⟩ := tRun_col h (fun k => M k - min (f k) (M k)) L ha1 hM1
      refine ⟨⟨M', h1, fun j j0 j1 => ?_⟩, fun x hx => ?_⟩
      · obtain ⟨g1, g2⟩ := h2 j j0 j1
        rw [List.map_cons, List.sum_cons, lst_getD j0 j1]
        have hz : ¬ 0 < f j - min (f j) (M j) := fun hh => hn (any_lst.2 ⟨j, j0, j1, hh⟩)
        have := hf j j0 j1; have := hM j j0 j1; have := col_nn j0 j1 h ha1
        omega
      · rcases h3 x hx with h4 | ⟨f', g, h4, h5⟩
        · exact .inl h4
        · exact .inr ⟨f', g, by simp [h4], h5⟩
theorem psum_swap (d : Int → Int) : ∀ n : Nat, psum (fun k => d k) (fun _ => 1) n = psum (fun _ => 1) d n
  | 0 => rfl
  | n + 1 => by simp only [psum]; rw [psum_swap d n]; omega
theorem wsum_add (f g : List Int → Int) : ∀ L : Us, wsum (fun l => f l + g l) L = wsum f L + wsum g L
  | [] => rfl
  | x :: L => by simp only [wsum]; rw [wsum_add f g L, Int.add_mul]; omega
theorem wsum_zero : ∀ L : Us, wsum (fun _ => 0) L = 0
  | [] => rfl
  | x :: L => by simp only [wsum]; rw [wsum_zero L]; omega
theorem wsum_mk (L : Us) : ∀ n : Nat, wsum (fun l => psum (fun k => l.getD k.toNat 0) (fun _ => 1) n) L = psum (fun k => mkU k L) (fun _ => 1) n
  | 0 => wsum_zero L
  | n + 1 => by
    have h := wsum_add (fun l => psum (fun k => l.getD k.toNat 0) (fun _ => 1) n) (fun l => l.getD n 0) L
    simp only [psum]
    rw [wsum_mk L n] at h
    have e : (fun l : List Int => psum (fun k => l.getD k.toNat 0) (fun _ => 1) n + l.getD (n : Int).toNat 0 * 1) = fun l => psum (fun k => l.getD k.toNat 0) (fun _ => 1) n + l.getD n 0 := by
      funext l; rw [Int.toNat_natCast]; omega
    rw [e, h]
    unfold mkU
    rw [Int.toNat_natCast]; omega
theorem fit_less {p : Prob} {n : Int} {f g : Int → Int} (h : FitsP p n f) (hn : n = p.m) (hg : ∀ k, 0 ≤ k → k < p.m → 0 ≤ g k ∧ g k ≤ f k) : FitsP p p.m g := by
  refine ⟨h.ok, rfl, fun i i0 i1 => by have := h.all i i0 i1; have := hg i i0 i1; omega, Int.le_trans (sumTo_le fun i i0 i1 => ?_) h.used⟩
  have hm := h.ok.m1
  have h1 := hg i i0 (by omega)
  have h2 := h.ok.all i i0 (by omega)
  unfold Prob.each at h2
  exact Int.mul_le_mul_of_nonneg_right h1.2 (by have := h.ok.k1; omega)
theorem TrimR.ex {p : Prob} {u e : Int} {ln cnt : Int → Int} {pt : Int → Int → Int} {out : Us} (h : TrimR p u ln pt cnt out e) (he : e = 0) (u0 : 0 ≤ u) : ExU p out := by
  rcases h with ⟨_, _, h⟩ | ⟨_, _, _, h⟩ | ⟨h1, h2, _, N, hN, hO⟩
  · omega
  · omega
  · have hok := h1.1
    have hm := hok.m1
    have hpos := fun x hx => hN.pos (plan_pos h1) x hx
    have hfitN : ∀ x ∈ N, FitL p x.1 := fun x hx => by
      obtain ⟨y, hy, ey⟩ := hN.keys x hx
      rw [← ey]; exact (planOk_mem h1 y hy).2
    have hbar : ∀ a ∈ brsU N, FitL p a := fun a ha => by
      obtain ⟨x, hx, rfl⟩ := brsU_mem a ha
      exact hfitN x hx
    have hmade : ∀ j, 0 ≤ j → j < p.m → madeF u pt cnt j = ((brsU N).map fun a => a.getD j.toNat 0).sum := fun j j0 j1 => by
      rw [brsU_sum _ fun x hx => by have := hpos x hx; omega, h1.mk u0 j0 j1]
      exact (hN.wsum _).symm
    obtain ⟨⟨M', _, hc⟩, hmem⟩ := tRun_col (m := p.m) (brsU N) (fun j => madeF u pt cnt j - p.D j) [] (fun a ha => by
      obtain ⟨f, hf, rfl⟩ := hbar a ha
      exact ⟨f, fun k k0 k1 => (hf.all k k0 k1).1, rfl⟩) fun k k0 k1 => by have := h2 k k0 k1; omega
    have hT : ∀ x ∈ (tRun (lst p.m fun j => madeF u pt cnt j - p.D j) (brsU N)).2, 1 ≤ x.2 ∧ FitL p x.1 ∧ (∀ k, 0 ≤ k → k < p.m → 0 ≤ x.1.getD k.toNat 0) ∧ ∃ k, 0 ≤ k ∧ k < p.m ∧ 0 < x.1.getD k.toNat 0 := fun x hx => by
      rcases hmem x hx with h | ⟨f, g, hf, rfl, hg, k, k0, k1, hk⟩
      · cases h
      · obtain ⟨f', hf', ef⟩ := hbar _ hf
        have e1 := ((lst_eq (by omega) (by omega)).1 ef).2
        refine ⟨Int.le_refl _, ⟨g, fit_less hf' rfl fun k k0 k1 => by have := hg k k0 k1; rw [← e1 k k0 k1]; exact this, rfl⟩, fun k k0 k1 => ?_, k, k0, k1, ?_⟩
        · dsimp only; rw [lst_getD k0 k1]; exact (hg k k0 k1).1
        · dsimp only; rw [lst_getD k0 k1]; exact hk
    have hmk : ∀ j, 0 ≤ j → j < p.m → mkU j (tRun (lst p.m fun j => madeF u pt cnt j - p.D j) (brsU N)).2 = p.D j := fun j j0 j1 => by
      obtain ⟨g1, g2⟩ := hc j j0 j1
      rw [← hmade j j0 j1] at g1 g2
      have g3 : mkU j ([] : Us) = 0 := rfl
      have hd := (dnn9 hok j0 j1).1
      unfold tRun
      have := h2 j j0 j1
      omega
    refine ⟨fun x hx => ⟨hO.pos (fun y hy => (hT y hy).1) x hx, ?_⟩, ?_, fun j j0 j1 => ?_⟩
    · obtain ⟨y, hy, ey⟩ := hO.keys x hx
      rw [← ey]; exact (hT y hy).2.1
    · rw [hO.wsum]
      refine Int.le_trans (wsum_le (g := fun l => psum (fun k => l.getD k.toNat 0) (fun _ => 1) p.m.toNat) (fun x hx => by have := (hT x hx).1; omega) fun x hx => ?_) ?_
      · obtain ⟨_, _, h3, k, k0, k1, hk⟩ := hT x hx
        have h4 := psum_mono (d := fun _ => 1) (f := fun k => x.1.getD k.toNat 0) (i := (k + 1).toNat) (n := p.m.toNat) (by omega) fun q hq => by have := h3 q (by omega) (by omega); omega
        rw [psum_next _ _ k0] at h4
        have h5 := psum_mono (d := fun _ => 1) (f := fun k => x.1.getD k.toNat 0) (i := 0) (n := k.toNat) (by omega) fun q hq => by have := h3 q (by omega) (by omega); omega
        have h6 : psum (fun k => x.1.getD k.toNat 0) (fun _ => 1) 0 = 0 := rfl
        omega
      · rw [wsum_mk, ← psum_swap]
        refine Int.le_of_eq (psum_congr fun k hk => ⟨hmk k (by omega) (by omega), rfl⟩)
    · unfold mkU; rw [hO.wsum]; exact hmk j j0 j1
theorem DownR.ex {p : Prob} {u : Int} {ml : Int → Int} {mf : Int → Int → Int} {s : So} {out : Us} {e : Int} (h : DownR p u ml mf s out e) (he : e = 0) : ExU p out := by
  rcases h with ⟨h, _⟩ | ⟨n1, ln1, pt1, cnt1, n2, ln2, pt2, cnt2, hw, n10, n20, hN, hT⟩
  · exact absurd he h
  · exact hT.ex he (by omega)
theorem UpR.ex {p : Prob} {u : Int} {ml : Int → Int} {mf : Int → Int → Int} {s : So} {out : Us} {e : Int} (h : UpR p u ml mf s out e) (he : e = 0) : ExU p out := by
  rcases h with ⟨h, _⟩ | ⟨n1, ln1, pt1, cnt1, t, n, ln, pt, cnt, hw, n10, n0, hp, _, hU, hT⟩
  · exact absurd he h
  · exact hT.ex he n0
theorem WholeR.bad {p : Prob} {u n : Int} {ml ln cnt : Int → Int} {mf pt : Int → Int → Int} {s : So} {e : Int} (h : WholeR p u ml mf s n ln pt cnt e) (hn : ¬ FitR p u ml mf s) : e = 1 := by
  rcases h with ⟨_, _, h⟩ | ⟨_, h, _⟩ | ⟨_, h, _⟩
  · exact h
  · exact absurd h hn
  · exact absurd h hn
theorem DownR.bad {p : Prob} {u : Int} {ml : Int → Int} {mf : Int → Int → Int} {s : So} {out : Us} {e : Int} (h : DownR p u ml mf s out e) (hn : ¬ FitR p u ml mf s) : e = 1 ∧ out = [] := by
  rcases h with ⟨_, h1, _, _, _, _, h2⟩ | ⟨n1, ln1, pt1, cnt1, n2, ln2, pt2, cnt2, hw, _⟩
  · exact ⟨h2.bad hn, h1⟩
  · have := hw.bad hn; omega
theorem UpR.bad {p : Prob} {u : Int} {ml : Int → Int} {mf : Int → Int → Int} {s : So} {out : Us} {e : Int} (h : UpR p u ml mf s out e) (hn : ¬ FitR p u ml mf s) : e = 1 ∧ out = [] := by
  rcases h with ⟨_, h1, _, _, _, _, h2⟩ | ⟨n1, ln1, pt1, cnt1, t, n, ln, pt, cnt, hw, _⟩
  · exact ⟨h2.bad hn, h1⟩
  · have := hw.bad hn; omega
theorem TrimR.no {p : Prob} {n e : Int} {ln cnt : Int → Int} {pt : Int → Int → Int} {out : Us} (h : TrimR p n ln pt cnt out e) (he : e ≠ 0) : out = [] := by
  rcases h with ⟨_, h2, _⟩ | ⟨_, _, h3, _⟩ | ⟨_, _, h3, _⟩
  · first | exact h2 | omega
  · first | exact h3 | omega
  · omega
theorem rows_few {p : Prob} {n e : Int} {ln cnt : Int → Int} {pt : Int → Int → Int} (hf : Few28 p) (n0 : 0 ≤ n) (hc : ∀ k, 0 ≤ k → k < n → 1 ≤ cnt k) (hx : e = 0 → p.Ok ∧ ExU p (plL n ln pt cnt)) (hn : e ≠ 0 → plL n ln pt cnt = []) : n ≤ 100000 := by
  by_cases he : e = 0
  · obtain ⟨hok, h1⟩ := hx he
    have h2 := (plan_cnt hc h1.few).1
    have := few_tot hok hf; omega
  · have h := plL_len n ln pt cnt
    rw [hn he] at h; simp at h; omega
theorem WholeR.okp {p : Prob} {u n : Int} {ml ln cnt : Int → Int} {mf pt : Int → Int → Int} {s : So} (h : WholeR p u ml mf s n ln pt cnt 0) : p.Ok := by
  rcases h with ⟨_, h⟩ | ⟨h, _⟩ | ⟨h, _⟩
  · omega
  · exact h
  · exact h
theorem DownR.few {p : Prob} {u n e : Int} {ml ln cnt : Int → Int} {mf pt : Int → Int → Int} {s : So} (h : DownR p u ml mf s (plL n ln pt cnt) e) (hf : Few28 p) (n0 : 0 ≤ n) (hc : ∀ k, 0 ≤ k → k < n → 1 ≤ cnt k) : n ≤ 100000 := rows_few hf n0 hc
  (fun he => by
    refine ⟨?_, h.ex he⟩
    rcases h with ⟨h, _⟩ | ⟨_, _, _, _, _, _, _, _, hw, _⟩
    · exact absurd he h
    · exact hw.okp)
  (fun he => by
    rcases h with ⟨_, h, _⟩ | ⟨_, _, _, _, _, _, _, _, _, _, _, _, hT⟩
    · exact h
    · exact hT.no he)
theorem UpR.few {p : Prob} {u n e : Int} {ml ln cnt : Int → Int} {mf pt : Int → Int → Int} {s : So} (h : UpR p u ml mf s (plL n ln pt cnt) e) (hf : Few28 p) (n0 : 0 ≤ n) (hc : ∀ k, 0 ≤ k → k < n → 1 ≤ cnt k) : n ≤ 100000 := rows_few hf n0 hc
  (fun he => by
    refine ⟨?_, h.ex he⟩
    rcases h with ⟨h, _⟩ | ⟨_, _, _, _, _, _, _, _, _, hw, _⟩
    · exact absurd he h
    · exact hw.okp)
  (fun he => by
    rcases h with ⟨_, h, _⟩ | ⟨_, _, _, _, _, _, _, _, _, _, _, _, _, _, _, hT⟩
    · exact h
    · exact hT.no he)
set_option maxHeartbeats 4000000 in
set_option maxRecDepth 20000 in
theorem law_round {vL vD : Value} {p : Prob} {vM : Value} {u : Int} {mv : Int → Value} {ml : Int → Int} {mf : Int → Int → Int} {vX vY : Value} {s : So} (w0 : World) (h : PAt w0 vL vD p) (hM : MAt w0 vM u mv ml mf) (hX : Row w0 vX 1 s.n (ints s.X)) (hY : Row w0 vY 1 s.m (ints s.Y)) :
    Calls Try.prog 5 [.agg #[vL, vD, .int .i64 p.stock, .int .i64 p.kerf], .agg #[vM, vX, vY, .int .i64 s.val, .int .i64 s.den]].toArray w0 fun e w => ∃ v, e = .returned v ∧ v = .bool true ∧ Sat w0 w [] := by
  have hm := h.L.slh.n0; have hm1 := h.L.slh.n1; have hd := h.D.slh.n0; have hd1 := h.D.slh.n1; have hs := h.is; have hk := h.ik
  have hu := hM.row.slh.n0; have hu1 := hM.row.slh.n1; have hn := hX.slh.n0; have hn1 := hX.slh.n1
  refine zenG Try.func5 Try.ntmps5 fun w hS => ?_
  refine zsr ?_
  refine zla (xbx (cs := [_, _, _, _]) hS) ?_; rintro _ w ⟨g1, rfl, hS⟩
  replace hS := hS.n1
  refine zla (xbx (cs := [_, _, _, _, _]) hS) ?_; rintro _ w ⟨g2, rfl, hS⟩
  replace hS := hS.n2
  refine zlv xas ?_
  refine zlt <| zsq <| zsr ?_
  refine zlc (xc0 cl_17) (c_awake34 w) ?_; rintro _ w ⟨rfl, hS'⟩
  replace hS := hS.cmp hS'; clear hS'
  refine zs2 ?_
  refine zlv (xls 0 st_24 hS) ?_
  refine zlv (xls 1 st_54 hS) ?_
  refine zlc (xc0 cl_20) (c_few34 (p := p) (u := u) (ml := ml) (mf := mf) (s := s) w (h.below hS.below) (hM.below hS.below) (hX.below hS.below) (hY.below hS.below)) ?_; rintro _ w ⟨rfl, hS'⟩
  replace hS := hS.cmp hS'; clear hS'
  refine zs2 ?_
  refine zlt ?_
  refine zcif ?_ ?_ <;> intro hc
  ·
   refine zsr ?_
   refine zlc (xc0 cl_17) (c_awake34 w) ?_; rintro _ w ⟨rfl, hS'⟩
   replace hS := hS.cmp hS'; clear hS'
   refine zlv xas ?_
   refine zlt <| zrt <| ztr <| zf1 ⟨_, rfl, ?_⟩
   exact ⟨rfl, hS.nl⟩
  refine zsk <| ztn <| zsq ?_
  refine zdst [0, 1] [0, 1] 1000 mx_ hS ?_; clear hS; intro w hS
  refine zdla 0 (fun w hS => (xls 0 st_24 hS)) ?_
  have hfew : Few28 p ∧ ((∀ k, 0 ≤ k → k < u → ml k ≤ 25) ∧ u ≤ 30) ∧ s.n ≤ 30 ∧ s.m ≤ 30 := by first | assumption | exact Classical.not_not.1 ‹_›
  have hn60 : s.n ≤ 1000 := by have := hfew.2.2.1; omega
  have hf28 := hfew.1
  refine zdla 1 (fun w hS => (xls 1 st_54 hS)) ?_
  refine zdc 2 (xc0 cl_22) (c_own34 (u := u) (ml := ml) (mf := mf) (s := s) w (hM.below hS.below) (hX.below hS.below) (hY.below hS.below)) ?_; rintro _ w ⟨rfl, hS'⟩
  replace hS := hS.cmp hS'; clear hS'
  refine ⟨⟨fun _ => hS, hS⟩, ?_⟩
  refine zdc 3 (xc0 cl_21) (c_down (p := p) (u := u) (ml := ml) (mf := mf) (s := s) w (h.below hS.below) (hM.below hS.below) (hX.below hS.below) (hY.below hS.below) (by omega)) ?_; rintro _ w ⟨vndw1, nndw1, pndw1, lndw1, gndw1, cndw1, endw1, rfl, hdw1, hcdw1, hndw1, hvndw1, hS'⟩
  replace hS : Sat w0 w [.blk g1 [vL, vD, .int .i64 p.stock, .int .i64 p.kerf], .blk g2 [vM, vX, vY, .int .i64 s.val, .int .i64 s.den], .own vndw1 2 50 nndw1 (ucells pndw1 cndw1), .sem (Frame.rows 3 nndw1 pndw1 lndw1 gndw1)] := hS.comp hS'; clear hS'
  have hrndw1 := fun k (k0 : 0 ≤ k) (k1 : k < nndw1) => hS.slhIn 3 rfl k0 k1
  refine ⟨⟨fun _ => hS.pk [0, 1], hS.pk [0, 1]⟩, ?_⟩
  refine zdv 4 (fun _ => xmv) ?_
  refine zdv 5 (fun _ => xex) ?_
  refine zdv 6 (fun _ => xex) ?_
  refine zdv 7 (fun _ => xas) ?_
  refine zdv 8 (fun _ => xas) ?_
  refine zdd <| ztn <| zsr ?_
  refine zlv (xls 0 st_24 hS) ?_
  refine zlv (xls 1 st_54 hS) ?_
  refine zlc (xc0 cl_23) (c_rdown (p := p) (u := u) (ml := ml) (mf := mf) (s := s) w (h.below hS.below) (hM.below hS.below) (hX.below hS.below) (hY.below hS.below) (by omega)) ?_; rintro _ w ⟨vnrdw1, nnrdw1, pnrdw1, lnrdw1, gnrdw1, cnrdw1, enrdw1, rfl, hrdw1, hcrdw1, hnrdw1, hvnrdw1, hS'⟩
  replace hS : Sat w0 w [.blk g1 [vL, vD, .int .i64 p.stock, .int .i64 p.kerf], .blk g2 [vM, vX, vY, .int .i64 s.val, .int .i64 s.den], .own vndw1 2 50 nndw1 (ucells pndw1 cndw1), .sem (Frame.rows 3 nndw1 pndw1 lndw1 gndw1), .own vnrdw1 2 34 nnrdw1 (ucells pnrdw1 cnrdw1), .sem (Frame.rows 3 nnrdw1 pnrdw1 lnrdw1 gnrdw1)] := hS.comp hS'; clear hS'
  have hrnrdw1 := fun k (k0 : 0 ≤ k) (k1 : k < nnrdw1) => hS.slhIn 5 rfl k0 k1
  refine zs5 ?_
  refine zlt <| zsq ?_
  refine zdst [0, 1, 2, 3, 4, 5] [0, 1, 2, 3, 4, 5] 1000 mx_ hS ?_; clear hS; intro w hS
  refine zdla 0 (fun w hS => (xls 0 st_24 hS)) ?_
  refine zdla 1 (fun w hS => (xls 1 st_54 hS)) ?_
  refine zdc 2 (xc0 cl_22) (c_own34 (u := u) (ml := ml) (mf := mf) (s := s) w (hM.below hS.below) (hX.below hS.below) (hY.below hS.below)) ?_; rintro _ w ⟨rfl, hS'⟩
  replace hS := hS.cmp hS'; clear hS'
  refine ⟨⟨fun _ => hS, hS⟩, ?_⟩
  refine zdc 3 (xc0 cl_24) (c_up (p := p) (u := u) (ml := ml) (mf := mf) (s := s) w (h.below hS.below) (hM.below hS.below) (hX.below hS.below) (hY.below hS.below) (by omega)) ?_; rintro _ w ⟨vnup1, nnup1, pnup1, lnup1, gnup1, cnup1, enup1, rfl, hup1, hcup1, hnup1, hvnup1, hS'⟩
  replace hS : Sat w0 w [.blk g1 [vL, vD, .int .i64 p.stock, .int .i64 p.kerf], .blk g2 [vM, vX, vY, .int .i64 s.val, .int .i64 s.den], .own vndw1 2 50 nndw1 (ucells pndw1 cndw1), .sem (Frame.rows 3 nndw1 pndw1 lndw1 gndw1), .own vnrdw1 2 34 nnrdw1 (ucells pnrdw1 cnrdw1), .sem (Frame.rows 3 nnrdw1 pnrdw1 lnrdw1 gnrdw1), .own vnup1 2 50 nnup1 (ucells pnup1 cnup1), .sem (Frame.rows 3 nnup1 pnup1 lnup1 gnup1)] := hS.comp hS'; clear hS'
  have hrnup1 := fun k (k0 : 0 ≤ k) (k1 : k < nnup1) => hS.slhIn 7 rfl k0 k1
  refine ⟨⟨fun _ => hS.pk [0, 1, 2, 3, 4, 5], hS.pk [0, 1, 2, 3, 4, 5]⟩, ?_⟩
  refine zdv 4 (fun _ => xmv) ?_
  refine zdv 5 (fun _ => xex) ?_
  refine zdv 6 (fun _ => xex) ?_
  refine zdv 7 (fun _ => xas) ?_
  refine zdv 8 (fun _ => xas) ?_
  refine zdd <| ztn <| zsr ?_
  refine zlv (xls 0 st_24 hS) ?_
  refine zlv (xls 1 st_54 hS) ?_
  refine zlc (xc0 cl_25) (c_rup (p := p) (u := u) (ml := ml) (mf := mf) (s := s) w (h.below hS.below) (hM.below hS.below) (hX.below hS.below) (hY.below hS.below) (by omega)) ?_; rintro _ w ⟨vnrup1, nnrup1, pnrup1, lnrup1, gnrup1, cnrup1, enrup1, rfl, hrup1, hcrup1, hnrup1, hvnrup1, hS'⟩
  replace hS : Sat w0 w [.blk g1 [vL, vD, .int .i64 p.stock, .int .i64 p.kerf], .blk g2 [vM, vX, vY, .int .i64 s.val, .int .i64 s.den], .own vndw1 2 50 nndw1 (ucells pndw1 cndw1), .sem (Frame.rows 3 nndw1 pndw1 lndw1 gndw1), .own vnrdw1 2 34 nnrdw1 (ucells pnrdw1 cnrdw1), .sem (Frame.rows 3 nnrdw1 pnrdw1 lnrdw1 gnrdw1), .own vnup1 2 50 nnup1 (ucells pnup1 cnup1), .sem (Frame.rows 3 nnup1 pnup1 lnup1 gnup1), .own vnrup1 2 34 nnrup1 (ucells pnrup1 cnrup1), .sem (Frame.rows 3 nnrup1 pnrup1 lnrup1 gnrup1)] := hS.comp hS'; clear hS'
  have hrnrup1 := fun k (k0 : 0 ≤ k) (k1 : k < nnrup1) => hS.slhIn 9 rfl k0 k1
  refine zs5 ?_
  refine zlz ?_
  refine zlv xmv ?_
  have hfw1 := hdw1.few hf28 hvndw1.n0 fun k k0 k1 => (hcdw1 k k0 k1).1
  have hfw2 := hup1.few hf28 hvnup1.n0 fun k k0 k1 => (hcup1 k k0 k1).1
  obtain ⟨hde, hdq⟩ := hdw1.same hrdw1
  have hsA := SameP.of_plL hvndw1.n0 hvnrdw1.n0 (fun k k0 k1 => (hrndw1 k k0 k1).n0) (fun k k0 k1 => (hrnrdw1 k k0 k1).n0) hde
  obtain ⟨hue, huq⟩ := hup1.same hu hrup1
  have hsB := SameP.of_plL hvnup1.n0 hvnrup1.n0 (fun k k0 k1 => (hrnup1 k k0 k1).n0) (fun k k0 k1 => (hrnrup1 k k0 k1).n0) hue
  refine zlv xmv ?_
  refine zlc (xc0 cl_26) (c_same34 (n := nndw1) (pv := pndw1) (ln := lndw1) (pt := gndw1) (cnt := cndw1) (n2 := nnrdw1) (pv2 := pnrdw1) (ln2 := lnrdw1) (pt2 := gnrdw1) (cnt2 := cnrdw1) w (⟨(hS.rowN 2 rfl), fun k k0 k1 => hS.rowIn 3 rfl k0 k1, fun k k0 k1 => hS.roomIn 3 rfl k0 k1⟩ : VAt _ vndw1 nndw1 pndw1 lndw1 gndw1 cndw1) (⟨(hS.rowN 4 rfl), fun k k0 k1 => hS.rowIn 5 rfl k0 k1, fun k k0 k1 => hS.roomIn 5 rfl k0 k1⟩ : VAt _ vnrdw1 nnrdw1 pnrdw1 lnrdw1 gnrdw1 cnrdw1) (by omega)) ?_; rintro _ w ⟨rfl, hS'⟩
  replace hS := hS.cmp hS'; clear hS'
  refine zlv xmv ?_
  refine zlb 51 ?_ ?_ <;> intro hc
  ·
   refine zs5 ?_
   refine zlb 56 ?_ ?_ <;> intro hc
   ·
    refine zs2 ?_
    refine zlc (xc0 cl_26) (c_same34 (n := nnup1) (pv := pnup1) (ln := lnup1) (pt := gnup1) (cnt := cnup1) (n2 := nnrup1) (pv2 := pnrup1) (ln2 := lnrup1) (pt2 := gnrup1) (cnt2 := cnrup1) w (⟨(hS.rowN 6 rfl), fun k k0 k1 => hS.rowIn 7 rfl k0 k1, fun k k0 k1 => hS.roomIn 7 rfl k0 k1⟩ : VAt _ vnup1 nnup1 pnup1 lnup1 gnup1 cnup1) (⟨(hS.rowN 8 rfl), fun k k0 k1 => hS.rowIn 9 rfl k0 k1, fun k k0 k1 => hS.roomIn 9 rfl k0 k1⟩ : VAt _ vnrup1 nnrup1 pnrup1 lnrup1 gnrup1 cnrup1) (by omega)) ?_; rintro _ w ⟨rfl, hS'⟩
    replace hS := hS.cmp hS'; clear hS'
    refine zs2 ?_
    refine zlb 61 ?_ ?_ <;> intro hc
    ·
     refine zs5 ?_
     refine zlt <| zrt <| zf1 ⟨_, rfl, ?_⟩
     exact ⟨(true_B (by omega)).symm, hS.nl⟩
    iterate 3 refine zlo ?_
    refine zs2 ?_
    refine zlt <| zrt <| zf1 ⟨_, rfl, ?_⟩
    exfalso
    first | omega | exact absurd hsA ‹_› | exact absurd hsB ‹_›
   iterate 3 refine zlo ?_
   refine zs2 ?_
   iterate 3 refine zlo ?_
   refine zs2 ?_
   refine zlt <| zrt <| zf1 ⟨_, rfl, ?_⟩
   exfalso
   first | omega | exact absurd hsA ‹_› | exact absurd hsB ‹_›
  iterate 3 refine zlo ?_
  refine zs2 ?_
  iterate 3 refine zlo ?_
  refine zs2 ?_
  iterate 3 refine zlo ?_
  refine zs2 ?_
  refine zlt <| zrt <| zf1 ⟨_, rfl, ?_⟩
  exfalso
  first | omega | exact absurd hsA ‹_› | exact absurd hsB ‹_›
end Go.Proofs.Ytopmifmfecfaaaa
namespace Go.Proofs.Gw
open Go Go.RowKit Go.ChangeShapes Go.WideShapes Go.ChangeAt
section
variable {H : Type} {enc : TypeId × Value → H} {P : Program} {w : World} {held : Bool}
def Small {H : Type} (P : Program) (t : TypeId) (d : DataW H) : Prop := (d.weights P t).all (· ≤ reachBytes) = true
theorem small_each {ts : List TypeId} {ds : List (DataW H)} (h : (DataW.weightsEach P ts ds).all (· ≤ reachBytes) = true) {j : Nat} {t : TypeId} {d : DataW H} (ht : ts[j]? = some t) (hd : ds[j]? = some d) : Small P t d :=
  List.all_eq_true.2 fun n hn => List.all_eq_true.1 h n (DataW.weights_mem_each ht hd n hn)
theorem small_struct {t : TypeId} {fs : Array Field} {parts : List (DataW H)} (h : Small P t (.agg parts)) (hu : P.underlying t = some (.struct fs)) {j : Nat} {u : TypeId} {d : DataW H} (ht : (fs.toList.map (·.type))[j]? = some u) (hd : parts[j]? = some d) : Small P u d := by
  unfold Small at h
  simp only [DataW.weights, hu] at h
  exact small_each h ht hd
theorem small_all {e : TypeId} : ∀ {ds : List (DataW H)}, (DataW.weightsAll P e ds).all (· ≤ reachBytes) = true → ∀ d ∈ ds, Small P e d
  | [], _, d, hd => by cases hd
  | x :: r, h, d, hd => by
    simp only [DataW.weightsAll, List.all_append, Bool.and_eq_true] at h
    rcases List.mem_cons.1 hd with rfl | hd
    · exact h.1
    · exact small_all h.2 d hd
theorem small_slice {t e : TypeId} {elems spare : List (DataW H)} (h : Small P t (.slice elems spare)) (hu : P.underlying t = some (.slice e)) : (elems.length + spare.length) * P.bytesOf e ≤ reachBytes ∧ ∀ d ∈ elems, Small P e d := by
  unfold Small at h
  simp only [DataW.weights, hu, List.all_cons, List.all_append, Bool.and_eq_true, decide_eq_true_eq] at h
  exact ⟨h.1, small_all h.2.1⟩
theorem wf_i64 {n : Int} (h : (Lit.int .i64 n).wf = true) : -9223372036854775808 ≤ n ∧ n ≤ 9223372036854775807 := by
  simp only [Lit.wf, Bool.and_eq_true, decide_eq_true_eq] at h
  have h1 : IntKind.i64.min = -9223372036854775808 := by decide
  have h2 : IntKind.i64.max = 9223372036854775807 := by decide
  omega
theorem spot_none {a : Addr} {v : Value} (h : w.cell? a = some v) : a.spot = none := World.cell?_spot h
end
end Go.Proofs.Gw
namespace Go.Proofs.Gw
open Go Go.RowKit Go.ChangeShapes Go.WideShapes Go.ChangeAt
section
variable {H : Type} {enc : TypeId × Value → H} {P : Program} {w : World} {held : Bool}
def Rd {H : Type} (enc : TypeId × Value → H) (P : Program) (w : World) (held : Bool) (t : TypeId) (cs : List Value) : Prop := ∃ fuel y, DataW.trod enc P w 0 (fun _ => true) held fuel t cs = some y ∧ Small P t y.1
theorem Rd.int {k : IntKind} {t : TypeId} {cs : List Value} (h : Rd enc P w held t cs) (ht : P.underlying t = some (.int k)) : ∃ n, cs = [.int k n] ∧ (Lit.int k n).wf = true := by
  obtain ⟨fuel, y, h, _⟩ := h
  obtain ⟨n, h1, _, h2⟩ := DataW.trod_int ht h
  exact ⟨n, h1, h2⟩
theorem Rd.intv {k : IntKind} {t : TypeId} {v : Value} (h : Rd enc P w held t [v]) (ht : P.underlying t = some (.int k)) : ∃ n, v = .int k n ∧ (Lit.int k n).wf = true := by
  obtain ⟨n, h1, h2⟩ := h.int ht
  exact ⟨n, by simpa using h1, h2⟩
theorem Rd.struct {fs : Array Field} {t : TypeId} {cs : List Value} (h : Rd enc P w held t cs) (ht : P.underlying t = some (.struct fs)) : ∀ (j : Nat) (f : Field), fs[j]? = some f → Rd enc P w held f.type ((cs.drop f.offset).take (P.cellsOf f.type)) := fun j f hf => by
  obtain ⟨fuel, y, h, hs⟩ := h
  obtain ⟨xs, n, _, rfl, hl, hlen, hx⟩ := DataW.trod_struct ht h
  have hj : j < xs.length := by rw [hlen]; exact (Array.getElem?_eq_some_iff.1 hf).1
  have h1 := hx j f hf
  rw [List.getElem?_eq_getElem hj] at h1
  exact ⟨n, _, h1, small_struct (j := j) hs ht (by simp [hf]) (by simp [hj])⟩
theorem Rd.len {fs : Array Field} {t : TypeId} {cs : List Value} (h : Rd enc P w held t cs) (ht : P.underlying t = some (.struct fs)) : cs.length = P.cellsOf t := by
  obtain ⟨fuel, y, h, hs⟩ := h
  obtain ⟨xs, n, _, rfl, hl, hlen, hx⟩ := DataW.trod_struct ht h
  exact hl
theorem Rd.slice {t e : TypeId} {s b : Nat} {v : Value} (h : Rd enc P w held t [v]) (ht : P.underlying t = some (.slice e)) (ce : P.cellsOf e = s) (be : P.bytesOf e = b) (hs1 : 1 ≤ s) (hsb : s ≤ b) :
    ∃ (n : Int) (c : Int → Value), Row w v s n c ∧ b * n ≤ 140737488351232 ∧ ∀ i : Int, 0 ≤ i → i < n → Rd enc P w held e ((List.range s).map fun j : Nat => c (i * s + j)) := by
  obtain ⟨fuel, y, h, hs⟩ := h
  rcases Go.Deep.open_slice ht h with ⟨hcs, _⟩ | ⟨a, len, cap, m, n, D, Pl, hcs, _, hl, hm, hmm, hy, hx⟩
  · simp only [List.cons.injEq, and_true] at hcs
    subst hcs
    exact ⟨0, fun _ => undef, ⟨⟨by omega, by omega, none, 0, rfl, .inl rfl⟩, fun k hk => by rw [Int.zero_mul] at hk; omega⟩, by omega, fun i a0 a1 => by omega⟩
  · simp only [List.cons.injEq, and_true] at hcs
    subst hcs
    simp only [if_true] at hmm
    subst hmm
    rw [hy] at hs
    have hsm := small_slice hs ht
    have hb1 := hsm.1
    rw [be] at hb1
    simp only [List.length_map, List.length_range] at hb1
    have h2 : len * b ≤ (len + (m - len)) * b := Nat.mul_le_mul_right _ (by omega)
    have h3 : len * b ≤ 140737488351232 := by unfold reachBytes at hb1; omega
    have h4 : len * 1 ≤ len * b := Nat.mul_le_mul_left _ (by omega)
    rw [ce] at hx
    have e0 : ∀ i : Nat, ∃ cs' : List Value, i < len → w.cells? 0 (a.add (i * s)) s = some cs' ∧ DataW.trod enc P w 0 (fun _ => true) held n e cs' = some (D i, Pl i) := fun i => by
      by_cases hi : i < len
      · obtain ⟨cs', h5, h6⟩ := hx i (by omega)
        exact ⟨cs', fun _ => ⟨h5, h6⟩⟩
      · exact ⟨[], fun h => absurd h hi⟩
    obtain ⟨C, hC⟩ := Classical.axiomOfChoice e0
    have hsp0 : 0 < len → a.spot = none := fun h0 => by
      obtain ⟨_, h7, h8⟩ := World.cells?_some (hC 0 h0).1
      have h9 := h8 0 (by omega)
      rw [List.getElem?_eq_getElem (by omega)] at h9
      have h10 := spot_none h9
      simpa [Addr.add] using h10
    refine ⟨len, fun k => (C (k / s).toNat).getD (k % s).toNat undef, ⟨⟨by omega, by omega, some a, m, by simp, ?_⟩, fun j hj => ?_⟩, ?_, fun i i0 i1 => ?_⟩
    · by_cases hl0 : len = 0
      · left; omega
      · right
        have hsp := hsp0 (by omega)
        exact ⟨a.block, a.off, by cases a; simp at hsp; simp [hsp]⟩
    · have hjs : j < len * s := by rw [← Int.natCast_mul] at hj; omega
      have hi : j / s < len := (Nat.div_lt_iff_lt_mul (by omega)).2 hjs
      have hlen0 : 0 < len := Nat.lt_of_le_of_lt (Nat.zero_le _) hi
      have hsp := hsp0 hlen0
      obtain ⟨_, h7, h8⟩ := World.cells?_some (hC (j / s) hi).1
      have hr : j % s < s := Nat.mod_lt _ (by omega)
      have h9 := h8 (j % s) hr
      rw [Addr.add_eq a hsp, Addr.add_eq _ rfl] at h9
      have e1 : ((j : Int) / (s : Int)).toNat = j / s := by rw [← Int.natCast_ediv, Int.toNat_natCast]
      have e2 : ((j : Int) % (s : Int)).toNat = j % s := by rw [← Int.natCast_emod, Int.toNat_natCast]
      have e3 : a.off + j / s * s + j % s = a.off + j := by rw [Nat.add_assoc, Nat.mul_comm, Nat.div_add_mod]
      rw [List.getElem?_eq_getElem (by omega)] at h9
      simp only [e1, e2, List.getD_eq_getElem?_getD]
      rw [List.getElem?_eq_getElem (by omega)]
      simp only [cad, Int.toNat_natCast, Option.getD_some]
      simp only [e3] at h9
      exact h9
    · have : ((len * b : Nat) : Int) = b * len := by rw [Int.natCast_mul, Int.mul_comm]
      omega
    · obtain ⟨k, rfl⟩ := Int.eq_ofNat_of_zero_le i0
      have hk : k < len := by omega
      obtain ⟨h5, h6⟩ := hC k hk
      obtain ⟨_, h7, h8⟩ := World.cells?_some h5
      have e : ((List.range s).map fun j : Nat => (C (((k : Int) * (s : Int) + (j : Int)) / (s : Int)).toNat).getD (((k : Int) * (s : Int) + (j : Int)) % (s : Int)).toNat undef) = C k := by
        apply List.ext_getElem
        · simp [h7]
        · intro j hj1 hj2
          rw [List.getElem_map, List.getElem_range]
          have hjs : j < s := by simpa using hj1
          have e0 : ((k : Int) * (s : Int) + (j : Int)) = ((k * s + j : Nat) : Int) := by rw [Int.natCast_add, Int.natCast_mul]
          have e1 : (((k * s + j : Nat) : Int) / (s : Int)).toNat = k := by
            rw [← Int.natCast_ediv, Int.toNat_natCast, Nat.mul_comm, Nat.mul_add_div (by omega), Nat.div_eq_of_lt hjs, Nat.add_zero]
          have e2 : (((k * s + j : Nat) : Int) % (s : Int)).toNat = j := by
            rw [← Int.natCast_emod, Int.toNat_natCast, Nat.mul_comm, Nat.mul_add_mod, Nat.mod_eq_of_lt hjs]
          rw [e0, e1, e2, List.getD_eq_getElem?_getD, List.getElem?_eq_getElem hj2, Option.getD_some]
      rw [e]
      exact ⟨n, _, h6, hsm.2 (D k) (List.mem_map.2 ⟨k, List.mem_range.2 hk, rfl⟩)⟩
theorem Rd.array {n : Nat} {t e : TypeId} {cs : List Value} (h : Rd enc P w held t cs) (ht : P.underlying t = some (.array n e)) : ∀ i, i < n → Rd enc P w held e ((cs.drop (i * P.cellsOf e)).take (P.cellsOf e)) := fun i hi => by
  obtain ⟨fuel, y, h, hs⟩ := h
  obtain ⟨xs, m, _, rfl, _, hl, hel⟩ := DataW.trod_array ht h
  have h1 := hel i hi
  rw [List.getElem?_eq_getElem (by omega)] at h1
  refine ⟨m, _, h1, ?_⟩
  unfold Small at hs
  simp only [DataW.weights, ht] at hs
  exact small_all hs _ (List.mem_map.2 ⟨xs[i], List.getElem_mem _, rfl⟩)
theorem Rd.field {fs : Array Field} {t u : TypeId} {cs ds : List Value} (h : Rd enc P w held t cs) (ht : P.underlying t = some (.struct fs)) (j : Nat) {f : Field} (hf : fs[j]? = some f) {k : Nat} (hu : f.type = u) (hk : P.cellsOf u = k) (hd : (cs.drop f.offset).take k = ds) : Rd enc P w held u ds := by
  subst hu; subst hd; rw [← hk]; exact h.struct ht j f hf
theorem toList_inj {cs : Array Value} {l : List Value} (h : cs.toList = l) : cs = l.toArray := by subst h; simp
theorem Rd.arg {t : TypeId} {v : Value} {d : DataW H} {p : List MemPlace} (h : DataW.Trod enc P w 0 (fun _ => true) held t v d p) (hs : Small P t d) : Rd enc P w held t v.cells.toList := by
  obtain ⟨fuel, hf⟩ := h
  exact ⟨fuel, _, hf, hs⟩
theorem list4 {cs : List Value} (h : cs.length = 4) : ∃ a b c d, cs = [a, b, c, d] := by match cs, h with | [a, b, c, d], _ => exact ⟨_, _, _, _, rfl⟩
theorem list5 {cs : List Value} (h : cs.length = 5) : ∃ a b c d e, cs = [a, b, c, d, e] := by match cs, h with | [a, b, c, d, e], _ => exact ⟨_, _, _, _, _, rfl⟩
theorem Rd.nums {k : IntKind} {t e : TypeId} {b : Nat} {v : Value} (h : Rd enc P w held t [v]) (ht : P.underlying t = some (.slice e)) (he : P.underlying e = some (.int k)) (hc : P.cellsOf e = 1) (hb : P.bytesOf e = b) (hb1 : 1 ≤ b) :
    ∃ (n : Int) (f : Int → Int), Row w v 1 n (fun j => .int k (f j)) ∧ b * n ≤ 140737488351232 ∧ ∀ j, (Lit.int k (f j)).wf = true := by
  obtain ⟨n, c, h1, h2, h3⟩ := h.slice ht hc hb (by omega) hb1
  have h0 : (Lit.int k 0).wf = true := by cases k <;> decide
  have e0 : ∀ i : Int, ∃ x : Int, (Lit.int k x).wf = true ∧ (0 ≤ i → i < n → c i = .int k x) := fun i => by
    by_cases hi : 0 ≤ i ∧ i < n
    · have h4 := h3 i hi.1 hi.2
      simp only [List.range_one, List.map_cons, List.map_nil] at h4
      obtain ⟨x, hx, hw⟩ := h4.intv he
      refine ⟨x, hw, fun _ _ => ?_⟩
      rw [← hx]; congr 1; omega
    · exact ⟨0, h0, fun a0 a1 => absurd ⟨a0, a1⟩ hi⟩
  obtain ⟨f, hf⟩ := Classical.axiomOfChoice e0
  exact ⟨n, f, h1.congr fun i i0 i1 => (hf i).2 i0 (by omega), h2, fun j => (hf j).1⟩
theorem Rd.ints {t e : TypeId} {v : Value} (h : Rd enc P w held t [v]) (ht : P.underlying t = some (.slice e)) (he : P.underlying e = some (.int .i64)) (hc : P.cellsOf e = 1) (hb : P.bytesOf e = 8) : ∃ (n : Int) (f : Int → Int), IAt w v n f := by
  obtain ⟨n, f, h1, _, h2⟩ := h.nums ht he hc hb (by omega)
  exact ⟨n, f, h1, fun k => wf_i64 (h2 k)⟩
end
end Go.Proofs.Gw
namespace Go.Proofs.Gw
open Go Go.RowKit
section
variable {H : Type} {enc : TypeId × Value → H} {P : Program} {w : World} {held : Bool}
theorem Rd.roomy {t e : TypeId} {v : Value} (h : Rd enc P w true t [v]) (ht : P.underlying t = some (.slice e)) : Roomy v := by
  obtain ⟨fuel, y, h, hs⟩ := h
  rcases Go.Deep.open_slice ht h with ⟨hcs, _⟩ | ⟨a, len, cap, m, n, D, Pl, hcs, _, hl, hm, hmm, hy, hx⟩
  · simp only [List.cons.injEq, and_true] at hcs
    subst hcs
    intro a len cap e
    cases e
    omega
  · simp only [List.cons.injEq, and_true] at hcs
    subst hcs
    simp only [if_true] at hmm
    subst hmm
    intro a len cap e
    cases e
    omega
theorem Rd.mat {t e i : TypeId} {v : Value} (h : Rd enc P w true t [v]) (ht : P.underlying t = some (.slice e)) (he : P.underlying e = some (.slice i)) (hi : P.underlying i = some (.int .i64)) (ce : P.cellsOf e = 1) (be : P.bytesOf e = 24) (ci : P.cellsOf i = 1) (bi : P.bytesOf i = 8) :
    ∃ (n : Int) (vv : Int → Value) (ln : Int → Int) (f : Int → Int → Int), MAt w v n vv ln f := by
  obtain ⟨n, c, h1, h2, h3⟩ := h.slice ht ce be (by omega) (by omega)
  have e0 : ∀ k : Int, ∃ x : Int × (Int → Int), 0 ≤ k → k < n → Row w (c k) 1 x.1 (Go.Proofs.Gw.ints x.2) ∧ Roomy (c k) := fun k => by
    by_cases hk : 0 ≤ k ∧ k < n
    · have h4 := h3 k hk.1 hk.2
      simp only [List.range_one, List.map_cons, List.map_nil] at h4
      rw [show k * ((1 : Nat) : Int) + ((0 : Nat) : Int) = k by omega] at h4
      obtain ⟨m, f, hf⟩ := h4.ints he hi ci bi
      exact ⟨(m, f), fun _ _ => ⟨hf.1, h4.roomy he⟩⟩
    · exact ⟨(0, fun _ => 0), fun a0 a1 => absurd ⟨a0, a1⟩ hk⟩
  obtain ⟨f, hf⟩ := Classical.axiomOfChoice e0
  exact ⟨n, c, fun k => (f k).1, fun k => (f k).2, h1, fun k k0 k1 => (hf k k0 k1).1, fun k k0 k1 => (hf k k0 k1).2⟩
end
end Go.Proofs.Gw
