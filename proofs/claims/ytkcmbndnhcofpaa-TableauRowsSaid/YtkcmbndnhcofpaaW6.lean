/- The walks of Valid and Start, of tableau. -/
import Derived.Test.YtkcmbndnhcofpaaGv
import Derived.Test.YtkcmbndnhcofpaaW5
namespace Go.Proofs.Ytkcmbndnhcofpaa
open Go Go.RowKit Go.Proofs.Gw
set_option linter.unusedVariables false

theorem cl_14 : calledT Try.prog 14 = true := by kernel_rfl
theorem fd_34_0 : fieldT Try.prog 34 0 = some 0 := by kernel_rfl
theorem fd_34_1 : fieldT Try.prog 34 1 = some 1 := by kernel_rfl
theorem fd_34_2 : fieldT Try.prog 34 2 = some 2 := by kernel_rfl
theorem st_34 : structT Try.prog 34 = some 3 := by kernel_rfl
set_option maxRecDepth 20000 in
theorem c_valid {vc vA vb : Value} {vq : Int → Value} {p : Lp} (w0 : World) (hL : LAt w0 vc vA vb vq p) :
    Calls Try.prog 14 [.agg #[vc, vA, vb]].toArray w0 fun e w => ∃ v, e = .returned v ∧ v = B (LOk p) ∧ Sat w0 w [] := by
  have hn := hL.c.slh.n0; have hn1 := hL.c.slh.n1; have hm := hL.A.row.slh.n0; have hm1 := hL.A.row.slh.n1; have hk := hL.b.slh.n0; have hk1 := hL.b.slh.n1
  refine zenG Try.func14 Try.ntmps14 fun w hS => ?_
  refine zsr ?_
  refine zla (xbx (cs := [_, _, _]) hS) ?_; rintro _ w ⟨g1, rfl, hS⟩
  replace hS := hS.n1
  refine zlv xas ?_
  refine zlz ?_
  refine zlv (xfb 0 fd_34_0) ?_
  refine zlv (xlb 0 pl_22 hS) ?_
  refine zlv (xln sl_22 hL.c.slh) ?_
  refine zla (xal (cs := [_]) el_3 hS) ?_; rintro _ w ⟨g2, rfl, hS⟩
  replace hS := hS.n2
  refine zle (xsb 1 pl_3 hS) ?_; clear hS; rintro w hS
  replace hS := hS.n2
  refine zlt <| zsq <| zsr ?_
  refine zlv (xlb 1 pl_3 hS) ?_
  refine zs2 ?_
  refine zlb 10 ?_ ?_ <;> intro hc
  ·
   iterate 2 refine zlo ?_
   refine zs2 ?_
   iterate 4 refine zlo ?_
   refine zs2 ?_
   iterate 7 refine zlo ?_
   refine zs2 ?_
   iterate 4 refine zlo ?_
   refine zs2 ?_
   iterate 4 refine zlo ?_
   refine zlv xpt ?_
   refine zlt <| zct <| zsr ?_
   refine zlv xas ?_
   refine zlt <| zrt <| ztr <| zf1 ⟨_, rfl, ?_⟩
   exact ⟨false_B (by intro hl; have b1 := hl.n1; have b2 := hl.n2; have b3 := hl.m2; have b4 := hl.k; first | omega | exact absurd (fun j j0 j1 => by have := hl.c j j0 j1; omega) ‹¬ Btw p.c p.n 1000000› | exact absurd (fun j j0 j1 => hl.b j j0 (by omega)) ‹¬ Btw p.b p.k 1000000› | (obtain ⟨j, j0, j1, j2⟩ := hex1; have := hl.c j j0 j1; omega)), hS.nl⟩
  refine zlv (xlb 1 pl_3 hS) ?_
  refine zs3 ?_
  refine zlb 14 ?_ ?_ <;> intro hc
  ·
   iterate 4 refine zlo ?_
   refine zs2 ?_
   iterate 7 refine zlo ?_
   refine zs2 ?_
   iterate 4 refine zlo ?_
   refine zs2 ?_
   iterate 4 refine zlo ?_
   refine zlv xpt ?_
   refine zlt <| zct <| zsr ?_
   refine zlv xas ?_
   refine zlt <| zrt <| ztr <| zf1 ⟨_, rfl, ?_⟩
   exact ⟨false_B (by intro hl; have b1 := hl.n1; have b2 := hl.n2; have b3 := hl.m2; have b4 := hl.k; first | omega | exact absurd (fun j j0 j1 => by have := hl.c j j0 j1; omega) ‹¬ Btw p.c p.n 1000000› | exact absurd (fun j j0 j1 => hl.b j j0 (by omega)) ‹¬ Btw p.b p.k 1000000› | (obtain ⟨j, j0, j1, j2⟩ := hex1; have := hl.c j j0 j1; omega)), hS.nl⟩
  refine zlv (xfb 1 fd_34_1) ?_
  refine zlv (xlb 0 pl_23 hS) ?_
  refine zlv (xln sl_23 hL.A.row.slh) ?_
  refine zs3 ?_
  refine zlb 20 ?_ ?_ <;> intro hc
  ·
   iterate 7 refine zlo ?_
   refine zs2 ?_
   iterate 4 refine zlo ?_
   refine zs2 ?_
   iterate 4 refine zlo ?_
   refine zlv xpt ?_
   refine zlt <| zct <| zsr ?_
   refine zlv xas ?_
   refine zlt <| zrt <| ztr <| zf1 ⟨_, rfl, ?_⟩
   exact ⟨false_B (by intro hl; have b1 := hl.n1; have b2 := hl.n2; have b3 := hl.m2; have b4 := hl.k; first | omega | exact absurd (fun j j0 j1 => by have := hl.c j j0 j1; omega) ‹¬ Btw p.c p.n 1000000› | exact absurd (fun j j0 j1 => hl.b j j0 (by omega)) ‹¬ Btw p.b p.k 1000000› | (obtain ⟨j, j0, j1, j2⟩ := hex1; have := hl.c j j0 j1; omega)), hS.nl⟩
  refine zlv (xfb 2 fd_34_2) ?_
  refine zlv (xlb 0 pl_22 hS) ?_
  refine zlv (xln sl_22 hL.b.slh) ?_
  refine zlv (xfb 1 fd_34_1) ?_
  refine zlv (xlb 0 pl_23 hS) ?_
  refine zlv (xln sl_23 hL.A.row.slh) ?_
  refine zs3 ?_
  refine zlb 29 ?_ ?_ <;> intro hc
  ·
   iterate 4 refine zlo ?_
   refine zs2 ?_
   iterate 4 refine zlo ?_
   refine zlv xpt ?_
   refine zlt <| zct <| zsr ?_
   refine zlv xas ?_
   refine zlt <| zrt <| ztr <| zf1 ⟨_, rfl, ?_⟩
   exact ⟨false_B (by intro hl; have b1 := hl.n1; have b2 := hl.n2; have b3 := hl.m2; have b4 := hl.k; first | omega | exact absurd (fun j j0 j1 => by have := hl.c j j0 j1; omega) ‹¬ Btw p.c p.n 1000000› | exact absurd (fun j j0 j1 => hl.b j j0 (by omega)) ‹¬ Btw p.b p.k 1000000› | (obtain ⟨j, j0, j1, j2⟩ := hex1; have := hl.c j j0 j1; omega)), hS.nl⟩
  refine zlv (xfb 0 fd_34_0) ?_
  refine zlv (xlb 0 pl_22 hS) ?_
  refine zlc (xc0 cl_19) (c_between (n := p.n) (m := 1000000) (f := p.c) w (hL.c.below hS.below) (by omega)) ?_; rintro _ w ⟨rfl, hS'⟩
  replace hS := hS.cmp hS'; clear hS'
  refine zs3 ?_
  refine zlb 35 ?_ ?_ <;> intro hc
  ·
   iterate 4 refine zlo ?_
   refine zlv xpt ?_
   refine zlt <| zct <| zsr ?_
   refine zlv xas ?_
   refine zlt <| zrt <| ztr <| zf1 ⟨_, rfl, ?_⟩
   exact ⟨false_B (by intro hl; have b1 := hl.n1; have b2 := hl.n2; have b3 := hl.m2; have b4 := hl.k; first | omega | exact absurd (fun j j0 j1 => by have := hl.c j j0 j1; omega) ‹¬ Btw p.c p.n 1000000› | exact absurd (fun j j0 j1 => hl.b j j0 (by omega)) ‹¬ Btw p.b p.k 1000000› | (obtain ⟨j, j0, j1, j2⟩ := hex1; have := hl.c j j0 j1; omega)), hS.nl⟩
  refine zlv (xfb 2 fd_34_2) ?_
  refine zlv (xlb 0 pl_22 hS) ?_
  refine zlc (xc0 cl_19) (c_between (n := p.k) (m := 1000000) (f := p.b) w (hL.b.below hS.below) (by omega)) ?_; rintro _ w ⟨rfl, hS'⟩
  replace hS := hS.cmp hS'; clear hS'
  refine zs2 ?_
  refine zlt ?_
  refine zcif ?_ ?_ <;> intro hc
  ·
   refine zsr ?_
   refine zlv xas ?_
   refine zlt <| zrt <| ztr <| zf1 ⟨_, rfl, ?_⟩
   exact ⟨false_B (by intro hl; have b1 := hl.n1; have b2 := hl.n2; have b3 := hl.m2; have b4 := hl.k; first | omega | exact absurd (fun j j0 j1 => by have := hl.c j j0 j1; omega) ‹¬ Btw p.c p.n 1000000› | exact absurd (fun j j0 j1 => hl.b j j0 (by omega)) ‹¬ Btw p.b p.k 1000000› | (obtain ⟨j, j0, j1, j2⟩ := hex1; have := hl.c j j0 j1; omega)), hS.nl⟩
  refine zsk <| ztn <| zsr ?_
  refine zlv xmf ?_
  refine zlv xas ?_
  refine zlz ?_
  refine zlv (xfb 0 fd_34_0) ?_
  refine zlv (xlb 0 pl_22 hS) ?_
  refine zlc (xc0 cl_24) (c_min (n := p.n) (f := p.c) w (hL.c.below hS.below) (by omega)) ?_; rintro _ w ⟨x1, rfl, hex1, hax1, hS'⟩
  replace hS := hS.cmp hS'; clear hS'
  refine zs2 ?_
  refine zlb 46 ?_ ?_ <;> intro hc
  ·
   refine zlv (xfb 1 fd_34_1) ?_
   refine zlv (xlb 0 pl_23 hS) ?_
   refine zlv xmv ?_
   refine zlc (xc0 cl_25) (c_comv (n := p.m) (q := p.n) (vv := vq) (ln := p.ln) (f := p.A) w (hL.A.below hS.below) (hS.cellN 1 rfl rfl) (by omega)) ?_; rintro _ w ⟨rfl, hS'⟩
   replace hS := hS.cmp hS'; clear hS'
   refine zs3 ?_
   refine zlt <| zrt <| zf1 ⟨_, rfl, ?_⟩
   refine ⟨B_congr ⟨fun hx => ?_, fun hl hx => ?_⟩, hS.nl⟩
   · have hc1 := (Classical.not_not.1 ‹¬ ¬ (Btw p.c p.n 1000000)›); have hc2 := (Classical.not_not.1 ‹¬ ¬ (Btw p.b p.k 1000000)›)
     refine ⟨by omega, by omega, by omega, by omega, fun j j0 j1 => ⟨by have := hax1 j j0 j1; omega, (hc1 j j0 j1).2⟩, fun i i0 i1 => hc2 i i0 (by omega), fun i i0 i1 => ?_⟩
     have hy := Classical.not_not.1 fun hh => hx ⟨i, i0, i1, hh⟩
     exact ⟨hy.1, fun j j0 j1 => hy.2 j j0 (by have := hy.1; omega)⟩
   · obtain ⟨k, k0, k1, hh⟩ := hx
     have hr := hl.rows k k0 k1
     exact hh ⟨hr.1, fun j j0 j1 => hr.2 j j0 (by have := hr.1; omega)⟩
  iterate 5 refine zlo ?_
  refine zs2 ?_
  refine zlt <| zrt <| zf1 ⟨_, rfl, ?_⟩
  exact ⟨false_B (by intro hl; have b1 := hl.n1; have b2 := hl.n2; have b3 := hl.m2; have b4 := hl.k; first | omega | exact absurd (fun j j0 j1 => by have := hl.c j j0 j1; omega) ‹¬ Btw p.c p.n 1000000› | exact absurd (fun j j0 j1 => hl.b j j0 (by omega)) ‹¬ Btw p.b p.k 1000000› | (obtain ⟨j, j0, j1, j2⟩ := hex1; have := hl.c j j0 j1; omega)), hS.nl⟩

set_option maxRecDepth 20000 in
theorem c_start {vc vA vb : Value} {vq : Int → Value} {p : Lp} (w0 : World) (hL : LAt w0 vc vA vb vq p) :
    Calls Try.prog 8 [.agg #[vc, vA, vb]].toArray w0 fun e w => ∃ v, e = .returned v ∧ ∃ vB vF vC vv t' e, v = .tuple #[.agg #[.int .i64 t'.vars, .int .i64 t'.den, vB, vF, vC], .int .i64 e] ∧ StartR p t' e ∧ Slh vB t'.nb ∧ Slh vF t'.nf ∧ Slh vC t'.nc ∧ Sat w0 w [.own vB 1 3 t'.nb (ints t'.B), .own vF 1 3 t'.nf (ints t'.F), .own vC 1 22 t'.nc vv, .sem (Frame.rows 3 t'.nc vv t'.ln t'.C)] := by
  have hn := hL.c.slh.n0; have hn1 := hL.c.slh.n1; have hm := hL.A.row.slh.n0; have hm1 := hL.A.row.slh.n1; have hk := hL.b.slh.n0; have hk1 := hL.b.slh.n1
  refine zenG Try.func8 Try.ntmps8 fun w hS => ?_
  refine zsr ?_
  refine zla (xbx (cs := [_, _, _]) hS) ?_; rintro _ w ⟨g1, rfl, hS⟩
  replace hS := hS.n1
  refine zla (xal (cs := [_, _, _, _, _]) el_30 hS) ?_; rintro _ w ⟨g2, rfl, hS⟩
  replace hS := hS.n2
  refine zlv xas ?_
  refine zlt <| zsq <| zsr ?_
  refine zlv (xls 0 st_34 hS) ?_
  refine zlc (xc0 cl_14) (c_valid (p := p) w (hL.below hS.below)) ?_; rintro _ w ⟨rfl, hS'⟩
  replace hS := hS.cmp hS'; clear hS'
  refine zlv xnot ?_
  refine zlt ?_
  refine zcif ?_ ?_ <;> intro hc
  ·
   refine zsr ?_
   refine zlv (xany (v := .agg #[.int .i64 0, .int .i64 0, .slice none 0 0, .slice none 0 0, .slice none 0 0])) ?_
   refine zle (xsw 1 st_30 hS) ?_; clear hS; rintro w hS
   replace hS := hS.n2
   refine zlv xas ?_
   refine zlt <| zrt <| ztr <| zfct 1 st_30 hS ⟨_, rfl, ?_⟩
   exact ⟨_, _, _, fun _ => undef, Tb.zero, 1, rfl, .inl ⟨‹_›, rfl, rfl⟩, slh_nil, slh_nil, slh_nil, ((((hS.sub (.cons _ (.cons _ .slnil))).addnil 1 3 (ints Tb.zero.B)).addnil 1 3 (ints Tb.zero.F)).addnil 1 22 (fun _ => undef)).addrows 3 (fun _ => undef) Tb.zero.ln Tb.zero.C⟩
  refine zsk <| ztn <| zsq <| ?_
  refine zgcut (fun M w => ∃ (g3 : Nat) (v1 : Value) (v2 : Value) (v3 : Value), (Slh v2 (p.n + 1)) ∧ (Slh v3 1) ∧ M = [(0, .agg #[vc, vA, vb]), (1, .pointer (some ⟨g1, 0, none⟩)), (2, .pointer (some ⟨g2, 0, none⟩)), (3, .int .i64 0), (8, .agg #[vc, vA, vb]), (9, B (LOk p)), (10, B (¬ (LOk p))), (12, .pointer (some ⟨g1, 0, none⟩)), (13, vc), (14, .int .i64 p.n), (16, .pointer (some ⟨g1, 0, none⟩)), (17, vc), (15, v1), (18, v2), (19, v3), (20, .agg #[.int .i64 p.n, .int .i64 1, .slice none 0 0, .slice none 0 0, v3]), (4, .pointer (some ⟨g3, 0, none⟩))] ∧ Sat w0 w [.blk g1 [vc, vA, vb], .blk g2 [.int .i64 0, .int .i64 0, .slice none 0 0, .slice none 0 0, .slice none 0 0], .own v2 1 3 (p.n + 1) (ints (cat 1 (fun _ => 0) p.c)), .own v3 1 22 1 (fun _ => v2), .blk g3 [.int .i64 p.n, .int .i64 1, .slice none 0 0, .slice none 0 0, v3]]) ?_ ?_
  ·
   refine zdst [0, 1] [0, 1] 10 mx_ hS ?_; clear hS; intro w hS
   refine zdv 0 (fun _ => (xfb 0 fd_34_0)) ?_
   have hl := (Classical.not_not.1 ‹¬ ¬ (LOk p)›)
   have b1 := hl.n1
   have b2 := hl.n2
   have b3 := hl.m2
   have b4 := hl.k
   refine zdla 1 (fun w hS => (xlb 0 pl_22 hS)) ?_
   refine zdv 2 (fun _ => (xln sl_22 hL.c.slh)) ?_
   refine zdv 4 (fun _ => (xfb 0 fd_34_0)) ?_
   refine zdla 5 (fun w hS => (xlb 0 pl_22 hS)) ?_
   refine zdfk (r := [3, 9]) ((zdn1 ?_ (zdn1 ?_ zdn0)))
   ·
    refine zka (xli (n := 1) (len := 1) (pv := [(0, .int .i64 0)]) (cs := [.int .i64 0]) (c := ints (fun _ => 0)) sl_22 el_3 hS) ?_; rintro v1 w ⟨hS, hv1⟩
    replace hS := hS.n3
    refine ⟨⟨fun _ => hS.pk [0, 1], hS.pk [0, 1]⟩, ?_⟩
    refine zdfk (r := [6, 9]) ((zdn1 ?_ (zdn1 ?_ zdn0)))
    ·
     refine zka (xap 2 (r := p.n + 1) (f := ints (cat 1 (fun _ => 0) p.c)) sl_22 el_3 hS (hL.c.below hS.below) (by exact cat_ints1 _ _ _)) ?_; rintro v2 w ⟨hS, hv2⟩
     replace hS := hS.n3
     refine ⟨⟨fun _ => hS.pk [0, 1], hS.pk [0, 1]⟩, ?_⟩
     refine zdfk (r := [7, 9]) ((zdn1 ?_ (zdn1 ?_ zdn0)))
     ·
      refine zka (xli (n := 1) (len := 1) (pv := [(0, v2)]) (cs := [v2]) (c := (fun _ => v2)) sl_23 el_22 hS (hf := by obtain ⟨_, _, _, _, rfl, _⟩ := hv2; kernel_rfl)) ?_; rintro v3 w ⟨hS, hv3⟩
      replace hS := hS.n4
      refine ⟨⟨fun _ => hS.pk [0, 1], hS.pk [0, 1]⟩, ?_⟩
      refine zdv 8 (fun _ => (xany (v := .agg #[.int .i64 p.n, .int .i64 1, .slice none 0 0, .slice none 0 0, v3]) (hr := by obtain ⟨_, _, _, _, rfl, _⟩ := hv3; kernel_rfl))) ?_
      refine zda 9 (xal (cs := [_, _, _, _, _]) el_30 hS) ?_; rintro _ w ⟨g3, rfl, hS⟩
      replace hS := hS.n5
      refine ⟨⟨fun _ => hS.pk [0, 1], hS.pk [0, 1]⟩, ?_⟩
      refine zde 10 (xsw 4 st_30 hS (hd := (ones_cons rfl (ones_cons rfl (ones_cons rfl (ones_cons rfl (ones_cons hv3.one ones_nil))))))) ?_; clear hS; rintro w hS
      replace hS := hS.n5
      refine ⟨⟨fun h => absurd h (by decide), hS.pk [0, 1]⟩, ?_⟩
      refine zdd <| zgj ⟨g3, v1, v2, v3, hv2, hv3, rfl, hS⟩
     refine zka (xal (cs := [_, _, _, _, _]) el_30 hS) ?_; rintro _ w ⟨g3, rfl, hS⟩
     replace hS := hS.n4
     refine ⟨⟨fun _ => hS.pk [0, 1], hS.pk [0, 1]⟩, ?_⟩
     refine zda 7 (xli (n := 1) (len := 1) (pv := [(0, v2)]) (cs := [v2]) (c := (fun _ => v2)) sl_23 el_22 hS (hf := by obtain ⟨_, _, _, _, rfl, _⟩ := hv2; kernel_rfl)) ?_; rintro v3 w ⟨hS, hv3⟩
     replace hS := hS.n5
     refine ⟨⟨fun _ => hS.pk [0, 1], hS.pk [0, 1]⟩, ?_⟩
     refine zdv 8 (fun _ => (xany (v := .agg #[.int .i64 p.n, .int .i64 1, .slice none 0 0, .slice none 0 0, v3]) (hr := by obtain ⟨_, _, _, _, rfl, _⟩ := hv3; kernel_rfl))) ?_
     refine zde 10 (xsw 3 st_30 hS (hd := (ones_cons rfl (ones_cons rfl (ones_cons rfl (ones_cons rfl (ones_cons hv3.one ones_nil))))))) ?_; clear hS; rintro w hS
     replace hS := hS.n5
     refine ⟨⟨fun h => absurd h (by decide), hS.pk [0, 1]⟩, ?_⟩
     refine zdd <| zgj ⟨g3, v1, v2, v3, hv2, hv3, rfl, hS.pk [0, 1, 2, 4, 3]⟩
    refine zka (xal (cs := [_, _, _, _, _]) el_30 hS) ?_; rintro _ w ⟨g3, rfl, hS⟩
    replace hS := hS.n4
    refine ⟨⟨fun _ => hS.pk [0, 1], hS.pk [0, 1]⟩, ?_⟩
    refine zda 6 (xap 2 (r := p.n + 1) (f := ints (cat 1 (fun _ => 0) p.c)) sl_22 el_3 hS (hL.c.below hS.below) (by exact cat_ints1 _ _ _)) ?_; rintro v2 w ⟨hS, hv2⟩
    replace hS := hS.n4
    refine ⟨⟨fun _ => hS.pk [0, 1], hS.pk [0, 1]⟩, ?_⟩
    refine zda 7 (xli (n := 1) (len := 1) (pv := [(0, v2)]) (cs := [v2]) (c := (fun _ => v2)) sl_23 el_22 hS (hf := by obtain ⟨_, _, _, _, rfl, _⟩ := hv2; kernel_rfl)) ?_; rintro v3 w ⟨hS, hv3⟩
    replace hS := hS.n5
    refine ⟨⟨fun _ => hS.pk [0, 1], hS.pk [0, 1]⟩, ?_⟩
    refine zdv 8 (fun _ => (xany (v := .agg #[.int .i64 p.n, .int .i64 1, .slice none 0 0, .slice none 0 0, v3]) (hr := by obtain ⟨_, _, _, _, rfl, _⟩ := hv3; kernel_rfl))) ?_
    refine zde 10 (xsw 3 st_30 hS (hd := (ones_cons rfl (ones_cons rfl (ones_cons rfl (ones_cons rfl (ones_cons hv3.one ones_nil))))))) ?_; clear hS; rintro w hS
    replace hS := hS.n5
    refine ⟨⟨fun h => absurd h (by decide), hS.pk [0, 1]⟩, ?_⟩
    refine zdd <| zgj ⟨g3, v1, v2, v3, hv2, hv3, rfl, hS.pk [0, 1, 2, 4, 3]⟩
   refine zka (xal (cs := [_, _, _, _, _]) el_30 hS) ?_; rintro _ w ⟨g3, rfl, hS⟩
   replace hS := hS.n3
   refine ⟨⟨fun _ => hS.pk [0, 1], hS.pk [0, 1]⟩, ?_⟩
   refine zda 3 (xli (n := 1) (len := 1) (pv := [(0, .int .i64 0)]) (cs := [.int .i64 0]) (c := ints (fun _ => 0)) sl_22 el_3 hS) ?_; rintro v1 w ⟨hS, hv1⟩
   replace hS := hS.n4
   refine ⟨⟨fun _ => hS.pk [0, 1], hS.pk [0, 1]⟩, ?_⟩
   refine zda 6 (xap 3 (r := p.n + 1) (f := ints (cat 1 (fun _ => 0) p.c)) sl_22 el_3 hS (hL.c.below hS.below) (by exact cat_ints1 _ _ _)) ?_; rintro v2 w ⟨hS, hv2⟩
   replace hS := hS.n4
   refine ⟨⟨fun _ => hS.pk [0, 1], hS.pk [0, 1]⟩, ?_⟩
   refine zda 7 (xli (n := 1) (len := 1) (pv := [(0, v2)]) (cs := [v2]) (c := (fun _ => v2)) sl_23 el_22 hS (hf := by obtain ⟨_, _, _, _, rfl, _⟩ := hv2; kernel_rfl)) ?_; rintro v3 w ⟨hS, hv3⟩
   replace hS := hS.n5
   refine ⟨⟨fun _ => hS.pk [0, 1], hS.pk [0, 1]⟩, ?_⟩
   refine zdv 8 (fun _ => (xany (v := .agg #[.int .i64 p.n, .int .i64 1, .slice none 0 0, .slice none 0 0, v3]) (hr := by obtain ⟨_, _, _, _, rfl, _⟩ := hv3; kernel_rfl))) ?_
   refine zde 10 (xsw 2 st_30 hS (hd := (ones_cons rfl (ones_cons rfl (ones_cons rfl (ones_cons rfl (ones_cons hv3.one ones_nil))))))) ?_; clear hS; rintro w hS
   replace hS := hS.n5
   refine ⟨⟨fun h => absurd h (by decide), hS.pk [0, 1]⟩, ?_⟩
   refine zdd <| zgj ⟨g3, v1, v2, v3, hv2, hv3, rfl, hS.pk [0, 1, 3, 4, 2]⟩
  clear hS w; rintro M w ⟨g3, v1, v2, v3, hv2, hv3, rfl, hS⟩
  refine ztn <| zsq <| zsr ?_
  refine zlv (xfb 0 fd_34_0) ?_
  refine zlv (xlb 0 pl_22 hS) ?_
  refine zlv (xln sl_22 hL.c.slh) ?_
  have hl := (Classical.not_not.1 ‹¬ ¬ (LOk p)›)
  have b1 := hl.n1
  have b2 := hl.n2
  have b3 := hl.m2
  have b4 := hl.k
  refine zlv xmv ?_
  refine zlt <| zbk ?_
  replace hS := hS.addrows 3 (fun _ => Value.slice none 0 0) (fun _ => 0) (fun _ _ => 0)
  replace hS := hS.n6
  replace hS := Sat.merge2 (l1 := [.blk g1 [vc, vA, vb], .blk g2 [.int .i64 0, .int .i64 0, .slice none 0 0, .slice none 0 0, .slice none 0 0]]) (l2 := [.own v3 1 22 1 (fun _ => v2), .blk g3 [.int .i64 p.n, .int .i64 1, .slice none 0 0, .slice none 0 0, v3]]) (l3 := []) hS (by omega)
  replace hS := hS.rerows (vv' := (fun _ => v2)) (ln' := (startT p).ln) (f' := (startT p).C) 4 rfl (fun k k0 k1 => by
    obtain rfl : k = 0 := by omega
    refine ⟨gsn_self _ _ _, ?_, fun j j0 j1 => ?_⟩
    · rw [gsn_self]; show _ = p.n + 1; omega
    · rw [gsn_self]; unfold startT cat; dsimp only; (repeat' split) <;> first | rfl | omega)
  replace hS := hS.n5
  have hrs0 := fun k (k0 : 0 ≤ k) (k1 : k < 1) => hS.slhIn 4 rfl k0 k1
  replace hS := hS.addnil 1 3 (ints (fun _ => 0))
  replace hS := hS.n6
  replace hS := hS.addnil 1 3 (ints (fun _ => 0))
  replace hS := hS.n7
  refine zlp (fun mm M w => ∃ (nF : Int) (j : Int) (wF : Value) (fF : Int → Int), mm = ((p.n - j).toNat) ∧ (0 ≤ j) ∧ (j ≤ p.n) ∧ (nF = j) ∧ (∀ k, 0 ≤ k → k < j → fF k = k) ∧ (Slh wF nF) ∧ M = [(1, .pointer (some ⟨g1, 0, none⟩)), (2, .pointer (some ⟨g2, 0, none⟩)), (3, .int .i64 0), (4, .pointer (some ⟨g3, 0, none⟩)), (23, .int .i64 p.n), (24, .int .i64 j)] ∧ Sat w0 w [.blk g1 [vc, vA, vb], .blk g2 [.int .i64 0, .int .i64 0, .slice none 0 0, .slice none 0 0, .slice none 0 0], .own v3 1 22 1 (fun _ => v2), .blk g3 [.int .i64 p.n, .int .i64 1, (.slice none 0 0), wF, v3], .sem (Frame.rows 3 1 (fun _ => v2) ((startT p).ln) ((startT p).C)), .own wF 1 3 nF (ints fF), .own (.slice none 0 0) 1 3 0 (ints (fun _ => 0))]) ⟨0, 0, (.slice none 0 0), (fun _ => 0), rfl, (by omega), (by omega), (by omega), ?_, ?_, rfl, hS⟩ ?_
  ·
   intro k k0 k1; omega
  ·
   exact slh_nil
  clear hS w
  rintro mm M w ⟨nF, j, wF, fF, rfl, j0, j1, hnF, hfF, hwF, rfl, hS⟩
  refine zsr ?_
  refine zlv xlss ?_
  refine zlt <| zsq ?_
  refine zcif ?_ ?_ <;> intro hc
  ·
   refine zsk <| ztn <| zsq <| zbk <| zsr ?_
   refine zs2 ?_
   refine zlt <| zrg ?_
   refine zlv (xfb 3 fd_30_3) ?_
   refine zlv (xlb 3 pl_22 hS) ?_
   refine zlv xmv ?_
   refine zla (xli (n := 1) (len := 1) (pv := [(0, .int .i64 j)]) (cs := [.int .i64 j]) (c := ints (fun _ => j)) sl_22 el_3 hS) ?_; rintro v4 w ⟨hS, hv4⟩
   replace hS := hS.n8
   refine zla (xap 5 (r := nF + 1) sl_22 el_3 hS (hS.rowN 7 rfl) (cat_snoc _ _ _)) ?_; rintro v5 w ⟨hS, hv5⟩
   replace hS := hS.n8
   refine zlv (xfb 3 fd_30_3) ?_
   refine zle (xsb 3 pl_22 hS (hv := hv5.one)) ?_; clear hS; rintro w hS
   replace hS := hS.n8
   refine zln <| zbn <| ztn <| zrg ?_
   refine zlv (xadd (r := j + 1)) ?_
   refine zlv xmv ?_
   refine zln <| zlq ⟨nF + 1, j + 1, v5, (snoc fF nF j), rfl, (by omega), (by omega), (by omega), ?_, ?_, rfl, hS.pk [0, 1, 2, 3, 4, 5, 6]⟩
   ·
    intro k k0 k1; by_cases e : k < nF
    · rw [snoc_lt e]; exact hfF k k0 (by omega)
    · rw [snoc_at e]; omega
   ·
    exact hv5
  refine zxt <| ztx <| ztx <| zbh <| ztn <| zsq <| zsr ?_
  refine zlv (xfb 1 fd_34_1) ?_
  refine zlv (xlb 0 pl_23 hS) ?_
  refine zlv (xln sl_23 hL.A.row.slh) ?_
  refine zlv xmv ?_
  refine zlt <| zbk <| zlp (fun mm M w => ∃ (mB : Int) (nC : Int) (wv : Int → Value) (i : Int) (wB : Value) (fB : Int → Int) (wC : Value), mm = ((p.m - i).toNat) ∧ (0 ≤ i) ∧ (i ≤ p.m) ∧ (mB = i) ∧ (nC = i + 1) ∧ (∀ k, 0 ≤ k → k < i → fB k = p.n + k) ∧ (Slh wB mB) ∧ (Slh wC nC) ∧ M = [(1, .pointer (some ⟨g1, 0, none⟩)), (2, .pointer (some ⟨g2, 0, none⟩)), (3, .int .i64 0), (4, .pointer (some ⟨g3, 0, none⟩)), (35, vA), (36, .int .i64 p.m), (37, .int .i64 i)] ∧ Sat w0 w [.blk g1 [vc, vA, vb], .blk g2 [.int .i64 0, .int .i64 0, .slice none 0 0, .slice none 0 0, .slice none 0 0], .own wC 1 22 nC wv, .blk g3 [.int .i64 p.n, .int .i64 1, wB, wF, wC], .sem (Frame.rows 3 nC wv ((startT p).ln) ((startT p).C)), .own wF 1 3 nF (ints fF), .own wB 1 3 mB (ints fB)]) ⟨0, 1, (fun _ => v2), 0, (.slice none 0 0), (fun _ => 0), v3, rfl, (by omega), (by omega), (by omega), (by omega), ?_, ?_, ?_, rfl, hS⟩ ?_
  ·
   intro k k0 k1; omega
  ·
   exact slh_nil
  ·
   exact hv3
  clear hS w
  rintro mm M w ⟨mB, nC, wv, i, wB, fB, wC, rfl, i0, i1, hmB, hnC, hfB, hwB, hwC, rfl, hS⟩
  have hrs1 := fun k (k0 : 0 ≤ k) (k1 : k < nC) => hS.slhIn 4 rfl k0 k1
  refine zsr ?_
  refine zlv xlss ?_
  refine zlt <| zsq ?_
  refine zcif ?_ ?_ <;> intro hc
  ·
   refine zsk <| ztn <| zsq <| zbk <| zsr ?_
   refine zlv xmv ?_
   refine zlv (xix (kk := i) sl_23 hL.A.row.slh) ?_
   refine zlv (xlr (u := (vq i)) pl_22 (hL.A.row.below hS.below)) ?_
   have hri := hl.rows i i0 (by omega)
   refine zs2 ?_
   refine zlz ?_
   refine zlv (xfb 2 fd_30_2) ?_
   refine zlv (xlb 3 pl_22 hS) ?_
   refine zlv (xfb 0 fd_30_0) ?_
   refine zlv (xlb 3 pl_3 hS) ?_
   refine zlv xmv ?_
   refine zlv (xadd (r := p.n + i)) ?_
   refine zla (xli (n := 1) (len := 1) (pv := [(0, .int .i64 (p.n + i))]) (cs := [.int .i64 (p.n + i)]) (c := ints (fun _ => p.n + i)) sl_22 el_3 hS) ?_; rintro v6 w ⟨hS, hv6⟩
   replace hS := hS.n8
   refine zla (xap 6 (r := mB + 1) sl_22 el_3 hS (hS.rowN 7 rfl) (cat_snoc _ _ _)) ?_; rintro v7 w ⟨hS, hv7⟩
   replace hS := hS.n8
   refine zlv (xfb 2 fd_30_2) ?_
   refine zle (xsb 3 pl_22 hS (hv := hv7.one)) ?_; clear hS; rintro w hS
   replace hS := hS.n8
   refine zlt ?_
   refine zdst [0, 1, 3] [0, 1] 14 mx_ hS ?_; clear hS; intro w hS
   refine zdv 0 (fun _ => (xfb 4 fd_30_4)) ?_
   refine zdl 1 (fun w hS => (xlb 2 pl_23 hS)) ?_
   refine zdv 2 (fun _ => (xfb 2 fd_34_2)) ?_
   refine zdla 3 (fun w hS => (xlb 0 pl_22 hS)) ?_
   refine zdv 4 (fun _ => xmv) ?_
   refine zdv 5 (fun _ => (xix (kk := i) sl_22 hL.b.slh)) ?_
   refine zdla 6 (fun w hS => (xlr (u := .int .i64 (p.b i)) pl_3 (hL.b.below hS.below))) ?_
   have hbi := hl.b i i0 (by omega)
   refine zdv 7 (fun _ => (xneg (r := -((p.b i))))) ?_
   refine zdv 9 (fun _ => xmv) ?_
   refine zda 8 (xli (n := 1) (len := 1) (pv := [(0, .int .i64 (-((p.b i))))]) (cs := [.int .i64 (-((p.b i)))]) (c := ints (fun _ => -((p.b i)))) sl_22 el_3 hS) ?_; rintro v8 w ⟨hS, hv8⟩
   replace hS := hS.n9
   refine ⟨⟨fun _ => hS.pk [0, 1, 3], hS.pk [0, 1]⟩, ?_⟩
   refine zda 10 (xap 8 (r := (p.ln i) + 1) (f := ints (cat 1 (fun _ => -(p.b i)) (p.A i))) sl_22 el_3 hS ((hL.A.p i (by omega) (by omega)).below hS.below) (by exact cat_ints1 _ _ _)) ?_; rintro v9 w ⟨hS, hv9⟩
   replace hS := hS.n9
   refine ⟨⟨fun _ => hS.pk [0, 1, 3], hS.pk [0, 1]⟩, ?_⟩
   refine zda 11 (xli (n := 1) (len := 1) (pv := [(0, v9)]) (cs := [v9]) (c := (fun _ => v9)) sl_23 el_22 hS (hf := by obtain ⟨_, _, _, _, rfl, _⟩ := hv9; kernel_rfl)) ?_; rintro v10 w ⟨hS, hv10⟩
   replace hS := hS.n10
   refine ⟨⟨fun _ => hS.pk [0, 1, 3], hS.pk [0, 1]⟩, ?_⟩
   refine zda 12 (xap 2 (r := nC + 1) sl_23 el_22 hS (hS.rowN 9 rfl) (cat_gsn _ _ _) (h1 := fun _ _ _ => hv9.one)) ?_; rintro v11 w ⟨hS, hv11⟩
   replace hS := hS.n10
   replace hS := Sat.merge (l1 := [_, _, _, _]) (l2 := [_, _, _]) (l3 := [_]) hS (by omega)
   have hrs2 := fun k (k0 : 0 ≤ k) (k1 : k < nC + 1) => hS.slhIn 4 rfl k0 k1
   replace hS := hS.n9
   refine ⟨⟨fun _ => hS.pk [0, 1, 3], hS.pk [0, 1]⟩, ?_⟩
   refine zdv 13 (fun _ => (xfb 4 fd_30_4)) ?_
   refine zde 14 (xsb 3 pl_23 hS (hv := hv11.one)) ?_; clear hS; rintro w hS
   replace hS := hS.n9
   refine ⟨⟨fun h => absurd h (by decide), hS.pk [0, 1]⟩, ?_⟩
   refine zdd <| zbn <| ztn <| zrg ?_
   refine zlv (xadd (r := i + 1)) ?_
   replace hS := hS.rerows (vv' := gsn wv nC v9) (ln' := (startT p).ln) (f' := (startT p).C) 4 rfl (fun k k0 k1 => by
     by_cases e : k < i + 1
     · exact ⟨rfl, gsn_lt (by omega), fun j _ _ => by rw [gsn_lt (by omega)]⟩
     · have hki : k = i + 1 := by omega
       refine ⟨rfl, ?_, fun j j0 j1 => ?_⟩
       · rw [gsn_at (by omega)]; show _ = p.n + 1; omega
       · rw [gsn_at (by omega)]; unfold startT cat; dsimp only; (repeat' split) <;> first | rfl | omega | (congr 2; omega) | (congr 1; omega))
   replace hS := hS.n9
   have hrs2x := fun k (k0 : 0 ≤ k) (k1 : k < nC + 1) => hS.slhIn 4 rfl k0 k1
   refine zlv xmv ?_
   refine zln <| zlq ⟨mB + 1, nC + 1, gsn wv nC v9, i + 1, v7, (snoc fB mB (p.n + i)), v11, rfl, (by omega), (by omega), (by omega), (by omega), ?_, ?_, ?_, rfl, hS.pk [0, 1, 2, 3, 4, 5, 6]⟩
   ·
    intro k k0 k1; by_cases e : k < mB
    · rw [snoc_lt e]; exact hfB k k0 (by omega)
    · rw [snoc_at e]; omega
   ·
    exact hv7
   ·
    exact hv11
  refine zxt <| ztx <| ztx <| zbh <| ztn <| zsr ?_
  refine zlv (xls 3 st_30 hS) ?_
  refine zle (xsw 1 st_30 hS (hd := (ones_cons rfl (ones_cons rfl (ones_cons hwB.one (ones_cons hwF.one (ones_cons hwC.one ones_nil))))))) ?_; clear hS; rintro w hS
  replace hS := hS.n7
  refine zlv xas ?_
  refine zlt <| zrt <| zfct 1 st_30 hS ⟨_, rfl, ?_⟩
  obtain rfl : i = p.m := by omega
  obtain rfl : mB = p.m := by omega
  obtain rfl : nC = p.m + 1 := by omega
  obtain rfl : nF = p.n := by omega
  replace hS := hS.recont 6 rfl (d := ints (startT p).B) (fun k k0 k1 => by unfold ints; rw [hfB k k0 (by simp at k1; omega)]; rfl)
  replace hS := hS.recont 5 rfl (d := ints (startT p).F) (fun k k0 k1 => by unfold ints; rw [hfF k k0 (by simp at k1; omega)]; rfl)
  exact ⟨_, _, _, _, startT p, 0, rfl, .inr ⟨hl, rfl, rfl⟩, hwB, hwF, hwC, (hS.pk [2, 4, 5, 6]).perm (perm_step (l1 := [_, _, _]) (l2 := []) (perm_step (l1 := [_, _]) (l2 := []) (List.Perm.refl _)))⟩

end Go.Proofs.Ytkcmbndnhcofpaa
