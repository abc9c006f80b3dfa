/- The walk of Solve, of tableau. -/
import Derived.Test.YtopmifmfecfaaaaGv
import Derived.Test.YtopmifmfecfaaaaW5
import Derived.Test.YtopmifmfecfaaaaFu
namespace Go.Proofs.Ytopmifmfecfaaaa
open Go Go.RowKit Go.Proofs.Gw
set_option linter.unusedVariables false

theorem cl_71 : calledT Try.prog 71 = true := by kernel_rfl
theorem cl_72 : calledT Try.prog 72 = true := by kernel_rfl
theorem cl_90 : calledT Try.prog 90 = true := by kernel_rfl
theorem cl_91 : calledT Try.prog 91 = true := by kernel_rfl
theorem cl_92 : calledT Try.prog 92 = true := by kernel_rfl
theorem el_36 : elemT Try.prog 36 = some (.agg #[.slice none 0 0, .slice none 0 0, .int .i64 0, .int .i64 0], 4, 64) := by kernel_rfl
theorem fd_36_0 : fieldT Try.prog 36 0 = some 0 := by kernel_rfl
theorem fd_36_1 : fieldT Try.prog 36 1 = some 1 := by kernel_rfl
theorem fd_82_0 : fieldT Try.prog 82 0 = some 0 := by kernel_rfl
theorem fd_82_1 : fieldT Try.prog 82 1 = some 1 := by kernel_rfl
theorem fd_82_2 : fieldT Try.prog 82 2 = some 2 := by kernel_rfl
theorem st_36 : structT Try.prog 36 = some 4 := by kernel_rfl
theorem st_82 : structT Try.prog 82 = some 3 := by kernel_rfl
set_option maxRecDepth 20000 in
theorem c_valid {vc vA vb : Value} {vq : Int → Value} {p : Lp} (w0 : World) (hL : LAt w0 vc vA vb vq p) :
    Calls Try.prog 90 [.agg #[vc, vA, vb]].toArray w0 fun e w => ∃ v, e = .returned v ∧ v = B (LOk p) ∧ Sat w0 w [] := by
  have hn := hL.c.slh.n0; have hn1 := hL.c.slh.n1; have hm := hL.A.row.slh.n0; have hm1 := hL.A.row.slh.n1; have hk := hL.b.slh.n0; have hk1 := hL.b.slh.n1
  refine zenG Try.func90 Try.ntmps90 fun w hS => ?_
  refine zsr ?_
  refine zla (xbx (cs := [_, _, _]) hS) ?_; rintro _ w ⟨g1, rfl, hS⟩
  replace hS := hS.n1
  refine zlv xas ?_
  refine zlz ?_
  refine zlv (xfb 0 fd_82_0) ?_
  refine zlv (xlb 0 pl_22 hS) ?_
  refine zlv (xln sl_22 hL.c.slh) ?_
  refine zla (xal (cs := [_]) el_3 hS) ?_; rintro _ w ⟨g2, rfl, hS⟩
  replace hS := hS.n2
  refine zle (xsb 1 pl_3 hS) ?_; clear hS; rintro w hS
  replace hS := hS.n2
  refine zlt <| zsq <| zsr ?_
  refine zlv (xlb 1 pl_3 hS) ?_
  refine zs2 ?_
  refine zlb 10 ?_ ?_ <;> intro hc
  ·
   iterate 2 refine zlo ?_
   refine zs2 ?_
   iterate 4 refine zlo ?_
   refine zs2 ?_
   iterate 7 refine zlo ?_
   refine zs2 ?_
   iterate 4 refine zlo ?_
   refine zs2 ?_
   iterate 4 refine zlo ?_
   refine zlv xpt ?_
   refine zlt <| zct <| zsr ?_
   refine zlv xas ?_
   refine zlt <| zrt <| ztr <| zf1 ⟨_, rfl, ?_⟩
   exact ⟨false_B (by intro hl; have b1 := hl.n1; have b2 := hl.n2; have b3 := hl.m2; have b4 := hl.k; first | omega | exact absurd (fun j j0 j1 => by have := hl.c j j0 j1; omega) ‹¬ Btw p.c p.n 1000000› | exact absurd (fun j j0 j1 => hl.b j j0 (by omega)) ‹¬ Btw p.b p.k 1000000› | (obtain ⟨j, j0, j1, j2⟩ := hex1; have := hl.c j j0 j1; omega)), hS.nl⟩
  refine zlv (xlb 1 pl_3 hS) ?_
  refine zs3 ?_
  refine zlb 14 ?_ ?_ <;> intro hc
  ·
   iterate 4 refine zlo ?_
   refine zs2 ?_
   iterate 7 refine zlo ?_
   refine zs2 ?_
   iterate 4 refine zlo ?_
   refine zs2 ?_
   iterate 4 refine zlo ?_
   refine zlv xpt ?_
   refine zlt <| zct <| zsr ?_
   refine zlv xas ?_
   refine zlt <| zrt <| ztr <| zf1 ⟨_, rfl, ?_⟩
   exact ⟨false_B (by intro hl; have b1 := hl.n1; have b2 := hl.n2; have b3 := hl.m2; have b4 := hl.k; first | omega | exact absurd (fun j j0 j1 => by have := hl.c j j0 j1; omega) ‹¬ Btw p.c p.n 1000000› | exact absurd (fun j j0 j1 => hl.b j j0 (by omega)) ‹¬ Btw p.b p.k 1000000› | (obtain ⟨j, j0, j1, j2⟩ := hex1; have := hl.c j j0 j1; omega)), hS.nl⟩
  refine zlv (xfb 1 fd_82_1) ?_
  refine zlv (xlb 0 pl_32 hS) ?_
  refine zlv (xln sl_32 hL.A.row.slh) ?_
  refine zs3 ?_
  refine zlb 20 ?_ ?_ <;> intro hc
  ·
   iterate 7 refine zlo ?_
   refine zs2 ?_
   iterate 4 refine zlo ?_
   refine zs2 ?_
   iterate 4 refine zlo ?_
   refine zlv xpt ?_
   refine zlt <| zct <| zsr ?_
   refine zlv xas ?_
   refine zlt <| zrt <| ztr <| zf1 ⟨_, rfl, ?_⟩
   exact ⟨false_B (by intro hl; have b1 := hl.n1; have b2 := hl.n2; have b3 := hl.m2; have b4 := hl.k; first | omega | exact absurd (fun j j0 j1 => by have := hl.c j j0 j1; omega) ‹¬ Btw p.c p.n 1000000› | exact absurd (fun j j0 j1 => hl.b j j0 (by omega)) ‹¬ Btw p.b p.k 1000000› | (obtain ⟨j, j0, j1, j2⟩ := hex1; have := hl.c j j0 j1; omega)), hS.nl⟩
  refine zlv (xfb 2 fd_82_2) ?_
  refine zlv (xlb 0 pl_22 hS) ?_
  refine zlv (xln sl_22 hL.b.slh) ?_
  refine zlv (xfb 1 fd_82_1) ?_
  refine zlv (xlb 0 pl_32 hS) ?_
  refine zlv (xln sl_32 hL.A.row.slh) ?_
  refine zs3 ?_
  refine zlb 29 ?_ ?_ <;> intro hc
  ·
   iterate 4 refine zlo ?_
   refine zs2 ?_
   iterate 4 refine zlo ?_
   refine zlv xpt ?_
   refine zlt <| zct <| zsr ?_
   refine zlv xas ?_
   refine zlt <| zrt <| ztr <| zf1 ⟨_, rfl, ?_⟩
   exact ⟨false_B (by intro hl; have b1 := hl.n1; have b2 := hl.n2; have b3 := hl.m2; have b4 := hl.k; first | omega | exact absurd (fun j j0 j1 => by have := hl.c j j0 j1; omega) ‹¬ Btw p.c p.n 1000000› | exact absurd (fun j j0 j1 => hl.b j j0 (by omega)) ‹¬ Btw p.b p.k 1000000› | (obtain ⟨j, j0, j1, j2⟩ := hex1; have := hl.c j j0 j1; omega)), hS.nl⟩
  refine zlv (xfb 0 fd_82_0) ?_
  refine zlv (xlb 0 pl_22 hS) ?_
  refine zlc (xc0 cl_111) (c_between (n := p.n) (m := 1000000) (f := p.c) w (hL.c.below hS.below) (by omega)) ?_; rintro _ w ⟨rfl, hS'⟩
  replace hS := hS.cmp hS'; clear hS'
  refine zs3 ?_
  refine zlb 35 ?_ ?_ <;> intro hc
  ·
   iterate 4 refine zlo ?_
   refine zlv xpt ?_
   refine zlt <| zct <| zsr ?_
   refine zlv xas ?_
   refine zlt <| zrt <| ztr <| zf1 ⟨_, rfl, ?_⟩
   exact ⟨false_B (by intro hl; have b1 := hl.n1; have b2 := hl.n2; have b3 := hl.m2; have b4 := hl.k; first | omega | exact absurd (fun j j0 j1 => by have := hl.c j j0 j1; omega) ‹¬ Btw p.c p.n 1000000› | exact absurd (fun j j0 j1 => hl.b j j0 (by omega)) ‹¬ Btw p.b p.k 1000000› | (obtain ⟨j, j0, j1, j2⟩ := hex1; have := hl.c j j0 j1; omega)), hS.nl⟩
  refine zlv (xfb 2 fd_82_2) ?_
  refine zlv (xlb 0 pl_22 hS) ?_
  refine zlc (xc0 cl_111) (c_between (n := p.k) (m := 1000000) (f := p.b) w (hL.b.below hS.below) (by omega)) ?_; rintro _ w ⟨rfl, hS'⟩
  replace hS := hS.cmp hS'; clear hS'
  refine zs2 ?_
  refine zlt ?_
  refine zcif ?_ ?_ <;> intro hc
  ·
   refine zsr ?_
   refine zlv xas ?_
   refine zlt <| zrt <| ztr <| zf1 ⟨_, rfl, ?_⟩
   exact ⟨false_B (by intro hl; have b1 := hl.n1; have b2 := hl.n2; have b3 := hl.m2; have b4 := hl.k; first | omega | exact absurd (fun j j0 j1 => by have := hl.c j j0 j1; omega) ‹¬ Btw p.c p.n 1000000› | exact absurd (fun j j0 j1 => hl.b j j0 (by omega)) ‹¬ Btw p.b p.k 1000000› | (obtain ⟨j, j0, j1, j2⟩ := hex1; have := hl.c j j0 j1; omega)), hS.nl⟩
  refine zsk <| ztn <| zsr ?_
  refine zlv xmf ?_
  refine zlv xas ?_
  refine zlz ?_
  refine zlv (xfb 0 fd_82_0) ?_
  refine zlv (xlb 0 pl_22 hS) ?_
  refine zlc (xc0 cl_113) (c_min (n := p.n) (f := p.c) w (hL.c.below hS.below) (by omega)) ?_; rintro _ w ⟨x1, rfl, hex1, hax1, hS'⟩
  replace hS := hS.cmp hS'; clear hS'
  refine zs2 ?_
  refine zlb 46 ?_ ?_ <;> intro hc
  ·
   refine zlv (xfb 1 fd_82_1) ?_
   refine zlv (xlb 0 pl_32 hS) ?_
   refine zlv xmv ?_
   refine zlc (xc0 cl_35) (c_comv (n := p.m) (q := p.n) (vv := vq) (ln := p.ln) (f := p.A) w (hL.A.below hS.below) (hS.cellN 1 rfl rfl) (by omega)) ?_; rintro _ w ⟨rfl, hS'⟩
   replace hS := hS.cmp hS'; clear hS'
   refine zs3 ?_
   refine zlt <| zrt <| zf1 ⟨_, rfl, ?_⟩
   refine ⟨B_congr ⟨fun hx => ?_, fun hl hx => ?_⟩, hS.nl⟩
   · have hc1 := (Classical.not_not.1 ‹¬ ¬ (Btw p.c p.n 1000000)›); have hc2 := (Classical.not_not.1 ‹¬ ¬ (Btw p.b p.k 1000000)›)
     refine ⟨by omega, by omega, by omega, by omega, fun j j0 j1 => ⟨by have := hax1 j j0 j1; omega, (hc1 j j0 j1).2⟩, fun i i0 i1 => hc2 i i0 (by omega), fun i i0 i1 => ?_⟩
     have hy := Classical.not_not.1 fun hh => hx ⟨i, i0, i1, hh⟩
     exact ⟨hy.1, fun j j0 j1 => hy.2 j j0 (by have := hy.1; omega)⟩
   · obtain ⟨k, k0, k1, hh⟩ := hx
     have hr := hl.rows k k0 k1
     exact hh ⟨hr.1, fun j j0 j1 => hr.2 j j0 (by have := hr.1; omega)⟩
  iterate 5 refine zlo ?_
  refine zs2 ?_
  refine zlt <| zrt <| zf1 ⟨_, rfl, ?_⟩
  exact ⟨false_B (by intro hl; have b1 := hl.n1; have b2 := hl.n2; have b3 := hl.m2; have b4 := hl.k; first | omega | exact absurd (fun j j0 j1 => by have := hl.c j j0 j1; omega) ‹¬ Btw p.c p.n 1000000› | exact absurd (fun j j0 j1 => hl.b j j0 (by omega)) ‹¬ Btw p.b p.k 1000000› | (obtain ⟨j, j0, j1, j2⟩ := hex1; have := hl.c j j0 j1; omega)), hS.nl⟩

set_option maxRecDepth 20000 in
theorem c_start {vc vA vb : Value} {vq : Int → Value} {p : Lp} (w0 : World) (hL : LAt w0 vc vA vb vq p) :
    Calls Try.prog 71 [.agg #[vc, vA, vb]].toArray w0 fun e w => ∃ v, e = .returned v ∧ ∃ vB vF vC vv t' e, v = .tuple #[.agg #[.int .i64 t'.vars, .int .i64 t'.den, vB, vF, vC], .int .i64 e] ∧ StartR p t' e ∧ Slh vB t'.nb ∧ Slh vF t'.nf ∧ Slh vC t'.nc ∧ Sat w0 w [.own vB 1 3 t'.nb (ints t'.B), .own vF 1 3 t'.nf (ints t'.F), .own vC 1 22 t'.nc vv, .sem (Frame.rows 3 t'.nc vv t'.ln t'.C)] := by
  have hn := hL.c.slh.n0; have hn1 := hL.c.slh.n1; have hm := hL.A.row.slh.n0; have hm1 := hL.A.row.slh.n1; have hk := hL.b.slh.n0; have hk1 := hL.b.slh.n1
  refine zenG Try.func71 Try.ntmps71 fun w hS => ?_
  refine zsr ?_
  refine zla (xbx (cs := [_, _, _]) hS) ?_; rintro _ w ⟨g1, rfl, hS⟩
  replace hS := hS.n1
  refine zla (xal (cs := [_, _, _, _, _]) el_108 hS) ?_; rintro _ w ⟨g2, rfl, hS⟩
  replace hS := hS.n2
  refine zlv xas ?_
  refine zlt <| zsq <| zsr ?_
  refine zlv (xls 0 st_82 hS) ?_
  refine zlc (xc0 cl_90) (c_valid (p := p) w (hL.below hS.below)) ?_; rintro _ w ⟨rfl, hS'⟩
  replace hS := hS.cmp hS'; clear hS'
  refine zlv xnot ?_
  refine zlt ?_
  refine zcif ?_ ?_ <;> intro hc
  ·
   refine zsr ?_
   refine zlv (xany (v := .agg #[.int .i64 0, .int .i64 0, .slice none 0 0, .slice none 0 0, .slice none 0 0])) ?_
   refine zle (xsw 1 st_108 hS) ?_; clear hS; rintro w hS
   replace hS := hS.n2
   refine zlv xas ?_
   refine zlt <| zrt <| ztr <| zfct 1 st_108 hS ⟨_, rfl, ?_⟩
   exact ⟨_, _, _, fun _ => undef, Tb.zero, 1, rfl, .inl ⟨‹_›, rfl, rfl⟩, slh_nil, slh_nil, slh_nil, ((((hS.sub (.cons _ (.cons _ .slnil))).addnil 1 3 (ints Tb.zero.B)).addnil 1 3 (ints Tb.zero.F)).addnil 1 22 (fun _ => undef)).addrows 3 (fun _ => undef) Tb.zero.ln Tb.zero.C⟩
  refine zsk <| ztn <| zsq <| ?_
  refine zgcut (fun M w => ∃ (g3 : Nat) (v1 : Value) (v2 : Value) (v3 : Value), (Slh v2 (p.n + 1)) ∧ (Slh v3 1) ∧ M = [(0, .agg #[vc, vA, vb]), (1, .pointer (some ⟨g1, 0, none⟩)), (2, .pointer (some ⟨g2, 0, none⟩)), (3, .int .i64 0), (8, .agg #[vc, vA, vb]), (9, B (LOk p)), (10, B (¬ (LOk p))), (12, .pointer (some ⟨g1, 0, none⟩)), (13, vc), (14, .int .i64 p.n), (16, .pointer (some ⟨g1, 0, none⟩)), (17, vc), (15, v1), (18, v2), (19, v3), (20, .agg #[.int .i64 p.n, .int .i64 1, .slice none 0 0, .slice none 0 0, v3]), (4, .pointer (some ⟨g3, 0, none⟩))] ∧ Sat w0 w [.blk g1 [vc, vA, vb], .blk g2 [.int .i64 0, .int .i64 0, .slice none 0 0, .slice none 0 0, .slice none 0 0], .own v2 1 3 (p.n + 1) (ints (cat 1 (fun _ => 0) p.c)), .own v3 1 22 1 (fun _ => v2), .blk g3 [.int .i64 p.n, .int .i64 1, .slice none 0 0, .slice none 0 0, v3]]) ?_ ?_
  ·
   refine zdst [0, 1] [0, 1] 10 mx_ hS ?_; clear hS; intro w hS
   refine zdv 0 (fun _ => (xfb 0 fd_82_0)) ?_
   have hl := (Classical.not_not.1 ‹¬ ¬ (LOk p)›)
   have b1 := hl.n1
   have b2 := hl.n2
   have b3 := hl.m2
   have b4 := hl.k
   refine zdla 1 (fun w hS => (xlb 0 pl_22 hS)) ?_
   refine zdv 2 (fun _ => (xln sl_22 hL.c.slh)) ?_
   refine zdv 4 (fun _ => (xfb 0 fd_82_0)) ?_
   refine zdla 5 (fun w hS => (xlb 0 pl_22 hS)) ?_
   refine zdfk (r := [3, 9]) ((zdn1 ?_ (zdn1 ?_ zdn0)))
   ·
    refine zka (xli (n := 1) (len := 1) (pv := [(0, .int .i64 0)]) (cs := [.int .i64 0]) (c := ints (fun _ => 0)) sl_22 el_3 hS) ?_; rintro v1 w ⟨hS, hv1⟩
    replace hS := hS.n3
    refine ⟨⟨fun _ => hS.pk [0, 1], hS.pk [0, 1]⟩, ?_⟩
    refine zdfk (r := [6, 9]) ((zdn1 ?_ (zdn1 ?_ zdn0)))
    ·
     refine zka (xap 2 (r := p.n + 1) (f := ints (cat 1 (fun _ => 0) p.c)) sl_22 el_3 hS (hL.c.below hS.below) (by exact cat_ints1 _ _ _)) ?_; rintro v2 w ⟨hS, hv2⟩
     replace hS := hS.n3
     refine ⟨⟨fun _ => hS.pk [0, 1], hS.pk [0, 1]⟩, ?_⟩
     refine zdfk (r := [7, 9]) ((zdn1 ?_ (zdn1 ?_ zdn0)))
     ·
      refine zka (xli (n := 1) (len := 1) (pv := [(0, v2)]) (cs := [v2]) (c := (fun _ => v2)) sl_32 el_22 hS (hf := by obtain ⟨_, _, _, _, rfl, _⟩ := hv2; kernel_rfl)) ?_; rintro v3 w ⟨hS, hv3⟩
      replace hS := hS.n4
      refine ⟨⟨fun _ => hS.pk [0, 1], hS.pk [0, 1]⟩, ?_⟩
      refine zdv 8 (fun _ => (xany (v := .agg #[.int .i64 p.n, .int .i64 1, .slice none 0 0, .slice none 0 0, v3]) (hr := by obtain ⟨_, _, _, _, rfl, _⟩ := hv3; kernel_rfl))) ?_
      refine zda 9 (xal (cs := [_, _, _, _, _]) el_108 hS) ?_; rintro _ w ⟨g3, rfl, hS⟩
      replace hS := hS.n5
      refine ⟨⟨fun _ => hS.pk [0, 1], hS.pk [0, 1]⟩, ?_⟩
      refine zde 10 (xsw 4 st_108 hS (hd := (ones_cons rfl (ones_cons rfl (ones_cons rfl (ones_cons rfl (ones_cons hv3.one ones_nil))))))) ?_; clear hS; rintro w hS
      replace hS := hS.n5
      refine ⟨⟨fun h => absurd h (by decide), hS.pk [0, 1]⟩, ?_⟩
      refine zdd <| zgj ⟨g3, v1, v2, v3, hv2, hv3, rfl, hS⟩
     refine zka (xal (cs := [_, _, _, _, _]) el_108 hS) ?_; rintro _ w ⟨g3, rfl, hS⟩
     replace hS := hS.n4
     refine ⟨⟨fun _ => hS.pk [0, 1], hS.pk [0, 1]⟩, ?_⟩
     refine zda 7 (xli (n := 1) (len := 1) (pv := [(0, v2)]) (cs := [v2]) (c := (fun _ => v2)) sl_32 el_22 hS (hf := by obtain ⟨_, _, _, _, rfl, _⟩ := hv2; kernel_rfl)) ?_; rintro v3 w ⟨hS, hv3⟩
     replace hS := hS.n5
     refine ⟨⟨fun _ => hS.pk [0, 1], hS.pk [0, 1]⟩, ?_⟩
     refine zdv 8 (fun _ => (xany (v := .agg #[.int .i64 p.n, .int .i64 1, .slice none 0 0, .slice none 0 0, v3]) (hr := by obtain ⟨_, _, _, _, rfl, _⟩ := hv3; kernel_rfl))) ?_
     refine zde 10 (xsw 3 st_108 hS (hd := (ones_cons rfl (ones_cons rfl (ones_cons rfl (ones_cons rfl (ones_cons hv3.one ones_nil))))))) ?_; clear hS; rintro w hS
     replace hS := hS.n5
     refine ⟨⟨fun h => absurd h (by decide), hS.pk [0, 1]⟩, ?_⟩
     refine zdd <| zgj ⟨g3, v1, v2, v3, hv2, hv3, rfl, hS.pk [0, 1, 2, 4, 3]⟩
    refine zka (xal (cs := [_, _, _, _, _]) el_108 hS) ?_; rintro _ w ⟨g3, rfl, hS⟩
    replace hS := hS.n4
    refine ⟨⟨fun _ => hS.pk [0, 1], hS.pk [0, 1]⟩, ?_⟩
    refine zda 6 (xap 2 (r := p.n + 1) (f := ints (cat 1 (fun _ => 0) p.c)) sl_22 el_3 hS (hL.c.below hS.below) (by exact cat_ints1 _ _ _)) ?_; rintro v2 w ⟨hS, hv2⟩
    replace hS := hS.n4
    refine ⟨⟨fun _ => hS.pk [0, 1], hS.pk [0, 1]⟩, ?_⟩
    refine zda 7 (xli (n := 1) (len := 1) (pv := [(0, v2)]) (cs := [v2]) (c := (fun _ => v2)) sl_32 el_22 hS (hf := by obtain ⟨_, _, _, _, rfl, _⟩ := hv2; kernel_rfl)) ?_; rintro v3 w ⟨hS, hv3⟩
    replace hS := hS.n5
    refine ⟨⟨fun _ => hS.pk [0, 1], hS.pk [0, 1]⟩, ?_⟩
    refine zdv 8 (fun _ => (xany (v := .agg #[.int .i64 p.n, .int .i64 1, .slice none 0 0, .slice none 0 0, v3]) (hr := by obtain ⟨_, _, _, _, rfl, _⟩ := hv3; kernel_rfl))) ?_
    refine zde 10 (xsw 3 st_108 hS (hd := (ones_cons rfl (ones_cons rfl (ones_cons rfl (ones_cons rfl (ones_cons hv3.one ones_nil))))))) ?_; clear hS; rintro w hS
    replace hS := hS.n5
    refine ⟨⟨fun h => absurd h (by decide), hS.pk [0, 1]⟩, ?_⟩
    refine zdd <| zgj ⟨g3, v1, v2, v3, hv2, hv3, rfl, hS.pk [0, 1, 2, 4, 3]⟩
   refine zka (xal (cs := [_, _, _, _, _]) el_108 hS) ?_; rintro _ w ⟨g3, rfl, hS⟩
   replace hS := hS.n3
   refine ⟨⟨fun _ => hS.pk [0, 1], hS.pk [0, 1]⟩, ?_⟩
   refine zda 3 (xli (n := 1) (len := 1) (pv := [(0, .int .i64 0)]) (cs := [.int .i64 0]) (c := ints (fun _ => 0)) sl_22 el_3 hS) ?_; rintro v1 w ⟨hS, hv1⟩
   replace hS := hS.n4
   refine ⟨⟨fun _ => hS.pk [0, 1], hS.pk [0, 1]⟩, ?_⟩
   refine zda 6 (xap 3 (r := p.n + 1) (f := ints (cat 1 (fun _ => 0) p.c)) sl_22 el_3 hS (hL.c.below hS.below) (by exact cat_ints1 _ _ _)) ?_; rintro v2 w ⟨hS, hv2⟩
   replace hS := hS.n4
   refine ⟨⟨fun _ => hS.pk [0, 1], hS.pk [0, 1]⟩, ?_⟩
   refine zda 7 (xli (n := 1) (len := 1) (pv := [(0, v2)]) (cs := [v2]) (c := (fun _ => v2)) sl_32 el_22 hS (hf := by obtain ⟨_, _, _, _, rfl, _⟩ := hv2; kernel_rfl)) ?_; rintro v3 w ⟨hS, hv3⟩
   replace hS := hS.n5
   refine ⟨⟨fun _ => hS.pk [0, 1], hS.pk [0, 1]⟩, ?_⟩
   refine zdv 8 (fun _ => (xany (v := .agg #[.int .i64 p.n, .int .i64 1, .slice none 0 0, .slice none 0 0, v3]) (hr := by obtain ⟨_, _, _, _, rfl, _⟩ := hv3; kernel_rfl))) ?_
   refine zde 10 (xsw 2 st_108 hS (hd := (ones_cons rfl (ones_cons rfl (ones_cons rfl (ones_cons rfl (ones_cons hv3.one ones_nil))))))) ?_; clear hS; rintro w hS
   replace hS := hS.n5
   refine ⟨⟨fun h => absurd h (by decide), hS.pk [0, 1]⟩, ?_⟩
   refine zdd <| zgj ⟨g3, v1, v2, v3, hv2, hv3, rfl, hS.pk [0, 1, 3, 4, 2]⟩
  clear hS w; rintro M w ⟨g3, v1, v2, v3, hv2, hv3, rfl, hS⟩
  refine ztn <| zsq <| zsr ?_
  refine zlv (xfb 0 fd_82_0) ?_
  refine zlv (xlb 0 pl_22 hS) ?_
  refine zlv (xln sl_22 hL.c.slh) ?_
  have hl := (Classical.not_not.1 ‹¬ ¬ (LOk p)›)
  have b1 := hl.n1
  have b2 := hl.n2
  have b3 := hl.m2
  have b4 := hl.k
  refine zlv xmv ?_
  refine zlt <| zbk ?_
  replace hS := hS.addrows 3 (fun _ => Value.slice none 0 0) (fun _ => 0) (fun _ _ => 0)
  replace hS := hS.n6
  replace hS := Sat.merge2 (l1 := [.blk g1 [vc, vA, vb], .blk g2 [.int .i64 0, .int .i64 0, .slice none 0 0, .slice none 0 0, .slice none 0 0]]) (l2 := [.own v3 1 22 1 (fun _ => v2), .blk g3 [.int .i64 p.n, .int .i64 1, .slice none 0 0, .slice none 0 0, v3]]) (l3 := []) hS (by omega)
  replace hS := hS.rerows (vv' := (fun _ => v2)) (ln' := (startT p).ln) (f' := (startT p).C) 4 rfl (fun k k0 k1 => by
    obtain rfl : k = 0 := by omega
    refine ⟨gsn_self _ _ _, ?_, fun j j0 j1 => ?_⟩
    · rw [gsn_self]; show _ = p.n + 1; omega
    · rw [gsn_self]; unfold startT cat; dsimp only; (repeat' split) <;> first | rfl | omega)
  replace hS := hS.n5
  have hrs0 := fun k (k0 : 0 ≤ k) (k1 : k < 1) => hS.slhIn 4 rfl k0 k1
  replace hS := hS.addnil 1 3 (ints (fun _ => 0))
  replace hS := hS.n6
  replace hS := hS.addnil 1 3 (ints (fun _ => 0))
  replace hS := hS.n7
  refine zlp (fun mm M w => ∃ (nF : Int) (j : Int) (wF : Value) (fF : Int → Int), mm = ((p.n - j).toNat) ∧ (0 ≤ j) ∧ (j ≤ p.n) ∧ (nF = j) ∧ (∀ k, 0 ≤ k → k < j → fF k = k) ∧ (Slh wF nF) ∧ M = [(1, .pointer (some ⟨g1, 0, none⟩)), (2, .pointer (some ⟨g2, 0, none⟩)), (3, .int .i64 0), (4, .pointer (some ⟨g3, 0, none⟩)), (23, .int .i64 p.n), (24, .int .i64 j)] ∧ Sat w0 w [.blk g1 [vc, vA, vb], .blk g2 [.int .i64 0, .int .i64 0, .slice none 0 0, .slice none 0 0, .slice none 0 0], .own v3 1 22 1 (fun _ => v2), .blk g3 [.int .i64 p.n, .int .i64 1, (.slice none 0 0), wF, v3], .sem (Frame.rows 3 1 (fun _ => v2) ((startT p).ln) ((startT p).C)), .own wF 1 3 nF (ints fF), .own (.slice none 0 0) 1 3 0 (ints (fun _ => 0))]) ⟨0, 0, (.slice none 0 0), (fun _ => 0), rfl, (by omega), (by omega), (by omega), ?_, ?_, rfl, hS⟩ ?_
  ·
   intro k k0 k1; omega
  ·
   exact slh_nil
  clear hS w
  rintro mm M w ⟨nF, j, wF, fF, rfl, j0, j1, hnF, hfF, hwF, rfl, hS⟩
  refine zsr ?_
  refine zlv xlss ?_
  refine zlt <| zsq ?_
  refine zcif ?_ ?_ <;> intro hc
  ·
   refine zsk <| ztn <| zsq <| zbk <| zsr ?_
   refine zs2 ?_
   refine zlt <| zrg ?_
   refine zlv (xfb 3 fd_108_3) ?_
   refine zlv (xlb 3 pl_22 hS) ?_
   refine zlv xmv ?_
   refine zla (xli (n := 1) (len := 1) (pv := [(0, .int .i64 j)]) (cs := [.int .i64 j]) (c := ints (fun _ => j)) sl_22 el_3 hS) ?_; rintro v4 w ⟨hS, hv4⟩
   replace hS := hS.n8
   refine zla (xap 5 (r := nF + 1) sl_22 el_3 hS (hS.rowN 7 rfl) (cat_snoc _ _ _)) ?_; rintro v5 w ⟨hS, hv5⟩
   replace hS := hS.n8
   refine zlv (xfb 3 fd_108_3) ?_
   refine zle (xsb 3 pl_22 hS (hv := hv5.one)) ?_; clear hS; rintro w hS
   replace hS := hS.n8
   refine zln <| zbn <| ztn <| zrg ?_
   refine zlv (xadd (r := j + 1)) ?_
   refine zlv xmv ?_
   refine zln <| zlq ⟨nF + 1, j + 1, v5, (snoc fF nF j), rfl, (by omega), (by omega), (by omega), ?_, ?_, rfl, hS.pk [0, 1, 2, 3, 4, 5, 6]⟩
   ·
    intro k k0 k1; by_cases e : k < nF
    · rw [snoc_lt e]; exact hfF k k0 (by omega)
    · rw [snoc_at e]; omega
   ·
    exact hv5
  refine zxt <| ztx <| ztx <| zbh <| ztn <| zsq <| zsr ?_
  refine zlv (xfb 1 fd_82_1) ?_
  refine zlv (xlb 0 pl_32 hS) ?_
  refine zlv (xln sl_32 hL.A.row.slh) ?_
  refine zlv xmv ?_
  refine zlt <| zbk <| zlp (fun mm M w => ∃ (mB : Int) (nC : Int) (wv : Int → Value) (i : Int) (wB : Value) (fB : Int → Int) (wC : Value), mm = ((p.m - i).toNat) ∧ (0 ≤ i) ∧ (i ≤ p.m) ∧ (mB = i) ∧ (nC = i + 1) ∧ (∀ k, 0 ≤ k → k < i → fB k = p.n + k) ∧ (Slh wB mB) ∧ (Slh wC nC) ∧ M = [(1, .pointer (some ⟨g1, 0, none⟩)), (2, .pointer (some ⟨g2, 0, none⟩)), (3, .int .i64 0), (4, .pointer (some ⟨g3, 0, none⟩)), (35, vA), (36, .int .i64 p.m), (37, .int .i64 i)] ∧ Sat w0 w [.blk g1 [vc, vA, vb], .blk g2 [.int .i64 0, .int .i64 0, .slice none 0 0, .slice none 0 0, .slice none 0 0], .own wC 1 22 nC wv, .blk g3 [.int .i64 p.n, .int .i64 1, wB, wF, wC], .sem (Frame.rows 3 nC wv ((startT p).ln) ((startT p).C)), .own wF 1 3 nF (ints fF), .own wB 1 3 mB (ints fB)]) ⟨0, 1, (fun _ => v2), 0, (.slice none 0 0), (fun _ => 0), v3, rfl, (by omega), (by omega), (by omega), (by omega), ?_, ?_, ?_, rfl, hS⟩ ?_
  ·
   intro k k0 k1; omega
  ·
   exact slh_nil
  ·
   exact hv3
  clear hS w
  rintro mm M w ⟨mB, nC, wv, i, wB, fB, wC, rfl, i0, i1, hmB, hnC, hfB, hwB, hwC, rfl, hS⟩
  have hrs1 := fun k (k0 : 0 ≤ k) (k1 : k < nC) => hS.slhIn 4 rfl k0 k1
  refine zsr ?_
  refine zlv xlss ?_
  refine zlt <| zsq ?_
  refine zcif ?_ ?_ <;> intro hc
  ·
   refine zsk <| ztn <| zsq <| zbk <| zsr ?_
   refine zlv xmv ?_
   refine zlv (xix (kk := i) sl_32 hL.A.row.slh) ?_
   refine zlv (xlr (u := (vq i)) pl_22 (hL.A.row.below hS.below)) ?_
   have hri := hl.rows i i0 (by omega)
   refine zs2 ?_
   refine zlz ?_
   refine zlv (xfb 2 fd_108_2) ?_
   refine zlv (xlb 3 pl_22 hS) ?_
   refine zlv (xfb 0 fd_108_0) ?_
   refine zlv (xlb 3 pl_3 hS) ?_
   refine zlv xmv ?_
   refine zlv (xadd (r := p.n + i)) ?_
   refine zla (xli (n := 1) (len := 1) (pv := [(0, .int .i64 (p.n + i))]) (cs := [.int .i64 (p.n + i)]) (c := ints (fun _ => p.n + i)) sl_22 el_3 hS) ?_; rintro v6 w ⟨hS, hv6⟩
   replace hS := hS.n8
   refine zla (xap 6 (r := mB + 1) sl_22 el_3 hS (hS.rowN 7 rfl) (cat_snoc _ _ _)) ?_; rintro v7 w ⟨hS, hv7⟩
   replace hS := hS.n8
   refine zlv (xfb 2 fd_108_2) ?_
   refine zle (xsb 3 pl_22 hS (hv := hv7.one)) ?_; clear hS; rintro w hS
   replace hS := hS.n8
   refine zlt ?_
   refine zdst [0, 1, 3] [0, 1] 14 mx_ hS ?_; clear hS; intro w hS
   refine zdv 0 (fun _ => (xfb 4 fd_108_4)) ?_
   refine zdl 1 (fun w hS => (xlb 2 pl_32 hS)) ?_
   refine zdv 2 (fun _ => (xfb 2 fd_82_2)) ?_
   refine zdla 3 (fun w hS => (xlb 0 pl_22 hS)) ?_
   refine zdv 4 (fun _ => xmv) ?_
   refine zdv 5 (fun _ => (xix (kk := i) sl_22 hL.b.slh)) ?_
   refine zdla 6 (fun w hS => (xlr (u := .int .i64 (p.b i)) pl_3 (hL.b.below hS.below))) ?_
   have hbi := hl.b i i0 (by omega)
   refine zdv 7 (fun _ => (xneg (r := -((p.b i))))) ?_
   refine zdv 9 (fun _ => xmv) ?_
   refine zda 8 (xli (n := 1) (len := 1) (pv := [(0, .int .i64 (-((p.b i))))]) (cs := [.int .i64 (-((p.b i)))]) (c := ints (fun _ => -((p.b i)))) sl_22 el_3 hS) ?_; rintro v8 w ⟨hS, hv8⟩
   replace hS := hS.n9
   refine ⟨⟨fun _ => hS.pk [0, 1, 3], hS.pk [0, 1]⟩, ?_⟩
   refine zda 10 (xap 8 (r := (p.ln i) + 1) (f := ints (cat 1 (fun _ => -(p.b i)) (p.A i))) sl_22 el_3 hS ((hL.A.p i (by omega) (by omega)).below hS.below) (by exact cat_ints1 _ _ _)) ?_; rintro v9 w ⟨hS, hv9⟩
   replace hS := hS.n9
   refine ⟨⟨fun _ => hS.pk [0, 1, 3], hS.pk [0, 1]⟩, ?_⟩
   refine zda 11 (xli (n := 1) (len := 1) (pv := [(0, v9)]) (cs := [v9]) (c := (fun _ => v9)) sl_32 el_22 hS (hf := by obtain ⟨_, _, _, _, rfl, _⟩ := hv9; kernel_rfl)) ?_; rintro v10 w ⟨hS, hv10⟩
   replace hS := hS.n10
   refine ⟨⟨fun _ => hS.pk [0, 1, 3], hS.pk [0, 1]⟩, ?_⟩
   refine zda 12 (xap 2 (r := nC + 1) sl_32 el_22 hS (hS.rowN 9 rfl) (cat_gsn _ _ _) (h1 := fun _ _ _ => hv9.one)) ?_; rintro v11 w ⟨hS, hv11⟩
   replace hS := hS.n10
   replace hS := Sat.merge (l1 := [_, _, _, _]) (l2 := [_, _, _]) (l3 := [_]) hS (by omega)
   have hrs2 := fun k (k0 : 0 ≤ k) (k1 : k < nC + 1) => hS.slhIn 4 rfl k0 k1
   replace hS := hS.n9
   refine ⟨⟨fun _ => hS.pk [0, 1, 3], hS.pk [0, 1]⟩, ?_⟩
   refine zdv 13 (fun _ => (xfb 4 fd_108_4)) ?_
   refine zde 14 (xsb 3 pl_32 hS (hv := hv11.one)) ?_; clear hS; rintro w hS
   replace hS := hS.n9
   refine ⟨⟨fun h => absurd h (by decide), hS.pk [0, 1]⟩, ?_⟩
   refine zdd <| zbn <| ztn <| zrg ?_
   refine zlv (xadd (r := i + 1)) ?_
   replace hS := hS.rerows (vv' := gsn wv nC v9) (ln' := (startT p).ln) (f' := (startT p).C) 4 rfl (fun k k0 k1 => by
     by_cases e : k < i + 1
     · exact ⟨rfl, gsn_lt (by omega), fun j _ _ => by rw [gsn_lt (by omega)]⟩
     · have hki : k = i + 1 := by omega
       refine ⟨rfl, ?_, fun j j0 j1 => ?_⟩
       · rw [gsn_at (by omega)]; show _ = p.n + 1; omega
       · rw [gsn_at (by omega)]; unfold startT cat; dsimp only; (repeat' split) <;> first | rfl | omega | (congr 2; omega) | (congr 1; omega))
   replace hS := hS.n9
   have hrs2x := fun k (k0 : 0 ≤ k) (k1 : k < nC + 1) => hS.slhIn 4 rfl k0 k1
   refine zlv xmv ?_
   refine zln <| zlq ⟨mB + 1, nC + 1, gsn wv nC v9, i + 1, v7, (snoc fB mB (p.n + i)), v11, rfl, (by omega), (by omega), (by omega), (by omega), ?_, ?_, ?_, rfl, hS.pk [0, 1, 2, 3, 4, 5, 6]⟩
   ·
    intro k k0 k1; by_cases e : k < mB
    · rw [snoc_lt e]; exact hfB k k0 (by omega)
    · rw [snoc_at e]; omega
   ·
    exact hv7
   ·
    exact hv11
  refine zxt <| ztx <| ztx <| zbh <| ztn <| zsr ?_
  refine zlv (xls 3 st_108 hS) ?_
  refine zle (xsw 1 st_108 hS (hd := (ones_cons rfl (ones_cons rfl (ones_cons hwB.one (ones_cons hwF.one (ones_cons hwC.one ones_nil))))))) ?_; clear hS; rintro w hS
  replace hS := hS.n7
  refine zlv xas ?_
  refine zlt <| zrt <| zfct 1 st_108 hS ⟨_, rfl, ?_⟩
  obtain rfl : i = p.m := by omega
  obtain rfl : mB = p.m := by omega
  obtain rfl : nC = p.m + 1 := by omega
  obtain rfl : nF = p.n := by omega
  replace hS := hS.recont 6 rfl (d := ints (startT p).B) (fun k k0 k1 => by unfold ints; rw [hfB k k0 (by simp at k1; omega)]; rfl)
  replace hS := hS.recont 5 rfl (d := ints (startT p).F) (fun k k0 k1 => by unfold ints; rw [hfF k k0 (by simp at k1; omega)]; rfl)
  exact ⟨_, _, _, _, startT p, 0, rfl, .inr ⟨hl, rfl, rfl⟩, hwB, hwF, hwC, (hS.pk [2, 4, 5, 6]).perm (perm_step (l1 := [_, _, _]) (l2 := []) (perm_step (l1 := [_, _]) (l2 := []) (List.Perm.refl _)))⟩

theorem c_nextB {vB vF vC : Value} {vv : Int → Value} {t : Tb} (w0 : World) (hT : TAt w0 vB vF vC vv t) : Calls Try.prog 91 [.agg #[.int .i64 t.vars, .int .i64 t.den, vB, vF, vC]].toArray w0 fun e w => ∃ v, e = .returned v ∧ ∃ r c d e, v = .tuple #[.int .i64 r, .int .i64 c, B (d = true), .int .i64 e] ∧ NextR t r c d e ∧ Sat w0 w [] :=
  (c_next w0 hT).mono fun e w h => by
    obtain ⟨v, he, r, c, d, e', hv, hn, hS⟩ := h
    exact ⟨v, he, r, c, d, e', by rw [hv, bool_B], hn, hS⟩

set_option maxRecDepth 20000 in
theorem c_optimize {vB vF vC : Value} {vv : Int → Value} {t : Tb} (w0 : World) (hT : TAt w0 vB vF vC vv t) :
    Calls Try.prog 72 [.agg #[.int .i64 t.vars, .int .i64 t.den, vB, vF, vC]].toArray w0 fun e w => ∃ v, e = .returned v ∧ ∃ xB xF xC xv u e, v = .tuple #[.agg #[.int .i64 u.vars, .int .i64 u.den, xB, xF, xC], .int .i64 e] ∧ Run 1000 t u e ∧ Slh xB u.nb ∧ Slh xF u.nf ∧ Slh xC u.nc ∧ Sat w0 w [.sem (Frame.alt (u = t ∧ xB = vB ∧ xF = vF ∧ xC = vC ∧ xv = vv) (Frame.bun [.own xB 1 3 u.nb (ints u.B), .own xF 1 3 u.nf (ints u.F), .own xC 1 22 u.nc xv, .sem (Frame.rows 3 u.nc xv u.ln u.C)]))] := by
  refine zenG Try.func72 Try.ntmps72 fun w hS => ?_
  refine zsr ?_
  refine zla (xbx (cs := [_, _, _, _, _]) hS) ?_; rintro _ w ⟨g1, rfl, hS⟩
  replace hS := hS.n1
  refine zla (xal (cs := [_, _, _, _, _]) el_108 hS) ?_; rintro _ w ⟨g2, rfl, hS⟩
  replace hS := hS.n2
  refine zlv xas ?_
  refine zlz ?_
  refine zlv xas ?_
  refine zlt <| zbk ?_
  replace hS := hS.altL (Frame.bun [.own vB 1 3 t.nb (ints t.B), .own vF 1 3 t.nf (ints t.F), .own vC 1 22 t.nc vv, .sem (Frame.rows 3 t.nc vv t.ln t.C)]) (p := t = t ∧ vB = vB ∧ vF = vF ∧ vC = vC ∧ vv = vv) ⟨rfl, rfl, rfl, rfl, rfl⟩
  replace hS := hS.n3
  refine zlp (fun mm M w => ∃ (u : Tb) (xB : Value) (xF : Value) (xC : Value) (xv : Int → Value) (n : Int), mm = (((1001 : Int) - n).toNat) ∧ (0 ≤ n) ∧ (n ≤ 1000) ∧ (Slh xB u.nb) ∧ (Slh xF u.nf) ∧ (Slh xC u.nc) ∧ (∀ z e, Run (1000 - n).toNat u z e → Run 1000 t z e) ∧ M = [(1, .pointer (some ⟨g1, 0, none⟩)), (2, .pointer (some ⟨g2, 0, none⟩)), (4, .int .i64 n)] ∧ Sat w0 w [.blk g1 [.int .i64 u.vars, .int .i64 u.den, xB, xF, xC], .blk g2 [.int .i64 0, .int .i64 0, .slice none 0 0, .slice none 0 0, .slice none 0 0], .sem (Frame.alt (u = t ∧ xB = vB ∧ xF = vF ∧ xC = vC ∧ xv = vv) (Frame.bun [.own xB 1 3 u.nb (ints u.B), .own xF 1 3 u.nf (ints u.F), .own xC 1 22 u.nc xv, .sem (Frame.rows 3 u.nc xv u.ln u.C)]))]) ⟨t, vB, vF, vC, vv, 0, rfl, (by omega), (by omega), ?_, ?_, ?_, ?_, rfl, hS.sub (List.Sublist.refl _)⟩ ?_
  ·
   exact hT.B.slh
  ·
   exact hT.F.slh
  ·
   exact hT.C.row.slh
  ·
   exact fun z e h => h
  clear hS w
  rintro mm M w ⟨u, xB, xF, xC, xv, n, rfl, n0, n1, hxB, hxF, hxC, hrun, rfl, hS⟩
  have htu := tat_alt (hT.below hS.below) hS 2 rfl
  have hub := htu.B.slh.n0; have hub1 := htu.B.slh.n1; have huf := htu.F.slh.n0; have huf1 := htu.F.slh.n1
  refine zsq <| zbk <| zsr ?_
  refine zlv (xls 0 st_108 hS) ?_
  refine zlc (xc0 cl_91) (c_nextB (t := u) w (tat_alt (hT.below hS.below) hS 2 rfl)) ?_; rintro _ w ⟨rn1, cn1, dn1, en1, rfl, hnn1, hS'⟩
  replace hS := hS.cmp hS'; clear hS'
  have hrc := hnn1.rng
  refine zs6 ?_
  refine zs3 ?_
  refine zlt <| zsq <| zsr ?_
  refine zs2 ?_
  refine zlb 20 ?_ ?_ <;> intro hc
  ·
   iterate 2 refine zlo ?_
   refine zlv xpt ?_
   refine zlt <| zct <| zsr ?_
   refine zlv (xls 0 st_108 hS) ?_
   refine zlv xmv ?_
   refine zle (xsw 1 st_108 hS (hd := (ones_cons rfl (ones_cons rfl (ones_cons hxB.one (ones_cons hxF.one (ones_cons hxC.one ones_nil))))))) ?_; clear hS; rintro w hS
   replace hS := hS.n3
   refine zlv xas ?_
   refine zlt <| zrt <| ztr <| zbr <| ztr <| ztr <| zbr <| zfct 1 st_108 hS ⟨_, rfl, ?_⟩
   exact ⟨xB, xF, xC, xv, u, _, rfl, hrun _ _ (.stop hnn1 (by first | exact .inl hc | exact .inr (by omega))), hxB, hxF, hxC, hS.pk [2]⟩
  refine zs3 ?_
  refine zlt ?_
  refine zcif ?_ ?_ <;> intro hc
  ·
   refine zsr ?_
   refine zlv (xls 0 st_108 hS) ?_
   refine zlv xmv ?_
   refine zle (xsw 1 st_108 hS (hd := (ones_cons rfl (ones_cons rfl (ones_cons hxB.one (ones_cons hxF.one (ones_cons hxC.one ones_nil))))))) ?_; clear hS; rintro w hS
   replace hS := hS.n3
   refine zlv xas ?_
   refine zlt <| zrt <| ztr <| zbr <| ztr <| ztr <| zbr <| zfct 1 st_108 hS ⟨_, rfl, ?_⟩
   exact ⟨xB, xF, xC, xv, u, _, rfl, hrun _ _ (.stop hnn1 (by first | exact .inl hc | exact .inr (by omega))), hxB, hxF, hxC, hS.pk [2]⟩
  refine zsk <| ztn <| zsq <| zsr ?_
  refine zlv xmv ?_
  have hn0 : NextR u rn1 cn1 false 0 := by have h1 : dn1 = false := (by simpa using ‹¬ (dn1 = true)›); have h2 : en1 = 0 := (by omega); have h3 := hnn1; rw [h1, h2] at h3; exact h3
  have hpu := (hn0.prp (by omega)).1; have hq1 := hpu.n2; have hq2 := hpu.m2
  refine zlv xeql ?_
  refine zlt ?_
  refine zcif ?_ ?_ <;> intro hc
  ·
   refine zsr ?_
   refine zlv (xls 0 st_108 hS) ?_
   refine zle (xsw 1 st_108 hS (hd := (ones_cons rfl (ones_cons rfl (ones_cons hxB.one (ones_cons hxF.one (ones_cons hxC.one ones_nil))))))) ?_; clear hS; rintro w hS
   replace hS := hS.n3
   refine zlv xas ?_
   refine zlt <| zrt <| ztr <| zbr <| ztr <| ztr <| zbr <| zfct 1 st_108 hS ⟨_, rfl, ?_⟩
   exact ⟨xB, xF, xC, xv, u, _, rfl, hrun _ _ (by rw [show (1000 - n).toNat = 0 by omega]; exact .lim hn0), hxB, hxF, hxC, hS.pk [2]⟩
  refine zsk <| ztn <| zsr ?_
  refine zlv (xls 0 st_108 hS) ?_
  refine zs2 ?_
  refine zlc (xc0 cl_92) (c_pivot (t := u) (row := rn1) (col := cn1) w (tat_alt (hT.below hS.below) hS 2 rfl) (by omega) (by omega)) ?_; rintro _ w ⟨vBk1, vFk1, vCk1, vvk1, tk1, ek1, rfl, hpvk1, hsBk1, hsFk1, hsCk1, hS'⟩
  replace hS : Sat w0 w [.blk g1 [.int .i64 u.vars, .int .i64 u.den, xB, xF, xC], .blk g2 [.int .i64 0, .int .i64 0, .slice none 0 0, .slice none 0 0, .slice none 0 0], .sem (Frame.alt (u = t ∧ xB = vB ∧ xF = vF ∧ xC = vC ∧ xv = vv) (Frame.bun [.own xB 1 3 u.nb (ints u.B), .own xF 1 3 u.nf (ints u.F), .own xC 1 22 u.nc xv, .sem (Frame.rows 3 u.nc xv u.ln u.C)])), .own vBk1 1 3 tk1.nb (ints tk1.B), .own vFk1 1 3 tk1.nf (ints tk1.F), .own vCk1 1 22 tk1.nc vvk1, .sem (Frame.rows 3 tk1.nc vvk1 tk1.ln tk1.C)] := hS.comp hS'; clear hS'
  have hrsk1 := fun k (k0 : 0 ≤ k) (k1 : k < tk1.nc) => hS.slhIn 6 rfl k0 k1
  refine zs3 ?_
  refine zla (xal (cs := [_, _, _, _, _]) el_108 hS) ?_; rintro _ w ⟨g3, rfl, hS⟩
  replace hS := hS.n8
  refine zle (xsw 7 st_108 hS (hd := (ones_cons rfl (ones_cons rfl (ones_cons hsBk1.one (ones_cons hsFk1.one (ones_cons hsCk1.one ones_nil))))))) ?_; clear hS; rintro w hS
  replace hS := hS.n8
  refine zlv xas ?_
  refine zlt <| zsq <| zsr ?_
  refine zs2 ?_
  refine zlt ?_
  refine zcif ?_ ?_ <;> intro hc
  ·
   refine zsr ?_
   refine zlv (xls 0 st_108 hS) ?_
   refine zlv xmv ?_
   refine zle (xsw 1 st_108 hS (hd := (ones_cons rfl (ones_cons rfl (ones_cons hxB.one (ones_cons hxF.one (ones_cons hxC.one ones_nil))))))) ?_; clear hS; rintro w hS
   replace hS := hS.n8
   refine zlv xas ?_
   refine zlt <| zrt <| ztr <| zbr <| ztr <| ztr <| zbr <| zfct 1 st_108 hS ⟨_, rfl, ?_⟩
   exact ⟨xB, xF, xC, xv, u, _, rfl, hrun _ _ (by rw [show (1000 - n).toNat = (1000 - (n + 1)).toNat + 1 by omega]; exact .bad hn0 hpvk1 (by omega)), hxB, hxF, hxC, hS.pk [2]⟩
  refine zsk <| ztn <| zrg ?_
  refine zlv (xls 7 st_108 hS) ?_
  refine zle (xsw 0 st_108 hS (hd := (ones_cons rfl (ones_cons rfl (ones_cons hsBk1.one (ones_cons hsFk1.one (ones_cons hsCk1.one ones_nil))))))) ?_; clear hS; rintro w hS
  replace hS := hS.n8
  refine zln <| zbn <| ztn <| zrg ?_
  refine zlv xmv ?_
  replace hS := hS.sub (.cons_cons _ (.cons_cons _ (.cons _ (.cons_cons _ (.cons_cons _ (.cons_cons _ (.cons_cons _ (.cons _ .slnil))))))))
  replace hS := hS.n6
  replace hS := Sat.altR (tk1 = t ∧ vBk1 = vB ∧ vFk1 = vF ∧ vCk1 = vC ∧ vvk1 = vv) (l1 := [.blk g1 [.int .i64 tk1.vars, .int .i64 tk1.den, vBk1, vFk1, vCk1], .blk g2 [.int .i64 0, .int .i64 0, .slice none 0 0, .slice none 0 0, .slice none 0 0]]) (l2 := []) (Sat.bundle (l1 := [.blk g1 [.int .i64 tk1.vars, .int .i64 tk1.den, vBk1, vFk1, vCk1], .blk g2 [.int .i64 0, .int .i64 0, .slice none 0 0, .slice none 0 0, .slice none 0 0]]) (l2 := [.own vBk1 1 3 tk1.nb (ints tk1.B), .own vFk1 1 3 tk1.nf (ints tk1.F), .own vCk1 1 22 tk1.nc vvk1, .sem (Frame.rows 3 tk1.nc vvk1 tk1.ln tk1.C)]) hS)
  replace hS := hS.n3
  refine zlv (xadd (r := n + 1)) ?_
  refine zlv xas ?_
  refine zln <| zlq ⟨tk1, vBk1, vFk1, vCk1, vvk1, n + 1, rfl, (by omega), (by omega), ?_, ?_, ?_, ?_, rfl, hS.sub (List.Sublist.refl _)⟩
  ·
   exact hsBk1
  ·
   exact hsFk1
  ·
   exact hsCk1
  ·
   intro z e hz; have he0 : ek1 = 0 := (by omega); rw [he0] at hpvk1; exact hrun z e (by rw [show (1000 - n).toNat = (1000 - (n + 1)).toNat + 1 by omega]; exact .go hn0 hpvk1 hz)

set_option maxRecDepth 20000 in
theorem c_solve {vc vA vb : Value} {vq : Int → Value} {p : Lp} (w0 : World) (hL : LAt w0 vc vA vb vq p) :
    Calls Try.prog 39 [.agg #[vc, vA, vb]].toArray w0 fun e w => ∃ v, e = .returned v ∧ ∃ vX vY s e, v = .tuple #[.agg #[vX, vY, .int .i64 s.val, .int .i64 s.den], .int .i64 e] ∧ SolveR p s e ∧ Slh vX s.n ∧ Slh vY s.m ∧ Sat w0 w [.own vX 1 3 s.n (ints s.X), .own vY 1 3 s.m (ints s.Y)] := by
  have hn := hL.c.slh.n0; have hn1 := hL.c.slh.n1; have hm := hL.A.row.slh.n0; have hm1 := hL.A.row.slh.n1; have hk := hL.b.slh.n0; have hk1 := hL.b.slh.n1
  refine zenG Try.func39 Try.ntmps39 fun w hS => ?_
  refine zsr ?_
  refine zla (xbx (cs := [_, _, _]) hS) ?_; rintro _ w ⟨g1, rfl, hS⟩
  replace hS := hS.n1
  refine zla (xal (cs := [_, _, _, _]) el_36 hS) ?_; rintro _ w ⟨g2, rfl, hS⟩
  replace hS := hS.n2
  refine zlv xas ?_
  refine zlz ?_
  refine zlv (xls 0 st_82 hS) ?_
  refine zlc (xc0 cl_71) (c_start (p := p) w (hL.below hS.below)) ?_; rintro _ w ⟨vBk1, vFk1, vCk1, vvk1, tk1, ek1, rfl, hstk1, hsBk1, hsFk1, hsCk1, hS'⟩
  replace hS : Sat w0 w [.blk g1 [vc, vA, vb], .blk g2 [.slice none 0 0, .slice none 0 0, .int .i64 0, .int .i64 0], .own vBk1 1 3 tk1.nb (ints tk1.B), .own vFk1 1 3 tk1.nf (ints tk1.F), .own vCk1 1 22 tk1.nc vvk1, .sem (Frame.rows 3 tk1.nc vvk1 tk1.ln tk1.C)] := hS.comp hS'; clear hS'
  have hrsk1 := fun k (k0 : 0 ≤ k) (k1 : k < tk1.nc) => hS.slhIn 5 rfl k0 k1
  refine zs3 ?_
  refine zla (xal (cs := [_, _, _, _, _]) el_108 hS) ?_; rintro _ w ⟨g3, rfl, hS⟩
  replace hS := hS.n7
  refine zle (xsw 6 st_108 hS (hd := (ones_cons rfl (ones_cons rfl (ones_cons hsBk1.one (ones_cons hsFk1.one (ones_cons hsCk1.one ones_nil))))))) ?_; clear hS; rintro w hS
  replace hS := hS.n7
  refine zlv xas ?_
  refine zlt <| zsq <| zsr ?_
  refine zs2 ?_
  refine zlt ?_
  refine zcif ?_ ?_ <;> intro hc
  ·
   refine zsr ?_
   refine zlv (xany (v := .agg #[.slice none 0 0, .slice none 0 0, .int .i64 0, .int .i64 0])) ?_
   refine zlv xmv ?_
   refine zle (xsw 1 st_36 hS) ?_; clear hS; rintro w hS
   replace hS := hS.n7
   refine zlv xas ?_
   refine zlt <| zrt <| ztr <| zfct 1 st_36 hS ⟨_, rfl, ?_⟩
   obtain ⟨hl0, hl1⟩ := hstk1.err (by omega)
   exact ⟨_, _, So.zero, _, rfl, .inl ⟨hl0, rfl, hl1⟩, slh_nil, slh_nil, ((hS.sub (.cons _ (.cons _ (.cons _ (.cons _ (.cons _ (.cons _ (.cons _ .slnil)))))))).addnil 1 3 (ints So.zero.X)).addnil 1 3 (ints So.zero.Y)⟩
  refine zsk <| ztn <| zsq <| zsr ?_
  refine zlv (xls 6 st_108 hS) ?_
  refine zlc (xc0 cl_72) (c_optimize (t := tk1) w (⟨(hS.rowN 2 rfl), (hS.rowN 3 rfl), (⟨(hS.rowN 4 rfl), fun k k0 k1 => hS.rowIn 5 rfl k0 k1, fun k k0 k1 => hS.roomIn 5 rfl k0 k1⟩ : MAt _ vCk1 tk1.nc vvk1 tk1.ln tk1.C)⟩ : TAt _ vBk1 vFk1 vCk1 vvk1 tk1)) ?_; rintro _ w ⟨xBu1, xFu1, xCu1, xvu1, uu1, euu1, rfl, hrunu1, hxBu1, hxFu1, hxCu1, hS'⟩
  replace hS : Sat w0 w [.blk g1 [vc, vA, vb], .blk g2 [.slice none 0 0, .slice none 0 0, .int .i64 0, .int .i64 0], .own vBk1 1 3 tk1.nb (ints tk1.B), .own vFk1 1 3 tk1.nf (ints tk1.F), .own vCk1 1 22 tk1.nc vvk1, .sem (Frame.rows 3 tk1.nc vvk1 tk1.ln tk1.C), .blk g3 [.int .i64 tk1.vars, .int .i64 tk1.den, vBk1, vFk1, vCk1], .sem (Frame.alt (uu1 = tk1 ∧ xBu1 = vBk1 ∧ xFu1 = vFk1 ∧ xCu1 = vCk1 ∧ xvu1 = vvk1) (Frame.bun [.own xBu1 1 3 uu1.nb (ints uu1.B), .own xFu1 1 3 uu1.nf (ints uu1.F), .own xCu1 1 22 uu1.nc xvu1, .sem (Frame.rows 3 uu1.nc xvu1 uu1.ln uu1.C)]))] := hS.comp hS'; clear hS'
  have hxru1 := fun k (k0 : 0 ≤ k) (k1 : k < uu1.nc) => ((tat_alt (⟨(hS.rowN 2 rfl), (hS.rowN 3 rfl), (⟨(hS.rowN 4 rfl), fun k k0 k1 => hS.rowIn 5 rfl k0 k1, fun k k0 k1 => hS.roomIn 5 rfl k0 k1⟩ : MAt _ vCk1 tk1.nc vvk1 tk1.ln tk1.C)⟩ : TAt _ vBk1 vFk1 vCk1 vvk1 tk1) hS 7 rfl).C.p k k0 k1).slh
  refine zs3 ?_
  refine zle (xsw 6 st_108 hS (hd := (ones_cons rfl (ones_cons rfl (ones_cons hxBu1.one (ones_cons hxFu1.one (ones_cons hxCu1.one ones_nil))))))) ?_; clear hS; rintro w hS
  replace hS := hS.n8
  refine zlv xas ?_
  refine zlz ?_
  refine zs2 ?_
  refine zlt ?_
  refine zcif ?_ ?_ <;> intro hc
  ·
   refine zsr ?_
   refine zlv (xany (v := .agg #[.slice none 0 0, .slice none 0 0, .int .i64 0, .int .i64 0])) ?_
   refine zlv xmv ?_
   refine zle (xsw 1 st_36 hS) ?_; clear hS; rintro w hS
   replace hS := hS.n8
   refine zlv xas ?_
   refine zlt <| zrt <| ztr <| zfct 1 st_36 hS ⟨_, rfl, ?_⟩
   obtain ⟨hl, hts⟩ := hstk1.ok (by omega); rw [hts] at hrunu1
   exact ⟨_, _, So.zero, _, rfl, .inr ⟨hl, _, hrunu1, .inl ⟨by omega, rfl⟩⟩, slh_nil, slh_nil, ((hS.sub (.cons _ (.cons _ (.cons _ (.cons _ (.cons _ (.cons _ (.cons _ (.cons _ .slnil))))))))).addnil 1 3 (ints So.zero.X)).addnil 1 3 (ints So.zero.Y)⟩
  refine zsk <| ztn <| zsq <| ?_
  refine zgcut (fun M w => ∃ (v1 : Value) (v2 : Value) (g4 : Nat), (Slh v1 p.n) ∧ (Slh v2 p.m) ∧ M = [(0, .agg #[vc, vA, vb]), (1, .pointer (some ⟨g1, 0, none⟩)), (2, .pointer (some ⟨g2, 0, none⟩)), (3, .int .i64 0), (12, .agg #[vc, vA, vb]), (13, .tuple #[.agg #[.int .i64 tk1.vars, .int .i64 tk1.den, vBk1, vFk1, vCk1], .int .i64 ek1]), (11, .tuple #[.agg #[.int .i64 tk1.vars, .int .i64 tk1.den, vBk1, vFk1, vCk1], .int .i64 ek1]), (14, .agg #[.int .i64 tk1.vars, .int .i64 tk1.den, vBk1, vFk1, vCk1]), (15, .int .i64 ek1), (4, .pointer (some ⟨g3, 0, none⟩)), (5, .int .i64 euu1), (16, .int .i64 ek1), (17, B (ek1 ≠ 0)), (21, .agg #[.int .i64 tk1.vars, .int .i64 tk1.den, vBk1, vFk1, vCk1]), (22, .tuple #[.agg #[.int .i64 uu1.vars, .int .i64 uu1.den, xBu1, xFu1, xCu1], .int .i64 euu1]), (20, .tuple #[.agg #[.int .i64 uu1.vars, .int .i64 uu1.den, xBu1, xFu1, xCu1], .int .i64 euu1]), (23, .agg #[.int .i64 uu1.vars, .int .i64 uu1.den, xBu1, xFu1, xCu1]), (24, .int .i64 euu1), (25, .int .i64 euu1), (26, B (euu1 ≠ 0)), (29, .pointer (some ⟨g1, 0, none⟩)), (30, vc), (31, .int .i64 p.n), (33, .pointer (some ⟨g1, 1, none⟩)), (34, vA), (35, .int .i64 p.m), (37, .pointer (some ⟨g3, 4, none⟩)), (38, xCu1), (39, .pointer (some (cad xCu1 0))), (40, (xvu1 0)), (41, .pointer (some (cad (xvu1 0) 0))), (42, .int .i64 (uu1.C 0 0)), (43, .pointer (some ⟨g3, 1, none⟩)), (44, .int .i64 uu1.den), (32, v1), (36, v2), (45, .agg #[v1, v2, .int .i64 (uu1.C 0 0), .int .i64 uu1.den]), (6, .pointer (some ⟨g4, 0, none⟩))] ∧ Sat w0 w [.blk g1 [vc, vA, vb], .blk g2 [.slice none 0 0, .slice none 0 0, .int .i64 0, .int .i64 0], .own vBk1 1 3 tk1.nb (ints tk1.B), .own vFk1 1 3 tk1.nf (ints tk1.F), .own vCk1 1 22 tk1.nc vvk1, .sem (Frame.rows 3 tk1.nc vvk1 tk1.ln tk1.C), .blk g3 [.int .i64 uu1.vars, .int .i64 uu1.den, xBu1, xFu1, xCu1], .sem (Frame.alt (uu1 = tk1 ∧ xBu1 = vBk1 ∧ xFu1 = vFk1 ∧ xCu1 = vCk1 ∧ xvu1 = vvk1) (Frame.bun [.own xBu1 1 3 uu1.nb (ints uu1.B), .own xFu1 1 3 uu1.nf (ints uu1.F), .own xCu1 1 22 uu1.nc xvu1, .sem (Frame.rows 3 uu1.nc xvu1 uu1.ln uu1.C)])), .own v1 1 3 p.n (ints (fun _ => 0)), .own v2 1 3 p.m (ints (fun _ => 0)), .blk g4 [v1, v2, .int .i64 (uu1.C 0 0), .int .i64 uu1.den]]) ?_ ?_
  ·
   refine zdst [0, 1, 2, 3, 4, 5, 6, 7] [0, 1, 2, 3, 4, 5, 6, 7] 18 mx_ hS ?_; clear hS; intro w hS
   refine zdv 0 (fun _ => (xfb 0 fd_82_0)) ?_
   obtain ⟨hl, hts⟩ := hstk1.ok (by omega)
   have b1 := hl.n1
   have b2 := hl.n2
   have b3 := hl.m2
   have b4 := hl.k
   have hdm := hrunu1.dims
   obtain ⟨hp, hco, hlv, _⟩ := hrunu1.fin (.inl (by omega))
   have hd1 : uu1.nb = p.m := by rw [hdm.1, hts]; rfl
   have hd2 : uu1.nf = p.n := by rw [hdm.2.1, hts]; rfl
   have hd3 : uu1.vars = p.n := by rw [hdm.2.2.2, hts]; rfl
   have hd4 := hp.c; have hl0 := hp.len (i := 0) (by omega) (by omega)
   refine zdla 1 (fun w hS => (xlb 0 pl_22 hS)) ?_
   refine zdv 2 (fun _ => (xln sl_22 hL.c.slh)) ?_
   refine zdv 4 (fun _ => (xfb 1 fd_82_1)) ?_
   refine zdla 5 (fun w hS => (xlb 0 pl_32 hS)) ?_
   refine zdv 6 (fun _ => (xln sl_32 hL.A.row.slh)) ?_
   refine zdv 8 (fun _ => (xfb 4 fd_108_4)) ?_
   refine zdla 9 (fun w hS => (xlb 6 pl_32 hS)) ?_
   refine zdv 10 (fun _ => (xix (kk := 0) sl_32 hxCu1)) ?_
   refine zdla 11 (fun w hS => (xlr (u := (xvu1 0)) pl_22 (tat_alt (⟨(hS.rowN 2 rfl), (hS.rowN 3 rfl), (⟨(hS.rowN 4 rfl), fun k k0 k1 => hS.rowIn 5 rfl k0 k1, fun k k0 k1 => hS.roomIn 5 rfl k0 k1⟩ : MAt _ vCk1 tk1.nc vvk1 tk1.ln tk1.C)⟩ : TAt _ vBk1 vFk1 vCk1 vvk1 tk1) hS 7 rfl).C.row)) ?_
   refine zdv 12 (fun _ => (xix (kk := 0) sl_22 (hxru1 0 (by omega) (by omega)))) ?_
   refine zdla 13 (fun w hS => (xlr (u := .int .i64 (uu1.C 0 0)) pl_3 ((tat_alt (⟨(hS.rowN 2 rfl), (hS.rowN 3 rfl), (⟨(hS.rowN 4 rfl), fun k k0 k1 => hS.rowIn 5 rfl k0 k1, fun k k0 k1 => hS.roomIn 5 rfl k0 k1⟩ : MAt _ vCk1 tk1.nc vvk1 tk1.ln tk1.C)⟩ : TAt _ vBk1 vFk1 vCk1 vvk1 tk1) hS 7 rfl).C.p 0 (by omega) (by omega)))) ?_
   refine zdv 14 (fun _ => (xfb 1 fd_108_1)) ?_
   refine zdla 15 (fun w hS => (xlb 6 pl_3 hS)) ?_
   refine zdfk (r := [3, 7, 17]) ((zdn1 ?_ (zdn1 ?_ (zdn1 ?_ zdn0))))
   ·
    refine zka (xmk sl_22 el_3 hS) ?_; rintro v1 w ⟨hS, hv1⟩
    replace hS := hS.n9
    refine ⟨⟨fun _ => hS.pk [0, 1, 2, 3, 4, 5, 6, 7], hS.pk [0, 1, 2, 3, 4, 5, 6, 7]⟩, ?_⟩
    refine zdfk (r := [7, 17]) ((zdn1 ?_ (zdn1 ?_ zdn0)))
    ·
     refine zka (xmk sl_22 el_3 hS) ?_; rintro v2 w ⟨hS, hv2⟩
     replace hS := hS.n10
     refine ⟨⟨fun _ => hS.pk [0, 1, 2, 3, 4, 5, 6, 7], hS.pk [0, 1, 2, 3, 4, 5, 6, 7]⟩, ?_⟩
     refine zdv 16 (fun _ => (xany (v := .agg #[v1, v2, .int .i64 (uu1.C 0 0), .int .i64 uu1.den]) (hr := by obtain ⟨_, _, _, _, rfl, _⟩ := hv1; obtain ⟨_, _, _, _, rfl, _⟩ := hv2; kernel_rfl))) ?_
     refine zda 17 (xal (cs := [_, _, _, _]) el_36 hS) ?_; rintro _ w ⟨g4, rfl, hS⟩
     replace hS := hS.n11
     refine ⟨⟨fun _ => hS.pk [0, 1, 2, 3, 4, 5, 6, 7], hS.pk [0, 1, 2, 3, 4, 5, 6, 7]⟩, ?_⟩
     refine zde 18 (xsw 10 st_36 hS (hd := (ones_cons hv1.one (ones_cons hv2.one (ones_cons rfl (ones_cons rfl ones_nil)))))) ?_; clear hS; rintro w hS
     replace hS := hS.n11
     refine ⟨⟨fun h => absurd h (by decide), hS.pk [0, 1, 2, 3, 4, 5, 6, 7]⟩, ?_⟩
     refine zdd <| zgj ⟨v1, v2, g4, hv1, hv2, rfl, hS⟩
    refine zka (xal (cs := [_, _, _, _]) el_36 hS) ?_; rintro _ w ⟨g4, rfl, hS⟩
    replace hS := hS.n10
    refine ⟨⟨fun _ => hS.pk [0, 1, 2, 3, 4, 5, 6, 7], hS.pk [0, 1, 2, 3, 4, 5, 6, 7]⟩, ?_⟩
    refine zda 7 (xmk sl_22 el_3 hS) ?_; rintro v2 w ⟨hS, hv2⟩
    replace hS := hS.n11
    refine ⟨⟨fun _ => hS.pk [0, 1, 2, 3, 4, 5, 6, 7], hS.pk [0, 1, 2, 3, 4, 5, 6, 7]⟩, ?_⟩
    refine zdv 16 (fun _ => (xany (v := .agg #[v1, v2, .int .i64 (uu1.C 0 0), .int .i64 uu1.den]) (hr := by obtain ⟨_, _, _, _, rfl, _⟩ := hv1; obtain ⟨_, _, _, _, rfl, _⟩ := hv2; kernel_rfl))) ?_
    refine zde 18 (xsw 9 st_36 hS (hd := (ones_cons hv1.one (ones_cons hv2.one (ones_cons rfl (ones_cons rfl ones_nil)))))) ?_; clear hS; rintro w hS
    replace hS := hS.n11
    refine ⟨⟨fun h => absurd h (by decide), hS.pk [0, 1, 2, 3, 4, 5, 6, 7]⟩, ?_⟩
    refine zdd <| zgj ⟨v1, v2, g4, hv1, hv2, rfl, hS.pk [0, 1, 2, 3, 4, 5, 6, 7, 8, 10, 9]⟩
   ·
    refine zka (xmk sl_22 el_3 hS) ?_; rintro v1 w ⟨hS, hv1⟩
    replace hS := hS.n9
    refine ⟨⟨fun _ => hS.pk [0, 1, 2, 3, 4, 5, 6, 7], hS.pk [0, 1, 2, 3, 4, 5, 6, 7]⟩, ?_⟩
    refine zdfk (r := [3, 17]) ((zdn1 ?_ (zdn1 ?_ zdn0)))
    ·
     refine zka (xmk sl_22 el_3 hS) ?_; rintro v2 w ⟨hS, hv2⟩
     replace hS := hS.n10
     refine ⟨⟨fun _ => hS.pk [0, 1, 2, 3, 4, 5, 6, 7], hS.pk [0, 1, 2, 3, 4, 5, 6, 7]⟩, ?_⟩
     refine zdv 16 (fun _ => (xany (v := .agg #[v2, v1, .int .i64 (uu1.C 0 0), .int .i64 uu1.den]) (hr := by obtain ⟨_, _, _, _, rfl, _⟩ := hv2; obtain ⟨_, _, _, _, rfl, _⟩ := hv1; kernel_rfl))) ?_
     refine zda 17 (xal (cs := [_, _, _, _]) el_36 hS) ?_; rintro _ w ⟨g4, rfl, hS⟩
     replace hS := hS.n11
     refine ⟨⟨fun _ => hS.pk [0, 1, 2, 3, 4, 5, 6, 7], hS.pk [0, 1, 2, 3, 4, 5, 6, 7]⟩, ?_⟩
     refine zde 18 (xsw 10 st_36 hS (hd := (ones_cons hv2.one (ones_cons hv1.one (ones_cons rfl (ones_cons rfl ones_nil)))))) ?_; clear hS; rintro w hS
     replace hS := hS.n11
     refine ⟨⟨fun h => absurd h (by decide), hS.pk [0, 1, 2, 3, 4, 5, 6, 7]⟩, ?_⟩
     refine zdd <| zgj ⟨v2, v1, g4, hv2, hv1, rfl, hS.pk [0, 1, 2, 3, 4, 5, 6, 7, 9, 8, 10]⟩
    refine zka (xal (cs := [_, _, _, _]) el_36 hS) ?_; rintro _ w ⟨g4, rfl, hS⟩
    replace hS := hS.n10
    refine ⟨⟨fun _ => hS.pk [0, 1, 2, 3, 4, 5, 6, 7], hS.pk [0, 1, 2, 3, 4, 5, 6, 7]⟩, ?_⟩
    refine zda 3 (xmk sl_22 el_3 hS) ?_; rintro v2 w ⟨hS, hv2⟩
    replace hS := hS.n11
    refine ⟨⟨fun _ => hS.pk [0, 1, 2, 3, 4, 5, 6, 7], hS.pk [0, 1, 2, 3, 4, 5, 6, 7]⟩, ?_⟩
    refine zdv 16 (fun _ => (xany (v := .agg #[v2, v1, .int .i64 (uu1.C 0 0), .int .i64 uu1.den]) (hr := by obtain ⟨_, _, _, _, rfl, _⟩ := hv2; obtain ⟨_, _, _, _, rfl, _⟩ := hv1; kernel_rfl))) ?_
    refine zde 18 (xsw 9 st_36 hS (hd := (ones_cons hv2.one (ones_cons hv1.one (ones_cons rfl (ones_cons rfl ones_nil)))))) ?_; clear hS; rintro w hS
    replace hS := hS.n11
    refine ⟨⟨fun h => absurd h (by decide), hS.pk [0, 1, 2, 3, 4, 5, 6, 7]⟩, ?_⟩
    refine zdd <| zgj ⟨v2, v1, g4, hv2, hv1, rfl, hS.pk [0, 1, 2, 3, 4, 5, 6, 7, 10, 8, 9]⟩
   refine zka (xal (cs := [_, _, _, _]) el_36 hS) ?_; rintro _ w ⟨g4, rfl, hS⟩
   replace hS := hS.n9
   refine ⟨⟨fun _ => hS.pk [0, 1, 2, 3, 4, 5, 6, 7], hS.pk [0, 1, 2, 3, 4, 5, 6, 7]⟩, ?_⟩
   refine zdfk (r := [3, 7]) ((zdn1 ?_ (zdn1 ?_ zdn0)))
   ·
    refine zka (xmk sl_22 el_3 hS) ?_; rintro v1 w ⟨hS, hv1⟩
    replace hS := hS.n10
    refine ⟨⟨fun _ => hS.pk [0, 1, 2, 3, 4, 5, 6, 7], hS.pk [0, 1, 2, 3, 4, 5, 6, 7]⟩, ?_⟩
    refine zda 7 (xmk sl_22 el_3 hS) ?_; rintro v2 w ⟨hS, hv2⟩
    replace hS := hS.n11
    refine ⟨⟨fun _ => hS.pk [0, 1, 2, 3, 4, 5, 6, 7], hS.pk [0, 1, 2, 3, 4, 5, 6, 7]⟩, ?_⟩
    refine zdv 16 (fun _ => (xany (v := .agg #[v1, v2, .int .i64 (uu1.C 0 0), .int .i64 uu1.den]) (hr := by obtain ⟨_, _, _, _, rfl, _⟩ := hv1; obtain ⟨_, _, _, _, rfl, _⟩ := hv2; kernel_rfl))) ?_
    refine zde 18 (xsw 8 st_36 hS (hd := (ones_cons hv1.one (ones_cons hv2.one (ones_cons rfl (ones_cons rfl ones_nil)))))) ?_; clear hS; rintro w hS
    replace hS := hS.n11
    refine ⟨⟨fun h => absurd h (by decide), hS.pk [0, 1, 2, 3, 4, 5, 6, 7]⟩, ?_⟩
    refine zdd <| zgj ⟨v1, v2, g4, hv1, hv2, rfl, hS.pk [0, 1, 2, 3, 4, 5, 6, 7, 9, 10, 8]⟩
   refine zka (xmk sl_22 el_3 hS) ?_; rintro v1 w ⟨hS, hv1⟩
   replace hS := hS.n10
   refine ⟨⟨fun _ => hS.pk [0, 1, 2, 3, 4, 5, 6, 7], hS.pk [0, 1, 2, 3, 4, 5, 6, 7]⟩, ?_⟩
   refine zda 3 (xmk sl_22 el_3 hS) ?_; rintro v2 w ⟨hS, hv2⟩
   replace hS := hS.n11
   refine ⟨⟨fun _ => hS.pk [0, 1, 2, 3, 4, 5, 6, 7], hS.pk [0, 1, 2, 3, 4, 5, 6, 7]⟩, ?_⟩
   refine zdv 16 (fun _ => (xany (v := .agg #[v2, v1, .int .i64 (uu1.C 0 0), .int .i64 uu1.den]) (hr := by obtain ⟨_, _, _, _, rfl, _⟩ := hv2; obtain ⟨_, _, _, _, rfl, _⟩ := hv1; kernel_rfl))) ?_
   refine zde 18 (xsw 8 st_36 hS (hd := (ones_cons hv2.one (ones_cons hv1.one (ones_cons rfl (ones_cons rfl ones_nil)))))) ?_; clear hS; rintro w hS
   replace hS := hS.n11
   refine ⟨⟨fun h => absurd h (by decide), hS.pk [0, 1, 2, 3, 4, 5, 6, 7]⟩, ?_⟩
   refine zdd <| zgj ⟨v2, v1, g4, hv2, hv1, rfl, hS.pk [0, 1, 2, 3, 4, 5, 6, 7, 10, 9, 8]⟩
  clear hS w; rintro M w ⟨v1, v2, g4, hv1, hv2, rfl, hS⟩
  refine ztn <| zsq <| zsr ?_
  refine zlv (xfb 2 fd_108_2) ?_
  obtain ⟨hl, hts⟩ := hstk1.ok (by omega)
  have b1 := hl.n1
  have b2 := hl.n2
  have b3 := hl.m2
  have b4 := hl.k
  have hdm := hrunu1.dims
  obtain ⟨hp, hco, hlv, _⟩ := hrunu1.fin (.inl (by omega))
  have hd1 : uu1.nb = p.m := by rw [hdm.1, hts]; rfl
  have hd2 : uu1.nf = p.n := by rw [hdm.2.1, hts]; rfl
  have hd3 : uu1.vars = p.n := by rw [hdm.2.2.2, hts]; rfl
  have hd4 := hp.c; have hl0 := hp.len (i := 0) (by omega) (by omega)
  refine zlv (xlb 6 pl_22 hS) ?_
  refine zlv (xln sl_22 hxBu1) ?_
  refine zlv xmv ?_
  refine zlt <| zbk <| zlp (fun mm M w => ∃ (i : Int) (fX : Int → Int), mm = ((uu1.nb - i).toNat) ∧ (0 ≤ i) ∧ (i ≤ uu1.nb) ∧ (fX = rdX uu1 i.toNat) ∧ M = [(2, .pointer (some ⟨g2, 0, none⟩)), (3, .int .i64 0), (4, .pointer (some ⟨g3, 0, none⟩)), (6, .pointer (some ⟨g4, 0, none⟩)), (47, xBu1), (48, .int .i64 uu1.nb), (49, .int .i64 i)] ∧ Sat w0 w [.blk g1 [vc, vA, vb], .blk g2 [.slice none 0 0, .slice none 0 0, .int .i64 0, .int .i64 0], .own vBk1 1 3 tk1.nb (ints tk1.B), .own vFk1 1 3 tk1.nf (ints tk1.F), .own vCk1 1 22 tk1.nc vvk1, .sem (Frame.rows 3 tk1.nc vvk1 tk1.ln tk1.C), .blk g3 [.int .i64 uu1.vars, .int .i64 uu1.den, xBu1, xFu1, xCu1], .sem (Frame.alt (uu1 = tk1 ∧ xBu1 = vBk1 ∧ xFu1 = vFk1 ∧ xCu1 = vCk1 ∧ xvu1 = vvk1) (Frame.bun [.own xBu1 1 3 uu1.nb (ints uu1.B), .own xFu1 1 3 uu1.nf (ints uu1.F), .own xCu1 1 22 uu1.nc xvu1, .sem (Frame.rows 3 uu1.nc xvu1 uu1.ln uu1.C)])), .own v1 1 3 p.n (ints fX), .own v2 1 3 p.m (ints (fun _ => 0)), .blk g4 [v1, v2, .int .i64 (uu1.C 0 0), .int .i64 uu1.den]]) ⟨0, (fun _ => 0), rfl, (by omega), (by omega), ?_, rfl, hS⟩ ?_
  ·
   rfl
  clear hS w
  rintro mm M w ⟨i, fX, rfl, h0, h1, hfX, rfl, hS⟩
  refine zsr ?_
  refine zlv xlss ?_
  refine zlt <| zsq ?_
  refine zcif ?_ ?_ <;> intro hc
  ·
   refine zsk <| ztn <| zsq <| zbk <| zsr ?_
   refine zlv xmv ?_
   refine zlv (xix (kk := i) sl_22 hxBu1) ?_
   refine zlv (xlr (u := .int .i64 (uu1.B i)) pl_3 (tat_alt (⟨(hS.rowN 2 rfl), (hS.rowN 3 rfl), (⟨(hS.rowN 4 rfl), fun k k0 k1 => hS.rowIn 5 rfl k0 k1, fun k k0 k1 => hS.roomIn 5 rfl k0 k1⟩ : MAt _ vCk1 tk1.nc vvk1 tk1.ln tk1.C)⟩ : TAt _ vBk1 vFk1 vCk1 vvk1 tk1) hS 7 rfl).B) ?_
   have hrg := hp.rngB (i := i) h0 (by omega)
   refine zs2 ?_
   refine zlz ?_
   refine zlv xmv ?_
   refine zlv (xfb 0 fd_108_0) ?_
   refine zlv (xlb 6 pl_3 hS) ?_
   refine zlv xlss ?_
   refine zlt ?_
   refine zcif ?_ ?_ <;> intro hc
   ·
    refine zdst [0, 1, 2, 3, 4, 5, 6, 7, 8, 9, 10] [0, 1, 2, 3, 4, 5, 6, 7, 9, 10] 12 mx_ hS ?_; clear hS; intro w hS
    refine zdv 0 (fun _ => (xfb 0 fd_36_0)) ?_
    have hli := hp.len (i := i + 1) (by omega) (by omega)
    refine zdla 1 (fun w hS => (xlb 9 pl_22 hS)) ?_
    refine zdv 2 (fun _ => xmv) ?_
    refine zdv 3 (fun _ => (xfb 4 fd_108_4)) ?_
    refine zdla 4 (fun w hS => (xlb 6 pl_32 hS)) ?_
    refine zdv 5 (fun _ => xmv) ?_
    refine zdv 6 (fun _ => (xadd (r := i + 1))) ?_
    refine zdv 7 (fun _ => (xix (kk := i + 1) sl_32 hxCu1)) ?_
    refine zdla 8 (fun w hS => (xlr (u := (xvu1 (i + 1))) pl_22 (tat_alt (⟨(hS.rowN 2 rfl), (hS.rowN 3 rfl), (⟨(hS.rowN 4 rfl), fun k k0 k1 => hS.rowIn 5 rfl k0 k1, fun k k0 k1 => hS.roomIn 5 rfl k0 k1⟩ : MAt _ vCk1 tk1.nc vvk1 tk1.ln tk1.C)⟩ : TAt _ vBk1 vFk1 vCk1 vvk1 tk1) hS 7 rfl).C.row)) ?_
    refine zdv 9 (fun _ => (xix (kk := 0) sl_22 (hxru1 (i + 1) (by omega) (by omega)))) ?_
    refine zdla 10 (fun w hS => (xlr (u := .int .i64 (uu1.C (i + 1) 0)) pl_3 ((tat_alt (⟨(hS.rowN 2 rfl), (hS.rowN 3 rfl), (⟨(hS.rowN 4 rfl), fun k k0 k1 => hS.rowIn 5 rfl k0 k1, fun k k0 k1 => hS.roomIn 5 rfl k0 k1⟩ : MAt _ vCk1 tk1.nc vvk1 tk1.ln tk1.C)⟩ : TAt _ vBk1 vFk1 vCk1 vvk1 tk1) hS 7 rfl).C.p (i + 1) (by omega) (by omega)))) ?_
    refine zdv 11 (fun _ => (xix (kk := (uu1.B i)) sl_22 hv1)) ?_
    refine zde 12 (xso 8 pl_3 hS (upd_ints _ _ _)) ?_; clear hS; rintro w hS
    replace hS := hS.n11
    refine ⟨⟨fun h => absurd h (by decide), hS.pk [0, 1, 2, 3, 4, 5, 6, 7, 9, 10]⟩, ?_⟩
    refine zdd <| zbn <| ztn <| zrg ?_
    refine zlv (xadd (r := i + 1)) ?_
    refine zlv xmv ?_
    refine zln <| zlq ⟨i + 1, (upd fX (uu1.B i) (uu1.C (i + 1) 0)), rfl, (by omega), (by omega), ?_, rfl, hS⟩
    ·
     rw [rdX_next uu1 h0, ← hfX]; first | rw [if_pos (by omega)] | rw [if_neg (by omega)]
   refine zsk <| zbn <| ztn <| zrg ?_
   refine zlv (xadd (r := i + 1)) ?_
   refine zlv xmv ?_
   refine zln <| zlq ⟨i + 1, fX, rfl, (by omega), (by omega), ?_, rfl, hS⟩
   ·
    rw [rdX_next uu1 h0, ← hfX]; first | rw [if_pos (by omega)] | rw [if_neg (by omega)]
  refine zxt <| ztx <| ztx <| zbh <| ztn <| zsq <| zsr ?_
  refine zlv (xfb 3 fd_108_3) ?_
  refine zlv (xlb 6 pl_22 hS) ?_
  refine zlv (xln sl_22 hxFu1) ?_
  refine zlv xmv ?_
  refine zlt <| zbk <| zlp (fun mm M w => ∃ (j : Int) (fY : Int → Int), mm = ((uu1.nf - j).toNat) ∧ (0 ≤ j) ∧ (j ≤ uu1.nf) ∧ (fY = rdY uu1 j.toNat) ∧ M = [(2, .pointer (some ⟨g2, 0, none⟩)), (3, .int .i64 0), (4, .pointer (some ⟨g3, 0, none⟩)), (6, .pointer (some ⟨g4, 0, none⟩)), (72, xFu1), (73, .int .i64 uu1.nf), (74, .int .i64 j)] ∧ Sat w0 w [.blk g1 [vc, vA, vb], .blk g2 [.slice none 0 0, .slice none 0 0, .int .i64 0, .int .i64 0], .own vBk1 1 3 tk1.nb (ints tk1.B), .own vFk1 1 3 tk1.nf (ints tk1.F), .own vCk1 1 22 tk1.nc vvk1, .sem (Frame.rows 3 tk1.nc vvk1 tk1.ln tk1.C), .blk g3 [.int .i64 uu1.vars, .int .i64 uu1.den, xBu1, xFu1, xCu1], .sem (Frame.alt (uu1 = tk1 ∧ xBu1 = vBk1 ∧ xFu1 = vFk1 ∧ xCu1 = vCk1 ∧ xvu1 = vvk1) (Frame.bun [.own xBu1 1 3 uu1.nb (ints uu1.B), .own xFu1 1 3 uu1.nf (ints uu1.F), .own xCu1 1 22 uu1.nc xvu1, .sem (Frame.rows 3 uu1.nc xvu1 uu1.ln uu1.C)])), .own v1 1 3 p.n (ints fX), .own v2 1 3 p.m (ints fY), .blk g4 [v1, v2, .int .i64 (uu1.C 0 0), .int .i64 uu1.den]]) ⟨0, (fun _ => 0), rfl, (by omega), (by omega), ?_, rfl, hS⟩ ?_
  ·
   rfl
  clear hS w
  rintro mm M w ⟨j, fY, rfl, j0, j1, hfY, rfl, hS⟩
  refine zsr ?_
  refine zlv xlss ?_
  refine zlt <| zsq ?_
  refine zcif ?_ ?_ <;> intro hc
  ·
   refine zsk <| ztn <| zsq <| zbk <| zsr ?_
   refine zlv xmv ?_
   refine zlv (xix (kk := j) sl_22 hxFu1) ?_
   refine zlv (xlr (u := .int .i64 (uu1.F j)) pl_3 (tat_alt (⟨(hS.rowN 2 rfl), (hS.rowN 3 rfl), (⟨(hS.rowN 4 rfl), fun k k0 k1 => hS.rowIn 5 rfl k0 k1, fun k k0 k1 => hS.roomIn 5 rfl k0 k1⟩ : MAt _ vCk1 tk1.nc vvk1 tk1.ln tk1.C)⟩ : TAt _ vBk1 vFk1 vCk1 vvk1 tk1) hS 7 rfl).F) ?_
   have hrg := hp.rngF (i := j) j0 (by omega) (by omega)
   refine zs2 ?_
   refine zlz ?_
   refine zlv xmv ?_
   refine zlv (xfb 0 fd_108_0) ?_
   refine zlv (xlb 6 pl_3 hS) ?_
   refine zlv xgeq ?_
   refine zlt ?_
   refine zcif ?_ ?_ <;> intro hc
   ·
    refine zdst [0, 1, 2, 3, 4, 5, 6, 7, 8, 9, 10] [0, 1, 2, 3, 4, 5, 6, 7, 8, 10] 15 mx_ hS ?_; clear hS; intro w hS
    refine zdv 0 (fun _ => (xfb 1 fd_36_1)) ?_
    refine zdla 1 (fun w hS => (xlb 9 pl_22 hS)) ?_
    refine zdv 2 (fun _ => xmv) ?_
    refine zdv 3 (fun _ => (xfb 0 fd_108_0)) ?_
    refine zdla 4 (fun w hS => (xlb 6 pl_3 hS)) ?_
    refine zdv 5 (fun _ => (xsub (r := (uu1.F j) - uu1.vars))) ?_
    refine zdv 6 (fun _ => (xfb 4 fd_108_4)) ?_
    refine zdla 7 (fun w hS => (xlb 6 pl_32 hS)) ?_
    refine zdv 8 (fun _ => (xix (kk := 0) sl_32 hxCu1)) ?_
    refine zdla 9 (fun w hS => (xlr (u := (xvu1 0)) pl_22 (tat_alt (⟨(hS.rowN 2 rfl), (hS.rowN 3 rfl), (⟨(hS.rowN 4 rfl), fun k k0 k1 => hS.rowIn 5 rfl k0 k1, fun k k0 k1 => hS.roomIn 5 rfl k0 k1⟩ : MAt _ vCk1 tk1.nc vvk1 tk1.ln tk1.C)⟩ : TAt _ vBk1 vFk1 vCk1 vvk1 tk1) hS 7 rfl).C.row)) ?_
    refine zdv 10 (fun _ => xmv) ?_
    refine zdv 11 (fun _ => (xadd (r := j + 1))) ?_
    refine zdv 12 (fun _ => (xix (kk := j + 1) sl_22 (hxru1 0 (by omega) (by omega)))) ?_
    refine zdla 13 (fun w hS => (xlr (u := .int .i64 (uu1.C 0 (j + 1))) pl_3 ((tat_alt (⟨(hS.rowN 2 rfl), (hS.rowN 3 rfl), (⟨(hS.rowN 4 rfl), fun k k0 k1 => hS.rowIn 5 rfl k0 k1, fun k k0 k1 => hS.roomIn 5 rfl k0 k1⟩ : MAt _ vCk1 tk1.nc vvk1 tk1.ln tk1.C)⟩ : TAt _ vBk1 vFk1 vCk1 vvk1 tk1) hS 7 rfl).C.p 0 (by omega) (by omega)))) ?_
    refine zdv 14 (fun _ => (xix (kk := (uu1.F j) - uu1.vars) sl_22 hv2)) ?_
    refine zde 15 (xso 9 pl_3 hS (upd_ints _ _ _)) ?_; clear hS; rintro w hS
    replace hS := hS.n11
    refine ⟨⟨fun h => absurd h (by decide), hS.pk [0, 1, 2, 3, 4, 5, 6, 7, 8, 10]⟩, ?_⟩
    refine zdd <| zbn <| ztn <| zrg ?_
    refine zlv (xadd (r := j + 1)) ?_
    refine zlv xmv ?_
    refine zln <| zlq ⟨j + 1, (upd fY ((uu1.F j) - uu1.vars) (uu1.C 0 (j + 1))), rfl, (by omega), (by omega), ?_, rfl, hS⟩
    ·
     rw [rdY_next uu1 j0, ← hfY]; first | rw [if_pos (by omega)] | rw [if_neg (by omega)]
   refine zsk <| zbn <| ztn <| zrg ?_
   refine zlv (xadd (r := j + 1)) ?_
   refine zlv xmv ?_
   refine zln <| zlq ⟨j + 1, fY, rfl, (by omega), (by omega), ?_, rfl, hS⟩
   ·
    rw [rdY_next uu1 j0, ← hfY]; first | rw [if_pos (by omega)] | rw [if_neg (by omega)]
  refine zxt <| ztx <| ztx <| zbh <| ztn <| zsr ?_
  refine zlv (xls 10 st_36 hS) ?_
  refine zle (xsw 1 st_36 hS (hd := (ones_cons hv1.one (ones_cons hv2.one (ones_cons rfl (ones_cons rfl ones_nil)))))) ?_; clear hS; rintro w hS
  replace hS := hS.n11
  refine zlv xas ?_
  refine zlt <| zrt <| zfct 1 st_36 hS ⟨_, rfl, ?_⟩
  obtain rfl : i = uu1.nb := by omega
  obtain rfl : j = uu1.nf := by omega
  have he0 : euu1 = 0 := by omega
  rw [hts, he0] at hrunu1
  rw [← hd2] at hv1; rw [← hd1] at hv2; replace hS := hS.pk [8, 9]; rw [← hd2, ← hd1] at hS; subst hfX; subst hfY
  exact ⟨_, _, readS uu1, 0, rfl, .inr ⟨hl, uu1, hrunu1, .inr ⟨rfl, rfl⟩⟩, hv1, hv2, hS⟩

end Go.Proofs.Ytopmifmfecfaaaa
