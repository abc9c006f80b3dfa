/- The walk of Solve, of the reference of column. -/
import Derived.Test.YtopmifmfecfaaaaGreatGv
import Derived.Test.YtopmifmfecfaaaaGreatK18
namespace Go.Proofs.YtopmifmfecfaaaaGreat
open Go Go.RowKit Go.Proofs.Gw
set_option linter.unusedVariables false

theorem cl_49 : calledT Tryz.prog 49 = true := by kernel_rfl
theorem cl_50 : calledT Tryz.prog 50 = true := by kernel_rfl
theorem cl_51 : calledT Tryz.prog 51 = true := by kernel_rfl
theorem el_38 : elemT Tryz.prog 38 = some (.agg #[.slice none 0 0, .slice none 0 0, .slice none 0 0, .int .i64 0, .int .i64 0], 5, 88) := by kernel_rfl
theorem st_38 : structT Tryz.prog 38 = some 5 := by kernel_rfl
theorem MSolveR.same {p : Prob} {u : Int} {ml : Int → Int} {mf : Int → Int → Int} {s s2 : So} {e e2 : Int} (h : MSolveR p u ml mf s e) (h' : MSolveR p u ml mf s2 e2) : s = s2 ∧ e = e2 := by
  rcases h with ⟨h1, h2, h3⟩ | ⟨h1, h2, h3, h4⟩ | ⟨h1, h2, h3, h4, ⟨k, k0, k1, h5⟩, h6, h7⟩ | ⟨h1, h2, h3, h4, h5, h6, h7⟩ | ⟨h1, h2, h3, h4, h5⟩ <;> rcases h' with ⟨g1, g2, g3⟩ | ⟨g1, g2, g3, g4⟩ | ⟨g1, g2, g3, g4, ⟨k', k0', k1', g5⟩, g6, g7⟩ | ⟨g1, g2, g3, g4, g5, g6, g7⟩ | ⟨g1, g2, g3, g4, g5⟩ <;>
    first
    | exact absurd ‹PropL p u ml mf› ‹¬ PropL p u ml mf›
    | (exfalso; omega)
    | exact SolveR.same h5 g5
    | (exfalso; have := g5 k k0 k1; omega)
    | (exfalso; have := h5 k' k0' k1'; omega)
    | (subst_vars; exact ⟨rfl, rfl⟩)

theorem crn_ge {p : Prob} (hok : p.Ok) {u e : Int} {ml : Int → Int} {mf : Int → Int → Int} (h : CRn p u ml mf e) : stN p p.m.toNat ≤ u := by
  induction h with
  | start h =>
    rcases h with ⟨h, _⟩ | ⟨_, h, _⟩
    · exact absurd hok h
    · omega
  | go _ _ _ _ ih => omega
theorem crn_det {p : Prob} (hok : p.Ok) {u e : Int} {ml : Int → Int} {mf : Int → Int → Int} (h : CRn p u ml mf e) : ∀ {u2 e2 : Int} {ml2 : Int → Int} {mf2 : Int → Int → Int}, CRn p u2 ml2 mf2 e2 → u = u2 → ml = ml2 ∧ mf = mf2 ∧ e = e2 := by
  induction h with
  | start h =>
    intro u2 e2 ml2 mf2 k hu
    cases k with
    | start k =>
      rcases h with ⟨h, _⟩ | ⟨_, h1, h2, h3, h4⟩
      · exact absurd hok h
      · rcases k with ⟨k, _⟩ | ⟨_, k1, k2, k3, k4⟩
        · exact absurd hok k
        · exact ⟨by rw [h2, k2], by rw [h3, k3], by omega⟩
    | go k _ _ _ =>
      have h0 := crn_ge hok k
      rcases h with ⟨h, _⟩ | ⟨_, h, _⟩
      · exact absurd hok h
      · omega
  | @go u na worth f ml mf a s h hs hp hn ih =>
    intro u2 e2 ml2 mf2 k hu
    cases k with
    | start k =>
      have h0 := crn_ge hok h
      rcases k with ⟨k, _⟩ | ⟨_, k, _⟩
      · exact absurd hok k
      · omega
    | @go u' na' worth' f' ml' mf' a' s' k ks kp kn =>
      have hu' : u = u' := by omega
      obtain ⟨rfl, rfl, _⟩ := ih k hu'
      subst hu'
      obtain ⟨rfl, _⟩ := MSolveR.same hs ks
      have hf := (crn_inv hok (.go h hs hp hn)).1
      have kf := (crn_inv hok (.go k ks kp kn)).1
      rcases hp with ⟨_, _, _, h1⟩ | ⟨_, h1, h2, _⟩
      · omega
      · rcases kp with ⟨_, _, _, k1⟩ | ⟨_, k1, k2, _⟩
        · omega
        · subst h1 h2 k1 k2
          exact ⟨rfl, rfl, by omega⟩
theorem crn_step {p : Prob} (hok : p.Ok) {u2 e2 : Int} {ml2 : Int → Int} {mf2 : Int → Int → Int} (h : CRn p u2 ml2 mf2 e2) : ∀ {u : Int}, stN p p.m.toNat ≤ u → u < u2 → ∃ ml mf s na a worth f, CRn p u ml mf 0 ∧ MSolveR p u ml mf s 0 ∧ PriceR p s.m s.Y na a worth f ∧ ¬ (f = 0 ∧ worth ≤ s.den) := by
  induction h with
  | start h =>
    intro u h1 h2
    rcases h with ⟨h, _⟩ | ⟨_, h, _⟩
    · exact absurd hok h
    · omega
  | @go u' na worth f ml mf a s h hs hp hn ih =>
    intro u h1 h2
    by_cases hu : u = u'
    · subst hu; exact ⟨ml, mf, s, na, a, worth, f, h, hs, hp, hn⟩
    · exact ih h1 (by omega)
/-- Column generation ends in one way. -/
theorem crn_err {p : Prob} (hok : p.Ok) {u u2 e : Int} {ml ml2 : Int → Int} {mf mf2 : Int → Int → Int} {s : So} (h : CRn p u ml mf 0) (hs : MSolveR p u ml mf s e) (he : e ≠ 0) {e2 : Int} (k : CRn p u2 ml2 mf2 e2) : u2 ≤ u := by
  by_cases hu : u < u2
  · obtain ⟨ml', mf', s', _, _, _, _, h1, h2, _⟩ := crn_step hok k (crn_ge hok h) hu
    obtain ⟨rfl, rfl, _⟩ := crn_det hok h h1 rfl
    exact absurd (MSolveR.same hs h2).2 he
  · omega
theorem crn_last {p : Prob} (hok : p.Ok) {u u2 : Int} {ml ml2 : Int → Int} {mf mf2 : Int → Int → Int} {s : So} (h : CRn p u ml mf 0) (hs : MSolveR p u ml mf s 0) (hl : CLast p s) {e2 : Int} (k : CRn p u2 ml2 mf2 e2) : u2 ≤ u := by
  by_cases hu : u < u2
  · obtain ⟨ml', mf', s', _, _, _, _, h1, h2, h3, h4⟩ := crn_step hok k (crn_ge hok h) hu
    obtain ⟨rfl, rfl, _⟩ := crn_det hok h h1 rfl
    obtain ⟨rfl, _⟩ := MSolveR.same hs h2
    obtain ⟨na, a, worth, q1, q2⟩ := hl
    obtain ⟨_, _, q3, q4⟩ := PriceR.same q1 h3
    exact absurd ⟨q4.symm, by omega⟩ h4
  · omega
theorem ColR.same {p : Prob} {u u2 e e2 : Int} {ml ml2 : Int → Int} {mf mf2 : Int → Int → Int} {s s2 : So} (h : ColR p u ml mf s e) (k : ColR p u2 ml2 mf2 s2 e2) : SameL u u2 ml ml2 mf mf2 ∧ s = s2 ∧ e = e2 := by
  have triv : u = 0 → u2 = 0 → SameL u u2 ml ml2 mf mf2 := fun h1 h2 => ⟨by omega, fun k k0 k1 => by omega⟩
  have errs : ∀ {e : Int}, p.Ok → e ≠ 0 → (∃ u1 ml1 mf1 e1, CRn p u1 ml1 mf1 e1 ∧ ((e1 ≠ 0 ∧ e = e1) ∨ (e1 = 0 ∧ ∃ s1, MSolveR p u1 ml1 mf1 s1 e))) → ∃ u1 ml1 mf1 s1, CRn p u1 ml1 mf1 0 ∧ MSolveR p u1 ml1 mf1 s1 e := by
    rintro e hok he ⟨u1, ml1, mf1, e1, h1, h2⟩
    have h0 := (crn_inv hok h1).1
    rcases h2 with ⟨h2, _⟩ | ⟨h2, s1, h3⟩
    · exact absurd h0 h2
    · subst h2; exact ⟨u1, ml1, mf1, s1, h1, h3⟩
  rcases h with ⟨h1, h2, h3, h4⟩ | ⟨hok, h1, h2, h3, h4⟩ | ⟨hok, h1, h2, h3, h4⟩ <;> rcases k with ⟨k1, k2, k3, k4⟩ | ⟨kok, k1, k2, k3, k4⟩ | ⟨kok, k1, k2, k3, k4⟩
  · exact ⟨triv h2 k2, by rw [h3, k3], by omega⟩
  · exact absurd kok h1
  · exact absurd kok h1
  · exact absurd hok k1
  · obtain ⟨a1, b1, c1, d1, q1, q2⟩ := errs hok h1 h4
    obtain ⟨a2, b2, c2, d2, r1, r2⟩ := errs hok k1 k4
    have g1 := crn_err hok q1 q2 h1 r1
    have g2 := crn_err hok r1 r2 k1 q1
    obtain rfl : a1 = a2 := by omega
    obtain ⟨rfl, rfl, _⟩ := crn_det hok q1 r1 rfl
    exact ⟨triv h2 k2, by rw [h3, k3], (MSolveR.same q2 r2).2⟩
  · obtain ⟨a1, b1, c1, d1, q1, q2⟩ := errs hok h1 h4
    have g1 := crn_err hok q1 q2 h1 k2
    have g2 := crn_last hok k2 k3 k4 q1
    obtain rfl : a1 = u2 := by omega
    obtain ⟨rfl, rfl, _⟩ := crn_det hok q1 k2 rfl
    exact absurd (MSolveR.same q2 k3).2 h1
  · exact absurd hok k1
  · obtain ⟨a1, b1, c1, d1, q1, q2⟩ := errs hok k1 k4
    have g1 := crn_err hok q1 q2 k1 h2
    have g2 := crn_last hok h2 h3 h4 q1
    obtain rfl : a1 = u := by omega
    obtain ⟨rfl, rfl, _⟩ := crn_det hok q1 h2 rfl
    exact absurd (MSolveR.same q2 h3).2 k1
  · have g1 := crn_last hok h2 h3 h4 k2
    have g2 := crn_last hok k2 k3 k4 h2
    obtain rfl : u = u2 := by omega
    obtain ⟨rfl, rfl, _⟩ := crn_det hok h2 k2 rfl
    exact ⟨⟨rfl, fun _ _ _ => ⟨rfl, fun _ _ _ => rfl⟩⟩, (MSolveR.same h3 k3).1, by omega⟩

theorem crn_nok {p : Prob} (hok : ¬ p.Ok) {u e : Int} {ml : Int → Int} {mf : Int → Int → Int} (h : CRn p u ml mf e) : e = 1 ∧ u = 0 := by
  cases h with
  | start h =>
    rcases h with ⟨_, h1, h2⟩ | ⟨h, _⟩
    · exact ⟨h2, h1⟩
    · exact absurd h hok
  | go _ hs _ _ => exact absurd hs.few.1 hok
theorem ColR.of_start {p : Prob} {u e : Int} {ml : Int → Int} {mf : Int → Int → Int} {ml0 : Int → Int} {mf0 : Int → Int → Int} (h : CRn p u ml mf e) (he : e ≠ 0) : ColR p 0 ml0 mf0 So.zero e := by
  by_cases hok : p.Ok
  · exact absurd (crn_inv hok h).1 he
  · exact .inl ⟨hok, rfl, rfl, (crn_nok hok h).1⟩
theorem ColR.of_solve {p : Prob} {u e : Int} {ml : Int → Int} {mf : Int → Int → Int} {ml0 : Int → Int} {mf0 : Int → Int → Int} {s : So} (h : CRn p u ml mf 0) (hs : MSolveR p u ml mf s e) (he : e ≠ 0) : ColR p 0 ml0 mf0 So.zero e := by
  by_cases hok : p.Ok
  · exact .inr (.inl ⟨hok, he, rfl, rfl, u, ml, mf, 0, h, .inr ⟨rfl, s, hs⟩⟩)
  · have := (crn_nok hok h).1; omega
theorem ColR.of_price {p : Prob} {u na worth f : Int} {ml a : Int → Int} {mf : Int → Int → Int} {s : So} (h : CRn p u ml mf 0) (hs : MSolveR p u ml mf s 0) (hp : PriceR p s.m s.Y na a worth f) (hc : f ≠ 0 ∨ worth ≤ s.den) : ColR p u ml mf s f := by
  have hok := hs.few.1
  by_cases hf : f = 0
  · subst hf
    exact .inr (.inr ⟨hok, rfl, h, hs, na, a, worth, hp, by omega⟩)
  · exact absurd (crn_inv hok (.go h hs hp fun hh => hf hh.1)).1 hf

set_option maxHeartbeats 4000000 in
set_option maxRecDepth 20000 in
theorem c_rcsolve {vL vD : Value} {p : Prob} (w0 : World) (h : PAt w0 vL vD p) :
    Calls Tryz.prog 12 [.agg #[vL, vD, .int .i64 p.stock, .int .i64 p.kerf]].toArray w0 fun e w => ∃ v, e = .returned v ∧ ∃ vP vv vX vY u ml mf s e, v = .tuple #[.agg #[vP, vX, vY, .int .i64 s.val, .int .i64 s.den], .int .i64 e] ∧ ColR p u ml mf s e ∧ Slh vP u ∧ Slh vX s.n ∧ Slh vY s.m ∧ Sat w0 w [.own vP 1 22 u vv, .sem (Frame.rows 3 u vv ml mf), .own vX 1 3 s.n (ints s.X), .own vY 1 3 s.m (ints s.Y)] := by
  have hm := h.L.slh.n0; have hm1 := h.L.slh.n1; have hd := h.D.slh.n0; have hd1 := h.D.slh.n1; have hs := h.is; have hk := h.ik
  refine zenG Tryz.func12 Tryz.ntmps12 fun w hS => ?_
  refine zsr ?_
  refine zla (xbx (cs := [_, _, _, _]) hS) ?_; rintro _ w ⟨g1, rfl, hS⟩
  replace hS := hS.n1
  refine zla (xal (cs := [_, _, _, _, _]) el_38 hS) ?_; rintro _ w ⟨g2, rfl, hS⟩
  replace hS := hS.n2
  refine zlv xas ?_
  refine zlz ?_
  refine zlv (xls 0 st_24 hS) ?_
  refine zlc (xc0 cl_49) (c_rmstart (p := p) w (h.below hS.below)) ?_; rintro _ w ⟨srm91, snm91, svm91, slm91, sgm91, em91, rfl, hmsm91, hsrm91, hS'⟩
  replace hS : Sat w0 w [.blk g1 [vL, vD, .int .i64 p.stock, .int .i64 p.kerf], .blk g2 [.slice none 0 0, .slice none 0 0, .slice none 0 0, .int .i64 0, .int .i64 0], .own srm91 1 22 snm91 svm91, .sem (Frame.rows 3 snm91 svm91 slm91 sgm91)] := hS.comp hS'; clear hS'
  have hswm91 := fun k (k0 : 0 ≤ k) (k1 : k < snm91) => hS.slhIn 3 rfl k0 k1
  refine zs5 ?_
  refine zlt <| zsq <| zbk <| zlp (fun mm M w => ∃ (u : Int) (wP : Value) (vv : Int → Value) (ml : Int → Int) (mf : Int → Int → Int) (e : Int), mm = ((62 - u).toNat) ∧ (CRn p u ml mf e) ∧ (Slh wP u) ∧ (u ≤ 61) ∧ M = [(1, .pointer (some ⟨g1, 0, none⟩)), (2, .pointer (some ⟨g2, 0, none⟩)), (4, wP), (5, .int .i64 e)] ∧ Sat w0 w [.blk g1 [vL, vD, .int .i64 p.stock, .int .i64 p.kerf], .blk g2 [.slice none 0 0, .slice none 0 0, .slice none 0 0, .int .i64 0, .int .i64 0], .own wP 1 22 u vv, .sem (Frame.rows 3 u vv ml mf)]) ⟨snm91, srm91, svm91, slm91, sgm91, em91, rfl, ?_, ?_, ?_, rfl, hS⟩ ?_
  ·
   exact .start hmsm91
  ·
   exact hsrm91
  ·
   rcases hmsm91 with ⟨_, h9, _⟩ | ⟨h9, h8, _⟩
   · omega
   · have := stN_rng p p.m.toNat; have := h9.m2; have := h9.m1; omega
  clear hS w
  rintro mm M w ⟨u, wP, vv, ml, mf, e, rfl, hRn, hsP, hu61, rfl, hS⟩
  have hrs := fun k (k0 : 0 ≤ k) (k1 : k < u) => hS.slhIn 3 rfl k0 k1
  have hu0 := hsP.n0
  refine zsq <| zsr ?_
  refine zs2 ?_
  refine zlt ?_
  refine zcif ?_ ?_ <;> intro hc
  ·
   refine zsk <| ztn <| zbk <| zsr ?_
   refine zla (xal (cs := [_, _, _, _]) el_36 hS) ?_; rintro _ w ⟨g3, rfl, hS⟩
   replace hS := hS.n5
   refine zlz ?_
   refine zlv (xls 0 st_24 hS) ?_
   refine zlv xmv ?_
   refine zlc (xc0 cl_50) (c_rmsolve (p := p) (u := u) (ml := ml) (mf := mf) w (h.below hS.below) (⟨(hS.rowN 2 rfl), fun k k0 k1 => hS.rowIn 3 rfl k0 k1, fun k k0 k1 => hS.roomIn 3 rfl k0 k1⟩ : MAt _ wP u vv ml mf)) ?_; rintro _ w ⟨vXm81, vYm81, sm81, em81, rfl, hmom81, hvXm81, hvYm81, hS'⟩
   replace hS : Sat w0 w [.blk g1 [vL, vD, .int .i64 p.stock, .int .i64 p.kerf], .blk g2 [.slice none 0 0, .slice none 0 0, .slice none 0 0, .int .i64 0, .int .i64 0], .own wP 1 22 u vv, .sem (Frame.rows 3 u vv ml mf), .blk g3 [.slice none 0 0, .slice none 0 0, .int .i64 0, .int .i64 0], .own vXm81 1 3 sm81.n (ints sm81.X), .own vYm81 1 3 sm81.m (ints sm81.Y)] := hS.comp hS'; clear hS'
   refine zs3 ?_
   refine zle (xsw 4 st_36 hS (hd := (ones_cons hvXm81.one (ones_cons hvYm81.one (ones_cons rfl (ones_cons rfl ones_nil)))))) ?_; clear hS; rintro w hS
   replace hS := hS.n7
   refine zlv xas ?_
   refine zlt <| zsq <| zsr ?_
   refine zs2 ?_
   refine zlt ?_
   refine zcif ?_ ?_ <;> intro hc
   ·
    refine zxt <| ztx <| zbm <| ztx <| zbh <| ztn <| zsr ?_
    refine zlv (xany (v := .agg #[.slice none 0 0, .slice none 0 0, .slice none 0 0, .int .i64 0, .int .i64 0])) ?_
    refine zlv xmv ?_
    refine zle (xsw 1 st_38 hS) ?_; clear hS; rintro w hS
    replace hS := hS.n7
    refine zlv xas ?_
    refine zlt <| zrt <| zfct 1 st_38 hS ⟨_, rfl, ?_⟩
    exact ⟨_, fun _ => undef, _, _, 0, fun _ => 0, fun _ _ => 0, So.zero, _, rfl, (by first | exact ColR.of_solve (by rw [show (0 : Int) = e by omega]; exact hRn) hmom81 (by omega) | exact ColR.of_start hRn (by omega)), slh_nil, slh_nil, slh_nil, ((((hS.sub (.cons _ (.cons _ (.cons _ (.cons _ (.cons _ (.cons _ (.cons _ .slnil)))))))).addnil 1 22 (fun _ => undef)).addrows 3 (fun _ => undef) (fun _ => 0) (fun _ _ => 0)).addnil 1 3 (ints So.zero.X)).addnil 1 3 (ints So.zero.Y)⟩
   refine zsk <| ztn <| zsr ?_
   refine zlv (xls 0 st_24 hS) ?_
   refine zlv (xfb 1 fd_36_1) ?_
   refine zlv (xlb 4 pl_22 hS) ?_
   have hfe := hmom81; rw [show em81 = 0 by omega] at hfe
   obtain ⟨hok, hu60, hsm⟩ := hfe.few
   refine zlc (xc0 cl_51) (c_rprice (p := p) (n := sm81.m) (y := sm81.Y) w (h.below hS.below) (hS.rowN 6 rfl)) ?_; rintro _ w ⟨vapz1, napz1, xapz1, wapz1, eapz1, rfl, hpzpz1, hvapz1, hS'⟩
   replace hS : Sat w0 w [.blk g1 [vL, vD, .int .i64 p.stock, .int .i64 p.kerf], .blk g2 [.slice none 0 0, .slice none 0 0, .slice none 0 0, .int .i64 0, .int .i64 0], .own wP 1 22 u vv, .sem (Frame.rows 3 u vv ml mf), .blk g3 [vXm81, vYm81, .int .i64 sm81.val, .int .i64 sm81.den], .own vXm81 1 3 sm81.n (ints sm81.X), .own vYm81 1 3 sm81.m (ints sm81.Y), .own vapz1 1 3 napz1 (ints xapz1)] := hS.comp hS'; clear hS'
   refine zs6 ?_
   refine zlv xas ?_
   refine zlt <| zsq <| zsr ?_
   refine zs3 ?_
   refine zlb 35 ?_ ?_ <;> intro hc
   ·
    iterate 4 refine zlo ?_
    refine zlv xpt ?_
    refine zlt <| zct <| zsr ?_
    refine zlv xmv ?_
    refine zlv (xls 4 st_36 hS) ?_
    refine zlv (xany (v := .agg #[wP, vXm81, vYm81, .int .i64 sm81.val, .int .i64 sm81.den]) (hr := by obtain ⟨_, _, _, _, rfl, _⟩ := hsP; obtain ⟨_, _, _, _, rfl, _⟩ := hvXm81; obtain ⟨_, _, _, _, rfl, _⟩ := hvYm81; kernel_rfl)) ?_
    refine zlv xmv ?_
    refine zle (xsw 1 st_38 hS (hd := (ones_cons hsP.one (ones_cons hvXm81.one (ones_cons hvYm81.one (ones_cons rfl (ones_cons rfl ones_nil))))))) ?_; clear hS; rintro w hS
    replace hS := hS.n8
    refine zlv xas ?_
    refine zlt <| zrt <| ztr <| zbr <| ztr <| zbr <| ztr <| zfct 1 st_38 hS ⟨_, rfl, ?_⟩
    exact ⟨_, _, _, _, _, _, _, _, _, rfl, ColR.of_price (by rw [show (0 : Int) = e by omega]; exact hRn) hfe hpzpz1 (by omega), hsP, hvXm81, hvYm81, hS.pk [2, 3, 5, 6]⟩
   refine zlv xmv ?_
   refine zlv (xfb 3 fd_36_3) ?_
   refine zlv (xlb 4 pl_3 hS) ?_
   refine zs2 ?_
   refine zlt ?_
   refine zcif ?_ ?_ <;> intro hc
   ·
    refine zsr ?_
    refine zlv xmv ?_
    refine zlv (xls 4 st_36 hS) ?_
    refine zlv (xany (v := .agg #[wP, vXm81, vYm81, .int .i64 sm81.val, .int .i64 sm81.den]) (hr := by obtain ⟨_, _, _, _, rfl, _⟩ := hsP; obtain ⟨_, _, _, _, rfl, _⟩ := hvXm81; obtain ⟨_, _, _, _, rfl, _⟩ := hvYm81; kernel_rfl)) ?_
    refine zlv xmv ?_
    refine zle (xsw 1 st_38 hS (hd := (ones_cons hsP.one (ones_cons hvXm81.one (ones_cons hvYm81.one (ones_cons rfl (ones_cons rfl ones_nil))))))) ?_; clear hS; rintro w hS
    replace hS := hS.n8
    refine zlv xas ?_
    refine zlt <| zrt <| ztr <| zbr <| ztr <| zbr <| ztr <| zfct 1 st_38 hS ⟨_, rfl, ?_⟩
    exact ⟨_, _, _, _, _, _, _, _, _, rfl, ColR.of_price (by rw [show (0 : Int) = e by omega]; exact hRn) hfe hpzpz1 (by omega), hsP, hvXm81, hvYm81, hS.pk [2, 3, 5, 6]⟩
   refine zsk <| ztn <| zrg ?_
   refine zs2 ?_
   refine zla (xli (n := 1) (len := 1) (pv := [(0, vapz1)]) (cs := [vapz1]) (c := (fun _ => vapz1)) sl_27 el_22 hS (hf := by obtain ⟨_, _, _, _, rfl, _⟩ := hvapz1; kernel_rfl)) ?_; rintro v1 w ⟨hS, hv1⟩
   replace hS := hS.n9
   refine zla (xap 2 (r := u + 1) sl_27 el_22 hS (hS.rowN 8 rfl) (cat_gsn _ _ _) (h1 := fun _ _ _ => hvapz1.one)) ?_; rintro v2 w ⟨hS, hv2⟩
   replace hS := hS.n9
   replace hS := Sat.merge (l1 := [_, _, _]) (l2 := [_, _, _]) (l3 := [_]) hS (by omega)
   have hrs1 := fun k (k0 : 0 ≤ k) (k1 : k < u + 1) => hS.slhIn 3 rfl k0 k1
   replace hS := hS.n8
   refine zlv xas ?_
   refine zln <| zbn <| zlq ⟨u + 1, v2, gsn vv u vapz1, gsn ml u napz1, gsn mf u xapz1, em81, rfl, ?_, ?_, ?_, rfl, hS.pk [0, 1, 2, 3]⟩
   ·
    rw [show em81 = eapz1 by omega]; exact .go (by rw [show (0 : Int) = e by omega]; exact hRn) hfe hpzpz1 (by omega)
   ·
    exact hv2
   ·
    omega
  refine zxt <| ztx <| ztx <| zbh <| ztn <| zsr ?_
  refine zlv (xany (v := .agg #[.slice none 0 0, .slice none 0 0, .slice none 0 0, .int .i64 0, .int .i64 0])) ?_
  refine zlv xmv ?_
  refine zle (xsw 1 st_38 hS) ?_; clear hS; rintro w hS
  replace hS := hS.n4
  refine zlv xas ?_
  refine zlt <| zrt <| zfct 1 st_38 hS ⟨_, rfl, ?_⟩
  exact ⟨_, fun _ => undef, _, _, 0, fun _ => 0, fun _ _ => 0, So.zero, _, rfl, (by first | exact ColR.of_solve (by rw [show (0 : Int) = e by omega]; exact hRn) hmom81 (by omega) | exact ColR.of_start hRn (by omega)), slh_nil, slh_nil, slh_nil, ((((hS.sub (.cons _ (.cons _ (.cons _ (.cons _ .slnil))))).addnil 1 22 (fun _ => undef)).addrows 3 (fun _ => undef) (fun _ => 0) (fun _ _ => 0)).addnil 1 3 (ints So.zero.X)).addnil 1 3 (ints So.zero.Y)⟩

end Go.Proofs.YtopmifmfecfaaaaGreat
