/- The walk of Best, of the reference of layer 32. -/
import Derived.Test.YtopmifmfecfaaaaGreatGv
import Derived.Test.YtopmifmfecfaaaaGreatL0
import Derived.Test.YtopmifmfecfaaaaGreatFk
import Derived.Test.YtopmifmfecfaaaaGreatFd
import Derived.Test.YtopmifmfecfaaaaGreatFr
namespace Go.Proofs.YtopmifmfecfaaaaGreat
open Go Go.RowKit Go.Proofs.Gw
set_option linter.unusedVariables false

theorem cl_10 : calledT Tryz.prog 10 = true := by kernel_rfl
theorem cl_12 : calledT Tryz.prog 12 = true := by kernel_rfl
theorem cl_129 : calledT Tryz.prog 129 = true := by kernel_rfl
theorem cl_130 : calledT Tryz.prog 130 = true := by kernel_rfl
theorem cl_131 : calledT Tryz.prog 131 = true := by kernel_rfl
theorem cl_16 : calledT Tryz.prog 16 = true := by kernel_rfl
theorem cl_17 : calledT Tryz.prog 17 = true := by kernel_rfl
theorem cl_18 : calledT Tryz.prog 18 = true := by kernel_rfl
theorem cl_19 : calledT Tryz.prog 19 = true := by kernel_rfl
theorem cl_20 : calledT Tryz.prog 20 = true := by kernel_rfl
theorem cl_21 : calledT Tryz.prog 21 = true := by kernel_rfl
theorem cl_26 : calledT Tryz.prog 26 = true := by kernel_rfl
theorem cl_49 : calledT Tryz.prog 49 = true := by kernel_rfl
theorem cl_50 : calledT Tryz.prog 50 = true := by kernel_rfl
theorem cl_51 : calledT Tryz.prog 51 = true := by kernel_rfl
theorem cl_53 : calledT Tryz.prog 53 = true := by kernel_rfl
theorem cl_54 : calledT Tryz.prog 54 = true := by kernel_rfl
theorem cl_55 : calledT Tryz.prog 55 = true := by kernel_rfl
theorem cl_90 : calledT Tryz.prog 90 = true := by kernel_rfl
theorem cl_91 : calledT Tryz.prog 91 = true := by kernel_rfl
theorem cl_92 : calledT Tryz.prog 92 = true := by kernel_rfl
theorem el_38 : elemT Tryz.prog 38 = some (.agg #[.slice none 0 0, .slice none 0 0, .slice none 0 0, .int .i64 0, .int .i64 0], 5, 88) := by kernel_rfl
theorem el_44 : elemT Tryz.prog 44 = some (.agg #[.slice none 0 0, .int .i64 0], 2, 32) := by kernel_rfl
theorem el_47 : elemT Tryz.prog 47 = some (.agg #[.slice none 0 0, .int .i64 0], 2, 32) := by kernel_rfl
theorem fd_38_1 : fieldT Tryz.prog 38 1 = some 1 := by kernel_rfl
theorem fd_44_0 : fieldT Tryz.prog 44 0 = some 0 := by kernel_rfl
theorem fd_44_1 : fieldT Tryz.prog 44 1 = some 1 := by kernel_rfl
theorem fd_47_0 : fieldT Tryz.prog 47 0 = some 0 := by kernel_rfl
theorem fd_47_1 : fieldT Tryz.prog 47 1 = some 1 := by kernel_rfl
theorem st_38 : structT Tryz.prog 38 = some 5 := by kernel_rfl
theorem st_44 : structT Tryz.prog 44 = some 2 := by kernel_rfl
theorem st_47 : structT Tryz.prog 47 = some 2 := by kernel_rfl
theorem MSolveR.same {p : Prob} {u : Int} {ml : Int → Int} {mf : Int → Int → Int} {s s2 : So} {e e2 : Int} (h : MSolveR p u ml mf s e) (h' : MSolveR p u ml mf s2 e2) : s = s2 ∧ e = e2 := by
  rcases h with ⟨h1, h2, h3⟩ | ⟨h1, h2, h3, h4⟩ | ⟨h1, h2, h3, h4, ⟨k, k0, k1, h5⟩, h6, h7⟩ | ⟨h1, h2, h3, h4, h5, h6, h7⟩ | ⟨h1, h2, h3, h4, h5⟩ <;> rcases h' with ⟨g1, g2, g3⟩ | ⟨g1, g2, g3, g4⟩ | ⟨g1, g2, g3, g4, ⟨k', k0', k1', g5⟩, g6, g7⟩ | ⟨g1, g2, g3, g4, g5, g6, g7⟩ | ⟨g1, g2, g3, g4, g5⟩ <;>
    first
    | exact absurd ‹PropL p u ml mf› ‹¬ PropL p u ml mf›
    | (exfalso; omega)
    | exact SolveR.same h5 g5
    | (exfalso; have := g5 k k0 k1; omega)
    | (exfalso; have := h5 k' k0' k1'; omega)
    | (subst_vars; exact ⟨rfl, rfl⟩)

theorem crn_ge {p : Prob} (hok : p.Ok) {u e : Int} {ml : Int → Int} {mf : Int → Int → Int} (h : CRn p u ml mf e) : stN p p.m.toNat ≤ u := by
  induction h with
  | start h =>
    rcases h with ⟨h, _⟩ | ⟨_, h, _⟩
    · exact absurd hok h
    · omega
  | go _ _ _ _ ih => omega
theorem crn_det {p : Prob} (hok : p.Ok) {u e : Int} {ml : Int → Int} {mf : Int → Int → Int} (h : CRn p u ml mf e) : ∀ {u2 e2 : Int} {ml2 : Int → Int} {mf2 : Int → Int → Int}, CRn p u2 ml2 mf2 e2 → u = u2 → ml = ml2 ∧ mf = mf2 ∧ e = e2 := by
  induction h with
  | start h =>
    intro u2 e2 ml2 mf2 k hu
    cases k with
    | start k =>
      rcases h with ⟨h, _⟩ | ⟨_, h1, h2, h3, h4⟩
      · exact absurd hok h
      · rcases k with ⟨k, _⟩ | ⟨_, k1, k2, k3, k4⟩
        · exact absurd hok k
        · exact ⟨by rw [h2, k2], by rw [h3, k3], by omega⟩
    | go k _ _ _ =>
      have h0 := crn_ge hok k
      rcases h with ⟨h, _⟩ | ⟨_, h, _⟩
      · exact absurd hok h
      · omega
  | @go u na worth f ml mf a s h hs hp hn ih =>
    intro u2 e2 ml2 mf2 k hu
    cases k with
    | start k =>
      have h0 := crn_ge hok h
      rcases k with ⟨k, _⟩ | ⟨_, k, _⟩
      · exact absurd hok k
      · omega
    | @go u' na' worth' f' ml' mf' a' s' k ks kp kn =>
      have hu' : u = u' := by omega
      obtain ⟨rfl, rfl, _⟩ := ih k hu'
      subst hu'
      obtain ⟨rfl, _⟩ := MSolveR.same hs ks
      have hf := (crn_inv hok (.go h hs hp hn)).1
      have kf := (crn_inv hok (.go k ks kp kn)).1
      rcases hp with ⟨_, _, _, h1⟩ | ⟨_, h1, h2, _⟩
      · omega
      · rcases kp with ⟨_, _, _, k1⟩ | ⟨_, k1, k2, _⟩
        · omega
        · subst h1 h2 k1 k2
          exact ⟨rfl, rfl, by omega⟩
theorem crn_step {p : Prob} (hok : p.Ok) {u2 e2 : Int} {ml2 : Int → Int} {mf2 : Int → Int → Int} (h : CRn p u2 ml2 mf2 e2) : ∀ {u : Int}, stN p p.m.toNat ≤ u → u < u2 → ∃ ml mf s na a worth f, CRn p u ml mf 0 ∧ MSolveR p u ml mf s 0 ∧ PriceR p s.m s.Y na a worth f ∧ ¬ (f = 0 ∧ worth ≤ s.den) := by
  induction h with
  | start h =>
    intro u h1 h2
    rcases h with ⟨h, _⟩ | ⟨_, h, _⟩
    · exact absurd hok h
    · omega
  | @go u' na worth f ml mf a s h hs hp hn ih =>
    intro u h1 h2
    by_cases hu : u = u'
    · subst hu; exact ⟨ml, mf, s, na, a, worth, f, h, hs, hp, hn⟩
    · exact ih h1 (by omega)
/-- Column generation ends in one way. -/
theorem crn_err {p : Prob} (hok : p.Ok) {u u2 e : Int} {ml ml2 : Int → Int} {mf mf2 : Int → Int → Int} {s : So} (h : CRn p u ml mf 0) (hs : MSolveR p u ml mf s e) (he : e ≠ 0) {e2 : Int} (k : CRn p u2 ml2 mf2 e2) : u2 ≤ u := by
  by_cases hu : u < u2
  · obtain ⟨ml', mf', s', _, _, _, _, h1, h2, _⟩ := crn_step hok k (crn_ge hok h) hu
    obtain ⟨rfl, rfl, _⟩ := crn_det hok h h1 rfl
    exact absurd (MSolveR.same hs h2).2 he
  · omega
theorem crn_last {p : Prob} (hok : p.Ok) {u u2 : Int} {ml ml2 : Int → Int} {mf mf2 : Int → Int → Int} {s : So} (h : CRn p u ml mf 0) (hs : MSolveR p u ml mf s 0) (hl : CLast p s) {e2 : Int} (k : CRn p u2 ml2 mf2 e2) : u2 ≤ u := by
  by_cases hu : u < u2
  · obtain ⟨ml', mf', s', _, _, _, _, h1, h2, h3, h4⟩ := crn_step hok k (crn_ge hok h) hu
    obtain ⟨rfl, rfl, _⟩ := crn_det hok h h1 rfl
    obtain ⟨rfl, _⟩ := MSolveR.same hs h2
    obtain ⟨na, a, worth, q1, q2⟩ := hl
    obtain ⟨_, _, q3, q4⟩ := PriceR.same q1 h3
    exact absurd ⟨q4.symm, by omega⟩ h4
  · omega
theorem ColR.same {p : Prob} {u u2 e e2 : Int} {ml ml2 : Int → Int} {mf mf2 : Int → Int → Int} {s s2 : So} (h : ColR p u ml mf s e) (k : ColR p u2 ml2 mf2 s2 e2) : SameL u u2 ml ml2 mf mf2 ∧ s = s2 ∧ e = e2 := by
  have triv : u = 0 → u2 = 0 → SameL u u2 ml ml2 mf mf2 := fun h1 h2 => ⟨by omega, fun k k0 k1 => by omega⟩
  have errs : ∀ {e : Int}, p.Ok → e ≠ 0 → (∃ u1 ml1 mf1 e1, CRn p u1 ml1 mf1 e1 ∧ ((e1 ≠ 0 ∧ e = e1) ∨ (e1 = 0 ∧ ∃ s1, MSolveR p u1 ml1 mf1 s1 e))) → ∃ u1 ml1 mf1 s1, CRn p u1 ml1 mf1 0 ∧ MSolveR p u1 ml1 mf1 s1 e := by
    rintro e hok he ⟨u1, ml1, mf1, e1, h1, h2⟩
    have h0 := (crn_inv hok h1).1
    rcases h2 with ⟨h2, _⟩ | ⟨h2, s1, h3⟩
    · exact absurd h0 h2
    · subst h2; exact ⟨u1, ml1, mf1, s1, h1, h3⟩
  rcases h with ⟨h1, h2, h3, h4⟩ | ⟨hok, h1, h2, h3, h4⟩ | ⟨hok, h1, h2, h3, h4⟩ <;> rcases k with ⟨k1, k2, k3, k4⟩ | ⟨kok, k1, k2, k3, k4⟩ | ⟨kok, k1, k2, k3, k4⟩
  · exact ⟨triv h2 k2, by rw [h3, k3], by omega⟩
  · exact absurd kok h1
  · exact absurd kok h1
  · exact absurd hok k1
  · obtain ⟨a1, b1, c1, d1, q1, q2⟩ := errs hok h1 h4
    obtain ⟨a2, b2, c2, d2, r1, r2⟩ := errs hok k1 k4
    have g1 := crn_err hok q1 q2 h1 r1
    have g2 := crn_err hok r1 r2 k1 q1
    obtain rfl : a1 = a2 := by omega
    obtain ⟨rfl, rfl, _⟩ := crn_det hok q1 r1 rfl
    exact ⟨triv h2 k2, by rw [h3, k3], (MSolveR.same q2 r2).2⟩
  · obtain ⟨a1, b1, c1, d1, q1, q2⟩ := errs hok h1 h4
    have g1 := crn_err hok q1 q2 h1 k2
    have g2 := crn_last hok k2 k3 k4 q1
    obtain rfl : a1 = u2 := by omega
    obtain ⟨rfl, rfl, _⟩ := crn_det hok q1 k2 rfl
    exact absurd (MSolveR.same q2 k3).2 h1
  · exact absurd hok k1
  · obtain ⟨a1, b1, c1, d1, q1, q2⟩ := errs hok k1 k4
    have g1 := crn_err hok q1 q2 k1 h2
    have g2 := crn_last hok h2 h3 h4 q1
    obtain rfl : a1 = u := by omega
    obtain ⟨rfl, rfl, _⟩ := crn_det hok q1 h2 rfl
    exact absurd (MSolveR.same q2 h3).2 k1
  · have g1 := crn_last hok h2 h3 h4 k2
    have g2 := crn_last hok k2 k3 k4 h2
    obtain rfl : u = u2 := by omega
    obtain ⟨rfl, rfl, _⟩ := crn_det hok h2 k2 rfl
    exact ⟨⟨rfl, fun _ _ _ => ⟨rfl, fun _ _ _ => rfl⟩⟩, (MSolveR.same h3 k3).1, by omega⟩

theorem crn_nok {p : Prob} (hok : ¬ p.Ok) {u e : Int} {ml : Int → Int} {mf : Int → Int → Int} (h : CRn p u ml mf e) : e = 1 ∧ u = 0 := by
  cases h with
  | start h =>
    rcases h with ⟨_, h1, h2⟩ | ⟨h, _⟩
    · exact ⟨h2, h1⟩
    · exact absurd h hok
  | go _ hs _ _ => exact absurd hs.few.1 hok
theorem ColR.of_start {p : Prob} {u e : Int} {ml : Int → Int} {mf : Int → Int → Int} {ml0 : Int → Int} {mf0 : Int → Int → Int} (h : CRn p u ml mf e) (he : e ≠ 0) : ColR p 0 ml0 mf0 So.zero e := by
  by_cases hok : p.Ok
  · exact absurd (crn_inv hok h).1 he
  · exact .inl ⟨hok, rfl, rfl, (crn_nok hok h).1⟩
theorem ColR.of_solve {p : Prob} {u e : Int} {ml : Int → Int} {mf : Int → Int → Int} {ml0 : Int → Int} {mf0 : Int → Int → Int} {s : So} (h : CRn p u ml mf 0) (hs : MSolveR p u ml mf s e) (he : e ≠ 0) : ColR p 0 ml0 mf0 So.zero e := by
  by_cases hok : p.Ok
  · exact .inr (.inl ⟨hok, he, rfl, rfl, u, ml, mf, 0, h, .inr ⟨rfl, s, hs⟩⟩)
  · have := (crn_nok hok h).1; omega
theorem ColR.of_price {p : Prob} {u na worth f : Int} {ml a : Int → Int} {mf : Int → Int → Int} {s : So} (h : CRn p u ml mf 0) (hs : MSolveR p u ml mf s 0) (hp : PriceR p s.m s.Y na a worth f) (hc : f ≠ 0 ∨ worth ≤ s.den) : ColR p u ml mf s f := by
  have hok := hs.few.1
  by_cases hf : f = 0
  · subst hf
    exact .inr (.inr ⟨hok, rfl, h, hs, na, a, worth, hp, by omega⟩)
  · exact absurd (crn_inv hok (.go h hs hp fun hh => hf hh.1)).1 hf

set_option maxHeartbeats 4000000 in
set_option maxRecDepth 20000 in
theorem c_rcsolve {vL vD : Value} {p : Prob} (w0 : World) (h : PAt w0 vL vD p) :
    Calls Tryz.prog 12 [.agg #[vL, vD, .int .i64 p.stock, .int .i64 p.kerf]].toArray w0 fun e w => ∃ v, e = .returned v ∧ ∃ vP vv vX vY u ml mf s e, v = .tuple #[.agg #[vP, vX, vY, .int .i64 s.val, .int .i64 s.den], .int .i64 e] ∧ ColR p u ml mf s e ∧ Slh vP u ∧ Slh vX s.n ∧ Slh vY s.m ∧ Sat w0 w [.own vP 1 22 u vv, .sem (Frame.rows 3 u vv ml mf), .own vX 1 3 s.n (ints s.X), .own vY 1 3 s.m (ints s.Y)] := by
  have hm := h.L.slh.n0; have hm1 := h.L.slh.n1; have hd := h.D.slh.n0; have hd1 := h.D.slh.n1; have hs := h.is; have hk := h.ik
  refine zenG Tryz.func12 Tryz.ntmps12 fun w hS => ?_
  refine zsr ?_
  refine zla (xbx (cs := [_, _, _, _]) hS) ?_; rintro _ w ⟨g1, rfl, hS⟩
  replace hS := hS.n1
  refine zla (xal (cs := [_, _, _, _, _]) el_38 hS) ?_; rintro _ w ⟨g2, rfl, hS⟩
  replace hS := hS.n2
  refine zlv xas ?_
  refine zlz ?_
  refine zlv (xls 0 st_24 hS) ?_
  refine zlc (xc0 cl_49) (c_rmstart (p := p) w (h.below hS.below)) ?_; rintro _ w ⟨srm91, snm91, svm91, slm91, sgm91, em91, rfl, hmsm91, hsrm91, hS'⟩
  replace hS : Sat w0 w [.blk g1 [vL, vD, .int .i64 p.stock, .int .i64 p.kerf], .blk g2 [.slice none 0 0, .slice none 0 0, .slice none 0 0, .int .i64 0, .int .i64 0], .own srm91 1 22 snm91 svm91, .sem (Frame.rows 3 snm91 svm91 slm91 sgm91)] := hS.comp hS'; clear hS'
  have hswm91 := fun k (k0 : 0 ≤ k) (k1 : k < snm91) => hS.slhIn 3 rfl k0 k1
  refine zs5 ?_
  refine zlt <| zsq <| zbk <| zlp (fun mm M w => ∃ (u : Int) (wP : Value) (vv : Int → Value) (ml : Int → Int) (mf : Int → Int → Int) (e : Int), mm = ((62 - u).toNat) ∧ (CRn p u ml mf e) ∧ (Slh wP u) ∧ (u ≤ 61) ∧ M = [(1, .pointer (some ⟨g1, 0, none⟩)), (2, .pointer (some ⟨g2, 0, none⟩)), (4, wP), (5, .int .i64 e)] ∧ Sat w0 w [.blk g1 [vL, vD, .int .i64 p.stock, .int .i64 p.kerf], .blk g2 [.slice none 0 0, .slice none 0 0, .slice none 0 0, .int .i64 0, .int .i64 0], .own wP 1 22 u vv, .sem (Frame.rows 3 u vv ml mf)]) ⟨snm91, srm91, svm91, slm91, sgm91, em91, rfl, ?_, ?_, ?_, rfl, hS⟩ ?_
  ·
   exact .start hmsm91
  ·
   exact hsrm91
  ·
   rcases hmsm91 with ⟨_, h9, _⟩ | ⟨h9, h8, _⟩
   · omega
   · have := stN_rng p p.m.toNat; have := h9.m2; have := h9.m1; omega
  clear hS w
  rintro mm M w ⟨u, wP, vv, ml, mf, e, rfl, hRn, hsP, hu61, rfl, hS⟩
  have hrs := fun k (k0 : 0 ≤ k) (k1 : k < u) => hS.slhIn 3 rfl k0 k1
  have hu0 := hsP.n0
  refine zsq <| zsr ?_
  refine zs2 ?_
  refine zlt ?_
  refine zcif ?_ ?_ <;> intro hc
  ·
   refine zsk <| ztn <| zbk <| zsr ?_
   refine zla (xal (cs := [_, _, _, _]) el_36 hS) ?_; rintro _ w ⟨g3, rfl, hS⟩
   replace hS := hS.n5
   refine zlz ?_
   refine zlv (xls 0 st_24 hS) ?_
   refine zlv xmv ?_
   refine zlc (xc0 cl_50) (c_rmsolve (p := p) (u := u) (ml := ml) (mf := mf) w (h.below hS.below) (⟨(hS.rowN 2 rfl), fun k k0 k1 => hS.rowIn 3 rfl k0 k1, fun k k0 k1 => hS.roomIn 3 rfl k0 k1⟩ : MAt _ wP u vv ml mf)) ?_; rintro _ w ⟨vXm81, vYm81, sm81, em81, rfl, hmom81, hvXm81, hvYm81, hS'⟩
   replace hS : Sat w0 w [.blk g1 [vL, vD, .int .i64 p.stock, .int .i64 p.kerf], .blk g2 [.slice none 0 0, .slice none 0 0, .slice none 0 0, .int .i64 0, .int .i64 0], .own wP 1 22 u vv, .sem (Frame.rows 3 u vv ml mf), .blk g3 [.slice none 0 0, .slice none 0 0, .int .i64 0, .int .i64 0], .own vXm81 1 3 sm81.n (ints sm81.X), .own vYm81 1 3 sm81.m (ints sm81.Y)] := hS.comp hS'; clear hS'
   refine zs3 ?_
   refine zle (xsw 4 st_36 hS (hd := (ones_cons hvXm81.one (ones_cons hvYm81.one (ones_cons rfl (ones_cons rfl ones_nil)))))) ?_; clear hS; rintro w hS
   replace hS := hS.n7
   refine zlv xas ?_
   refine zlt <| zsq <| zsr ?_
   refine zs2 ?_
   refine zlt ?_
   refine zcif ?_ ?_ <;> intro hc
   ·
    refine zxt <| ztx <| zbm <| ztx <| zbh <| ztn <| zsr ?_
    refine zlv (xany (v := .agg #[.slice none 0 0, .slice none 0 0, .slice none 0 0, .int .i64 0, .int .i64 0])) ?_
    refine zlv xmv ?_
    refine zle (xsw 1 st_38 hS) ?_; clear hS; rintro w hS
    replace hS := hS.n7
    refine zlv xas ?_
    refine zlt <| zrt <| zfct 1 st_38 hS ⟨_, rfl, ?_⟩
    exact ⟨_, fun _ => undef, _, _, 0, fun _ => 0, fun _ _ => 0, So.zero, _, rfl, (by first | exact ColR.of_solve (by rw [show (0 : Int) = e by omega]; exact hRn) hmom81 (by omega) | exact ColR.of_start hRn (by omega)), slh_nil, slh_nil, slh_nil, ((((hS.sub (.cons _ (.cons _ (.cons _ (.cons _ (.cons _ (.cons _ (.cons _ .slnil)))))))).addnil 1 22 (fun _ => undef)).addrows 3 (fun _ => undef) (fun _ => 0) (fun _ _ => 0)).addnil 1 3 (ints So.zero.X)).addnil 1 3 (ints So.zero.Y)⟩
   refine zsk <| ztn <| zsr ?_
   refine zlv (xls 0 st_24 hS) ?_
   refine zlv (xfb 1 fd_36_1) ?_
   refine zlv (xlb 4 pl_22 hS) ?_
   have hfe := hmom81; rw [show em81 = 0 by omega] at hfe
   obtain ⟨hok, hu60, hsm⟩ := hfe.few
   refine zlc (xc0 cl_51) (c_rprice (p := p) (n := sm81.m) (y := sm81.Y) w (h.below hS.below) (hS.rowN 6 rfl)) ?_; rintro _ w ⟨vapz1, napz1, xapz1, wapz1, eapz1, rfl, hpzpz1, hvapz1, hS'⟩
   replace hS : Sat w0 w [.blk g1 [vL, vD, .int .i64 p.stock, .int .i64 p.kerf], .blk g2 [.slice none 0 0, .slice none 0 0, .slice none 0 0, .int .i64 0, .int .i64 0], .own wP 1 22 u vv, .sem (Frame.rows 3 u vv ml mf), .blk g3 [vXm81, vYm81, .int .i64 sm81.val, .int .i64 sm81.den], .own vXm81 1 3 sm81.n (ints sm81.X), .own vYm81 1 3 sm81.m (ints sm81.Y), .own vapz1 1 3 napz1 (ints xapz1)] := hS.comp hS'; clear hS'
   refine zs6 ?_
   refine zlv xas ?_
   refine zlt <| zsq <| zsr ?_
   refine zs3 ?_
   refine zlb 35 ?_ ?_ <;> intro hc
   ·
    iterate 4 refine zlo ?_
    refine zlv xpt ?_
    refine zlt <| zct <| zsr ?_
    refine zlv xmv ?_
    refine zlv (xls 4 st_36 hS) ?_
    refine zlv (xany (v := .agg #[wP, vXm81, vYm81, .int .i64 sm81.val, .int .i64 sm81.den]) (hr := by obtain ⟨_, _, _, _, rfl, _⟩ := hsP; obtain ⟨_, _, _, _, rfl, _⟩ := hvXm81; obtain ⟨_, _, _, _, rfl, _⟩ := hvYm81; kernel_rfl)) ?_
    refine zlv xmv ?_
    refine zle (xsw 1 st_38 hS (hd := (ones_cons hsP.one (ones_cons hvXm81.one (ones_cons hvYm81.one (ones_cons rfl (ones_cons rfl ones_nil))))))) ?_; clear hS; rintro w hS
    replace hS := hS.n8
    refine zlv xas ?_
    refine zlt <| zrt <| ztr <| zbr <| ztr <| zbr <| ztr <| zfct 1 st_38 hS ⟨_, rfl, ?_⟩
    exact ⟨_, _, _, _, _, _, _, _, _, rfl, ColR.of_price (by rw [show (0 : Int) = e by omega]; exact hRn) hfe hpzpz1 (by omega), hsP, hvXm81, hvYm81, hS.pk [2, 3, 5, 6]⟩
   refine zlv xmv ?_
   refine zlv (xfb 3 fd_36_3) ?_
   refine zlv (xlb 4 pl_3 hS) ?_
   refine zs2 ?_
   refine zlt ?_
   refine zcif ?_ ?_ <;> intro hc
   ·
    refine zsr ?_
    refine zlv xmv ?_
    refine zlv (xls 4 st_36 hS) ?_
    refine zlv (xany (v := .agg #[wP, vXm81, vYm81, .int .i64 sm81.val, .int .i64 sm81.den]) (hr := by obtain ⟨_, _, _, _, rfl, _⟩ := hsP; obtain ⟨_, _, _, _, rfl, _⟩ := hvXm81; obtain ⟨_, _, _, _, rfl, _⟩ := hvYm81; kernel_rfl)) ?_
    refine zlv xmv ?_
    refine zle (xsw 1 st_38 hS (hd := (ones_cons hsP.one (ones_cons hvXm81.one (ones_cons hvYm81.one (ones_cons rfl (ones_cons rfl ones_nil))))))) ?_; clear hS; rintro w hS
    replace hS := hS.n8
    refine zlv xas ?_
    refine zlt <| zrt <| ztr <| zbr <| ztr <| zbr <| ztr <| zfct 1 st_38 hS ⟨_, rfl, ?_⟩
    exact ⟨_, _, _, _, _, _, _, _, _, rfl, ColR.of_price (by rw [show (0 : Int) = e by omega]; exact hRn) hfe hpzpz1 (by omega), hsP, hvXm81, hvYm81, hS.pk [2, 3, 5, 6]⟩
   refine zsk <| ztn <| zrg ?_
   refine zs2 ?_
   refine zla (xli (n := 1) (len := 1) (pv := [(0, vapz1)]) (cs := [vapz1]) (c := (fun _ => vapz1)) sl_27 el_22 hS (hf := by obtain ⟨_, _, _, _, rfl, _⟩ := hvapz1; kernel_rfl)) ?_; rintro v1 w ⟨hS, hv1⟩
   replace hS := hS.n9
   refine zla (xap 2 (r := u + 1) sl_27 el_22 hS (hS.rowN 8 rfl) (cat_gsn _ _ _) (h1 := fun _ _ _ => hvapz1.one)) ?_; rintro v2 w ⟨hS, hv2⟩
   replace hS := hS.n9
   replace hS := Sat.merge (l1 := [_, _, _]) (l2 := [_, _, _]) (l3 := [_]) hS (by omega)
   have hrs1 := fun k (k0 : 0 ≤ k) (k1 : k < u + 1) => hS.slhIn 3 rfl k0 k1
   replace hS := hS.n8
   refine zlv xas ?_
   refine zln <| zbn <| zlq ⟨u + 1, v2, gsn vv u vapz1, gsn ml u napz1, gsn mf u xapz1, em81, rfl, ?_, ?_, ?_, rfl, hS.pk [0, 1, 2, 3]⟩
   ·
    rw [show em81 = eapz1 by omega]; exact .go (by rw [show (0 : Int) = e by omega]; exact hRn) hfe hpzpz1 (by omega)
   ·
    exact hv2
   ·
    omega
  refine zxt <| ztx <| ztx <| zbh <| ztn <| zsr ?_
  refine zlv (xany (v := .agg #[.slice none 0 0, .slice none 0 0, .slice none 0 0, .int .i64 0, .int .i64 0])) ?_
  refine zlv xmv ?_
  refine zle (xsw 1 st_38 hS) ?_; clear hS; rintro w hS
  replace hS := hS.n4
  refine zlv xas ?_
  refine zlt <| zrt <| zfct 1 st_38 hS ⟨_, rfl, ?_⟩
  exact ⟨_, fun _ => undef, _, _, 0, fun _ => 0, fun _ _ => 0, So.zero, _, rfl, (by first | exact ColR.of_solve (by rw [show (0 : Int) = e by omega]; exact hRn) hmom81 (by omega) | exact ColR.of_start hRn (by omega)), slh_nil, slh_nil, slh_nil, ((((hS.sub (.cons _ (.cons _ (.cons _ (.cons _ .slnil))))).addnil 1 22 (fun _ => undef)).addrows 3 (fun _ => undef) (fun _ => 0) (fun _ _ => 0)).addnil 1 3 (ints So.zero.X)).addnil 1 3 (ints So.zero.Y)⟩

def out (n : Int) : Prop := n < 0 ∨ 1073741824 < n
theorem c_lit (n : Int) (w0 : World) :
    Calls Tryz.prog 129 [.int .i64 n].toArray w0 fun e w => ∃ v, e = .returned v ∧ v = B (out n) ∧ Sat w0 w [] := by
  refine zenG Tryz.func129 Tryz.ntmps129 fun w hS => ?_
  refine zsr ?_
  refine zlv xas ?_
  refine zlz ?_
  refine zs3 ?_
  refine zlb 5 ?_ ?_ <;> intro hc
  ·
   iterate 2 refine zlo ?_
   refine zs2 ?_
   refine zlt <| zrt <| zf1 ⟨_, rfl, ?_⟩
   exact ⟨true_B (by unfold out; omega), hS⟩
  refine zs4 ?_
  refine zlt <| zrt <| zf1 ⟨_, rfl, ?_⟩
  exact ⟨B_congr (by unfold out; omega), hS⟩

theorem c_ixlit {s : Value} {n : Int} {f : Int → Int} (w0 : World) (h : Row w0 s 1 n (ints f)) :
    Calls Tryz.prog 95 [s, .func (.func 129) #[] #[]].toArray w0 fun e w => ∃ v, e = .returned v ∧ ∃ r : Int, v = .int .i64 r ∧ ((r = -1 ∧ ∀ k, 0 ≤ k → k < n → ¬ out (f k)) ∨ (0 ≤ r ∧ r < n ∧ out (f r))) ∧ Sat w0 w [] := by
  have hn := h.slh.n0; have hn1 := h.slh.n1
  refine zenG Tryz.func95 Tryz.ntmps95 fun w hS => ?_
  refine zsr ?_
  refine zlv xas ?_
  refine zlt <| zsq <| zsr ?_
  refine zlv xmv ?_
  refine zlv (xln sl_22 h.slh) ?_
  refine zlv xmv ?_
  refine zlt <| zbk <| zlp (fun mm M w => ∃ (i : Int), mm = ((n - i).toNat) ∧ (0 ≤ i) ∧ (i ≤ n) ∧ (∀ k, 0 ≤ k → k < i → ¬ out (f k)) ∧ M = [(0, s), (1, .func (.func 129) #[] #[]), (7, .int .i64 n), (8, .int .i64 i)] ∧ Sat w0 w []) ⟨0, rfl, (by omega), (by omega), ?_, rfl, hS⟩ ?_
  ·
   intro k h0 h1; omega
  clear hS w
  rintro mm M w ⟨i, rfl, h0, h1, hall, rfl, hS⟩
  refine zsr ?_
  refine zlv xlss ?_
  refine zlt <| zsq ?_
  refine zcif ?_ ?_ <;> intro hc
  ·
   refine zsk <| ztn <| zsq <| zbk <| zsr ?_
   refine zs2 ?_
   refine zlz ?_
   refine zs3 ?_
   refine zlv (xix (kk := i) sl_22 h.slh) ?_
   refine zlv (xlr (u := .int .i64 (f i)) pl_3 (h.below hS.below)) ?_
   refine zlc (xc0 cl_129) (c_lit (f i) w) ?_; rintro _ w ⟨rfl, hS'⟩
   replace hS := hS.cmp hS'; clear hS'
   refine zlt ?_
   refine zcif ?_ ?_ <;> intro hc
   ·
    refine zsr ?_
    refine zs2 ?_
    refine zlt <| zrt <| zbr <| ztr <| ztr <| zbr <| ztr <| zf1 ⟨_, rfl, ?_⟩
    exact ⟨i, rfl, .inr ⟨by omega, by omega, ‹out _›⟩, hS⟩
   refine zsk <| zbn <| ztn <| zrg ?_
   refine zlv (xadd (r := i + 1)) ?_
   refine zlv xmv ?_
   refine zln <| zlq ⟨i + 1, rfl, (by omega), (by omega), ?_, rfl, hS⟩
   ·
    intro k h0' h1'; rcases Int.lt_or_eq_of_le (show k ≤ i by omega) with hk | hk; exact hall k h0' hk; rw [hk]; assumption
  refine zxt <| ztx <| ztx <| zbh <| ztn <| zsr ?_
  refine zlv xas ?_
  refine zlt <| zrt <| zf1 ⟨_, rfl, ?_⟩
  exact ⟨-1, rfl, .inl ⟨rfl, fun k h0 h1 => hall k h0 (by omega)⟩, hS⟩

theorem c_colit {s : Value} {n : Int} {f : Int → Int} (w0 : World) (h : Row w0 s 1 n (ints f)) :
    Calls Tryz.prog 104 [s, .func (.func 129) #[] #[]].toArray w0 fun e w => ∃ v, e = .returned v ∧ v = B (∃ k, 0 ≤ k ∧ k < n ∧ out (f k)) ∧ Sat w0 w [] := by
  refine zenG Tryz.func104 Tryz.ntmps104 fun w hS => ?_
  refine zsr ?_
  refine zlv xas ?_
  refine zlz ?_
  refine zs2 ?_
  refine zlc (xc0 cl_95) (c_ixlit w (h.below hS.below)) ?_; rintro _ w ⟨r1, rfl, hr1, hS'⟩
  replace hS := hS.cmp hS'; clear hS'
  refine zs2 ?_
  refine zlt <| zrt <| zf1 ⟨_, rfl, ?_⟩
  exact ⟨B_congr (by
   rcases hr1 with ⟨h1, h2⟩ | ⟨h1, h2, h3⟩
   · exact ⟨fun h => by omega, fun ⟨k, h4, h5, h6⟩ => absurd h6 (h2 k h4 h5)⟩
   · exact ⟨fun _ => ⟨_, h1, h2, h3⟩, fun _ => h1⟩), hS⟩

theorem c_formed {vy : Value} {n q : Int} {y : Int → Int} (w0 : World) (h : Row w0 vy 1 n (ints y)) (hq : -9223372036854775808 ≤ q ∧ q ≤ 9223372036854775807) :
    Calls Tryz.prog 90 [.agg #[vy, .int .i64 q]].toArray w0 fun e w => ∃ v, e = .returned v ∧ v = B (Formed n y q) ∧ Sat w0 w [] := by
  refine zenG Tryz.func90 Tryz.ntmps90 fun w hS => ?_
  refine zsr ?_
  refine zla (xbx (cs := [_, _]) hS) ?_; rintro _ w ⟨g1, rfl, hS⟩
  replace hS := hS.n1
  refine zlv xas ?_
  refine zlz ?_
  refine zlv (xfb 1 fd_44_1) ?_
  refine zlv (xlb 0 pl_3 hS) ?_
  refine zs2 ?_
  refine zlb 6 ?_ ?_ <;> intro hc
  ·
   refine zlv (xfb 1 fd_44_1) ?_
   refine zlv (xlb 0 pl_3 hS) ?_
   refine zs3 ?_
   refine zlb 11 ?_ ?_ <;> intro hc
   ·
    refine zlv (xfb 0 fd_44_0) ?_
    refine zlv (xlb 0 pl_22 hS) ?_
    refine zlc (xc0 cl_104) (c_colit w (h.below hS.below)) ?_; rintro _ w ⟨rfl, hS'⟩
    replace hS := hS.cmp hS'; clear hS'
    refine zs3 ?_
    refine zlt <| zrt <| zf1 ⟨_, rfl, ?_⟩
    exact ⟨B_congr (by constructor; intro h4; exact ⟨by omega, by omega, fun k h1 h2 => by have : ¬ out (y k) := fun h5 => h4 ⟨k, h1, h2, h5⟩; unfold out at this; omega⟩; rintro ⟨h1, h2, h3⟩ ⟨k, h4, h5, h6⟩; have := h3 k h4 h5; unfold out at h6; omega), hS.nl⟩
   iterate 4 refine zlo ?_
   refine zs2 ?_
   refine zlt <| zrt <| zf1 ⟨_, rfl, ?_⟩
   exact ⟨false_B (by intro h; obtain ⟨h1, h2, h3⟩ := h; omega), hS.nl⟩
  iterate 3 refine zlo ?_
  refine zs2 ?_
  iterate 4 refine zlo ?_
  refine zs2 ?_
  refine zlt <| zrt <| zf1 ⟨_, rfl, ?_⟩
  exact ⟨false_B (by intro h; obtain ⟨h1, h2, h3⟩ := h; omega), hS.nl⟩

theorem c_rformed {vy : Value} {n q : Int} {y : Int → Int} (w0 : World) (h : Row w0 vy 1 n (ints y)) (hq : -9223372036854775808 ≤ q ∧ q ≤ 9223372036854775807) :
    Calls Tryz.prog 130 [.agg #[vy, .int .i64 q]].toArray w0 fun e w => ∃ v, e = .returned v ∧ v = B (Formed n y q) ∧ Sat w0 w [] := by
  have hn := h.slh.n0; have hn1 := h.slh.n1
  refine zenG Tryz.func130 Tryz.ntmps130 fun w hS => ?_
  refine zsr ?_
  refine zla (xbx (cs := [_, _]) hS) ?_; rintro _ w ⟨g1, rfl, hS⟩
  replace hS := hS.n1
  refine zlv xas ?_
  refine zlt <| zsq <| zsr ?_
  refine zlv xas ?_
  refine zlt <| zbk <| zlp (fun mm M w => ∃ (i : Int), mm = ((n - i).toNat) ∧ (0 ≤ i) ∧ (i ≤ n) ∧ (∀ k, 0 ≤ k → k < i → 0 ≤ y k ∧ y k ≤ 1073741824) ∧ M = [(1, .pointer (some ⟨g1, 0, none⟩)), (3, .int .i64 i)] ∧ Sat w0 w [.blk g1 [vy, .int .i64 q]]) ⟨0, rfl, (by omega), (by omega), ?_, rfl, hS⟩ ?_
  ·
   intro k h0 h1; omega
  clear hS w
  rintro mm M w ⟨i, rfl, h0, h1, hall, rfl, hS⟩
  refine zsq <| zsr ?_
  refine zlv xmv ?_
  refine zlv (xfb 0 fd_47_0) ?_
  refine zlv (xlb 0 pl_22 hS) ?_
  refine zlv (xln sl_22 h.slh) ?_
  refine zlv xlss ?_
  refine zlt ?_
  refine zcif ?_ ?_ <;> intro hc
  ·
   refine zsk <| ztn <| zsq <| zbk <| zsr ?_
   refine zlv (xfb 0 fd_47_0) ?_
   refine zlv (xlb 0 pl_22 hS) ?_
   refine zlv xmv ?_
   refine zlv (xix (kk := i) sl_22 h.slh) ?_
   refine zlv (xlr (u := .int .i64 (y i)) pl_3 (h.below hS.below)) ?_
   refine zs2 ?_
   refine zlb 17 ?_ ?_ <;> intro hc
   ·
    iterate 6 refine zlo ?_
    refine zlv xpt ?_
    refine zlt <| zct <| zsr ?_
    refine zlv xas ?_
    refine zlt <| zrt <| zbr <| ztr <| ztr <| zbr <| ztr <| zf1 ⟨_, rfl, ?_⟩
    exact ⟨false_B (by rintro ⟨h1, h2, h3⟩; first | omega | (have h4 := h3 i (by omega) (by omega); omega)), hS.nl⟩
   refine zlv (xfb 0 fd_47_0) ?_
   refine zlv (xlb 0 pl_22 hS) ?_
   refine zlv xmv ?_
   refine zlv (xix (kk := i) sl_22 h.slh) ?_
   refine zlv (xlr (u := .int .i64 (y i)) pl_3 (h.below hS.below)) ?_
   refine zs2 ?_
   refine zlt ?_
   refine zcif ?_ ?_ <;> intro hc
   ·
    refine zsr ?_
    refine zlv xas ?_
    refine zlt <| zrt <| zbr <| ztr <| ztr <| zbr <| ztr <| zf1 ⟨_, rfl, ?_⟩
    exact ⟨false_B (by rintro ⟨h1, h2, h3⟩; first | omega | (have h4 := h3 i (by omega) (by omega); omega)), hS.nl⟩
   refine zsk <| zbn <| ztn <| zrg ?_
   refine zlv xmv ?_
   refine zlv (xadd (r := i + 1)) ?_
   refine zlv xas ?_
   refine zln <| zlq ⟨i + 1, rfl, (by omega), (by omega), ?_, rfl, hS⟩
   ·
    intro k h0' h1'; rcases Int.lt_or_eq_of_le (show k ≤ i by omega) with hk | hk; exact hall k h0' hk; rw [hk]; omega
  refine zxt <| ztx <| ztx <| zbh <| ztn <| zsr ?_
  refine zlv (xfb 1 fd_47_1) ?_
  refine zlv (xlb 0 pl_3 hS) ?_
  refine zs2 ?_
  refine zlb 28 ?_ ?_ <;> intro hc
  ·
   refine zlv (xfb 1 fd_47_1) ?_
   refine zlv (xlb 0 pl_3 hS) ?_
   refine zs3 ?_
   refine zlt <| zrt <| zf1 ⟨_, rfl, ?_⟩
   exact ⟨B_congr (by constructor; exact fun h4 => ⟨by omega, by omega, fun k h5 h6 => hall k h5 (by omega)⟩; rintro ⟨h4, h5, h6⟩; omega), hS.nl⟩
  iterate 3 refine zlo ?_
  refine zs2 ?_
  refine zlt <| zrt <| zf1 ⟨_, rfl, ?_⟩
  exact ⟨false_B (by rintro ⟨h1, h2, h3⟩; first | omega | (have h4 := h3 i (by omega) (by omega); omega)), hS.nl⟩

set_option maxRecDepth 20000 in
theorem c_dearest {vL vD vy : Value} {p : Prob} {n : Int} {y : Int → Int} (w0 : World) (h : PAt w0 vL vD p) (hp : p.Ok) (hY : Row w0 vy 1 n (ints y)) (hn : n = p.m) (hy : Priced p y) :
    Calls Tryz.prog 91 [.agg #[vL, vD, .int .i64 p.stock, .int .i64 p.kerf], vy].toArray w0 fun e w => ∃ v, e = .returned v ∧ v = .int .i64 (Worth p y) ∧ Sat w0 w [] := by
  subst hn; have hm := hp.m1; have hm2 := hp.m2; have hd := hp.d; have hs1 := hp.s1; have hs2 := hp.s2; have hk1 := hp.k1; have hk2 := hp.k2
  refine zenG Tryz.func91 Tryz.ntmps91 fun w hS => ?_
  refine zsr ?_
  refine zla (xbx (cs := [_, _, _, _]) hS) ?_; rintro _ w ⟨g1, rfl, hS⟩
  replace hS := hS.n1
  refine zlv xas ?_
  refine zlz ?_
  refine zlv (xfb 2 fd_35_2) ?_
  refine zlv (xlb 0 pl_3 hS) ?_
  refine zlv (xfb 3 fd_35_3) ?_
  refine zlv (xlb 0 pl_3 hS) ?_
  refine zlv (xadd (r := p.stock + p.kerf)) ?_
  refine zlv (xadd (r := p.stock + p.kerf + 1)) ?_
  refine zla (xmk sl_22 el_3 hS) ?_; rintro v1 w ⟨hS, hv1⟩
  replace hS := hS.n2
  refine zlv xas ?_
  refine zlt <| zsq <| zsr ?_
  refine zlv (xfb 0 fd_35_0) ?_
  refine zlv (xlb 0 pl_22 hS) ?_
  refine zlv (xln sl_22 h.L.slh) ?_
  refine zlv xmv ?_
  refine zlt <| zbk <| zlp (fun mm M w => ∃ (i : Int) (f : Int → Int), mm = ((p.m - i).toNat) ∧ (0 ≤ i) ∧ (i ≤ p.m) ∧ (∀ j, 0 ≤ j → j ≤ p.stock + p.kerf → f j = Tab p y i.toNat j) ∧ M = [(1, vy), (2, .pointer (some ⟨g1, 0, none⟩)), (4, .int .i64 0), (5, v1), (18, vL), (19, .int .i64 p.m), (20, .int .i64 i)] ∧ Sat w0 w [.blk g1 [vL, vD, .int .i64 p.stock, .int .i64 p.kerf], .own v1 1 3 (p.stock + p.kerf + 1) (ints f)]) ⟨0, (fun _ => 0), rfl, (by omega), (by omega), ?_, rfl, hS⟩ ?_
  ·
   intro j _ _; rfl
  clear hS w
  rintro mm M w ⟨i, f, rfl, h0, h1, hf, rfl, hS⟩
  refine zsr ?_
  refine zlv xlss ?_
  refine zlt <| zsq ?_
  refine zcif ?_ ?_ <;> intro hc
  ·
   refine zsk <| ztn <| zsq <| zbk <| zsr ?_
   refine zlv xmv ?_
   have he := hp.all i (by omega) (by omega); unfold Prob.each at he; have hyi := hy i (by omega) (by omega)
   refine zlv (xix (kk := i) sl_22 h.L.slh) ?_
   refine zlv (xlr (u := .int .i64 (p.L i)) pl_3 (h.L.below hS.below)) ?_
   have hbv := h.iL i
   refine zs2 ?_
   refine zlz ?_
   refine zlv xmv ?_
   refine zlv (xfb 3 fd_35_3) ?_
   refine zlv (xlb 0 pl_3 hS) ?_
   refine zlv (xadd (r := p.L i + p.kerf)) ?_
   refine zlv xas ?_
   refine zlt <| zsq ?_
   refine zdst [0, 1] [0, 1] 1000 mx_ hS ?_; clear hS; intro w hS
   refine zdv 0 (fun _ => (xfb 1 fd_35_1)) ?_
   refine zdla 1 (fun w hS => (xlb 0 pl_22 hS)) ?_
   refine zdv 2 (fun _ => xmv) ?_
   refine zdv 3 (fun _ => (xix (kk := i) sl_22 h.D.slh)) ?_
   refine zdla 4 (fun w hS => (xlr (u := .int .i64 (p.D i)) pl_3 (h.D.below hS.below))) ?_
   have hbv := h.iD i
   refine zdv 5 (fun _ => xmv) ?_
   refine zdv 6 (fun _ => (xln sl_22 hv1)) ?_
   refine zdv 7 (fun _ => (xsub (r := p.stock + p.kerf))) ?_
   refine zdv 8 (fun _ => xmv) ?_
   refine zdv 9 (fun _ => (xquo (r := (Int.tdiv (p.stock + p.kerf) (p.L i + p.kerf))) (hn := (by omega)) (hr := (by have hq := quo_facts (a := p.stock + p.kerf) (b := p.L i + p.kerf) (by omega) (by omega); unfold I64; omega)))) ?_
   have hq := quo_facts (a := p.stock + p.kerf) (b := p.L i + p.kerf) (by omega) (by omega)
   refine zdv 10 (fun _ => (xmin (r := (min (p.D i) (Int.tdiv (p.stock + p.kerf) (p.L i + p.kerf)))))) ?_
   refine zdv 11 (fun _ => xmv) ?_
   refine zdd <| ztn <| zbk <| zlp (fun mm M w => ∃ (k : Int) (f2 : Int → Int), mm = ((min (p.D i) (Int.tdiv (p.stock + p.kerf) (p.L i + p.kerf)) - k).toNat) ∧ (0 ≤ k) ∧ (k ≤ min (p.D i) (Int.tdiv (p.stock + p.kerf) (p.L i + p.kerf))) ∧ (∀ j, 0 ≤ j → j ≤ p.stock + p.kerf → f2 j = R (Tab p y i.toNat) (p.L i + p.kerf) (y i) k.toNat j) ∧ M = [(1, vy), (2, .pointer (some ⟨g1, 0, none⟩)), (4, .int .i64 0), (5, v1), (6, .int .i64 i), (8, .int .i64 (p.L i + p.kerf)), (18, vL), (19, .int .i64 p.m), (20, .int .i64 i), (39, .int .i64 (min (p.D i) (Int.tdiv (p.stock + p.kerf) (p.L i + p.kerf)))), (40, .int .i64 k)] ∧ Sat w0 w [.blk g1 [vL, vD, .int .i64 p.stock, .int .i64 p.kerf], .own v1 1 3 (p.stock + p.kerf + 1) (ints f2)]) ⟨0, f, rfl, (by omega), (by omega), ?_, rfl, hS⟩ ?_
   ·
    intro j hj0 hj1; rw [hf j hj0 hj1]; rfl
   clear hS w
   rintro mm M w ⟨k, f2, rfl, k0, k1, hf2, rfl, hS⟩
   refine zsr ?_
   refine zlv xlss ?_
   refine zlt <| zsq ?_
   refine zcif ?_ ?_ <;> intro hc
   ·
    refine zsk <| ztn <| zsq <| zbk <| zsr ?_
    refine zlv xmv ?_
    refine zlv (xln sl_22 hv1) ?_
    refine zlv (xsub (r := p.stock + p.kerf)) ?_
    refine zlv xas ?_
    refine zlt <| zbk <| zlp (fun mm M w => ∃ (c : Int) (f3 : Int → Int), mm = ((c - (p.L i + p.kerf) + 1).toNat) ∧ (p.L i + p.kerf - 1 ≤ c) ∧ (c ≤ p.stock + p.kerf) ∧ (∀ j, c < j → j ≤ p.stock + p.kerf → f3 j = R (Tab p y i.toNat) (p.L i + p.kerf) (y i) (k.toNat + 1) j) ∧ (∀ j, 0 ≤ j → j ≤ c → f3 j = R (Tab p y i.toNat) (p.L i + p.kerf) (y i) k.toNat j) ∧ M = [(1, vy), (2, .pointer (some ⟨g1, 0, none⟩)), (4, .int .i64 0), (5, v1), (6, .int .i64 i), (8, .int .i64 (p.L i + p.kerf)), (9, .int .i64 c), (18, vL), (19, .int .i64 p.m), (20, .int .i64 i), (39, .int .i64 (min (p.D i) (Int.tdiv (p.stock + p.kerf) (p.L i + p.kerf)))), (40, .int .i64 k)] ∧ Sat w0 w [.blk g1 [vL, vD, .int .i64 p.stock, .int .i64 p.kerf], .own v1 1 3 (p.stock + p.kerf + 1) (ints f3)]) ⟨p.stock + p.kerf, f2, rfl, (by omega), (by omega), ?_, ?_, rfl, hS⟩ ?_
    ·
     intro j hj0 hj1; omega
    ·
     intro j hj0 hj1; exact hf2 j hj0 (by omega)
    clear hS w
    rintro mm M w ⟨c, f3, rfl, c0, c1, ha3, hb3, rfl, hS⟩
    refine zsq <| zsr ?_
    refine zs3 ?_
    refine zlt ?_
    refine zcif ?_ ?_ <;> intro hc
    ·
     refine zsk <| ztn <| zsq <| zbk ?_
     refine zdst [0, 1] [0] 19 mx_ hS ?_; clear hS; intro w hS
     refine zdv 0 (fun _ => xmv) ?_
     refine zdv 1 (fun _ => xmv) ?_
     refine zdv 2 (fun _ => xmv) ?_
     refine zdv 3 (fun _ => xmv) ?_
     refine zdv 4 (fun _ => (xix (kk := c) sl_22 hv1)) ?_
     refine zdl 5 (fun w hS => (xlr (u := .int .i64 (f3 c)) pl_3 (hS.rowN 1 rfl))) ?_
     refine zdv 6 (fun _ => xmv) ?_
     refine zdv 7 (fun _ => xmv) ?_
     refine zdv 8 (fun _ => xmv) ?_
     refine zdv 9 (fun _ => (xsub (r := c - p.L i - p.kerf))) ?_
     refine zdv 10 (fun _ => (xix (kk := c - p.L i - p.kerf) sl_22 hv1)) ?_
     refine zdl 11 (fun w hS => (xlr (u := .int .i64 (f3 (c - p.L i - p.kerf))) pl_3 (hS.rowN 1 rfl))) ?_
     refine zdv 12 (fun _ => xmv) ?_
     refine zdv 13 (fun _ => xmv) ?_
     refine zdv 14 (fun _ => (xix (kk := i) sl_22 hY.slh)) ?_
     refine zdla 15 (fun w hS => (xlr (u := .int .i64 (y i)) pl_3 (hY.below hS.below))) ?_
     refine zdv 16 (fun _ => (xadd (r := f3 (c - p.L i - p.kerf) + (y i)) (hr := (by have e := hb3 (c - p.L i - p.kerf) (by omega) (by omega); have b := R_tab hp hy h0 (by omega) k.toNat (c := c - p.L i - p.kerf) (by omega); unfold I64; omega)))) ?_
     refine zdv 17 (fun _ => (xmax (r := (max (f3 c) (f3 (c - p.L i - p.kerf) + (y i)))))) ?_
     refine zdv 18 (fun _ => (xix (kk := c) sl_22 hv1)) ?_
     refine zde 19 (xso 1 pl_3 hS (upd_ints _ _ _)) ?_; clear hS; rintro w hS
     replace hS := hS.n2
     refine ⟨⟨fun h => absurd h (by decide), hS.pk [0]⟩, ?_⟩
     refine zdd <| zbn <| ztn <| zrg ?_
     refine zlv xmv ?_
     refine zlv (xsub (r := c - 1)) ?_
     refine zlv xas ?_
     refine zln <| zlq ⟨c - 1, (upd f3 c (max (f3 c) (f3 (c - p.L i - p.kerf) + (y i)))), rfl, (by omega), (by omega), ?_, ?_, rfl, hS⟩
     ·
      intro j hj0 hj1; by_cases hj : j = c
      · rw [hj, upd_self]; exact R_round hp y h0 (by omega) (by omega) hb3 rfl
      · rw [upd_ne _ _ hj]; exact ha3 j (by omega) hj1
     ·
      intro j hj0 hj1; rw [upd_ne _ _ (by omega)]; exact hb3 j hj0 (by omega)
    refine zxt <| ztx <| ztx <| zbh <| zbn <| ztn <| zrg ?_
    refine zlv (xadd (r := k + 1)) ?_
    refine zlv xmv ?_
    refine zln <| zlq ⟨k + 1, f3, rfl, (by omega), (by omega), ?_, rfl, hS⟩
    ·
     intro j hj0 hj1; have e : (k + 1).toNat = k.toNat + 1 := by omega
     rw [e]; by_cases hj : c < j
     · exact ha3 j hj hj1
     · rw [hb3 j hj0 (by omega)]; exact R_low hp y h0 (by omega) _ hj0 (by omega)
   refine zxt <| ztx <| ztx <| zbh <| zbn <| ztn <| zrg ?_
   refine zlv (xadd (r := i + 1)) ?_
   refine zlv xmv ?_
   refine zln <| zlq ⟨i + 1, f2, rfl, (by omega), (by omega), ?_, rfl, hS⟩
   ·
    intro j hj0 hj1; rw [hf2 j hj0 hj1]; exact Tab_next hp y h0 (by omega) k0 (by omega) (by omega) hj0 hj1
  refine zxt <| ztx <| ztx <| zbh <| ztn <| zsr ?_
  refine zs2 ?_
  refine zlv (xln sl_22 hv1) ?_
  refine zlv (xsub (r := p.stock + p.kerf)) ?_
  refine zlv (xix (kk := p.stock + p.kerf) sl_22 hv1) ?_
  refine zlv (xlr (u := .int .i64 (f (p.stock + p.kerf))) pl_3 (hS.rowN 1 rfl)) ?_
  refine zlv xas ?_
  refine zlt <| zrt <| zf1 ⟨_, rfl, ?_⟩
  obtain rfl : i = p.m := by omega
  exact ⟨congrArg (Value.int .i64) (by rw [hf _ (by omega) (by omega)]; rfl), hS.nl⟩

set_option maxRecDepth 20000 in
theorem c_worth {vL vD vy : Value} {p : Prob} {n : Int} {y : Int → Int} (w0 : World) (h : PAt w0 vL vD p) (hp : p.Ok) (hY : Row w0 vy 1 n (ints y)) (hn : n = p.m) (hy : Priced p y) :
    Calls Tryz.prog 131 [.agg #[vL, vD, .int .i64 p.stock, .int .i64 p.kerf], vy].toArray w0 fun e w => ∃ v, e = .returned v ∧ v = .int .i64 (Worth p y) ∧ Sat w0 w [] := by
  subst hn; have hm := hp.m1; have hm2 := hp.m2; have hd := hp.d; have hs1 := hp.s1; have hs2 := hp.s2; have hk1 := hp.k1; have hk2 := hp.k2
  refine zenG Tryz.func131 Tryz.ntmps131 fun w hS => ?_
  refine zsr ?_
  refine zla (xbx (cs := [_, _, _, _]) hS) ?_; rintro _ w ⟨g1, rfl, hS⟩
  replace hS := hS.n1
  refine zlv xas ?_
  refine zlz ?_
  refine zlv (xfb 2 fd_24_2) ?_
  refine zlv (xlb 0 pl_3 hS) ?_
  refine zlv (xfb 3 fd_24_3) ?_
  refine zlv (xlb 0 pl_3 hS) ?_
  refine zlv (xadd (r := p.stock + p.kerf)) ?_
  refine zlv xas ?_
  refine zlz ?_
  refine zlv xmv ?_
  refine zlv (xadd (r := p.stock + p.kerf + 1)) ?_
  refine zla (xmk sl_22 el_3 hS) ?_; rintro v1 w ⟨hS, hv1⟩
  replace hS := hS.n2
  refine zlv xas ?_
  refine zlt <| zsq <| zsr ?_
  refine zlv xas ?_
  refine zlt <| zbk <| zlp (fun mm M w => ∃ (i : Int) (vb : Value) (f : Int → Int), mm = ((p.m - i).toNat) ∧ (0 ≤ i) ∧ (i ≤ p.m) ∧ (∀ j, 0 ≤ j → j ≤ p.stock + p.kerf → f j = Tab p y i.toNat j) ∧ (Slh vb (p.stock + p.kerf + 1)) ∧ M = [(1, vy), (2, .pointer (some ⟨g1, 0, none⟩)), (4, .int .i64 0), (5, .int .i64 (p.stock + p.kerf)), (6, vb), (7, .int .i64 i)] ∧ Sat w0 w [.blk g1 [vL, vD, .int .i64 p.stock, .int .i64 p.kerf], .own vb 1 3 (p.stock + p.kerf + 1) (ints f)]) ⟨0, v1, (fun _ => 0), rfl, (by omega), (by omega), ?_, ?_, rfl, hS⟩ ?_
  ·
   intro j _ _; rfl
  ·
   exact hv1
  clear hS w
  rintro mm M w ⟨i, vb, f, rfl, h0, h1, hf, hvb, rfl, hS⟩
  refine zsq <| zsr ?_
  refine zs2 ?_
  refine zlv (xln sl_22 hY.slh) ?_
  refine zlv xlss ?_
  refine zlt ?_
  refine zcif ?_ ?_ <;> intro hc
  ·
   refine zsk <| ztn <| zsq <| zbk <| zsq ?_
   refine zdst [0, 1] [0, 1] 1000 mx_ hS ?_; clear hS; intro w hS
   refine zdv 0 (fun _ => (xfb 0 fd_24_0)) ?_
   have he := hp.all i (by omega) (by omega); unfold Prob.each at he; have hyi := hy i (by omega) (by omega)
   refine zdla 1 (fun w hS => (xlb 0 pl_22 hS)) ?_
   refine zdv 2 (fun _ => xmv) ?_
   refine zdv 3 (fun _ => (xix (kk := i) sl_22 h.L.slh)) ?_
   refine zdla 4 (fun w hS => (xlr (u := .int .i64 (p.L i)) pl_3 (h.L.below hS.below))) ?_
   have hbv := h.iL i
   refine zdv 5 (fun _ => (xfb 3 fd_24_3)) ?_
   refine zdla 6 (fun w hS => (xlb 0 pl_3 hS)) ?_
   refine zdv 7 (fun _ => (xadd (r := p.L i + p.kerf))) ?_
   refine zdv 8 (fun _ => xas) ?_
   refine zdd <| ztn <| zsr ?_
   refine zla (xl0 (c := ints f) sl_22 hS) ?_; rintro v2 w ⟨hS, hv2⟩
   replace hS := hS.n3
   refine zlv xmv ?_
   refine zla (xap 2 (r := p.stock + p.kerf + 1) (f := ints f) sl_22 el_3 hS (hS.rowN 1 rfl) (by exact cat_self _ _)) ?_; rintro v3 w ⟨hS, hv3⟩
   replace hS := hS.n3
   refine zlv xas ?_
   refine zlt <| zsq <| zsr ?_
   refine zlv xas ?_
   refine zlt <| zbk <| zlp (fun mm M w => ∃ (nn : Int) (g : Int → Int), mm = ((p.D i + 1 - nn).toNat) ∧ (1 ≤ nn) ∧ (nn - 1 ≤ p.D i) ∧ (∀ j, 0 ≤ j → j ≤ p.stock + p.kerf → g j = R (Tab p y i.toNat) (p.L i + p.kerf) (y i) (nn - 1).toNat j) ∧ M = [(1, vy), (2, .pointer (some ⟨g1, 0, none⟩)), (4, .int .i64 0), (5, .int .i64 (p.stock + p.kerf)), (6, vb), (7, .int .i64 i), (8, .int .i64 (p.L i + p.kerf)), (9, v3), (10, .int .i64 nn)] ∧ Sat w0 w [.blk g1 [vL, vD, .int .i64 p.stock, .int .i64 p.kerf], .own vb 1 3 (p.stock + p.kerf + 1) (ints f), .own v3 1 3 (p.stock + p.kerf + 1) (ints g)]) ⟨1, f, rfl, (by omega), (by omega), ?_, rfl, hS⟩ ?_
   ·
    intro j hj0 hj1; rw [hf j hj0 hj1]; rfl
   clear hS w
   rintro mm M w ⟨nn, g, rfl, n0, n1, hg, rfl, hS⟩
   refine zsq <| zsr ?_
   refine zlv xmv ?_
   refine zlv (xfb 1 fd_24_1) ?_
   refine zlv (xlb 0 pl_22 hS) ?_
   refine zlv xmv ?_
   refine zlv (xix (kk := i) sl_22 h.D.slh) ?_
   refine zlv (xlr (u := .int .i64 (p.D i)) pl_3 (h.D.below hS.below)) ?_
   have hbv := h.iD i
   refine zs2 ?_
   refine zlb 44 ?_ ?_ <;> intro hc
   ·
    refine zs2 ?_
    refine zlv (xmul (r := (nn * (p.L i + p.kerf))) (e := rfl) (hr := (by have := size_mul hp h0 (by omega : i < p.m) (n := nn) (by omega) (by omega); unfold I64; omega))) ?_
    have hz := size_mul hp h0 (by omega : i < p.m) (n := nn) (by omega) (by omega)
    refine zs3 ?_
    refine zlt ?_
    refine zcif ?_ ?_ <;> intro hc
    ·
     refine zsk <| ztn <| zsq <| zbk <| zsr ?_
     refine zlv xmv ?_
     have hz := size_mul hp h0 (by omega : i < p.m) (n := nn) (by omega) (by omega)
     refine zlv xmv ?_
     refine zlv (xmul (r := (nn * (p.L i + p.kerf))) (e := rfl) (hr := (by unfold I64; omega))) ?_
     refine zlv xas ?_
     refine zlt <| zbk <| zlp (fun mm M w => ∃ (c : Int) (g3 : Int → Int), mm = ((p.stock + p.kerf + 1 - c).toNat) ∧ (nn * (p.L i + p.kerf) ≤ c) ∧ (c ≤ p.stock + p.kerf + 1) ∧ (∀ j, 0 ≤ j → j < c → g3 j = R (Tab p y i.toNat) (p.L i + p.kerf) (y i) nn.toNat j) ∧ (∀ j, c ≤ j → j ≤ p.stock + p.kerf → g3 j = R (Tab p y i.toNat) (p.L i + p.kerf) (y i) (nn - 1).toNat j) ∧ M = [(1, vy), (2, .pointer (some ⟨g1, 0, none⟩)), (4, .int .i64 0), (5, .int .i64 (p.stock + p.kerf)), (6, vb), (7, .int .i64 i), (8, .int .i64 (p.L i + p.kerf)), (9, v3), (10, .int .i64 nn), (11, .int .i64 c)] ∧ Sat w0 w [.blk g1 [vL, vD, .int .i64 p.stock, .int .i64 p.kerf], .own vb 1 3 (p.stock + p.kerf + 1) (ints f), .own v3 1 3 (p.stock + p.kerf + 1) (ints g3)]) ⟨(nn * (p.L i + p.kerf)), g, rfl, (by omega), (by omega), ?_, ?_, rfl, hS⟩ ?_
     ·
      intro j hj0 hj1; rw [hg j hj0 (by omega)]; exact (R_not _ _ _ n0 hj1).symm
     ·
      intro j hj0 hj1; exact hg j (by omega) hj1
     clear hS w
     rintro mm M w ⟨c, g3, rfl, c0, c1, ha3, hb3, rfl, hS⟩
     refine zsq <| zsr ?_
     refine zs3 ?_
     refine zlt ?_
     refine zcif ?_ ?_ <;> intro hc
     ·
      refine zsk <| ztn <| zsq <| zbk ?_
      refine zdst [0, 1, 2] [0, 1] 23 mx_ hS ?_; clear hS; intro w hS
      refine zdv 0 (fun _ => xmv) ?_
      have hz2 := price_mul hy h0 (by omega : i < p.m) (n := nn) (by omega) (by omega); have hb2 := Tab_bound hp (by omega) hy i.toNat (by omega) (c - nn * (p.L i + p.kerf)) (by omega); rw [← hf _ (by omega) (by omega)] at hb2
      refine zdv 1 (fun _ => xmv) ?_
      refine zdv 2 (fun _ => xmv) ?_
      refine zdv 3 (fun _ => xmv) ?_
      refine zdv 4 (fun _ => (xix (kk := c) sl_22 hv3)) ?_
      refine zdl 5 (fun w hS => (xlr (u := .int .i64 (g3 c)) pl_3 (hS.rowN 2 rfl))) ?_
      refine zdv 6 (fun _ => xmv) ?_
      refine zdv 7 (fun _ => xmv) ?_
      refine zdv 8 (fun _ => xmv) ?_
      refine zdv 9 (fun _ => xmv) ?_
      refine zdv 10 (fun _ => (xmul (r := (nn * (p.L i + p.kerf))) (e := rfl) (hr := (by unfold I64; omega)))) ?_
      refine zdv 11 (fun _ => (xsub (r := c - (nn * (p.L i + p.kerf))))) ?_
      refine zdv 12 (fun _ => (xix (kk := c - (nn * (p.L i + p.kerf))) sl_22 hvb)) ?_
      refine zdla 13 (fun w hS => (xlr (u := .int .i64 (f (c - (nn * (p.L i + p.kerf))))) pl_3 (hS.rowN 1 rfl))) ?_
      refine zdv 14 (fun _ => xmv) ?_
      refine zdv 15 (fun _ => xmv) ?_
      refine zdv 16 (fun _ => xmv) ?_
      refine zdv 17 (fun _ => (xix (kk := i) sl_22 hY.slh)) ?_
      refine zdla 18 (fun w hS => (xlr (u := .int .i64 (y i)) pl_3 (hY.below hS.below))) ?_
      refine zdv 19 (fun _ => (xmul (r := (nn * (y i))) (e := rfl) (hr := (by unfold I64; omega)))) ?_
      refine zdv 20 (fun _ => (xadd (r := f (c - (nn * (p.L i + p.kerf))) + (nn * (y i))))) ?_
      refine zdv 21 (fun _ => (xmax (r := (max (g3 c) (f (c - (nn * (p.L i + p.kerf))) + (nn * (y i))))))) ?_
      refine zdv 22 (fun _ => (xix (kk := c) sl_22 hv3)) ?_
      refine zde 23 (xso 2 pl_3 hS (upd_ints _ _ _)) ?_; clear hS; rintro w hS
      replace hS := hS.n3
      refine ⟨⟨fun h => absurd h (by decide), hS.pk [0, 1]⟩, ?_⟩
      refine zdd <| zbn <| ztn <| zrg ?_
      refine zlv xmv ?_
      refine zlv (xadd (r := c + 1)) ?_
      refine zlv xas ?_
      refine zln <| zlq ⟨c + 1, (upd g3 c (max (g3 c) (f (c - (nn * (p.L i + p.kerf))) + (nn * (y i))))), rfl, (by omega), (by omega), ?_, ?_, rfl, hS⟩
      ·
       intro j hj0 hj1; by_cases hj : j = c
       · rw [hj, upd_self, R_at _ _ _ n0 c0, hb3 c (by omega) (by omega), hf _ (by omega) (by omega)]
       · rw [upd_ne _ _ hj]; exact ha3 j hj0 (by omega)
      ·
       intro j hj0 hj1; rw [upd_ne _ _ (by omega)]; exact hb3 j (by omega) hj1
     refine zxt <| ztx <| ztx <| zbh <| zbn <| ztn <| zrg ?_
     refine zlv xmv ?_
     refine zlv (xadd (r := nn + 1)) ?_
     refine zlv xas ?_
     refine zln <| zlq ⟨nn + 1, g3, rfl, (by omega), (by omega), ?_, rfl, hS⟩
     ·
      intro j hj0 hj1; rw [show nn + 1 - 1 = nn by omega]; exact ha3 j hj0 (by omega)
    refine zxt <| ztx <| ztx <| zbh <| ztn <| zrg ?_
    refine zs2 ?_
    refine zln <| zbn <| ztn <| zrg ?_
    refine zlv xmv ?_
    refine zlv (xadd (r := i + 1)) ?_
    refine zlv xas ?_
    refine zln <| zlq ⟨i + 1, v3, g, rfl, (by omega), (by omega), ?_, ?_, rfl, hS.pk [0, 2]⟩
    ·
     intro j hj0 hj1; rw [hg j hj0 hj1]; exact Tab_next2 hp y h0 (by omega) n0 n1 (by omega) hj0 hj1
    ·
     exact hv3
   iterate 5 refine zlo ?_
   refine zlv xpf ?_
   refine zlt <| zcf <| zxt <| ztx <| ztx <| zbh <| ztn <| zrg ?_
   refine zs2 ?_
   refine zln <| zbn <| ztn <| zrg ?_
   refine zlv xmv ?_
   refine zlv (xadd (r := i + 1)) ?_
   refine zlv xas ?_
   refine zln <| zlq ⟨i + 1, v3, g, rfl, (by omega), (by omega), ?_, ?_, rfl, hS.pk [0, 2]⟩
   ·
    intro j hj0 hj1; rw [hg j hj0 hj1]; exact Tab_next2 hp y h0 (by omega) n0 n1 (by omega) hj0 hj1
   ·
    exact hv3
  refine zxt <| ztx <| ztx <| zbh <| ztn <| zsr ?_
  refine zs2 ?_
  refine zlv (xix (kk := p.stock + p.kerf) sl_22 hvb) ?_
  refine zlv (xlr (u := .int .i64 (f (p.stock + p.kerf))) pl_3 (hS.rowN 1 rfl)) ?_
  refine zlv xas ?_
  refine zlt <| zrt <| zf1 ⟨_, rfl, ?_⟩
  obtain rfl : i = p.m := by omega
  exact ⟨congrArg (Value.int .i64) (by rw [hf _ (by omega) (by omega)]; rfl), hS.nl⟩

set_option maxRecDepth 20000 in
theorem c_check {vL vD vy : Value} {p : Prob} {n q : Int} {y : Int → Int} (w0 : World) (h : PAt w0 vL vD p) (hY : Row w0 vy 1 n (ints y)) (hq : -9223372036854775808 ≤ q ∧ q ≤ 9223372036854775807) :
    Calls Tryz.prog 53 [.agg #[vL, vD, .int .i64 p.stock, .int .i64 p.kerf], .agg #[vy, .int .i64 q]].toArray w0 fun e w => ∃ v, e = .returned v ∧ v = .int .i64 (Chk p n y q) ∧ Sat w0 w [] := by
  have hn := hY.slh.n0; have hn1 := hY.slh.n1
  refine zenG Tryz.func53 Tryz.ntmps53 fun w hS => ?_
  refine zsr ?_
  refine zla (xbx (cs := [_, _, _, _]) hS) ?_; rintro _ w ⟨g1, rfl, hS⟩
  replace hS := hS.n1
  refine zla (xbx (cs := [_, _]) hS) ?_; rintro _ w ⟨g2, rfl, hS⟩
  replace hS := hS.n2
  refine zlv xas ?_
  refine zlt <| zsq <| zbk <| zsr ?_
  refine zlv (xls 0 st_35 hS) ?_
  refine zlc (xc0 cl_47) (c_pvalid (p := p) w (h.below hS.below)) ?_; rintro _ w ⟨rfl, hS'⟩
  replace hS := hS.cmp hS'; clear hS'
  refine zs2 ?_
  refine zlb 9 ?_ ?_ <;> intro hc
  ·
   iterate 3 refine zlo ?_
   refine zs2 ?_
   iterate 7 refine zlo ?_
   refine zs2 ?_
   refine zlt <| zct <| zsr ?_
   refine zlv xas ?_
   refine zlt <| zrt <| zbr <| ztr <| zf1 ⟨_, rfl, ?_⟩
   exact ⟨congrArg (Value.int .i64) (Eq.symm (by first | exact chk1 (.inl ‹¬ p.Ok›) | exact chk1 (.inr (.inl ‹¬ Formed n y q›)) | exact chk1 (.inr (.inr (by omega))))), hS.nl⟩
  refine zlv (xls 1 st_44 hS) ?_
  refine zlc (xc0 cl_90) (c_formed w (hY.below hS.below) (by omega)) ?_; rintro _ w ⟨rfl, hS'⟩
  replace hS := hS.cmp hS'; clear hS'
  refine zs3 ?_
  refine zlb 14 ?_ ?_ <;> intro hc
  ·
   iterate 7 refine zlo ?_
   refine zs2 ?_
   refine zlt <| zct <| zsr ?_
   refine zlv xas ?_
   refine zlt <| zrt <| zbr <| ztr <| zf1 ⟨_, rfl, ?_⟩
   exact ⟨congrArg (Value.int .i64) (Eq.symm (by first | exact chk1 (.inl ‹¬ p.Ok›) | exact chk1 (.inr (.inl ‹¬ Formed n y q›)) | exact chk1 (.inr (.inr (by omega))))), hS.nl⟩
  refine zlv (xfb 0 fd_44_0) ?_
  refine zlv (xlb 1 pl_22 hS) ?_
  refine zlv (xln sl_22 hY.slh) ?_
  refine zlv (xfb 0 fd_35_0) ?_
  refine zlv (xlb 0 pl_22 hS) ?_
  refine zlv (xln sl_22 h.L.slh) ?_
  refine zs3 ?_
  refine zlt ?_
  refine zcif ?_ ?_ <;> intro hc
  ·
   refine zsr ?_
   refine zlv xas ?_
   refine zlt <| zrt <| zbr <| ztr <| zf1 ⟨_, rfl, ?_⟩
   exact ⟨congrArg (Value.int .i64) (Eq.symm (by first | exact chk1 (.inl ‹¬ p.Ok›) | exact chk1 (.inr (.inl ‹¬ Formed n y q›)) | exact chk1 (.inr (.inr (by omega))))), hS.nl⟩
  refine zsq ?_
  refine zdst [0, 1] [0, 1] 1000 mx_ hS ?_; clear hS; intro w hS
  refine zdla 0 (fun w hS => (xls 0 st_35 hS)) ?_
  refine zdv 1 (fun _ => (xfb 0 fd_44_0)) ?_
  refine zdla 2 (fun w hS => (xlb 1 pl_22 hS)) ?_
  refine zdv 4 (fun _ => (xfb 1 fd_44_1)) ?_
  refine zdla 5 (fun w hS => (xlb 1 pl_3 hS)) ?_
  refine zdc 3 (xc0 cl_91) (c_dearest (p := p) w (h.below hS.below) (Classical.not_not.1 ‹¬ ¬ (p.Ok)›) (hY.below hS.below) (by omega) (Formed.priced (Classical.not_not.1 ‹¬ ¬ (Formed n y q)›) (by omega))) ?_; rintro _ w ⟨rfl, hS'⟩
  replace hS := hS.cmp hS'; clear hS'
  refine ⟨⟨fun _ => hS, hS⟩, ?_⟩
  refine zdv 6 (fun _ => xgtr) ?_
  refine zdv 7 (fun _ => xas) ?_
  refine zdd <| ztn ?_
  refine zcif ?_ ?_ <;> intro hc
  ·
   refine zsr ?_
   refine zlv xas ?_
   refine zlt <| zrt <| zbr <| ztr <| zf1 ⟨_, rfl, ?_⟩
   exact ⟨congrArg (Value.int .i64) (Eq.symm (by exact chk21 (Classical.not_not.1 ‹¬ ¬ (p.Ok)›) (Classical.not_not.1 ‹¬ ¬ (Formed n y q)›) (by omega) ‹_›)), hS.nl⟩
  refine zsk <| zbn <| ztn <| zsr ?_
  refine zlv xas ?_
  refine zlt <| zrt <| zf1 ⟨_, rfl, ?_⟩
  exact ⟨congrArg (Value.int .i64) (Eq.symm (by exact chk0 (Classical.not_not.1 ‹¬ ¬ (p.Ok)›) (Classical.not_not.1 ‹¬ ¬ (Formed n y q)›) (by omega) ‹_›)), hS.nl⟩

set_option maxRecDepth 20000 in
theorem c_rcheck {vL vD vy : Value} {p : Prob} {n q : Int} {y : Int → Int} (w0 : World) (h : PAt w0 vL vD p) (hY : Row w0 vy 1 n (ints y)) (hq : -9223372036854775808 ≤ q ∧ q ≤ 9223372036854775807) :
    Calls Tryz.prog 92 [.agg #[vL, vD, .int .i64 p.stock, .int .i64 p.kerf], .agg #[vy, .int .i64 q]].toArray w0 fun e w => ∃ v, e = .returned v ∧ v = .int .i64 (Chk p n y q) ∧ Sat w0 w [] := by
  have hn := hY.slh.n0; have hn1 := hY.slh.n1
  refine zenG Tryz.func92 Tryz.ntmps92 fun w hS => ?_
  refine zsr ?_
  refine zla (xbx (cs := [_, _, _, _]) hS) ?_; rintro _ w ⟨g1, rfl, hS⟩
  replace hS := hS.n1
  refine zla (xbx (cs := [_, _]) hS) ?_; rintro _ w ⟨g2, rfl, hS⟩
  replace hS := hS.n2
  refine zlv xas ?_
  refine zlt <| zsq <| zbk <| zsr ?_
  refine zlv (xls 0 st_24 hS) ?_
  refine zlc (xc0 cl_25) (c_rvalid28 (p := p) w (h.below hS.below)) ?_; rintro _ w ⟨rfl, hS'⟩
  replace hS := hS.cmp hS'; clear hS'
  refine zs2 ?_
  refine zlb 9 ?_ ?_ <;> intro hc
  ·
   iterate 3 refine zlo ?_
   refine zs2 ?_
   iterate 7 refine zlo ?_
   refine zs2 ?_
   refine zlt <| zct <| zsr ?_
   refine zlv xas ?_
   refine zlt <| zrt <| zbr <| ztr <| zf1 ⟨_, rfl, ?_⟩
   exact ⟨congrArg (Value.int .i64) (Eq.symm (by first | exact chk1 (.inl ‹¬ p.Ok›) | exact chk1 (.inr (.inl ‹¬ Formed n y q›)) | exact chk1 (.inr (.inr (by omega))))), hS.nl⟩
  refine zlv (xls 1 st_47 hS) ?_
  refine zlc (xc0 cl_130) (c_rformed w (hY.below hS.below) (by omega)) ?_; rintro _ w ⟨rfl, hS'⟩
  replace hS := hS.cmp hS'; clear hS'
  refine zs3 ?_
  refine zlb 14 ?_ ?_ <;> intro hc
  ·
   iterate 7 refine zlo ?_
   refine zs2 ?_
   refine zlt <| zct <| zsr ?_
   refine zlv xas ?_
   refine zlt <| zrt <| zbr <| ztr <| zf1 ⟨_, rfl, ?_⟩
   exact ⟨congrArg (Value.int .i64) (Eq.symm (by first | exact chk1 (.inl ‹¬ p.Ok›) | exact chk1 (.inr (.inl ‹¬ Formed n y q›)) | exact chk1 (.inr (.inr (by omega))))), hS.nl⟩
  refine zlv (xfb 0 fd_47_0) ?_
  refine zlv (xlb 1 pl_22 hS) ?_
  refine zlv (xln sl_22 hY.slh) ?_
  refine zlv (xfb 0 fd_24_0) ?_
  refine zlv (xlb 0 pl_22 hS) ?_
  refine zlv (xln sl_22 h.L.slh) ?_
  refine zs3 ?_
  refine zlt ?_
  refine zcif ?_ ?_ <;> intro hc
  ·
   refine zsr ?_
   refine zlv xas ?_
   refine zlt <| zrt <| zbr <| ztr <| zf1 ⟨_, rfl, ?_⟩
   exact ⟨congrArg (Value.int .i64) (Eq.symm (by first | exact chk1 (.inl ‹¬ p.Ok›) | exact chk1 (.inr (.inl ‹¬ Formed n y q›)) | exact chk1 (.inr (.inr (by omega))))), hS.nl⟩
  refine zsq ?_
  refine zdst [0, 1] [0, 1] 1000 mx_ hS ?_; clear hS; intro w hS
  refine zdla 0 (fun w hS => (xls 0 st_24 hS)) ?_
  refine zdv 1 (fun _ => (xfb 0 fd_47_0)) ?_
  refine zdla 2 (fun w hS => (xlb 1 pl_22 hS)) ?_
  refine zdv 4 (fun _ => (xfb 1 fd_47_1)) ?_
  refine zdla 5 (fun w hS => (xlb 1 pl_3 hS)) ?_
  refine zdc 3 (xc0 cl_131) (c_worth (p := p) w (h.below hS.below) (Classical.not_not.1 ‹¬ ¬ (p.Ok)›) (hY.below hS.below) (by omega) (Formed.priced (Classical.not_not.1 ‹¬ ¬ (Formed n y q)›) (by omega))) ?_; rintro _ w ⟨rfl, hS'⟩
  replace hS := hS.cmp hS'; clear hS'
  refine ⟨⟨fun _ => hS, hS⟩, ?_⟩
  refine zdv 6 (fun _ => xgtr) ?_
  refine zdv 7 (fun _ => xas) ?_
  refine zdd <| ztn ?_
  refine zcif ?_ ?_ <;> intro hc
  ·
   refine zsr ?_
   refine zlv xas ?_
   refine zlt <| zrt <| zbr <| ztr <| zf1 ⟨_, rfl, ?_⟩
   exact ⟨congrArg (Value.int .i64) (Eq.symm (by exact chk21 (Classical.not_not.1 ‹¬ ¬ (p.Ok)›) (Classical.not_not.1 ‹¬ ¬ (Formed n y q)›) (by omega) ‹_›)), hS.nl⟩
  refine zsk <| zbn <| ztn <| zsr ?_
  refine zlv xas ?_
  refine zlt <| zrt <| zf1 ⟨_, rfl, ?_⟩
  exact ⟨congrArg (Value.int .i64) (Eq.symm (by exact chk0 (Classical.not_not.1 ‹¬ ¬ (p.Ok)›) (Classical.not_not.1 ‹¬ ¬ (Formed n y q)›) (by omega) ‹_›)), hS.nl⟩

set_option maxRecDepth 20000 in
theorem c_bound {vL vD vy : Value} {p : Prob} {n q : Int} {y : Int → Int} (w0 : World) (h : PAt w0 vL vD p) (hY : Row w0 vy 1 n (ints y)) (hq : -9223372036854775808 ≤ q ∧ q ≤ 9223372036854775807) :
    Calls Tryz.prog 26 [.agg #[vL, vD, .int .i64 p.stock, .int .i64 p.kerf], .agg #[vy, .int .i64 q]].toArray w0 fun e w => ∃ v, e = .returned v ∧ v = .tuple #[.int .i64 (BndOf p n y q), .int .i64 (Chk p n y q)] ∧ Sat w0 w [] := by
  have hn := hY.slh.n0; have hn1 := hY.slh.n1
  refine zenG Tryz.func26 Tryz.ntmps26 fun w hS => ?_
  refine zsr ?_
  refine zla (xbx (cs := [_, _, _, _]) hS) ?_; rintro _ w ⟨g1, rfl, hS⟩
  replace hS := hS.n1
  refine zla (xbx (cs := [_, _]) hS) ?_; rintro _ w ⟨g2, rfl, hS⟩
  replace hS := hS.n2
  refine zs2 ?_
  refine zlt <| zsq <| zsr ?_
  refine zlv (xls 0 st_35 hS) ?_
  refine zlv (xls 1 st_44 hS) ?_
  refine zlc (xc0 cl_53) (c_check (p := p) w (h.below hS.below) (hY.below hS.below) (by omega)) ?_; rintro _ w ⟨rfl, hS'⟩
  replace hS := hS.cmp hS'; clear hS'
  refine zlv xas ?_
  refine zlz ?_
  refine zs2 ?_
  refine zlt ?_
  refine zcif ?_ ?_ <;> intro hc
  ·
   refine zsr ?_
   refine zs3 ?_
   refine zlt <| zrt <| ztr <| zf2 ⟨_, rfl, ?_⟩
   exact ⟨by rw [bnd_no ‹_›], hS.nl⟩
  refine zsk <| ztn <| zsr ?_
  refine zlv xas ?_
  refine zlt <| zsq <| zsr ?_
  refine zlv (xfb 1 fd_35_1) ?_
  obtain ⟨hp, hfm, hnm, hw⟩ := chk_ok (by omega : Chk p n y q = 0); have hq1 := hfm.1; have hq2 := hfm.2.1; have hd := hp.d; have hm1 := hp.m1; have hm2 := hp.m2; have hpr := hfm.priced hnm
  refine zlv (xlb 0 pl_22 hS) ?_
  refine zlv (xln sl_22 h.D.slh) ?_
  refine zlv xmv ?_
  refine zlt <| zbk <| zlp (fun mm M w => ∃ (t : Int) (i : Int), mm = ((p.m - i).toNat) ∧ (0 ≤ i) ∧ (i ≤ p.m) ∧ (t = Tot p.D y i.toNat) ∧ M = [(3, .pointer (some ⟨g2, 0, none⟩)), (4, .int .i64 0), (5, .int .i64 0), (7, .int .i64 t), (17, vD), (18, .int .i64 p.d), (19, .int .i64 i)] ∧ Sat w0 w [.blk g1 [vL, vD, .int .i64 p.stock, .int .i64 p.kerf], .blk g2 [vy, .int .i64 q]]) ⟨0, 0, rfl, (by omega), (by omega), ?_, rfl, hS⟩ ?_
  ·
   rfl
  clear hS w
  rintro mm M w ⟨t, i, rfl, h0, h1, ht, rfl, hS⟩
  refine zsr ?_
  refine zlv xlss ?_
  refine zlt <| zsq ?_
  refine zcif ?_ ?_ <;> intro hc
  ·
   refine zsk <| ztn <| zsq <| zbk <| zsr ?_
   refine zlv xmv ?_
   refine zlv (xix (kk := i) sl_22 h.D.slh) ?_
   refine zlv (xlr (u := .int .i64 (p.D i)) pl_3 (h.D.below hS.below)) ?_
   have hbv := h.iD i
   refine zs2 ?_
   refine zlt <| zrg ?_
   refine zlv xmv ?_
   have hb1 := tot_bd hp hpr i h0 (by omega); have hb2 := tot_rng hp hpr i h0 (by omega)
   refine zlv xmv ?_
   refine zlv (xfb 0 fd_44_0) ?_
   refine zlv (xlb 1 pl_22 hS) ?_
   refine zlv xmv ?_
   refine zlv (xix (kk := i) sl_22 hY.slh) ?_
   refine zlv (xlr (u := .int .i64 (y i)) pl_3 (hY.below hS.below)) ?_
   refine zlv (xmul (r := ((p.D i) * (y i))) (e := rfl) (hr := (by unfold I64; omega))) ?_
   refine zlv (xadd (r := t + ((p.D i) * (y i)))) ?_
   refine zlv xas ?_
   refine zln <| zbn <| ztn <| zrg ?_
   refine zlv (xadd (r := i + 1)) ?_
   refine zlv xmv ?_
   refine zln <| zlq ⟨t + ((p.D i) * (y i)), i + 1, rfl, (by omega), (by omega), ?_, rfl, hS⟩
   ·
    rw [Tot_next _ _ h0, ← ht]
  refine zxt <| ztx <| ztx <| zbh <| ztn <| zsr ?_
  refine zlv xmv ?_
  have hb1 := tot_bd hp hpr i h0 (by omega); have hq3 := quo_facts (a := t + q - 1) (b := q) (by omega) (by omega)
  refine zlv (xfb 1 fd_44_1) ?_
  refine zlv (xlb 1 pl_3 hS) ?_
  refine zlv (xadd (r := t + q)) ?_
  refine zlv (xsub (r := t + q - 1)) ?_
  refine zlv (xfb 1 fd_44_1) ?_
  refine zlv (xlb 1 pl_3 hS) ?_
  refine zlv (xquo (r := (Int.tdiv (t + q - 1) q)) (hn := (by omega)) (hr := (by unfold I64; omega))) ?_
  refine zs2 ?_
  refine zlt <| zrt <| zf2 ⟨_, rfl, ?_⟩
  obtain rfl : i = p.m := by omega
  have hz : Chk p n y q = 0 := by omega
  exact ⟨by rw [hz, bnd_ok hz]; unfold Bnd; rw [← ht], hS.nl⟩

set_option maxRecDepth 20000 in
theorem c_rbound {vL vD vy : Value} {p : Prob} {n q : Int} {y : Int → Int} (w0 : World) (h : PAt w0 vL vD p) (hY : Row w0 vy 1 n (ints y)) (hq : -9223372036854775808 ≤ q ∧ q ≤ 9223372036854775807) :
    Calls Tryz.prog 55 [.agg #[vL, vD, .int .i64 p.stock, .int .i64 p.kerf], .agg #[vy, .int .i64 q]].toArray w0 fun e w => ∃ v, e = .returned v ∧ v = .tuple #[.int .i64 (BndOf p n y q), .int .i64 (Chk p n y q)] ∧ Sat w0 w [] := by
  have hn := hY.slh.n0; have hn1 := hY.slh.n1
  refine zenG Tryz.func55 Tryz.ntmps55 fun w hS => ?_
  refine zsr ?_
  refine zla (xbx (cs := [_, _, _, _]) hS) ?_; rintro _ w ⟨g1, rfl, hS⟩
  replace hS := hS.n1
  refine zla (xbx (cs := [_, _]) hS) ?_; rintro _ w ⟨g2, rfl, hS⟩
  replace hS := hS.n2
  refine zs2 ?_
  refine zlt <| zsq <| zsr ?_
  refine zlv (xls 0 st_24 hS) ?_
  refine zlv (xls 1 st_47 hS) ?_
  refine zlc (xc0 cl_92) (c_rcheck (p := p) w (h.below hS.below) (hY.below hS.below) (by omega)) ?_; rintro _ w ⟨rfl, hS'⟩
  replace hS := hS.cmp hS'; clear hS'
  refine zlv xas ?_
  refine zlz ?_
  refine zs2 ?_
  refine zlt ?_
  refine zcif ?_ ?_ <;> intro hc
  ·
   refine zsr ?_
   refine zs3 ?_
   refine zlt <| zrt <| ztr <| zf2 ⟨_, rfl, ?_⟩
   exact ⟨by rw [bnd_no ‹_›], hS.nl⟩
  refine zsk <| ztn <| zsr ?_
  refine zlv xas ?_
  obtain ⟨hp, hfm, hnm, hw⟩ := chk_ok (by omega : Chk p n y q = 0); have hq1 := hfm.1; have hq2 := hfm.2.1; have hd := hp.d; have hm1 := hp.m1; have hm2 := hp.m2; have hpr := hfm.priced hnm
  refine zlt <| zsq <| zsr ?_
  refine zlv xas ?_
  refine zlt <| zbk <| zlp (fun mm M w => ∃ (t : Int) (i : Int), mm = ((p.m - i).toNat) ∧ (0 ≤ i) ∧ (i ≤ p.m) ∧ (t = Tot p.D y i.toNat) ∧ M = [(2, .pointer (some ⟨g1, 0, none⟩)), (3, .pointer (some ⟨g2, 0, none⟩)), (4, .int .i64 0), (5, .int .i64 0), (7, .int .i64 t), (8, .int .i64 i)] ∧ Sat w0 w [.blk g1 [vL, vD, .int .i64 p.stock, .int .i64 p.kerf], .blk g2 [vy, .int .i64 q]]) ⟨0, 0, rfl, (by omega), (by omega), ?_, rfl, hS⟩ ?_
  ·
   rfl
  clear hS w
  rintro mm M w ⟨t, i, rfl, h0, h1, ht, rfl, hS⟩
  refine zsq <| zsr ?_
  refine zlv xmv ?_
  refine zlv (xfb 0 fd_47_0) ?_
  refine zlv (xlb 1 pl_22 hS) ?_
  refine zlv (xln sl_22 hY.slh) ?_
  refine zlv xlss ?_
  refine zlt ?_
  refine zcif ?_ ?_ <;> intro hc
  ·
   refine zsk <| ztn <| zsq <| zbk ?_
   refine zdst [0, 1] [0, 1] 1000 mx_ hS ?_; clear hS; intro w hS
   refine zdv 0 (fun _ => xmv) ?_
   have hb1 := tot_bd hp hpr i h0 (by omega); have hb2 := tot_rng hp hpr i h0 (by omega)
   refine zdv 1 (fun _ => (xfb 1 fd_24_1)) ?_
   refine zdla 2 (fun w hS => (xlb 0 pl_22 hS)) ?_
   refine zdv 3 (fun _ => xmv) ?_
   refine zdv 4 (fun _ => (xix (kk := i) sl_22 h.D.slh)) ?_
   refine zdla 5 (fun w hS => (xlr (u := .int .i64 (p.D i)) pl_3 (h.D.below hS.below))) ?_
   have hbv := h.iD i
   refine zdv 6 (fun _ => (xfb 0 fd_47_0)) ?_
   refine zdla 7 (fun w hS => (xlb 1 pl_22 hS)) ?_
   refine zdv 8 (fun _ => xmv) ?_
   refine zdv 9 (fun _ => (xix (kk := i) sl_22 hY.slh)) ?_
   refine zdla 10 (fun w hS => (xlr (u := .int .i64 (y i)) pl_3 (hY.below hS.below))) ?_
   refine zdv 11 (fun _ => (xmul (r := ((p.D i) * (y i))) (e := rfl) (hr := (by unfold I64; omega)))) ?_
   refine zdv 12 (fun _ => (xadd (r := t + ((p.D i) * (y i))))) ?_
   refine zdv 13 (fun _ => xas) ?_
   obtain ⟨hp, hfm, hnm, hw⟩ := chk_ok (by omega : Chk p n y q = 0); have hq1 := hfm.1; have hq2 := hfm.2.1; have hd := hp.d; have hm1 := hp.m1; have hm2 := hp.m2; have hpr := hfm.priced hnm
   refine zdd <| zbn <| ztn <| zrg ?_
   refine zlv xmv ?_
   refine zlv (xadd (r := i + 1)) ?_
   refine zlv xas ?_
   refine zln <| zlq ⟨t + ((p.D i) * (y i)), i + 1, rfl, (by omega), (by omega), ?_, rfl, hS⟩
   ·
    rw [Tot_next _ _ h0, ← ht]
  refine zxt <| ztx <| ztx <| zbh <| ztn <| zsr ?_
  refine zlv xmv ?_
  have hb1 := tot_bd hp hpr i h0 (by omega); have hq3 := quo_facts (a := t + q - 1) (b := q) (by omega) (by omega)
  refine zlv (xfb 1 fd_47_1) ?_
  refine zlv (xlb 1 pl_3 hS) ?_
  refine zlv (xadd (r := t + q)) ?_
  refine zlv (xsub (r := t + q - 1)) ?_
  refine zlv (xfb 1 fd_47_1) ?_
  refine zlv (xlb 1 pl_3 hS) ?_
  refine zlv (xquo (r := (Int.tdiv (t + q - 1) q)) (hn := (by omega)) (hr := (by unfold I64; omega))) ?_
  refine zs2 ?_
  refine zlt <| zrt <| zf2 ⟨_, rfl, ?_⟩
  obtain rfl : i = p.m := by omega
  have hz : Chk p n y q = 0 := by omega
  exact ⟨by rw [hz, bnd_ok hz]; unfold Bnd; rw [← ht], hS.nl⟩

/-- A certificate. -/
structure Ct where
  n : Int
  y : Int → Int
  q : Int
def Ct.zer : Ct := ⟨0, fun _ => 0, 0⟩
def matC (p : Prob) : Ct := ⟨p.m, fun k => p.L k + p.kerf, p.stock + p.kerf⟩
def halfY (p : Prob) : Int → Int := fun k => if p.stock + p.kerf < 2 * (p.L k + p.kerf) then 1 else 0
def halfC (p : Prob) : Ct := ⟨p.m, halfY p, 1⟩
def MakeR (p : Prob) (c : Ct) (e : Int) : Prop := ∃ u ml mf s, 0 ≤ u ∧ ColR p u ml mf s e ∧ ((e ≠ 0 ∧ c = Ct.zer) ∨ (e = 0 ∧ c = ⟨s.m, s.Y, s.den⟩))
def MatCR (p : Prob) (c : Ct) (e : Int) : Prop := (¬ p.Ok ∧ c = Ct.zer ∧ e = 1) ∨ (p.Ok ∧ c = matC p ∧ e = 0)
def HalfR (p : Prob) (c : Ct) (e : Int) : Prop := (¬ p.Ok ∧ c = Ct.zer ∧ e = 1) ∨ (p.Ok ∧ c = halfC p ∧ e = 0)
theorem MakeR.same {p : Prob} {c d : Ct} {e f : Int} (h : MakeR p c e) (k : MakeR p d f) : c = d ∧ e = f := by
  obtain ⟨u, ml, mf, s, _, h1, h2⟩ := h
  obtain ⟨u', ml', mf', s', _, k1, k2⟩ := k
  obtain ⟨_, rfl, rfl⟩ := ColR.same h1 k1
  rcases h2 with ⟨h2, rfl⟩ | ⟨h2, rfl⟩ <;> rcases k2 with ⟨k2, rfl⟩ | ⟨k2, rfl⟩
  · exact ⟨rfl, rfl⟩
  · exact absurd k2 h2
  · exact absurd h2 k2
  · exact ⟨rfl, rfl⟩
theorem MatCR.same {p : Prob} {c d : Ct} {e f : Int} (h : MatCR p c e) (k : MatCR p d f) : c = d ∧ e = f := by
  rcases h with ⟨h1, rfl, rfl⟩ | ⟨h1, rfl, rfl⟩ <;> rcases k with ⟨k1, rfl, rfl⟩ | ⟨k1, rfl, rfl⟩ <;> first | exact ⟨rfl, rfl⟩ | exact absurd h1 k1 | exact absurd k1 h1
theorem HalfR.same {p : Prob} {c d : Ct} {e f : Int} (h : HalfR p c e) (k : HalfR p d f) : c = d ∧ e = f := by
  rcases h with ⟨h1, rfl, rfl⟩ | ⟨h1, rfl, rfl⟩ <;> rcases k with ⟨k1, rfl, rfl⟩ | ⟨k1, rfl, rfl⟩ <;> first | exact ⟨rfl, rfl⟩ | exact absurd h1 k1 | exact absurd k1 h1
theorem MakeR.q {p : Prob} {c : Ct} {e : Int} (h : MakeR p c e) : 0 ≤ c.q ∧ c.q ≤ 1073741824 := by
  obtain ⟨u, ml, mf, s, hu, h1, ⟨_, rfl⟩ | ⟨h2, rfl⟩⟩ := h
  · exact ⟨Int.le_refl _, by show (0 : Int) ≤ _; omega⟩
  · obtain ⟨h3, _⟩ := h1.okS hu h2
    exact ⟨by have := h3.d1; show 0 ≤ s.den; omega, h3.d2⟩
theorem matC_q {p : Prob} (hp : p.Ok) : 1 ≤ (matC p).q ∧ (matC p).q ≤ 2100 := by
  have := hp.s1; have := hp.s2; have := hp.k1; have := hp.k2
  unfold matC; dsimp only; omega
theorem MatCR.q {p : Prob} {c : Ct} {e : Int} (h : MatCR p c e) : 0 ≤ c.q ∧ c.q ≤ 1073741824 := by
  rcases h with ⟨_, rfl, _⟩ | ⟨hp, rfl, _⟩
  · exact ⟨Int.le_refl _, by show (0 : Int) ≤ _; omega⟩
  · have := matC_q hp; omega
theorem HalfR.q {p : Prob} {c : Ct} {e : Int} (h : HalfR p c e) : 0 ≤ c.q ∧ c.q ≤ 1073741824 := by
  rcases h with ⟨_, rfl, _⟩ | ⟨hp, rfl, _⟩
  · exact ⟨Int.le_refl _, by show (0 : Int) ≤ _; omega⟩
  · exact ⟨by show (0 : Int) ≤ 1; omega, by show (1 : Int) ≤ _; omega⟩

set_option maxHeartbeats 4000000 in
set_option maxRecDepth 20000 in
theorem c_make32 {vL vD : Value} {p : Prob} (w0 : World) (h : PAt w0 vL vD p) :
    Calls Tryz.prog 16 [.agg #[vL, vD, .int .i64 p.stock, .int .i64 p.kerf]].toArray w0 fun e w => ∃ v, e = .returned v ∧ ∃ r c e, v = .tuple #[.agg #[r, .int .i64 (Ct.q c)], .int .i64 e] ∧ MakeR p c e ∧ Slh r c.n ∧ Sat w0 w [.own r 1 3 c.n (ints c.y)] := by
  have hm := h.L.slh.n0; have hm1 := h.L.slh.n1; have hd := h.D.slh.n0; have hd1 := h.D.slh.n1; have hs := h.is; have hk := h.ik
  refine zenG Tryz.func16 Tryz.ntmps16 fun w hS => ?_
  refine zsr ?_
  refine zla (xbx (cs := [_, _, _, _]) hS) ?_; rintro _ w ⟨g1, rfl, hS⟩
  replace hS := hS.n1
  refine zla (xal (cs := [_, _]) el_44 hS) ?_; rintro _ w ⟨g2, rfl, hS⟩
  replace hS := hS.n2
  refine zlv xas ?_
  refine zlz ?_
  refine zlv (xls 0 st_35 hS) ?_
  refine zlc (xc0 cl_11) (c_csolve (p := p) w (h.below hS.below)) ?_; rintro _ w ⟨vPcs1, vvcs1, vXcs1, vYcs1, ucs1, mlcs1, mfcs1, scs1, ecs1, rfl, hcocs1, hvPcs1, hvXcs1, hvYcs1, hS'⟩
  replace hS : Sat w0 w [.blk g1 [vL, vD, .int .i64 p.stock, .int .i64 p.kerf], .blk g2 [.slice none 0 0, .int .i64 0], .own vPcs1 1 22 ucs1 vvcs1, .sem (Frame.rows 3 ucs1 vvcs1 mlcs1 mfcs1), .own vXcs1 1 3 scs1.n (ints scs1.X), .own vYcs1 1 3 scs1.m (ints scs1.Y)] := hS.comp hS'; clear hS'
  have hrwcs1 := fun k (k0 : 0 ≤ k) (k1 : k < ucs1) => hS.slhIn 3 rfl k0 k1
  refine zs3 ?_
  refine zla (xal (cs := [_, _, _, _, _]) el_31 hS) ?_; rintro _ w ⟨g3, rfl, hS⟩
  replace hS := hS.n7
  refine zle (xsw 6 st_31 hS (hd := (ones_cons hvPcs1.one (ones_cons hvXcs1.one (ones_cons hvYcs1.one (ones_cons rfl (ones_cons rfl ones_nil))))))) ?_; clear hS; rintro w hS
  replace hS := hS.n7
  refine zlv xas ?_
  refine zlt <| zsq <| zsr ?_
  refine zs2 ?_
  refine zlt ?_
  refine zcif ?_ ?_ <;> intro hc
  ·
   refine zsr ?_
   refine zlv (xany (v := .agg #[.slice none 0 0, .int .i64 0])) ?_
   refine zlv xmv ?_
   refine zle (xsw 1 st_44 hS) ?_; clear hS; rintro w hS
   replace hS := hS.n7
   refine zlv xas ?_
   refine zlt <| zrt <| ztr <| zfct 1 st_44 hS ⟨_, rfl, ?_⟩
   exact ⟨_, Ct.zer, ecs1, rfl, ⟨_, _, _, _, hvPcs1.n0, hcocs1, .inl ⟨by omega, rfl⟩⟩, slh_nil, (hS.sub (.cons _ (.cons _ (.cons _ (.cons _ (.cons _ (.cons _ (.cons _ .slnil)))))))).addnil 1 3 (ints Ct.zer.y)⟩
  refine zsk <| ztn <| zsr ?_
  refine zlv (xfb 1 fd_31_1) ?_
  refine zlv (xfb 2 fd_29_1) ?_
  refine zlv (xlb 6 pl_22 hS) ?_
  refine zlv (xfb 1 fd_31_1) ?_
  refine zlv (xfb 4 fd_29_3) ?_
  refine zlv (xlb 6 pl_3 hS) ?_
  refine zlv (xany (v := .agg #[vYcs1, .int .i64 scs1.den]) (hr := by obtain ⟨_, _, _, _, rfl, _⟩ := hvYcs1; kernel_rfl)) ?_
  refine zle (xsw 1 st_44 hS (hd := (ones_cons hvYcs1.one (ones_cons rfl ones_nil)))) ?_; clear hS; rintro w hS
  replace hS := hS.n7
  refine zlv xas ?_
  refine zlt <| zrt <| zfct 1 st_44 hS ⟨_, rfl, ?_⟩
  exact ⟨_, ⟨scs1.m, scs1.Y, scs1.den⟩, 0, rfl, ⟨_, _, _, _, hvPcs1.n0, (by rw [show (0 : Int) = ecs1 by omega]; exact hcocs1), .inr ⟨rfl, rfl⟩⟩, hvYcs1, hS.pk [5]⟩

set_option maxHeartbeats 4000000 in
set_option maxRecDepth 20000 in
theorem c_rmake32 {vL vD : Value} {p : Prob} (w0 : World) (h : PAt w0 vL vD p) :
    Calls Tryz.prog 17 [.agg #[vL, vD, .int .i64 p.stock, .int .i64 p.kerf]].toArray w0 fun e w => ∃ v, e = .returned v ∧ ∃ r c e, v = .tuple #[.agg #[r, .int .i64 (Ct.q c)], .int .i64 e] ∧ MakeR p c e ∧ Slh r c.n ∧ Sat w0 w [.own r 1 3 c.n (ints c.y)] := by
  have hm := h.L.slh.n0; have hm1 := h.L.slh.n1; have hd := h.D.slh.n0; have hd1 := h.D.slh.n1; have hs := h.is; have hk := h.ik
  refine zenG Tryz.func17 Tryz.ntmps17 fun w hS => ?_
  refine zsr ?_
  refine zla (xbx (cs := [_, _, _, _]) hS) ?_; rintro _ w ⟨g1, rfl, hS⟩
  replace hS := hS.n1
  refine zla (xal (cs := [_, _]) el_47 hS) ?_; rintro _ w ⟨g2, rfl, hS⟩
  replace hS := hS.n2
  refine zlv xas ?_
  refine zlz ?_
  refine zlv (xls 0 st_24 hS) ?_
  refine zlc (xc0 cl_12) (c_rcsolve (p := p) w (h.below hS.below)) ?_; rintro _ w ⟨vPcs1, vvcs1, vXcs1, vYcs1, ucs1, mlcs1, mfcs1, scs1, ecs1, rfl, hcocs1, hvPcs1, hvXcs1, hvYcs1, hS'⟩
  replace hS : Sat w0 w [.blk g1 [vL, vD, .int .i64 p.stock, .int .i64 p.kerf], .blk g2 [.slice none 0 0, .int .i64 0], .own vPcs1 1 22 ucs1 vvcs1, .sem (Frame.rows 3 ucs1 vvcs1 mlcs1 mfcs1), .own vXcs1 1 3 scs1.n (ints scs1.X), .own vYcs1 1 3 scs1.m (ints scs1.Y)] := hS.comp hS'; clear hS'
  have hrwcs1 := fun k (k0 : 0 ≤ k) (k1 : k < ucs1) => hS.slhIn 3 rfl k0 k1
  refine zs3 ?_
  refine zla (xal (cs := [_, _, _, _, _]) el_38 hS) ?_; rintro _ w ⟨g3, rfl, hS⟩
  replace hS := hS.n7
  refine zle (xsw 6 st_38 hS (hd := (ones_cons hvPcs1.one (ones_cons hvXcs1.one (ones_cons hvYcs1.one (ones_cons rfl (ones_cons rfl ones_nil))))))) ?_; clear hS; rintro w hS
  replace hS := hS.n7
  refine zlv xas ?_
  refine zlt <| zsq <| zsr ?_
  refine zs2 ?_
  refine zlt ?_
  refine zcif ?_ ?_ <;> intro hc
  ·
   refine zsr ?_
   refine zlv (xany (v := .agg #[.slice none 0 0, .int .i64 0])) ?_
   refine zlv xmv ?_
   refine zle (xsw 1 st_47 hS) ?_; clear hS; rintro w hS
   replace hS := hS.n7
   refine zlv xas ?_
   refine zlt <| zrt <| ztr <| zfct 1 st_47 hS ⟨_, rfl, ?_⟩
   exact ⟨_, Ct.zer, ecs1, rfl, ⟨_, _, _, _, hvPcs1.n0, hcocs1, .inl ⟨by omega, rfl⟩⟩, slh_nil, (hS.sub (.cons _ (.cons _ (.cons _ (.cons _ (.cons _ (.cons _ (.cons _ .slnil)))))))).addnil 1 3 (ints Ct.zer.y)⟩
  refine zsk <| ztn <| zsr ?_
  refine zlv (xfb 1 fd_38_1) ?_
  refine zlv (xfb 2 fd_36_1) ?_
  refine zlv (xlb 6 pl_22 hS) ?_
  refine zlv (xfb 1 fd_38_1) ?_
  refine zlv (xfb 4 fd_36_3) ?_
  refine zlv (xlb 6 pl_3 hS) ?_
  refine zlv (xany (v := .agg #[vYcs1, .int .i64 scs1.den]) (hr := by obtain ⟨_, _, _, _, rfl, _⟩ := hvYcs1; kernel_rfl)) ?_
  refine zle (xsw 1 st_47 hS (hd := (ones_cons hvYcs1.one (ones_cons rfl ones_nil)))) ?_; clear hS; rintro w hS
  replace hS := hS.n7
  refine zlv xas ?_
  refine zlt <| zrt <| zfct 1 st_47 hS ⟨_, rfl, ?_⟩
  exact ⟨_, ⟨scs1.m, scs1.Y, scs1.den⟩, 0, rfl, ⟨_, _, _, _, hvPcs1.n0, (by rw [show (0 : Int) = ecs1 by omega]; exact hcocs1), .inr ⟨rfl, rfl⟩⟩, hvYcs1, hS.pk [5]⟩

set_option maxHeartbeats 4000000 in
set_option maxRecDepth 20000 in
theorem c_matc32 {vL vD : Value} {p : Prob} (w0 : World) (h : PAt w0 vL vD p) :
    Calls Tryz.prog 18 [.agg #[vL, vD, .int .i64 p.stock, .int .i64 p.kerf]].toArray w0 fun e w => ∃ v, e = .returned v ∧ ∃ r c e, v = .tuple #[.agg #[r, .int .i64 (Ct.q c)], .int .i64 e] ∧ MatCR p c e ∧ Slh r c.n ∧ Sat w0 w [.own r 1 3 c.n (ints c.y)] := by
  have hm := h.L.slh.n0; have hm1 := h.L.slh.n1; have hd := h.D.slh.n0; have hd1 := h.D.slh.n1; have hs := h.is; have hk := h.ik
  refine zenG Tryz.func18 Tryz.ntmps18 fun w hS => ?_
  refine zsr ?_
  refine zla (xbx (cs := [_, _, _, _]) hS) ?_; rintro _ w ⟨g1, rfl, hS⟩
  replace hS := hS.n1
  refine zla (xal (cs := [_, _]) el_44 hS) ?_; rintro _ w ⟨g2, rfl, hS⟩
  replace hS := hS.n2
  refine zlv xas ?_
  refine zlt <| zsq <| zsr ?_
  refine zlv (xls 0 st_35 hS) ?_
  refine zlc (xc0 cl_47) (c_pvalid (p := p) w (h.below hS.below)) ?_; rintro _ w ⟨rfl, hS'⟩
  replace hS := hS.cmp hS'; clear hS'
  refine zlv xnot ?_
  refine zlt ?_
  refine zcif ?_ ?_ <;> intro hc
  ·
   refine zsr ?_
   refine zlv (xany (v := .agg #[.slice none 0 0, .int .i64 0])) ?_
   refine zle (xsw 1 st_44 hS) ?_; clear hS; rintro w hS
   replace hS := hS.n2
   refine zlv xas ?_
   refine zlt <| zrt <| ztr <| zfct 1 st_44 hS ⟨_, rfl, ?_⟩
   exact ⟨_, Ct.zer, 1, rfl, .inl ⟨‹¬ p.Ok›, rfl, rfl⟩, slh_nil, (hS.sub (.cons _ (.cons _ .slnil))).addnil 1 3 (ints Ct.zer.y)⟩
  refine zsk <| ztn <| zsr ?_
  refine zlv (xfb 2 fd_35_2) ?_
  have hp : p.Ok := by first | assumption | exact Classical.not_not.1 ‹_›
  have hpm := hp.m1; have hpm2 := hp.m2; have hpd := hp.d; have hs1 := hp.s1; have hs2 := hp.s2; have hk1 := hp.k1; have hk2 := hp.k2
  refine zlv (xlb 0 pl_3 hS) ?_
  refine zlv (xfb 3 fd_35_3) ?_
  refine zlv (xlb 0 pl_3 hS) ?_
  refine zlv (xadd (r := p.stock + p.kerf)) ?_
  refine zlv (xany (v := .agg #[.slice none 0 0, .int .i64 (p.stock + p.kerf)])) ?_
  refine zla (xal (cs := [_, _]) el_44 hS) ?_; rintro _ w ⟨g3, rfl, hS⟩
  replace hS := hS.n3
  refine zle (xsw 2 st_44 hS) ?_; clear hS; rintro w hS
  replace hS := hS.n3
  refine zlt <| zsq <| zsr ?_
  refine zlv (xfb 0 fd_35_0) ?_
  refine zlv (xlb 0 pl_22 hS) ?_
  refine zlv (xln sl_22 h.L.slh) ?_
  refine zlv xmv ?_
  refine zlt <| zbk ?_
  replace hS := hS.addnil 1 3 (ints (fun _ => 0))
  replace hS := hS.n4
  refine zlp (fun mm M w => ∃ (i : Int) (vb : Value) (f : Int → Int), mm = ((p.m - i).toNat) ∧ (0 ≤ i) ∧ (i ≤ p.m) ∧ (∀ k, 0 ≤ k → k < i → f k = p.L k + p.kerf) ∧ (Slh vb i) ∧ M = [(1, .pointer (some ⟨g1, 0, none⟩)), (2, .pointer (some ⟨g2, 0, none⟩)), (3, .int .i64 0), (4, .pointer (some ⟨g3, 0, none⟩)), (18, vL), (19, .int .i64 p.m), (20, .int .i64 i)] ∧ Sat w0 w [.blk g1 [vL, vD, .int .i64 p.stock, .int .i64 p.kerf], .blk g2 [.slice none 0 0, .int .i64 0], .blk g3 [vb, .int .i64 (p.stock + p.kerf)], .own vb 1 3 i (ints f)]) ⟨0, (.slice none 0 0), (fun _ => 0), rfl, (by omega), (by omega), ?_, ?_, rfl, hS⟩ ?_
  ·
   intro k k0 k1; omega
  ·
   exact slh_nil
  clear hS w
  rintro mm M w ⟨i, vb, f, rfl, h0, h1, hf, hvb, rfl, hS⟩
  refine zsr ?_
  refine zlv xlss ?_
  refine zlt <| zsq ?_
  refine zcif ?_ ?_ <;> intro hc
  ·
   refine zsk <| ztn <| zsq <| zbk <| zsr ?_
   refine zlv (xix (kk := i) sl_22 h.L.slh) ?_
   refine zlv (xlr (u := .int .i64 (p.L i)) pl_3 (h.L.below hS.below)) ?_
   have hbv := h.iL i
   have he := hp.all i h0 (by omega); unfold Prob.each at he
   refine zlv xas ?_
   refine zlt <| zrg ?_
   refine zlv (xfb 0 fd_44_0) ?_
   refine zlv (xlb 2 pl_22 hS) ?_
   refine zlv xmv ?_
   refine zlv (xfb 3 fd_35_3) ?_
   refine zlv (xlb 0 pl_3 hS) ?_
   refine zlv (xadd (r := p.L i + p.kerf)) ?_
   refine zla (xli (n := 1) (len := 1) (pv := [(0, .int .i64 (p.L i + p.kerf))]) (cs := [.int .i64 (p.L i + p.kerf)]) (c := ints (fun _ => p.L i + p.kerf)) sl_22 el_3 hS) ?_; rintro v1 w ⟨hS, hv1⟩
   replace hS := hS.n5
   refine zla (xap 3 (r := i + 1) sl_22 el_3 hS (hS.rowN 4 rfl) (cat_snoc _ _ _)) ?_; rintro v2 w ⟨hS, hv2⟩
   replace hS := hS.n5
   refine zlv (xfb 0 fd_44_0) ?_
   refine zle (xsb 2 pl_22 hS (hv := hv2.one)) ?_; clear hS; rintro w hS
   replace hS := hS.n5
   refine zln <| zbn <| ztn <| zrg ?_
   refine zlv (xadd (r := i + 1)) ?_
   refine zlv xmv ?_
   refine zln <| zlq ⟨i + 1, v2, (snoc f i (p.L i + p.kerf)), rfl, (by omega), (by omega), ?_, ?_, rfl, hS.pk [0, 1, 2, 3]⟩
   ·
    exact snoc_all hf rfl
   ·
    exact hv2
  refine zxt <| ztx <| ztx <| zbh <| ztn <| zsr ?_
  refine zlv (xls 2 st_44 hS) ?_
  refine zle (xsw 1 st_44 hS (hd := (ones_cons hvb.one (ones_cons rfl ones_nil)))) ?_; clear hS; rintro w hS
  replace hS := hS.n4
  refine zlv xas ?_
  refine zlt <| zrt <| zfct 1 st_44 hS ⟨_, rfl, ?_⟩
  have him : i = p.m := by omega
  subst him
  replace hS := hS.recont 3 rfl (d := ints (matC p).y) (fun k k0 k1 => congrArg (Value.int .i64) (hf k k0 (by omega)))
  exact ⟨_, matC p, 0, rfl, .inr ⟨hp, rfl, rfl⟩, hvb, hS.pk [3]⟩

set_option maxHeartbeats 4000000 in
set_option maxRecDepth 20000 in
theorem c_rmatc32 {vL vD : Value} {p : Prob} (w0 : World) (h : PAt w0 vL vD p) :
    Calls Tryz.prog 19 [.agg #[vL, vD, .int .i64 p.stock, .int .i64 p.kerf]].toArray w0 fun e w => ∃ v, e = .returned v ∧ ∃ r c e, v = .tuple #[.agg #[r, .int .i64 (Ct.q c)], .int .i64 e] ∧ MatCR p c e ∧ Slh r c.n ∧ Sat w0 w [.own r 1 3 c.n (ints c.y)] := by
  have hm := h.L.slh.n0; have hm1 := h.L.slh.n1; have hd := h.D.slh.n0; have hd1 := h.D.slh.n1; have hs := h.is; have hk := h.ik
  refine zenG Tryz.func19 Tryz.ntmps19 fun w hS => ?_
  refine zsr ?_
  refine zla (xbx (cs := [_, _, _, _]) hS) ?_; rintro _ w ⟨g1, rfl, hS⟩
  replace hS := hS.n1
  refine zla (xal (cs := [_, _]) el_47 hS) ?_; rintro _ w ⟨g2, rfl, hS⟩
  replace hS := hS.n2
  refine zlv xas ?_
  refine zlt <| zsq <| zsr ?_
  refine zlv (xls 0 st_24 hS) ?_
  refine zlc (xc0 cl_25) (c_rvalid28 (p := p) w (h.below hS.below)) ?_; rintro _ w ⟨rfl, hS'⟩
  replace hS := hS.cmp hS'; clear hS'
  refine zlv xnot ?_
  refine zlt ?_
  refine zcif ?_ ?_ <;> intro hc
  ·
   refine zsr ?_
   refine zlv (xany (v := .agg #[.slice none 0 0, .int .i64 0])) ?_
   refine zle (xsw 1 st_47 hS) ?_; clear hS; rintro w hS
   replace hS := hS.n2
   refine zlv xas ?_
   refine zlt <| zrt <| ztr <| zfct 1 st_47 hS ⟨_, rfl, ?_⟩
   exact ⟨_, Ct.zer, 1, rfl, .inl ⟨‹¬ p.Ok›, rfl, rfl⟩, slh_nil, (hS.sub (.cons _ (.cons _ .slnil))).addnil 1 3 (ints Ct.zer.y)⟩
  refine zsk <| ztn <| zsr ?_
  refine zlv (xfb 2 fd_24_2) ?_
  refine zlv (xlb 0 pl_3 hS) ?_
  have hp : p.Ok := by first | assumption | exact Classical.not_not.1 ‹_›
  have hpm := hp.m1; have hpm2 := hp.m2; have hpd := hp.d; have hs1 := hp.s1; have hs2 := hp.s2; have hk1 := hp.k1; have hk2 := hp.k2
  refine zlv (xfb 3 fd_24_3) ?_
  refine zlv (xlb 0 pl_3 hS) ?_
  refine zlv (xadd (r := p.stock + p.kerf)) ?_
  refine zlv (xany (v := .agg #[.slice none 0 0, .int .i64 (p.stock + p.kerf)])) ?_
  refine zla (xal (cs := [_, _]) el_47 hS) ?_; rintro _ w ⟨g3, rfl, hS⟩
  replace hS := hS.n3
  refine zle (xsw 2 st_47 hS) ?_; clear hS; rintro w hS
  replace hS := hS.n3
  refine zlt <| zsq <| zsr ?_
  refine zlv xas ?_
  refine zlt <| zbk ?_
  replace hS := hS.addnil 1 3 (ints (fun _ => 0))
  replace hS := hS.n4
  refine zlp (fun mm M w => ∃ (i : Int) (vb : Value) (f : Int → Int), mm = ((p.m - i).toNat) ∧ (0 ≤ i) ∧ (i ≤ p.m) ∧ (∀ k, 0 ≤ k → k < i → f k = p.L k + p.kerf) ∧ (Slh vb i) ∧ M = [(1, .pointer (some ⟨g1, 0, none⟩)), (2, .pointer (some ⟨g2, 0, none⟩)), (3, .int .i64 0), (4, .pointer (some ⟨g3, 0, none⟩)), (5, .int .i64 i)] ∧ Sat w0 w [.blk g1 [vL, vD, .int .i64 p.stock, .int .i64 p.kerf], .blk g2 [.slice none 0 0, .int .i64 0], .blk g3 [vb, .int .i64 (p.stock + p.kerf)], .own vb 1 3 i (ints f)]) ⟨0, (.slice none 0 0), (fun _ => 0), rfl, (by omega), (by omega), ?_, ?_, rfl, hS⟩ ?_
  ·
   intro k k0 k1; omega
  ·
   exact slh_nil
  clear hS w
  rintro mm M w ⟨i, vb, f, rfl, h0, h1, hf, hvb, rfl, hS⟩
  refine zsq <| zsr ?_
  refine zlv xmv ?_
  refine zlv (xfb 0 fd_24_0) ?_
  refine zlv (xlb 0 pl_22 hS) ?_
  refine zlv (xln sl_22 h.L.slh) ?_
  have he9 : i < p.m → 1 ≤ p.L i ∧ p.L i ≤ p.stock := fun hi => by have he := hp.all i h0 hi; unfold Prob.each at he; omega
  refine zlv xlss ?_
  refine zlt ?_
  refine zcif ?_ ?_ <;> intro hc
  ·
   refine zsk <| ztn <| zsq <| zbk ?_
   refine zdst [0, 1, 2] [0, 1] 13 mx_ hS ?_; clear hS; intro w hS
   refine zdv 0 (fun _ => (xfb 0 fd_47_0)) ?_
   refine zdl 1 (fun w hS => (xlb 2 pl_22 hS)) ?_
   refine zdv 2 (fun _ => (xfb 0 fd_24_0)) ?_
   refine zdla 3 (fun w hS => (xlb 0 pl_22 hS)) ?_
   refine zdv 4 (fun _ => xmv) ?_
   refine zdv 5 (fun _ => (xix (kk := i) sl_22 h.L.slh)) ?_
   refine zdla 6 (fun w hS => (xlr (u := .int .i64 (p.L i)) pl_3 (h.L.below hS.below))) ?_
   have hbv := h.iL i
   refine zdv 7 (fun _ => (xfb 3 fd_24_3)) ?_
   refine zdla 8 (fun w hS => (xlb 0 pl_3 hS)) ?_
   refine zdv 9 (fun _ => (xadd (r := p.L i + p.kerf))) ?_
   refine zda 10 (xli (n := 1) (len := 1) (pv := [(0, .int .i64 (p.L i + p.kerf))]) (cs := [.int .i64 (p.L i + p.kerf)]) (c := ints (fun _ => p.L i + p.kerf)) sl_22 el_3 hS) ?_; rintro v1 w ⟨hS, hv1⟩
   replace hS := hS.n5
   refine ⟨⟨fun _ => hS.pk [0, 1, 2], hS.pk [0, 1]⟩, ?_⟩
   refine zda 11 (xap 3 (r := i + 1) sl_22 el_3 hS (hS.rowN 4 rfl) (cat_snoc _ _ _)) ?_; rintro v2 w ⟨hS, hv2⟩
   replace hS := hS.n5
   refine ⟨⟨fun _ => hS.pk [0, 1, 2], hS.pk [0, 1]⟩, ?_⟩
   refine zdv 12 (fun _ => (xfb 0 fd_47_0)) ?_
   refine zde 13 (xsb 2 pl_22 hS (hv := hv2.one)) ?_; clear hS; rintro w hS
   replace hS := hS.n5
   refine ⟨⟨fun h => absurd h (by decide), hS.pk [0, 1]⟩, ?_⟩
   refine zdd <| zbn <| ztn <| zrg ?_
   refine zlv xmv ?_
   refine zlv (xadd (r := i + 1)) ?_
   refine zlv xas ?_
   refine zln <| zlq ⟨i + 1, v2, (snoc f i (p.L i + p.kerf)), rfl, (by omega), (by omega), ?_, ?_, rfl, hS.pk [0, 1, 2, 3]⟩
   ·
    exact snoc_all hf rfl
   ·
    exact hv2
  refine zxt <| ztx <| ztx <| zbh <| ztn <| zsr ?_
  refine zlv (xls 2 st_47 hS) ?_
  refine zle (xsw 1 st_47 hS (hd := (ones_cons hvb.one (ones_cons rfl ones_nil)))) ?_; clear hS; rintro w hS
  replace hS := hS.n4
  refine zlv xas ?_
  refine zlt <| zrt <| zfct 1 st_47 hS ⟨_, rfl, ?_⟩
  have him : i = p.m := by omega
  subst him
  replace hS := hS.recont 3 rfl (d := ints (matC p).y) (fun k k0 k1 => congrArg (Value.int .i64) (hf k k0 (by omega)))
  exact ⟨_, matC p, 0, rfl, .inr ⟨hp, rfl, rfl⟩, hvb, hS.pk [3]⟩

theorem half_at {p : Prob} {f : Int → Int} {i : Int} (hf : ∀ k, 0 ≤ k → k < i → f k = halfY p k) (h : p.stock + p.kerf < 2 * (p.L i + p.kerf)) : ∀ k, 0 ≤ k → k < i + 1 → upd f i 1 k = halfY p k := fun k k0 k1 => by
  unfold upd
  by_cases e : k = i
  · rw [if_pos e, e]; unfold halfY; rw [if_pos h]
  · rw [if_neg e]; exact hf k k0 (by omega)
theorem half_no {p : Prob} {f : Int → Int} {i : Int} (hf : ∀ k, 0 ≤ k → k < i → f k = halfY p k) (hz : ∀ k, i ≤ k → f k = 0) (h : ¬ p.stock + p.kerf < 2 * (p.L i + p.kerf)) : ∀ k, 0 ≤ k → k < i + 1 → f k = halfY p k := fun k k0 k1 => by
  by_cases e : k = i
  · rw [e, hz i (Int.le_refl _)]; unfold halfY; rw [if_neg h]
  · exact hf k k0 (by omega)
theorem half_z {f : Int → Int} {i : Int} (hz : ∀ k, i ≤ k → f k = 0) : ∀ k, i + 1 ≤ k → upd f i 1 k = 0 := fun k hk => by
  unfold upd; rw [if_neg (by omega)]; exact hz k (by omega)

set_option maxHeartbeats 4000000 in
set_option maxRecDepth 20000 in
theorem c_halfc32 {vL vD : Value} {p : Prob} (w0 : World) (h : PAt w0 vL vD p) :
    Calls Tryz.prog 20 [.agg #[vL, vD, .int .i64 p.stock, .int .i64 p.kerf]].toArray w0 fun e w => ∃ v, e = .returned v ∧ ∃ r c e, v = .tuple #[.agg #[r, .int .i64 (Ct.q c)], .int .i64 e] ∧ HalfR p c e ∧ Slh r c.n ∧ Sat w0 w [.own r 1 3 c.n (ints c.y)] := by
  have hm := h.L.slh.n0; have hm1 := h.L.slh.n1; have hd := h.D.slh.n0; have hd1 := h.D.slh.n1; have hs := h.is; have hk := h.ik
  refine zenG Tryz.func20 Tryz.ntmps20 fun w hS => ?_
  refine zsr ?_
  refine zla (xbx (cs := [_, _, _, _]) hS) ?_; rintro _ w ⟨g1, rfl, hS⟩
  replace hS := hS.n1
  refine zla (xal (cs := [_, _]) el_44 hS) ?_; rintro _ w ⟨g2, rfl, hS⟩
  replace hS := hS.n2
  refine zlv xas ?_
  refine zlt <| zsq <| zsr ?_
  refine zlv (xls 0 st_35 hS) ?_
  refine zlc (xc0 cl_47) (c_pvalid (p := p) w (h.below hS.below)) ?_; rintro _ w ⟨rfl, hS'⟩
  replace hS := hS.cmp hS'; clear hS'
  refine zlv xnot ?_
  refine zlt ?_
  refine zcif ?_ ?_ <;> intro hc
  ·
   refine zsr ?_
   refine zlv (xany (v := .agg #[.slice none 0 0, .int .i64 0])) ?_
   refine zle (xsw 1 st_44 hS) ?_; clear hS; rintro w hS
   replace hS := hS.n2
   refine zlv xas ?_
   refine zlt <| zrt <| ztr <| zfct 1 st_44 hS ⟨_, rfl, ?_⟩
   exact ⟨_, Ct.zer, 1, rfl, .inl ⟨‹¬ p.Ok›, rfl, rfl⟩, slh_nil, (hS.sub (.cons _ (.cons _ .slnil))).addnil 1 3 (ints Ct.zer.y)⟩
  refine zsk <| ztn <| zsr ?_
  refine zlv (xfb 0 fd_35_0) ?_
  have hp : p.Ok := by first | assumption | exact Classical.not_not.1 ‹_›
  have hpm := hp.m1; have hpm2 := hp.m2; have hpd := hp.d; have hs1 := hp.s1; have hs2 := hp.s2; have hk1 := hp.k1; have hk2 := hp.k2
  refine zlv (xlb 0 pl_22 hS) ?_
  refine zlv (xln sl_22 h.L.slh) ?_
  refine zla (xmk sl_22 el_3 hS) ?_; rintro v1 w ⟨hS, hv1⟩
  replace hS := hS.n3
  refine zlv (xany (v := .agg #[v1, .int .i64 1]) (hr := by obtain ⟨_, _, _, _, rfl, _⟩ := hv1; kernel_rfl)) ?_
  refine zla (xal (cs := [_, _]) el_44 hS) ?_; rintro _ w ⟨g3, rfl, hS⟩
  replace hS := hS.n4
  refine zle (xsw 3 st_44 hS (hd := (ones_cons hv1.one (ones_cons rfl ones_nil)))) ?_; clear hS; rintro w hS
  replace hS := hS.n4
  refine zlt <| zsq <| zsr ?_
  refine zlv (xfb 0 fd_35_0) ?_
  refine zlv (xlb 0 pl_22 hS) ?_
  refine zlv (xln sl_22 h.L.slh) ?_
  refine zlv xmv ?_
  refine zlt <| zbk <| zlp (fun mm M w => ∃ (f : Int → Int) (i : Int), mm = ((p.m - i).toNat) ∧ (0 ≤ i) ∧ (i ≤ p.m) ∧ (∀ k, 0 ≤ k → k < i → f k = halfY p k) ∧ (∀ k, i ≤ k → f k = 0) ∧ M = [(1, .pointer (some ⟨g1, 0, none⟩)), (2, .pointer (some ⟨g2, 0, none⟩)), (3, .int .i64 0), (4, .pointer (some ⟨g3, 0, none⟩)), (17, vL), (18, .int .i64 p.m), (19, .int .i64 i)] ∧ Sat w0 w [.blk g1 [vL, vD, .int .i64 p.stock, .int .i64 p.kerf], .blk g2 [.slice none 0 0, .int .i64 0], .own v1 1 3 p.m (ints f), .blk g3 [v1, .int .i64 1]]) ⟨(fun _ => 0), 0, rfl, (by omega), (by omega), ?_, ?_, rfl, hS⟩ ?_
  ·
   intro k k0 k1; omega
  ·
   intro k _; rfl
  clear hS w
  rintro mm M w ⟨f, i, rfl, h0, h1, hf, hz, rfl, hS⟩
  refine zsr ?_
  refine zlv xlss ?_
  refine zlt <| zsq ?_
  refine zcif ?_ ?_ <;> intro hc
  ·
   refine zsk <| ztn <| zsq <| zbk <| zsr ?_
   refine zlv xmv ?_
   refine zlv (xix (kk := i) sl_22 h.L.slh) ?_
   refine zlv (xlr (u := .int .i64 (p.L i)) pl_3 (h.L.below hS.below)) ?_
   have hbv := h.iL i
   have he := hp.all i h0 (by omega); unfold Prob.each at he
   refine zs2 ?_
   refine zlz ?_
   refine zlv xmv ?_
   refine zlv (xfb 3 fd_35_3) ?_
   refine zlv (xlb 0 pl_3 hS) ?_
   refine zlv (xadd (r := p.L i + p.kerf)) ?_
   refine zlv (xmul (r := 2 * p.L i + 2 * p.kerf)) ?_
   refine zlv (xfb 2 fd_35_2) ?_
   refine zlv (xlb 0 pl_3 hS) ?_
   refine zlv (xfb 3 fd_35_3) ?_
   refine zlv (xlb 0 pl_3 hS) ?_
   refine zlv (xadd (r := p.stock + p.kerf)) ?_
   refine zlv xgtr ?_
   refine zlt ?_
   refine zcif ?_ ?_ <;> intro hc
   ·
    refine zrg ?_
    refine zlv (xfb 0 fd_44_0) ?_
    refine zlv (xlb 3 pl_22 hS) ?_
    refine zlv xmv ?_
    refine zlv (xix (kk := i) sl_22 hv1) ?_
    refine zle (xso 2 pl_3 hS (upd_ints _ _ _)) ?_; clear hS; rintro w hS
    replace hS := hS.n4
    refine zln <| zbn <| ztn <| zrg ?_
    refine zlv (xadd (r := i + 1)) ?_
    refine zlv xmv ?_
    refine zln <| zlq ⟨(upd f i 1), i + 1, rfl, (by omega), (by omega), ?_, ?_, rfl, hS⟩
    ·
     first | exact half_at hf (by omega) | exact half_no hf hz (by omega)
    ·
     first | exact half_z hz | exact fun k hk => hz k (by omega)
   refine zsk <| zbn <| ztn <| zrg ?_
   refine zlv (xadd (r := i + 1)) ?_
   refine zlv xmv ?_
   refine zln <| zlq ⟨f, i + 1, rfl, (by omega), (by omega), ?_, ?_, rfl, hS⟩
   ·
    first | exact half_at hf (by omega) | exact half_no hf hz (by omega)
   ·
    first | exact half_z hz | exact fun k hk => hz k (by omega)
  refine zxt <| ztx <| ztx <| zbh <| ztn <| zsr ?_
  refine zlv (xls 3 st_44 hS) ?_
  refine zle (xsw 1 st_44 hS (hd := (ones_cons hv1.one (ones_cons rfl ones_nil)))) ?_; clear hS; rintro w hS
  replace hS := hS.n4
  refine zlv xas ?_
  refine zlt <| zrt <| zfct 1 st_44 hS ⟨_, rfl, ?_⟩
  have him : i = p.m := by omega
  subst him
  replace hS := hS.recont 2 rfl (d := ints (halfC p).y) (fun k k0 k1 => congrArg (Value.int .i64) (hf k k0 (by omega)))
  exact ⟨_, halfC p, 0, rfl, .inr ⟨hp, rfl, rfl⟩, hv1, hS.pk [2]⟩

set_option maxHeartbeats 4000000 in
set_option maxRecDepth 20000 in
theorem c_rhalfc32 {vL vD : Value} {p : Prob} (w0 : World) (h : PAt w0 vL vD p) :
    Calls Tryz.prog 21 [.agg #[vL, vD, .int .i64 p.stock, .int .i64 p.kerf]].toArray w0 fun e w => ∃ v, e = .returned v ∧ ∃ r c e, v = .tuple #[.agg #[r, .int .i64 (Ct.q c)], .int .i64 e] ∧ HalfR p c e ∧ Slh r c.n ∧ Sat w0 w [.own r 1 3 c.n (ints c.y)] := by
  have hm := h.L.slh.n0; have hm1 := h.L.slh.n1; have hd := h.D.slh.n0; have hd1 := h.D.slh.n1; have hs := h.is; have hk := h.ik
  refine zenG Tryz.func21 Tryz.ntmps21 fun w hS => ?_
  refine zsr ?_
  refine zla (xbx (cs := [_, _, _, _]) hS) ?_; rintro _ w ⟨g1, rfl, hS⟩
  replace hS := hS.n1
  refine zla (xal (cs := [_, _]) el_47 hS) ?_; rintro _ w ⟨g2, rfl, hS⟩
  replace hS := hS.n2
  refine zlv xas ?_
  refine zlt <| zsq <| zsr ?_
  refine zlv (xls 0 st_24 hS) ?_
  refine zlc (xc0 cl_25) (c_rvalid28 (p := p) w (h.below hS.below)) ?_; rintro _ w ⟨rfl, hS'⟩
  replace hS := hS.cmp hS'; clear hS'
  refine zlv xnot ?_
  refine zlt ?_
  refine zcif ?_ ?_ <;> intro hc
  ·
   refine zsr ?_
   refine zlv (xany (v := .agg #[.slice none 0 0, .int .i64 0])) ?_
   refine zle (xsw 1 st_47 hS) ?_; clear hS; rintro w hS
   replace hS := hS.n2
   refine zlv xas ?_
   refine zlt <| zrt <| ztr <| zfct 1 st_47 hS ⟨_, rfl, ?_⟩
   exact ⟨_, Ct.zer, 1, rfl, .inl ⟨‹¬ p.Ok›, rfl, rfl⟩, slh_nil, (hS.sub (.cons _ (.cons _ .slnil))).addnil 1 3 (ints Ct.zer.y)⟩
  refine zsk <| ztn <| zsr ?_
  refine zlv (xfb 0 fd_24_0) ?_
  have hp : p.Ok := by first | assumption | exact Classical.not_not.1 ‹_›
  have hpm := hp.m1; have hpm2 := hp.m2; have hpd := hp.d; have hs1 := hp.s1; have hs2 := hp.s2; have hk1 := hp.k1; have hk2 := hp.k2
  refine zlv (xlb 0 pl_22 hS) ?_
  refine zlv (xln sl_22 h.L.slh) ?_
  refine zla (xmk sl_22 el_3 hS) ?_; rintro v1 w ⟨hS, hv1⟩
  replace hS := hS.n3
  refine zlv (xany (v := .agg #[v1, .int .i64 1]) (hr := by obtain ⟨_, _, _, _, rfl, _⟩ := hv1; kernel_rfl)) ?_
  refine zla (xal (cs := [_, _]) el_47 hS) ?_; rintro _ w ⟨g3, rfl, hS⟩
  replace hS := hS.n4
  refine zle (xsw 3 st_47 hS (hd := (ones_cons hv1.one (ones_cons rfl ones_nil)))) ?_; clear hS; rintro w hS
  replace hS := hS.n4
  refine zlt <| zsq <| zsr ?_
  refine zlv xas ?_
  refine zlt <| zbk <| zlp (fun mm M w => ∃ (f : Int → Int) (i : Int), mm = ((p.m - i).toNat) ∧ (0 ≤ i) ∧ (i ≤ p.m) ∧ (∀ k, 0 ≤ k → k < i → f k = halfY p k) ∧ (∀ k, i ≤ k → f k = 0) ∧ M = [(1, .pointer (some ⟨g1, 0, none⟩)), (2, .pointer (some ⟨g2, 0, none⟩)), (3, .int .i64 0), (4, .pointer (some ⟨g3, 0, none⟩)), (5, .int .i64 i)] ∧ Sat w0 w [.blk g1 [vL, vD, .int .i64 p.stock, .int .i64 p.kerf], .blk g2 [.slice none 0 0, .int .i64 0], .own v1 1 3 p.m (ints f), .blk g3 [v1, .int .i64 1]]) ⟨(fun _ => 0), 0, rfl, (by omega), (by omega), ?_, ?_, rfl, hS⟩ ?_
  ·
   intro k k0 k1; omega
  ·
   intro k _; rfl
  clear hS w
  rintro mm M w ⟨f, i, rfl, h0, h1, hf, hz, rfl, hS⟩
  refine zsq <| zsr ?_
  refine zlv xmv ?_
  refine zlv (xfb 0 fd_24_0) ?_
  refine zlv (xlb 0 pl_22 hS) ?_
  refine zlv (xln sl_22 h.L.slh) ?_
  have he9 : i < p.m → 1 ≤ p.L i ∧ p.L i ≤ p.stock := fun hi => by have he := hp.all i h0 hi; unfold Prob.each at he; omega
  refine zlv xlss ?_
  refine zlt ?_
  refine zcif ?_ ?_ <;> intro hc
  ·
   refine zsk <| ztn <| zsq <| zbk <| zsq ?_
   refine zdst [0, 1, 2, 3] [0, 1, 2, 3] 1000 mx_ hS ?_; clear hS; intro w hS
   refine zdv 0 (fun _ => (xfb 0 fd_24_0)) ?_
   refine zdla 1 (fun w hS => (xlb 0 pl_22 hS)) ?_
   refine zdv 2 (fun _ => xmv) ?_
   refine zdv 3 (fun _ => (xix (kk := i) sl_22 h.L.slh)) ?_
   refine zdla 4 (fun w hS => (xlr (u := .int .i64 (p.L i)) pl_3 (h.L.below hS.below))) ?_
   have hbv := h.iL i
   refine zdv 5 (fun _ => (xfb 3 fd_24_3)) ?_
   refine zdla 6 (fun w hS => (xlb 0 pl_3 hS)) ?_
   refine zdv 7 (fun _ => (xadd (r := p.L i + p.kerf))) ?_
   refine zdv 8 (fun _ => (xmul (r := 2 * p.L i + 2 * p.kerf))) ?_
   refine zdv 9 (fun _ => (xfb 2 fd_24_2)) ?_
   refine zdla 10 (fun w hS => (xlb 0 pl_3 hS)) ?_
   refine zdv 11 (fun _ => (xfb 3 fd_24_3)) ?_
   refine zdla 12 (fun w hS => (xlb 0 pl_3 hS)) ?_
   refine zdv 13 (fun _ => (xadd (r := p.stock + p.kerf))) ?_
   refine zdv 14 (fun _ => xgtr) ?_
   refine zdd <| ztn ?_
   refine zcif ?_ ?_ <;> intro hc
   ·
    refine zrg ?_
    refine zlv (xfb 0 fd_47_0) ?_
    refine zlv (xlb 3 pl_22 hS) ?_
    refine zlv xmv ?_
    refine zlv (xix (kk := i) sl_22 hv1) ?_
    refine zle (xso 2 pl_3 hS (upd_ints _ _ _)) ?_; clear hS; rintro w hS
    replace hS := hS.n4
    refine zln <| zbn <| ztn <| zrg ?_
    refine zlv xmv ?_
    refine zlv (xadd (r := i + 1)) ?_
    refine zlv xas ?_
    refine zln <| zlq ⟨(upd f i 1), i + 1, rfl, (by omega), (by omega), ?_, ?_, rfl, hS⟩
    ·
     first | exact half_at hf (by omega) | exact half_no hf hz (by omega)
    ·
     first | exact half_z hz | exact fun k hk => hz k (by omega)
   refine zsk <| zbn <| ztn <| zrg ?_
   refine zlv xmv ?_
   refine zlv (xadd (r := i + 1)) ?_
   refine zlv xas ?_
   refine zln <| zlq ⟨f, i + 1, rfl, (by omega), (by omega), ?_, ?_, rfl, hS⟩
   ·
    first | exact half_at hf (by omega) | exact half_no hf hz (by omega)
   ·
    first | exact half_z hz | exact fun k hk => hz k (by omega)
  refine zxt <| ztx <| ztx <| zbh <| ztn <| zsr ?_
  refine zlv (xls 3 st_47 hS) ?_
  refine zle (xsw 1 st_47 hS (hd := (ones_cons hv1.one (ones_cons rfl ones_nil)))) ?_; clear hS; rintro w hS
  replace hS := hS.n4
  refine zlv xas ?_
  refine zlt <| zrt <| zfct 1 st_47 hS ⟨_, rfl, ?_⟩
  have him : i = p.m := by omega
  subst him
  replace hS := hS.recont 2 rfl (d := ints (halfC p).y) (fun k k0 k1 => congrArg (Value.int .i64) (hf k k0 (by omega)))
  exact ⟨_, halfC p, 0, rfl, .inr ⟨hp, rfl, rfl⟩, hv1, hS.pk [2]⟩

theorem zfctt {P : Program} {fn : Func} {R : Ending → World → Prop} {w w0 : World} {n : Nat} {L : List (Nat × Value)} {E : List Ent} (i : Nat) {s t r g k : Nat} {T : TypeId} {u v : Value} {cs : List Value} (ht : structT P T = some k) (hS : Sat w0 w E) (h : R (.returned (.tuple #[.agg cs.toArray, u, v])) w) (hr : fn.results = #[.cell s T, .tmp t, .tmp r] := by exact rfl) (hs : lk L s = some (.pointer (some ⟨g, 0, none⟩)) := by exact rfl) (hu : lk L t = some u := by exact rfl) (hv : lk L r = some v := by exact rfl)
    (hi : E[i]? = some (.blk g cs) := by exact rfl) (hk : cs.length = k := by exact rfl) : Ge n [] (bodyPost P fn R) .ret L w := fun _ hF => by
  refine ⟨hF.defers, _, ?_, h⟩
  subst hk
  obtain ⟨h1, h2⟩ := struct_of (w := w) ht
  have h3 := run_loadCells_list (P := P) w ⟨g, 0, none⟩ cs (hS.holds _ (List.mem_of_getElem? hi)).cells
  have e0 := hF.get t _ hu
  have e1 := hF.get s _ hs
  have e2 := hF.get r _ hv
  rw [Array.getD_eq_getD_getElem?] at e0 e1 e2
  simp [results, hr, e0, e1, e2, asAddr, loadVar, h1, h2, h3]
/-- What is best so far, behind one more certificate. -/
noncomputable def offer (p : Prob) (b : Ct × Int) (c : Ct) (e : Int) : Ct × Int := if e = 0 ∧ Chk p c.n c.y c.q = 0 ∧ b.2 < BndOf p c.n c.y c.q then (c, BndOf p c.n c.y c.q) else b
theorem offer_yes {p : Prob} {b c : Ct} {m e : Int} (h1 : e = 0) (h2 : Chk p c.n c.y c.q = 0) (h3 : m < BndOf p c.n c.y c.q) : (c, BndOf p c.n c.y c.q) = offer p (b, m) c e := by
  unfold offer; rw [if_pos ⟨h1, h2, h3⟩]
theorem offer_no {p : Prob} {b c : Ct} {m e : Int} (h : ¬ (e = 0 ∧ Chk p c.n c.y c.q = 0 ∧ m < BndOf p c.n c.y c.q)) : (b, m) = offer p (b, m) c e := by
  unfold offer; rw [if_neg h]
/-- What is best of the three. -/
def BestIs (p : Prob) (c : Ct) (m : Int) : Prop := ∃ c1 e1 c2 e2 c3 e3, MakeR p c1 e1 ∧ MatCR p c2 e2 ∧ HalfR p c3 e3 ∧ (c, m) = offer p (offer p (offer p (Ct.zer, -1) c1 e1) c2 e2) c3 e3
def BestR (p : Prob) (c : Ct) (m e : Int) : Prop := (¬ p.Ok ∧ c = Ct.zer ∧ m = 0 ∧ e = 1) ∨ (p.Ok ∧ e = 0 ∧ BestIs p c m)
theorem BestR.same {p : Prob} {c d : Ct} {m k e f : Int} (h : BestR p c m e) (g : BestR p d k f) : c = d ∧ m = k ∧ e = f := by
  rcases h with ⟨h1, rfl, rfl, rfl⟩ | ⟨h1, rfl, h2⟩ <;> rcases g with ⟨g1, rfl, rfl, rfl⟩ | ⟨g1, rfl, g2⟩
  · exact ⟨rfl, rfl, rfl⟩
  · exact absurd g1 h1
  · exact absurd h1 g1
  · obtain ⟨c1, e1, c2, e2, c3, e3, a1, a2, a3, a4⟩ := h2
    obtain ⟨d1, f1, d2, f2, d3, f3, b1, b2, b3, b4⟩ := g2
    obtain ⟨rfl, rfl⟩ := a1.same b1
    obtain ⟨rfl, rfl⟩ := a2.same b2
    obtain ⟨rfl, rfl⟩ := a3.same b3
    rw [← a4] at b4
    injection b4 with q1 q2
    exact ⟨q1.symm, q2.symm, rfl⟩

set_option maxHeartbeats 4000000 in
set_option maxRecDepth 20000 in
theorem c_offer {vL vD : Value} {p : Prob} {F : Go.Proofs.Gw.Frame} {gp gm gb : Nat} {b c : Ct} {most ee : Int} {vb vc : Value} (w0 w : World) (hS : Sat w0 w [.blk gp [vL, vD, .int .i64 p.stock, .int .i64 p.kerf], .blk gm [.int .i64 most], .blk gb [vb, .int .i64 b.q], .own vb 1 3 b.n (ints b.y), .own vc 1 3 c.n (ints c.y), .sem F]) (h : PAt w0 vL vD p) (hvb : Slh vb b.n) (hvc : Slh vc c.n) (hq : -9223372036854775808 ≤ c.q ∧ c.q ≤ 9223372036854775807) :
    Calls Tryz.prog 54 [.agg #[vc, .int .i64 c.q], .int .i64 ee, .pointer (some ⟨gp, 0, none⟩), .pointer (some ⟨gm, 0, none⟩), .pointer (some ⟨gb, 0, none⟩)].toArray w fun e w => ∃ v, e = .returned v ∧ v = .tuple #[] ∧ ∃ b2 m2 v2, (b2, m2) = offer p (b, most) c ee ∧ Slh v2 b2.n ∧ Sat w0 w [.blk gp [vL, vD, .int .i64 p.stock, .int .i64 p.kerf], .blk gm [.int .i64 m2], .blk gb [v2, .int .i64 b2.q], .own v2 1 3 b2.n (ints b2.y), .sem F] := by
  have hm := h.L.slh.n0; have hm1 := h.L.slh.n1; have hd := h.D.slh.n0; have hd1 := h.D.slh.n1; have hs := h.is; have hk := h.ik
  refine zenF Tryz.func54 Tryz.ntmps54 ?_
  refine zsr ?_
  refine zla (xbx (cs := [_, _]) hS) ?_; rintro _ w ⟨g1, rfl, hS⟩
  replace hS := hS.n7
  refine zlt <| zsq <| zsr ?_
  refine zs2 ?_
  refine zlt ?_
  refine zcif ?_ ?_ <;> intro hc
  ·
   refine zrt <| ztr <| zf0 ⟨_, rfl, ?_⟩
   exact ⟨rfl, b, most, vb, offer_no (by rintro ⟨h1, h2, h3⟩; omega), hvb, hS.pk [0, 1, 2, 3, 5]⟩
  refine zsk <| ztn <| zsr ?_
  refine zlv (xls 0 st_35 hS) ?_
  refine zlv (xls 6 st_44 hS) ?_
  refine zlc (xc0 cl_26) (c_bound (p := p) w (h.below hS.below) (hS.rowN 4 rfl) (by omega)) ?_; rintro _ w ⟨rfl, hS'⟩
  replace hS := hS.cmp hS'; clear hS'
  refine zs5 ?_
  refine zlz ?_
  refine zs3 ?_
  refine zlb 19 ?_ ?_ <;> intro hc
  ·
   refine zlv xmv ?_
   refine zlv (xlb 1 pl_3 hS) ?_
   refine zs2 ?_
   refine zlt ?_
   refine zcif ?_ ?_ <;> intro hc
   ·
    refine zrg ?_
    refine zlv (xls 6 st_44 hS) ?_
    refine zlv xmv ?_
    refine zle (xsw 2 st_44 hS (hd := (ones_cons hvc.one (ones_cons rfl ones_nil)))) ?_; clear hS; rintro w hS
    replace hS := hS.n7
    refine zle (xsb 1 pl_3 hS) ?_; clear hS; rintro w hS
    replace hS := hS.n7
    refine zln <| zfn0 ⟨_, rfl, ?_⟩
    exact ⟨rfl, c, _, vc, offer_yes (by omega) (by omega) (by omega), hvc, hS.pk [0, 1, 2, 4, 5]⟩
   refine zsk <| zfn0 ⟨_, rfl, ?_⟩
   exact ⟨rfl, b, most, vb, offer_no (by rintro ⟨h1, h2, h3⟩; omega), hvb, hS.pk [0, 1, 2, 3, 5]⟩
  iterate 3 refine zlo ?_
  refine zlv xpf ?_
  refine zlt <| zcf <| zsk <| zfn0 ⟨_, rfl, ?_⟩
  exact ⟨rfl, b, most, vb, offer_no (by rintro ⟨h1, h2, h3⟩; omega), hvb, hS.pk [0, 1, 2, 3, 5]⟩

set_option maxHeartbeats 4000000 in
set_option maxRecDepth 20000 in
theorem c_best32 {vL vD : Value} {p : Prob} (w0 : World) (h : PAt w0 vL vD p) :
    Calls Tryz.prog 22 [.agg #[vL, vD, .int .i64 p.stock, .int .i64 p.kerf]].toArray w0 fun e w => ∃ v, e = .returned v ∧ ∃ r c m e, v = .tuple #[.agg #[r, .int .i64 (Ct.q c)], .int .i64 m, .int .i64 e] ∧ BestR p c m e ∧ Slh r c.n ∧ Sat w0 w [.own r 1 3 c.n (ints c.y)] := by
  have hm := h.L.slh.n0; have hm1 := h.L.slh.n1; have hd := h.D.slh.n0; have hd1 := h.D.slh.n1; have hs := h.is; have hk := h.ik
  refine zenG Tryz.func22 Tryz.ntmps22 fun w hS => ?_
  refine zsr ?_
  refine zla (xbx (cs := [_, _, _, _]) hS) ?_; rintro _ w ⟨g1, rfl, hS⟩
  replace hS := hS.n1
  refine zla (xal (cs := [_, _]) el_44 hS) ?_; rintro _ w ⟨g2, rfl, hS⟩
  replace hS := hS.n2
  refine zs2 ?_
  refine zlt <| zsq <| zsr ?_
  refine zlv (xls 0 st_35 hS) ?_
  refine zlc (xc0 cl_47) (c_pvalid (p := p) w (h.below hS.below)) ?_; rintro _ w ⟨rfl, hS'⟩
  replace hS := hS.cmp hS'; clear hS'
  refine zlv xnot ?_
  refine zlt ?_
  refine zcif ?_ ?_ <;> intro hc
  ·
   refine zsr ?_
   refine zlv (xany (v := .agg #[.slice none 0 0, .int .i64 0])) ?_
   refine zle (xsw 1 st_44 hS) ?_; clear hS; rintro w hS
   replace hS := hS.n2
   refine zs2 ?_
   refine zlt <| zrt <| ztr <| zfctt 1 st_44 hS ⟨_, rfl, ?_⟩
   exact ⟨_, Ct.zer, 0, 1, rfl, .inl ⟨‹¬ p.Ok›, rfl, rfl, rfl⟩, slh_nil, (hS.sub (.cons _ (.cons _ .slnil))).addnil 1 3 (ints Ct.zer.y)⟩
  refine zsk <| ztn <| zsr ?_
  refine zla (xal (cs := [_, _]) el_44 hS) ?_; rintro _ w ⟨g3, rfl, hS⟩
  replace hS := hS.n3
  refine zlz ?_
  refine zla (xal (cs := [_]) el_3 hS) ?_; rintro _ w ⟨g4, rfl, hS⟩
  replace hS := hS.n4
  refine zle (xsb 3 pl_3 hS) ?_; clear hS; rintro w hS
  replace hS := hS.n4
  refine zlz ?_
  refine zlv xmf ?_
  replace hS := hS.addnil 1 3 (ints Ct.zer.y)
  replace hS := hS.n5
  have hp : p.Ok := by first | assumption | exact Classical.not_not.1 ‹_›
  have hpm := hp.m1; have hpm2 := hp.m2; have hpd := hp.d; have hs1 := hp.s1; have hs2 := hp.s2; have hk1 := hp.k1; have hk2 := hp.k2
  refine zlv xas ?_
  refine zlz ?_
  refine zlv xmv ?_
  refine zlv (xls 0 st_35 hS) ?_
  refine zlc (xc0 cl_16) (c_make32 (p := p) w (h.below hS.below)) ?_; rintro _ w ⟨vcct1, cct1, ect1, rfl, hctct1, hvcct1, hS'⟩
  replace hS : Sat w0 w [.blk g1 [vL, vD, .int .i64 p.stock, .int .i64 p.kerf], .blk g2 [.slice none 0 0, .int .i64 0], .blk g3 [(.slice none 0 0), .int .i64 0], .blk g4 [.int .i64 (-1)], .own (.slice none 0 0) 1 3 Ct.zer.n (ints Ct.zer.y), .own vcct1 1 3 cct1.n (ints cct1.y)] := hS.comp hS'; clear hS'
  refine zs2 ?_
  refine zlc (xcc (vs := [_, _]) cl_54) (c_offer (p := p) (b := Ct.zer) (c := cct1) (most := (-1)) (ee := ect1) (vb := (.slice none 0 0)) (vc := vcct1) w0 w (Sat.bundle (l1 := [_, _, _, _, _]) (hS.pk [0, 3, 2, 4, 5, 1])) h slh_nil hvcct1 (by have h9 := hctct1.q; omega)) ?_; rintro _ w ⟨rfl, b2of1, m2of1, v2of1, hoof1, hv2of1, hS⟩
  replace hS := Sat.unbundle (l1 := [_, _, _, _]) (l3 := []) hS
  replace hS := hS.n5
  refine zlz ?_
  refine zlv xmv ?_
  refine zlv (xls 0 st_35 hS) ?_
  refine zlc (xc0 cl_18) (c_matc32 (p := p) w (h.below hS.below)) ?_; rintro _ w ⟨vcct2, cct2, ect2, rfl, hctct2, hvcct2, hS'⟩
  replace hS : Sat w0 w [.blk g1 [vL, vD, .int .i64 p.stock, .int .i64 p.kerf], .blk g4 [.int .i64 m2of1], .blk g3 [v2of1, .int .i64 b2of1.q], .own v2of1 1 3 b2of1.n (ints b2of1.y), .blk g2 [.slice none 0 0, .int .i64 0], .own vcct2 1 3 cct2.n (ints cct2.y)] := hS.comp hS'; clear hS'
  refine zs2 ?_
  refine zlc (xcc (vs := [_, _]) cl_54) (c_offer (p := p) (b := b2of1) (c := cct2) (most := m2of1) (ee := ect2) (vb := v2of1) (vc := vcct2) w0 w (Sat.bundle (l1 := [_, _, _, _, _]) (hS.pk [0, 1, 2, 3, 5, 4])) h hv2of1 hvcct2 (by have h9 := hctct2.q; omega)) ?_; rintro _ w ⟨rfl, b2of2, m2of2, v2of2, hoof2, hv2of2, hS⟩
  replace hS := Sat.unbundle (l1 := [_, _, _, _]) (l3 := []) hS
  replace hS := hS.n5
  refine zlz ?_
  refine zlv xmv ?_
  refine zlv (xls 0 st_35 hS) ?_
  refine zlc (xc0 cl_20) (c_halfc32 (p := p) w (h.below hS.below)) ?_; rintro _ w ⟨vcct3, cct3, ect3, rfl, hctct3, hvcct3, hS'⟩
  replace hS : Sat w0 w [.blk g1 [vL, vD, .int .i64 p.stock, .int .i64 p.kerf], .blk g4 [.int .i64 m2of2], .blk g3 [v2of2, .int .i64 b2of2.q], .own v2of2 1 3 b2of2.n (ints b2of2.y), .blk g2 [.slice none 0 0, .int .i64 0], .own vcct3 1 3 cct3.n (ints cct3.y)] := hS.comp hS'; clear hS'
  refine zs2 ?_
  refine zlc (xcc (vs := [_, _]) cl_54) (c_offer (p := p) (b := b2of2) (c := cct3) (most := m2of2) (ee := ect3) (vb := v2of2) (vc := vcct3) w0 w (Sat.bundle (l1 := [_, _, _, _, _]) (hS.pk [0, 1, 2, 3, 5, 4])) h hv2of2 hvcct3 (by have h9 := hctct3.q; omega)) ?_; rintro _ w ⟨rfl, b2of3, m2of3, v2of3, hoof3, hv2of3, hS⟩
  replace hS := Sat.unbundle (l1 := [_, _, _, _]) (l3 := []) hS
  replace hS := hS.n5
  refine zlt <| zsq ?_
  refine zdst [0, 1, 2, 3, 4] [0, 1, 2, 3] 2 mx_ hS ?_; clear hS; intro w hS
  refine zdla 0 (fun w hS => (xls 2 st_44 hS)) ?_
  refine zdla 1 (fun w hS => (xlb 1 pl_3 hS)) ?_
  refine zde 2 (xsw 4 st_44 hS (hd := (ones_cons hv2of3.one (ones_cons rfl ones_nil)))) ?_; clear hS; rintro w hS
  replace hS := hS.n5
  refine ⟨⟨fun h => absurd h (by decide), hS.pk [0, 1, 2, 3]⟩, ?_⟩
  refine zdv 3 (fun _ => xas) ?_
  refine zdv 4 (fun _ => xas) ?_
  refine zdd <| ztn <| zrt <| zfctt 4 st_44 hS ⟨_, rfl, ?_⟩
  exact ⟨_, _, _, 0, rfl, .inr ⟨hp, rfl, _, _, _, _, _, _, hctct1, hctct2, hctct3, (by rw [hoof3, hoof2, hoof1])⟩, hv2of3, hS.pk [3]⟩

def BestUp (p : Prob) (i : Int) (b : Ct) (m : Int) : Prop := (i = 0 ∧ (b, m) = (Ct.zer, (-1 : Int))) ∨ (i = 1 ∧ ∃ c1 e1, MakeR p c1 e1 ∧ (b, m) = offer p (Ct.zer, -1) c1 e1) ∨
  (i = 2 ∧ ∃ c1 e1 c2 e2, MakeR p c1 e1 ∧ MatCR p c2 e2 ∧ (b, m) = offer p (offer p (Ct.zer, -1) c1 e1) c2 e2) ∨ (i = 3 ∧ BestIs p b m)
theorem BestUp.s0 {p : Prob} {i m m' e : Int} {b b' c : Ct} (h : BestUp p i b m) (hi : i = 0) (hc : MakeR p c e) (ho : (b', m') = offer p (b, m) c e) : BestUp p (i + 1) b' m' := by
  rcases h with ⟨_, h⟩ | ⟨h, _⟩ | ⟨h, _⟩ | ⟨h, _⟩
  · exact .inr (.inl ⟨by omega, c, e, hc, by rw [ho, h]⟩)
  · omega
  · omega
  · omega
theorem BestUp.s1 {p : Prob} {i m m' e : Int} {b b' c : Ct} (h : BestUp p i b m) (hi : i = 1) (hc : MatCR p c e) (ho : (b', m') = offer p (b, m) c e) : BestUp p (i + 1) b' m' := by
  rcases h with ⟨h, _⟩ | ⟨_, c1, e1, h1, h2⟩ | ⟨h, _⟩ | ⟨h, _⟩
  · omega
  · exact .inr (.inr (.inl ⟨by omega, c1, e1, c, e, h1, hc, by rw [ho, h2]⟩))
  · omega
  · omega
theorem BestUp.s2 {p : Prob} {i m m' e : Int} {b b' c : Ct} (h : BestUp p i b m) (hi : i = 2) (hc : HalfR p c e) (ho : (b', m') = offer p (b, m) c e) : BestUp p (i + 1) b' m' := by
  rcases h with ⟨h, _⟩ | ⟨h, _⟩ | ⟨_, c1, e1, c2, e2, h1, h2, h3⟩ | ⟨h, _⟩
  · omega
  · omega
  · exact .inr (.inr (.inr ⟨by omega, c1, e1, c2, e2, c, e, h1, h2, hc, by rw [ho, h3]⟩))
  · omega

set_option maxHeartbeats 4000000 in
set_option maxRecDepth 20000 in
theorem c_rbest32 {vL vD : Value} {p : Prob} (w0 : World) (h : PAt w0 vL vD p) :
    Calls Tryz.prog 23 [.agg #[vL, vD, .int .i64 p.stock, .int .i64 p.kerf]].toArray w0 fun e w => ∃ v, e = .returned v ∧ ∃ r c m e, v = .tuple #[.agg #[r, .int .i64 (Ct.q c)], .int .i64 m, .int .i64 e] ∧ BestR p c m e ∧ Slh r c.n ∧ Sat w0 w [.own r 1 3 c.n (ints c.y)] := by
  have hm := h.L.slh.n0; have hm1 := h.L.slh.n1; have hd := h.D.slh.n0; have hd1 := h.D.slh.n1; have hs := h.is; have hk := h.ik
  refine zenG Tryz.func23 Tryz.ntmps23 fun w hS => ?_
  refine zsr ?_
  refine zla (xbx (cs := [_, _, _, _]) hS) ?_; rintro _ w ⟨g1, rfl, hS⟩
  replace hS := hS.n1
  refine zla (xal (cs := [_, _]) el_47 hS) ?_; rintro _ w ⟨g2, rfl, hS⟩
  replace hS := hS.n2
  refine zs2 ?_
  refine zlt <| zsq <| zsr ?_
  refine zlv (xls 0 st_24 hS) ?_
  refine zlc (xc0 cl_25) (c_rvalid28 (p := p) w (h.below hS.below)) ?_; rintro _ w ⟨rfl, hS'⟩
  replace hS := hS.cmp hS'; clear hS'
  refine zlv xnot ?_
  refine zlt ?_
  refine zcif ?_ ?_ <;> intro hc
  ·
   refine zsr ?_
   refine zlv (xany (v := .agg #[.slice none 0 0, .int .i64 0])) ?_
   refine zle (xsw 1 st_47 hS) ?_; clear hS; rintro w hS
   replace hS := hS.n2
   refine zs2 ?_
   refine zlt <| zrt <| ztr <| zfctt 1 st_47 hS ⟨_, rfl, ?_⟩
   exact ⟨_, Ct.zer, 0, 1, rfl, .inl ⟨‹¬ p.Ok›, rfl, rfl, rfl⟩, slh_nil, (hS.sub (.cons _ (.cons _ .slnil))).addnil 1 3 (ints Ct.zer.y)⟩
  refine zsk <| ztn <| zsr ?_
  refine zlv (xany (v := .agg #[.slice none 0 0, .int .i64 0])) ?_
  have hp : p.Ok := by first | assumption | exact Classical.not_not.1 ‹_›
  have hpm := hp.m1; have hpm2 := hp.m2; have hpd := hp.d; have hs1 := hp.s1; have hs2 := hp.s2; have hk1 := hp.k1; have hk2 := hp.k2
  refine zla (xal (cs := [_, _]) el_47 hS) ?_; rintro _ w ⟨g3, rfl, hS⟩
  replace hS := hS.n3
  refine zle (xsw 2 st_47 hS) ?_; clear hS; rintro w hS
  replace hS := hS.n3
  refine zlv xas ?_
  refine zlt <| zsq <| zsr ?_
  refine zlv xas ?_
  refine zlt <| zbk ?_
  replace hS := hS.addnil 1 3 (ints Ct.zer.y)
  replace hS := hS.n4
  refine zlp (fun mm M w => ∃ (b : Ct) (vb : Value) (m : Int) (i : Int), mm = ((3 - i).toNat) ∧ (0 ≤ i) ∧ (i ≤ 3) ∧ (BestUp p i b m) ∧ (Slh vb b.n) ∧ M = [(1, .pointer (some ⟨g1, 0, none⟩)), (2, .pointer (some ⟨g2, 0, none⟩)), (3, .int .i64 0), (4, .int .i64 0), (5, .pointer (some ⟨g3, 0, none⟩)), (6, .int .i64 m), (7, .int .i64 i)] ∧ Sat w0 w [.blk g1 [vL, vD, .int .i64 p.stock, .int .i64 p.kerf], .blk g2 [.slice none 0 0, .int .i64 0], .blk g3 [vb, .int .i64 b.q], .own vb 1 3 b.n (ints b.y)]) ⟨Ct.zer, (.slice none 0 0), (-1), 0, rfl, (by omega), (by omega), ?_, ?_, rfl, hS⟩ ?_
  ·
   exact .inl ⟨rfl, rfl⟩
  ·
   exact slh_nil
  clear hS w
  rintro mm M w ⟨b, vb, m, i, rfl, h0, h1, hbu, hvb, rfl, hS⟩
  refine zsq <| zsr ?_
  refine zs2 ?_
  refine zlt ?_
  refine zcif ?_ ?_ <;> intro hc
  ·
   refine zsk <| ztn <| zsq <| zbk <| zsr ?_
   refine zlv (xls 0 st_24 hS) ?_
   refine zlc (xc0 cl_21) (c_rhalfc32 (p := p) w (h.below hS.below)) ?_; rintro _ w ⟨vcct1, cct1, ect1, rfl, hctct1, hvcct1, hS'⟩
   replace hS : Sat w0 w [.blk g1 [vL, vD, .int .i64 p.stock, .int .i64 p.kerf], .blk g2 [.slice none 0 0, .int .i64 0], .blk g3 [vb, .int .i64 b.q], .own vb 1 3 b.n (ints b.y), .own vcct1 1 3 cct1.n (ints cct1.y)] := hS.comp hS'; clear hS'
   have hqc1 := hctct1.q
   refine zs3 ?_
   refine zla (xal (cs := [_, _]) el_47 hS) ?_; rintro _ w ⟨g4, rfl, hS⟩
   replace hS := hS.n6
   refine zle (xsw 5 st_47 hS (hd := (ones_cons hvcct1.one (ones_cons rfl ones_nil)))) ?_; clear hS; rintro w hS
   replace hS := hS.n6
   refine zlv xas ?_
   refine zlt <| zsq <| zsr ?_
   refine zlv xmv ?_
   refine zlt <| zbk <| zsr ?_
   refine zs2 ?_
   refine zlt ?_
   refine zcif ?_ ?_ <;> intro hc
   ·
    refine zrg ?_
    refine zlv (xls 0 st_24 hS) ?_
    refine zlc (xc0 cl_17) (c_rmake32 (p := p) w (h.below hS.below)) ?_; rintro _ w ⟨vcct2, cct2, ect2, rfl, hctct2, hvcct2, hS'⟩
    replace hS : Sat w0 w [.blk g1 [vL, vD, .int .i64 p.stock, .int .i64 p.kerf], .blk g2 [.slice none 0 0, .int .i64 0], .blk g3 [vb, .int .i64 b.q], .own vb 1 3 b.n (ints b.y), .own vcct1 1 3 cct1.n (ints cct1.y), .blk g4 [vcct1, .int .i64 cct1.q], .own vcct2 1 3 cct2.n (ints cct2.y)] := hS.comp hS'; clear hS'
    have hqc2 := hctct2.q
    refine zs3 ?_
    refine zle (xsw 5 st_47 hS (hd := (ones_cons hvcct2.one (ones_cons rfl ones_nil)))) ?_; clear hS; rintro w hS
    replace hS := hS.n7
    refine zlv xas ?_
    refine zln <| zbn <| ztn <| zsr ?_
    refine zlv (xls 0 st_24 hS) ?_
    refine zlv (xls 5 st_47 hS) ?_
    refine zlc (xc0 cl_55) (c_rbound (p := p) w (h.below hS.below) (hS.rowN 6 rfl) (by omega)) ?_; rintro _ w ⟨rfl, hS'⟩
    replace hS := hS.cmp hS'; clear hS'
    refine zs5 ?_
    refine zlz ?_
    refine zs3 ?_
    refine zlb 49 ?_ ?_ <;> intro hc
    ·
     refine zs4 ?_
     refine zlb 53 ?_ ?_ <;> intro hc
     ·
      refine zs4 ?_
      refine zlt ?_
      refine zcif ?_ ?_ <;> intro hc
      ·
       refine zrg ?_
       refine zlv (xls 5 st_47 hS) ?_
       refine zlv xmv ?_
       refine zle (xsw 2 st_47 hS (hd := (ones_cons hvcct2.one (ones_cons rfl ones_nil)))) ?_; clear hS; rintro w hS
       replace hS := hS.n7
       refine zlv xas ?_
       refine zln <| zbn <| ztn <| zrg ?_
       refine zlv xmv ?_
       refine zlv (xadd (r := i + 1)) ?_
       refine zlv xas ?_
       refine zln <| zlq ⟨cct2, vcct2, (BndOf p cct2.n cct2.y cct2.q), i + 1, rfl, (by omega), (by omega), ?_, ?_, rfl, hS.pk [0, 1, 2, 6]⟩
       ·
        first | exact hbu.s0 (by omega) hctct2 (offer_yes (by omega) (by omega) (by omega)) | exact hbu.s1 (by omega) hctct2 (offer_yes (by omega) (by omega) (by omega)) | exact hbu.s2 (by omega) hctct1 (offer_yes (by omega) (by omega) (by omega))
       ·
        exact hvcct2
      refine zsk <| zbn <| ztn <| zrg ?_
      refine zlv xmv ?_
      refine zlv (xadd (r := i + 1)) ?_
      refine zlv xas ?_
      refine zln <| zlq ⟨b, vb, m, i + 1, rfl, (by omega), (by omega), ?_, ?_, rfl, hS.pk [0, 1, 2, 3]⟩
      ·
       first | exact hbu.s0 (by omega) hctct2 (offer_no (by rintro ⟨h1, h2, h3⟩; omega)) | exact hbu.s1 (by omega) hctct2 (offer_no (by rintro ⟨h1, h2, h3⟩; omega)) | exact hbu.s2 (by omega) hctct1 (offer_no (by rintro ⟨h1, h2, h3⟩; omega))
      ·
       exact hvb
     iterate 3 refine zlo ?_
     refine zlv xpf ?_
     refine zlt <| zcf <| zsk <| zbn <| ztn <| zrg ?_
     refine zlv xmv ?_
     refine zlv (xadd (r := i + 1)) ?_
     refine zlv xas ?_
     refine zln <| zlq ⟨b, vb, m, i + 1, rfl, (by omega), (by omega), ?_, ?_, rfl, hS.pk [0, 1, 2, 3]⟩
     ·
      first | exact hbu.s0 (by omega) hctct2 (offer_no (by rintro ⟨h1, h2, h3⟩; omega)) | exact hbu.s1 (by omega) hctct2 (offer_no (by rintro ⟨h1, h2, h3⟩; omega)) | exact hbu.s2 (by omega) hctct1 (offer_no (by rintro ⟨h1, h2, h3⟩; omega))
     ·
      exact hvb
    iterate 2 refine zlo ?_
    refine zs2 ?_
    iterate 3 refine zlo ?_
    refine zlv xpf ?_
    refine zlt <| zcf <| zsk <| zbn <| ztn <| zrg ?_
    refine zlv xmv ?_
    refine zlv (xadd (r := i + 1)) ?_
    refine zlv xas ?_
    refine zln <| zlq ⟨b, vb, m, i + 1, rfl, (by omega), (by omega), ?_, ?_, rfl, hS.pk [0, 1, 2, 3]⟩
    ·
     first | exact hbu.s0 (by omega) hctct2 (offer_no (by rintro ⟨h1, h2, h3⟩; omega)) | exact hbu.s1 (by omega) hctct2 (offer_no (by rintro ⟨h1, h2, h3⟩; omega)) | exact hbu.s2 (by omega) hctct1 (offer_no (by rintro ⟨h1, h2, h3⟩; omega))
    ·
     exact hvb
   refine zsr ?_
   refine zs2 ?_
   refine zlt ?_
   refine zcif ?_ ?_ <;> intro hc
   ·
    refine zrg ?_
    refine zlv (xls 0 st_24 hS) ?_
    refine zlc (xc0 cl_19) (c_rmatc32 (p := p) w (h.below hS.below)) ?_; rintro _ w ⟨vcct2, cct2, ect2, rfl, hctct2, hvcct2, hS'⟩
    replace hS : Sat w0 w [.blk g1 [vL, vD, .int .i64 p.stock, .int .i64 p.kerf], .blk g2 [.slice none 0 0, .int .i64 0], .blk g3 [vb, .int .i64 b.q], .own vb 1 3 b.n (ints b.y), .own vcct1 1 3 cct1.n (ints cct1.y), .blk g4 [vcct1, .int .i64 cct1.q], .own vcct2 1 3 cct2.n (ints cct2.y)] := hS.comp hS'; clear hS'
    have hqc2 := hctct2.q
    refine zs3 ?_
    refine zle (xsw 5 st_47 hS (hd := (ones_cons hvcct2.one (ones_cons rfl ones_nil)))) ?_; clear hS; rintro w hS
    replace hS := hS.n7
    refine zlv xas ?_
    refine zln <| zbn <| ztn <| zsr ?_
    refine zlv (xls 0 st_24 hS) ?_
    refine zlv (xls 5 st_47 hS) ?_
    refine zlc (xc0 cl_55) (c_rbound (p := p) w (h.below hS.below) (hS.rowN 6 rfl) (by omega)) ?_; rintro _ w ⟨rfl, hS'⟩
    replace hS := hS.cmp hS'; clear hS'
    refine zs5 ?_
    refine zlz ?_
    refine zs3 ?_
    refine zlb 49 ?_ ?_ <;> intro hc
    ·
     refine zs4 ?_
     refine zlb 53 ?_ ?_ <;> intro hc
     ·
      refine zs4 ?_
      refine zlt ?_
      refine zcif ?_ ?_ <;> intro hc
      ·
       refine zrg ?_
       refine zlv (xls 5 st_47 hS) ?_
       refine zlv xmv ?_
       refine zle (xsw 2 st_47 hS (hd := (ones_cons hvcct2.one (ones_cons rfl ones_nil)))) ?_; clear hS; rintro w hS
       replace hS := hS.n7
       refine zlv xas ?_
       refine zln <| zbn <| ztn <| zrg ?_
       refine zlv xmv ?_
       refine zlv (xadd (r := i + 1)) ?_
       refine zlv xas ?_
       refine zln <| zlq ⟨cct2, vcct2, (BndOf p cct2.n cct2.y cct2.q), i + 1, rfl, (by omega), (by omega), ?_, ?_, rfl, hS.pk [0, 1, 2, 6]⟩
       ·
        first | exact hbu.s0 (by omega) hctct2 (offer_yes (by omega) (by omega) (by omega)) | exact hbu.s1 (by omega) hctct2 (offer_yes (by omega) (by omega) (by omega)) | exact hbu.s2 (by omega) hctct1 (offer_yes (by omega) (by omega) (by omega))
       ·
        exact hvcct2
      refine zsk <| zbn <| ztn <| zrg ?_
      refine zlv xmv ?_
      refine zlv (xadd (r := i + 1)) ?_
      refine zlv xas ?_
      refine zln <| zlq ⟨b, vb, m, i + 1, rfl, (by omega), (by omega), ?_, ?_, rfl, hS.pk [0, 1, 2, 3]⟩
      ·
       first | exact hbu.s0 (by omega) hctct2 (offer_no (by rintro ⟨h1, h2, h3⟩; omega)) | exact hbu.s1 (by omega) hctct2 (offer_no (by rintro ⟨h1, h2, h3⟩; omega)) | exact hbu.s2 (by omega) hctct1 (offer_no (by rintro ⟨h1, h2, h3⟩; omega))
      ·
       exact hvb
     iterate 3 refine zlo ?_
     refine zlv xpf ?_
     refine zlt <| zcf <| zsk <| zbn <| ztn <| zrg ?_
     refine zlv xmv ?_
     refine zlv (xadd (r := i + 1)) ?_
     refine zlv xas ?_
     refine zln <| zlq ⟨b, vb, m, i + 1, rfl, (by omega), (by omega), ?_, ?_, rfl, hS.pk [0, 1, 2, 3]⟩
     ·
      first | exact hbu.s0 (by omega) hctct2 (offer_no (by rintro ⟨h1, h2, h3⟩; omega)) | exact hbu.s1 (by omega) hctct2 (offer_no (by rintro ⟨h1, h2, h3⟩; omega)) | exact hbu.s2 (by omega) hctct1 (offer_no (by rintro ⟨h1, h2, h3⟩; omega))
     ·
      exact hvb
    iterate 2 refine zlo ?_
    refine zs2 ?_
    iterate 3 refine zlo ?_
    refine zlv xpf ?_
    refine zlt <| zcf <| zsk <| zbn <| ztn <| zrg ?_
    refine zlv xmv ?_
    refine zlv (xadd (r := i + 1)) ?_
    refine zlv xas ?_
    refine zln <| zlq ⟨b, vb, m, i + 1, rfl, (by omega), (by omega), ?_, ?_, rfl, hS.pk [0, 1, 2, 3]⟩
    ·
     first | exact hbu.s0 (by omega) hctct2 (offer_no (by rintro ⟨h1, h2, h3⟩; omega)) | exact hbu.s1 (by omega) hctct2 (offer_no (by rintro ⟨h1, h2, h3⟩; omega)) | exact hbu.s2 (by omega) hctct1 (offer_no (by rintro ⟨h1, h2, h3⟩; omega))
    ·
     exact hvb
   refine zsk <| zbn <| ztn <| zsr ?_
   refine zlv (xls 0 st_24 hS) ?_
   refine zlv (xls 5 st_47 hS) ?_
   refine zlc (xc0 cl_55) (c_rbound (p := p) w (h.below hS.below) (hS.rowN 4 rfl) (by omega)) ?_; rintro _ w ⟨rfl, hS'⟩
   replace hS := hS.cmp hS'; clear hS'
   refine zs5 ?_
   refine zlz ?_
   refine zs3 ?_
   refine zlb 49 ?_ ?_ <;> intro hc
   ·
    refine zs4 ?_
    refine zlb 53 ?_ ?_ <;> intro hc
    ·
     refine zs4 ?_
     refine zlt ?_
     refine zcif ?_ ?_ <;> intro hc
     ·
      refine zrg ?_
      refine zlv (xls 5 st_47 hS) ?_
      refine zlv xmv ?_
      refine zle (xsw 2 st_47 hS (hd := (ones_cons hvcct1.one (ones_cons rfl ones_nil)))) ?_; clear hS; rintro w hS
      replace hS := hS.n6
      refine zlv xas ?_
      refine zln <| zbn <| ztn <| zrg ?_
      refine zlv xmv ?_
      refine zlv (xadd (r := i + 1)) ?_
      refine zlv xas ?_
      refine zln <| zlq ⟨cct1, vcct1, (BndOf p cct1.n cct1.y cct1.q), i + 1, rfl, (by omega), (by omega), ?_, ?_, rfl, hS.pk [0, 1, 2, 4]⟩
      ·
       first | exact hbu.s0 (by omega) hctct2 (offer_yes (by omega) (by omega) (by omega)) | exact hbu.s1 (by omega) hctct2 (offer_yes (by omega) (by omega) (by omega)) | exact hbu.s2 (by omega) hctct1 (offer_yes (by omega) (by omega) (by omega))
      ·
       exact hvcct1
     refine zsk <| zbn <| ztn <| zrg ?_
     refine zlv xmv ?_
     refine zlv (xadd (r := i + 1)) ?_
     refine zlv xas ?_
     refine zln <| zlq ⟨b, vb, m, i + 1, rfl, (by omega), (by omega), ?_, ?_, rfl, hS.pk [0, 1, 2, 3]⟩
     ·
      first | exact hbu.s0 (by omega) hctct2 (offer_no (by rintro ⟨h1, h2, h3⟩; omega)) | exact hbu.s1 (by omega) hctct2 (offer_no (by rintro ⟨h1, h2, h3⟩; omega)) | exact hbu.s2 (by omega) hctct1 (offer_no (by rintro ⟨h1, h2, h3⟩; omega))
     ·
      exact hvb
    iterate 3 refine zlo ?_
    refine zlv xpf ?_
    refine zlt <| zcf <| zsk <| zbn <| ztn <| zrg ?_
    refine zlv xmv ?_
    refine zlv (xadd (r := i + 1)) ?_
    refine zlv xas ?_
    refine zln <| zlq ⟨b, vb, m, i + 1, rfl, (by omega), (by omega), ?_, ?_, rfl, hS.pk [0, 1, 2, 3]⟩
    ·
     first | exact hbu.s0 (by omega) hctct2 (offer_no (by rintro ⟨h1, h2, h3⟩; omega)) | exact hbu.s1 (by omega) hctct2 (offer_no (by rintro ⟨h1, h2, h3⟩; omega)) | exact hbu.s2 (by omega) hctct1 (offer_no (by rintro ⟨h1, h2, h3⟩; omega))
    ·
     exact hvb
   iterate 2 refine zlo ?_
   refine zs2 ?_
   iterate 3 refine zlo ?_
   refine zlv xpf ?_
   refine zlt <| zcf <| zsk <| zbn <| ztn <| zrg ?_
   refine zlv xmv ?_
   refine zlv (xadd (r := i + 1)) ?_
   refine zlv xas ?_
   refine zln <| zlq ⟨b, vb, m, i + 1, rfl, (by omega), (by omega), ?_, ?_, rfl, hS.pk [0, 1, 2, 3]⟩
   ·
    first | exact hbu.s0 (by omega) hctct2 (offer_no (by rintro ⟨h1, h2, h3⟩; omega)) | exact hbu.s1 (by omega) hctct2 (offer_no (by rintro ⟨h1, h2, h3⟩; omega)) | exact hbu.s2 (by omega) hctct1 (offer_no (by rintro ⟨h1, h2, h3⟩; omega))
   ·
    exact hvb
  refine zxt <| ztx <| ztx <| zbh <| ztn <| zsr ?_
  refine zlv (xls 2 st_47 hS) ?_
  refine zlv xmv ?_
  refine zle (xsw 1 st_47 hS (hd := (ones_cons hvb.one (ones_cons rfl ones_nil)))) ?_; clear hS; rintro w hS
  replace hS := hS.n4
  refine zs2 ?_
  refine zlt <| zrt <| zfctt 1 st_47 hS ⟨_, rfl, ?_⟩
  exact ⟨_, b, m, 0, rfl, .inr ⟨hp, rfl, (by rcases hbu with ⟨h9, _⟩ | ⟨h9, _⟩ | ⟨h9, _⟩ | ⟨_, h9⟩; omega; omega; omega; exact h9)⟩, hvb, hS.pk [3]⟩

end Go.Proofs.YtopmifmfecfaaaaGreat
