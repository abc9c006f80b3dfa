/- The walk of Solve, of the reference. -/
import Derived.Test.YtelfplepnodbgaaGc
import Derived.Test.YtelfplepnodbgaaX4
import Derived.Test.YtelfplepnodbgaaFz
namespace Go.Proofs.Ytelfplepnodbgaa
open Go Go.RowKit Go.Proofs.Gw
set_option linter.unusedVariables false

theorem cl_109 : calledT Try.prog 109 = true := by kernel_rfl
theorem cl_17 : calledT Try.prog 17 = true := by kernel_rfl
theorem cl_21 : calledT Try.prog 21 = true := by kernel_rfl
theorem cl_72 : calledT Try.prog 72 = true := by kernel_rfl
theorem cl_74 : calledT Try.prog 74 = true := by kernel_rfl
theorem el_119 : elemT Try.prog 119 = some (.agg #[.int .i64 0, .int .i64 0, .slice none 0 0, .slice none 0 0, .slice none 0 0, .bool false, .int .i64 0], 7, 104) := by kernel_rfl
theorem el_29 : elemT Try.prog 29 = some (.int .i64 0, 1, 8) := by kernel_rfl
theorem fd_119_0 : fieldT Try.prog 119 0 = some 0 := by kernel_rfl
theorem fd_119_1 : fieldT Try.prog 119 1 = some 5 := by kernel_rfl
theorem fd_119_2 : fieldT Try.prog 119 2 = some 6 := by kernel_rfl
theorem pl_29 : plainT Try.prog 29 = true := by kernel_rfl
theorem st_119 : structT Try.prog 119 = some 7 := by kernel_rfl
def GX.zer : GX := ⟨Tb.zero, .slice none 0 0, .slice none 0 0, .slice none 0 0, fun _ => undef, False, 0⟩
def lastX (s : List GX) : GX := s.getLast?.getD GX.zer
theorem lastX_snoc (s : List GX) (x : GX) : lastX (s ++ [x]) = x := by simp [lastX]
open Classical in
noncomputable def ctX : List GX → Int
  | [] => 0
  | y :: s => (if y.fr then 1 else 0) + ctX s
theorem ctX_snoc (s : List GX) (x : GX) : (x.fr → ctX (s ++ [x]) = ctX s + 1) ∧ (¬ x.fr → ctX (s ++ [x]) = ctX s) := by
  induction s with
  | nil => exact ⟨fun h => by simp [ctX, h], fun h => by simp [ctX, h]⟩
  | cons y s ih =>
    refine ⟨fun h => ?_, fun h => ?_⟩
    · have := ih.1 h; simp only [List.cons_append, ctX]; omega
    · have := ih.2 h; simp only [List.cons_append, ctX]; omega
theorem ctX_ok : ∀ {s : List GX}, GOk s → ctX s = s.length
  | [], _ => rfl
  | y :: s, h => by
    have h1 := ctX_ok (s := s) fun z hz => h z (by simp [hz])
    simp only [ctX, h1, (h y (by simp)).1, if_true, List.length_cons]; omega
theorem ctX_rng : ∀ s : List GX, 0 ≤ ctX s ∧ ctX s ≤ s.length
  | [] => by simp [ctX]
  | y :: s => by
    have h1 := ctX_rng s
    simp only [ctX, List.length_cons]; split <;> omega
theorem Rn.len {p : Lp} {us : List Tb} {t : Tb} {e : Int} (h : Rn p us t e) (he : e = 0) (hp : 0 ≤ p.m) : (t.nb = p.m + us.length) := by
  induction h with
  | start h => rcases h with ⟨_, _, h⟩ | ⟨_, rfl, _⟩; exact absurd he (by omega); simp [startT]
  | cut h ho hp' hf ha ih =>
    have h1 := ih rfl
    have h2 := ha.nb he
    have h3 := ho.prp.2
    simp only [List.length_append, List.length_singleton]; omega
/-- What Solve, of gomory, returns. -/
def GSolveR (p : Lp) (n : Int) (f : Int → Int) (val cuts e : Int) : Prop :=
  (e ≠ 0 ∧ n = 0 ∧ val = 0 ∧ cuts = 0 ∧ ∃ us t e', Rn p us t e' ∧ ((e' = e ∧ e' ≠ 0) ∨ (e' = 0 ∧ ∃ u, OptR t u e))) ∨
    (e = 0 ∧ ∃ us t u, Rn p us t 0 ∧ OptR t u 0 ∧ TPrp u ∧ gfr u u.nb.toNat < 0 ∧ cuts = (us.length : Int) ∧ n = u.nf ∧ (∀ j, 0 ≤ j → j < n → f j = (bas u u.nb.toNat j).tdiv u.den) ∧ val = dotp f p.c n.toNat)
def qX (u : Tb) : Nat → Int → Int
  | 0 => fun _ => 0
  | k + 1 => if u.B k < u.vars then upd (qX u k) (u.B k) ((u.C (k + 1) 0).tdiv u.den) else qX u k
theorem qX_next (u : Tb) {i : Int} (h : 0 ≤ i) : qX u (i + 1).toNat = if u.B i < u.vars then upd (qX u i.toNat) (u.B i) ((u.C (i + 1) 0).tdiv u.den) else qX u i.toNat := by
  obtain ⟨k, rfl⟩ := Int.eq_ofNat_of_zero_le h
  simp only [Int.toNat_natCast, show ((k : Int) + 1).toNat = k + 1 by omega, qX]
theorem qX_bas (u : Tb) {j : Int} (hj : j < u.vars) (K : Nat) : qX u K j = (bas u K j).tdiv u.den := by
  rw [← rdX_bas u hj]
  induction K with
  | zero => simp [qX, rdX]
  | succ k ih =>
    simp only [qX, rdX]
    split
    · unfold upd; split
      · rfl
      · exact ih
    · exact ih
theorem qX_rng {u : Tb} (hp : TPrp u) (j : Int) : ∀ K : Nat, (K : Int) ≤ u.nb → -1073741824 ≤ qX u K j ∧ qX u K j ≤ 1073741824
  | 0, _ => by simp [qX]
  | k + 1, hk => by
    have ih := qX_rng hp j k (by omega)
    have h0 := hp.n1
    have hc := hp.cell (i := k + 1) (j := 0) (by omega) (by omega) (by omega) (by omega)
    have := tdiv_abs hp.d1 hc
    simp only [qX]
    split
    · unfold upd; split
      · exact this
      · exact ih
    · exact ih
theorem OptR.dims {t u : Tb} (h : OptR t u 0) : u.nf = t.nf ∧ u.vars = t.vars := by
  obtain ⟨u', f, hr, ⟨hf, _, rfl⟩ | ⟨hf, he, _⟩⟩ := h
  · exact ⟨hr.dims.2.1, hr.dims.2.2.2⟩
  · exact absurd he.symm hf
theorem Rn.dims {p : Lp} {us : List Tb} {t : Tb} {e : Int} (h : Rn p us t e) (he : e = 0) : t.nf = p.n ∧ t.vars = p.n := by
  induction h with
  | start h => rcases h with ⟨_, _, h⟩ | ⟨h, rfl, _⟩; exact absurd he (by omega); exact ⟨rfl, rfl⟩
  | cut h ho hp' hf ha ih =>
    have h1 := ih rfl
    have h2 := ho.dims
    rcases ha with ⟨_, _, h⟩ | ⟨_, _, _, h⟩ | ⟨_, _, _, _, _, h⟩ | ⟨_, _, _, _, _, _, h⟩ | ⟨_, _, _, _, _, rfl, _⟩ <;> first | omega | exact ⟨by show _ = _; unfold addT; dsimp only; omega, by show _ = _; unfold addT; dsimp only; omega⟩
theorem Rn.lok {p : Lp} {us : List Tb} {t : Tb} {e : Int} (h : Rn p us t e) (he : e = 0) : LOk p := by
  induction h with
  | start h => rcases h with ⟨_, _, h⟩ | ⟨h, _⟩; exact absurd he (by omega); exact h
  | cut h ho hp' hf ha ih => exact ih rfl
theorem GPre.sB {p : Lp} {s : List GX} {x : GX} {rest : Gw.Frame} (h : GPre p s x rest) : Slh x.vB x.t.nb := by obtain ⟨_, _, _, _, h, _⟩ := h; exact h
theorem GPre.sF {p : Lp} {s : List GX} {x : GX} {rest : Gw.Frame} (h : GPre p s x rest) : Slh x.vF x.t.nf := by obtain ⟨_, _, _, _, _, h, _⟩ := h; exact h
theorem GPre.sC {p : Lp} {s : List GX} {x : GX} {rest : Gw.Frame} (h : GPre p s x rest) : Slh x.vC x.t.nc := by obtain ⟨_, _, _, _, _, _, h, _⟩ := h; exact h
theorem GPre.len {p : Lp} {s : List GX} {x : GX} {rest : Gw.Frame} (h : GPre p s x rest) (hp : 0 ≤ p.m) : (s.length : Int) ≤ 100 := by
  obtain ⟨t, e, hr, hok, _, _, _, hx⟩ := h
  have key : ∀ {us : List Tb} {t : Tb} {e : Int}, Rn p us t e → (us.length : Int) ≤ 17 := fun h => by
    cases h with
    | start h => simp
    | cut h ho hq hf ha =>
      have h1 := h.len rfl hp
      have h2 := ho.prp
      have h3 := h2.1.m2
      simp only [List.length_append, List.length_singleton]; omega
  have := key hr
  rw [List.length_map] at this; omega

set_option maxRecDepth 20000 in
theorem c_gsolve {vc vA vb : Value} {vq : Int → Value} {p : Lp} (w0 : World) (hL : LAt w0 vc vA vb vq p) :
    Calls Try.prog 29 [.agg #[vc, vA, vb]].toArray w0 fun e w => ∃ v, e = .returned v ∧ ∃ r n f val cuts e, v = .tuple #[r, .int .i64 val, .int .i64 cuts, .int .i64 e] ∧ GSolveR p n f val cuts e ∧ Slh r n ∧ Sat w0 w [.own r 1 3 n (ints f)] := by
  have hn := hL.c.slh.n0; have hn1 := hL.c.slh.n1; have hm := hL.A.row.slh.n0; have hm1 := hL.A.row.slh.n1; have hk := hL.b.slh.n0; have hk1 := hL.b.slh.n1
  refine henM Try.func29 Try.ntmps29 fun w hS => ?_
  refine hsq <| hrz ?_
  refine zla (xbx (cs := [_, _, _]) hS) ?_; rintro _ w ⟨g1, rfl, hS⟩
  replace hS : Sat w0 w [.blk _ [_, _, _]] := hS
  refine zla (xal (cs := [_]) el_22 hS) ?_; rintro _ w ⟨g2, rfl, hS⟩
  replace hS : Sat w0 w [.blk _ [_, _, _], .blk _ [_]] := hS
  refine zla (xal (cs := [_]) el_3 hS) ?_; rintro _ w ⟨g3, rfl, hS⟩
  replace hS : Sat w0 w [.blk _ [_, _, _], .blk _ [_], .blk _ [_]] := hS
  refine zla (xal (cs := [_]) el_3 hS) ?_; rintro _ w ⟨g4, rfl, hS⟩
  replace hS : Sat w0 w [.blk _ [_, _, _], .blk _ [_], .blk _ [_], .blk _ [_]] := hS
  refine zla (xal (cs := [_]) el_29 hS) ?_; rintro _ w ⟨g5, rfl, hS⟩
  replace hS : Sat w0 w [.blk _ [_, _, _], .blk _ [_], .blk _ [_], .blk _ [_], .blk _ [_]] := hS
  refine zln <| zh <| htn <| hsq <| hrz ?_
  refine zla (xal (cs := [_, _, _, _, _, _, _]) el_119 hS) ?_; rintro _ w ⟨g6, rfl, hS⟩
  replace hS : Sat w0 w [.blk _ [_, _, _], .blk _ [_], .blk _ [_], .blk _ [_], .blk _ [_], .blk _ [_, _, _, _, _, _, _]] := hS
  refine zln <| zh <| htn <| hsq <| hsq <| hrz ?_
  refine zlv (xls 0 st_48 hS) ?_
  refine zlc (xc0 cl_72) (c_rounds (p := p) w (hL.below hS.below)) ?_; rintro _ w ⟨g7, rfl, hS'⟩
  replace hS : Sat w0 w [.blk g1 [vc, vA, vb], .blk g2 [.slice none 0 0], .blk g3 [.int .i64 0], .blk g4 [.int .i64 0], .blk g5 [.int .i64 0], .blk g6 [.int .i64 0, .int .i64 0, .slice none 0 0, .slice none 0 0, .slice none 0 0, .bool false, .int .i64 0], .blk g7 [vc, vA, vb]] := hS.comp hS'; clear hS'
  refine zln <| zh <| htn <| hbk ?_
  rw [show Value.bool false = B False from (B_false not_false).symm] at hS
  refine hrf (St := List GX) (X := GX) (Tt := GX) (fun s => [.blk g1 [vc, vA, vb], .blk g2 [.slice none 0 0], .blk g3 [.int .i64 0], .blk g4 [.int .i64 (ctX s)], .blk g5 [.int .i64 0], .blk g6 [.int .i64 ((lastX s).t.vars), .int .i64 ((lastX s).t.den), (lastX s).vB, (lastX s).vF, (lastX s).vC, B ((lastX s).fr), .int .i64 ((lastX s).e)]]) (fun t => [.blk g2 [.slice none 0 0], .blk g3 [.int .i64 0], .blk g4 [.int .i64 0], .blk g5 [.int .i64 t.e]]) (fun _ => .ret) [] (fun x M es => ∃ (g8 : Nat), M = [(0, .agg #[vc, vA, vb]), (1, .pointer (some ⟨g1, 0, none⟩)), (2, .pointer (some ⟨g2, 0, none⟩)), (3, .pointer (some ⟨g3, 0, none⟩)), (4, .pointer (some ⟨g4, 0, none⟩)), (5, .pointer (some ⟨g5, 0, none⟩)), (6, .pointer (some ⟨g6, 0, none⟩)), (12, .agg #[vc, vA, vb]), (13, .func (.func 109) #[] #[.pointer (some ⟨g7, 0, none⟩)]), (14, .agg #[.int .i64 x.t.vars, .int .i64 x.t.den, x.vB, x.vF, x.vC, B (x.fr), .int .i64 x.e]), (7, .pointer (some ⟨g8, 0, none⟩))] ∧ es = [.blk g8 [.int .i64 x.t.vars, .int .i64 x.t.den, x.vB, x.vF, x.vC, B (x.fr), .int .i64 x.e]]) (c_rounds1 (gp := g7) (fun s => s) [] rfl (fun x => x.e = 0) (fun s x t => t = x ∧ x.e ≠ 0) w0 hL) (hS) cl_109 (fun _ => rfl) (fun _ => .inl rfl) ?_ ?_ ?_ ?_
  ·
   intro l s x rest w hpre rest1 hrr hS
   have hxB := hpre.sB; have hxF := hpre.sF; have hxC := hpre.sC; have hsl := hpre.len hm; have hcr := ctX_rng s
   replace hS : Sat w0 w [.blk _ [_, _, _], .blk _ [_], .blk _ [_], .blk _ [_], .blk _ [_], .blk _ [_, _, _, _, _, _, _], .blk _ [_, _, _], _] := hS
   refine hrz ?_
   refine zla (xal (cs := [_, _, _, _, _, _, _]) el_119 hS) ?_; rintro _ w ⟨g8, rfl, hS⟩
   replace hS : Sat w0 w [.blk _ [_, _, _], .blk _ [_], .blk _ [_], .blk _ [_], .blk _ [_], .blk _ [_, _, _, _, _, _, _], .blk _ [_, _, _], _, .blk _ [_, _, _, _, _, _, _]] := hS
   refine zle (xsw 8 st_119 hS (hd := (ones_cons rfl (ones_cons rfl (ones_cons hxB.one (ones_cons hxF.one (ones_cons hxC.one (ones_cons (B_one _) (ones_cons rfl ones_nil))))))))) ?_; clear hS; rintro w hS
   replace hS : Sat w0 w [.blk _ [_, _, _], .blk _ [_], .blk _ [_], .blk _ [_], .blk _ [_], .blk _ [_, _, _, _, _, _, _], .blk _ [_, _, _], _, .blk _ [_, _, _, _, _, _, _]] := hS
   refine zln <| zh <| hasg ⟨g8, rfl, rfl⟩ hS
  ·
   rintro l s x _ _ rest w hpre ⟨g8, rfl, rfl⟩ rest1 hrr hS
   have hxB := hpre.sB; have hxF := hpre.sF; have hxC := hpre.sC; have hsl := hpre.len hm; have hcr := ctX_rng s
   replace hS : Sat w0 w [.blk _ [_, _, _], .blk _ [_], .blk _ [_], .blk _ [_], .blk _ [_], .blk _ [_, _, _, _, _, _, _], .blk _ [_, _, _], _, .blk _ [_, _, _, _, _, _, _]] := hS
   refine hbk <| hsq <| hsq <| hrz ?_
   refine zlv (xfb 6 fd_119_2) ?_
   refine zlv (xlb 8 pl_29 hS) ?_
   refine zlv xneq ?_
   refine zln <| zh <| htn ?_
   refine hcif ?_ ?_ <;> intro hc
   ·
    refine hsq ?_
    refine hdst [0, 1, 2, 3, 4, 5, 6, 7, 8] [0, 5, 6, 7, 8] 2 mx_ hS ?_; clear hS; intro w hS
    refine zdv 0 (fun _ => (xfb 6 fd_119_2)) ?_
    refine zdla 1 (fun w hS => (xlb 4 pl_29 hS)) ?_
    refine zde 2 (xsb 1 pl_22 hS) ?_; clear hS; rintro w hS
    replace hS : Sat w0 w [.blk _ [_, _, _], .blk _ [_], .blk _ [_], .blk _ [_], .blk _ [_], .blk _ [_, _, _, _, _, _, _], .blk _ [_, _, _], _, .blk _ [_, _, _, _, _, _, _]] := hS
    refine ⟨⟨fun h => absurd h (by decide), hS.pk [0, 5, 6, 7, 8]⟩, ?_⟩
    refine zde 3 (xsb 2 pl_3 hS) ?_; clear hS; rintro w hS
    replace hS : Sat w0 w [.blk _ [_, _, _], .blk _ [_], .blk _ [_], .blk _ [_], .blk _ [_], .blk _ [_, _, _, _, _, _, _], .blk _ [_, _, _], _, .blk _ [_, _, _, _, _, _, _]] := hS
    refine ⟨⟨fun h => absurd h (by decide), hS.pk [0, 5, 6, 7, 8]⟩, ?_⟩
    refine zde 4 (xsb 3 pl_3 hS) ?_; clear hS; rintro w hS
    replace hS : Sat w0 w [.blk _ [_, _, _], .blk _ [_], .blk _ [_], .blk _ [_], .blk _ [_], .blk _ [_, _, _, _, _, _, _], .blk _ [_, _, _], _, .blk _ [_, _, _, _, _, _, _]] := hS
    refine ⟨⟨fun h => absurd h (by decide), hS.pk [0, 5, 6, 7, 8]⟩, ?_⟩
    refine zde 5 (xsb 4 pl_29 hS) ?_; clear hS; rintro w hS
    replace hS : Sat w0 w [.blk _ [_, _, _], .blk _ [_], .blk _ [_], .blk _ [_], .blk _ [_], .blk _ [_, _, _, _, _, _, _], .blk _ [_, _, _], _, .blk _ [_, _, _, _, _, _, _]] := hS
    refine ⟨⟨fun h => absurd h (by decide), hS.pk [0, 5, 6, 7, 8]⟩, ?_⟩
    refine zdd <| zh <| htn <| hrt <| ztr <| zbr <| hrdR x ⟨rfl, hc⟩ rfl (hS.pk [1, 2, 3, 4, 6, 7])
   ·
    refine hsk <| htn <| hsq <| hsq <| hrz ?_
    refine zlv (xfb 5 fd_119_1) ?_
    refine zlv (xlb 8 pl_4 hS) ?_
    refine zln <| zh <| htn ?_
    refine hcif ?_ ?_ <;> intro hc
    ·
     refine hrz ?_
     refine zlv (xlb 3 pl_3 hS) ?_
     refine zlv (xadd (r := (ctX s) + 1)) ?_
     refine zle (xsb 3 pl_3 hS) ?_; clear hS; rintro w hS
     replace hS : Sat w0 w [.blk _ [_, _, _], .blk _ [_], .blk _ [_], .blk _ [_], .blk _ [_], .blk _ [_, _, _, _, _, _, _], .blk _ [_, _, _], _, .blk _ [_, _, _, _, _, _, _]] := hS
     refine zln <| zh <| htn <| hrz ?_
     refine zlv (xls 8 st_119 hS) ?_
     refine zle (xsw 5 st_119 hS (hd := (ones_cons rfl (ones_cons rfl (ones_cons hxB.one (ones_cons hxF.one (ones_cons hxC.one (ones_cons (B_one _) (ones_cons rfl ones_nil))))))))) ?_; clear hS; rintro w hS
     replace hS : Sat w0 w [.blk _ [_, _, _], .blk _ [_], .blk _ [_], .blk _ [_], .blk _ [_], .blk _ [_, _, _, _, _, _, _], .blk _ [_, _, _], _, .blk _ [_, _, _, _, _, _, _]] := hS
     refine zln <| zh <| zbn ?_
     obtain ⟨s1, hs1⟩ : ∃ s1, s1 = s ++ [x] := ⟨_, rfl⟩
     have e1 : lastX s1 = x := by rw [hs1, lastX_snoc]
     have e2 : ctX s1 = (ctX s) + 1 := by rw [hs1]; exact (ctX_snoc s x).1 ‹_›
     rw [← e1, ← e2] at hS
     refine hrdN s1 ⟨hs1, by omega⟩ (hS.pk [0, 1, 2, 3, 4, 5, 6, 7])
    ·
     refine hsk <| htn <| hrz ?_
     refine zlv (xls 8 st_119 hS) ?_
     refine zle (xsw 5 st_119 hS (hd := (ones_cons rfl (ones_cons rfl (ones_cons hxB.one (ones_cons hxF.one (ones_cons hxC.one (ones_cons (B_one _) (ones_cons rfl ones_nil))))))))) ?_; clear hS; rintro w hS
     replace hS : Sat w0 w [.blk _ [_, _, _], .blk _ [_], .blk _ [_], .blk _ [_], .blk _ [_], .blk _ [_, _, _, _, _, _, _], .blk _ [_, _, _], _, .blk _ [_, _, _, _, _, _, _]] := hS
     refine zln <| zh <| zbn ?_
     obtain ⟨s1, hs1⟩ : ∃ s1, s1 = s ++ [x] := ⟨_, rfl⟩
     have e1 : lastX s1 = x := by rw [hs1, lastX_snoc]
     have e2 : ctX s1 = (ctX s) := by rw [hs1]; exact (ctX_snoc s x).2 ‹_›
     rw [← e1, ← e2] at hS
     refine hrdN s1 ⟨hs1, by omega⟩ (hS.pk [0, 1, 2, 3, 4, 5, 6, 7])
  ·
   intro Dk s rest w hfin hS
   replace hS : Sat w0 w [.blk _ [_, _, _], .blk _ [_], .blk _ [_], .blk _ [_], .blk _ [_], .blk _ [_, _, _, _, _, _, _], .blk _ [_, _, _], _, _] := hS
   obtain ⟨s9, x, rfl, hk0, hpre, hfr⟩ := hfin
   have hxB := hpre.sB; have hxF := hpre.sF; have hxC := hpre.sC; have hsl := hpre.len hm
   obtain ⟨tt, e9, hRn, hok, _, _, _, ⟨h1, _⟩ | ⟨_, rfl, hop, hprp, hfq, htat⟩⟩ := hpre
   · exact absurd hk0 h1
   have hct : ctX (s9 ++ [x]) = (s9.length : Int) := by rw [(ctX_snoc s9 x).2 hfr]; exact ctX_ok hok
   rw [lastX_snoc, hct] at hS
   have b1 := hprp.n1
   have b2 := hprp.n2
   have b3 := hprp.m2
   have b4 := hprp.v
   have b5 := hprp.d1
   have b6 := hprp.d2
   have b7 := hprp.c
   have hlk := hRn.lok rfl
   have b1 := hlk.n1
   have b2 := hlk.n2
   have b3 := hlk.m2
   have b4 := hlk.k
   have hxn := hxB.n0; have hdm := hRn.dims rfl; have hod := hop.dims
   have hxr := fun k (k0 : 0 ≤ k) (k1 : k < x.t.nc) => ((htat _ (hS.holds (.sem rest) (List.mem_of_getElem? (i := 7) rfl))).C.p k k0 k1).slh
   have hxr0 := fun k => hprp.len (i := k)
   replace hS : Sat w0 w [.blk _ [_, _, _], .blk _ [_], .blk _ [_], .blk _ [_], .blk _ [_], .blk _ [_, _, _, _, _, _, _], .blk _ [_, _, _], _, _] := hS
   refine zbn <| htn <| hsq <| hrz ?_
   refine zlv (xfb 0 fd_119_0) ?_
   refine zlv (xfb 0 fd_28_0) ?_
   refine zlv (xlb 5 pl_3 hS) ?_
   refine zla (xmk sl_22 el_3 hS) ?_; rintro v1 w ⟨hS, hv1⟩
   replace hS : Sat w0 w [.blk _ [_, _, _], .blk _ [_], .blk _ [_], .blk _ [_], .blk _ [_], .blk _ [_, _, _, _, _, _, _], .blk _ [_, _, _], _, _, _] := hS
   refine zle (xsb 1 pl_22 hS (hv := hv1.one)) ?_; clear hS; rintro w hS
   replace hS : Sat w0 w [.blk _ [_, _, _], .blk _ [_], .blk _ [_], .blk _ [_], .blk _ [_], .blk _ [_, _, _, _, _, _, _], .blk _ [_, _, _], _, _, _] := hS
   refine zln <| zh <| htn <| hsq <| hsq <| hrz ?_
   refine zlv (xfb 0 fd_119_0) ?_
   refine zlv (xfb 2 fd_28_2) ?_
   refine zlv (xlb 5 pl_22 hS) ?_
   refine zlv (xln sl_22 hxB) ?_
   refine zlv xmv ?_
   refine zln <| zh <| htn <| hbk <| hlp (fun mm M w => ∃ (i : Int) (fX : Int → Int), mm = ((x.t.nb - i).toNat) ∧ (0 ≤ i) ∧ (i ≤ x.t.nb) ∧ (fX = qX x.t i.toNat) ∧ M = [(1, .pointer (some ⟨g1, 0, none⟩)), (2, .pointer (some ⟨g2, 0, none⟩)), (3, .pointer (some ⟨g3, 0, none⟩)), (4, .pointer (some ⟨g4, 0, none⟩)), (5, .pointer (some ⟨g5, 0, none⟩)), (6, .pointer (some ⟨g6, 0, none⟩)), (31, x.vB), (32, .int .i64 x.t.nb), (33, .int .i64 i)] ∧ Sat w0 w [.blk g1 [vc, vA, vb], .blk g2 [v1], .blk g3 [.int .i64 0], .blk g4 [.int .i64 (s9.length : Int)], .blk g5 [.int .i64 0], .blk g6 [.int .i64 x.t.vars, .int .i64 x.t.den, x.vB, x.vF, x.vC, B (x.fr), .int .i64 x.e], .blk g7 [vc, vA, vb], .sem rest, .sem (Frame.obj Dk (.deferred (some []))), .own v1 1 3 x.t.vars (ints fX)]) ⟨0, (fun _ => 0), rfl, (by omega), (by omega), ?_, rfl, hS⟩ ?_
   ·
    rfl
   ·
    clear hS w
    rintro mm M w ⟨i, fX, rfl, h0, h1, hfX, rfl, hS⟩
    refine hsq <| hrz ?_
    refine zlv xlss ?_
    refine zln <| zh <| htn <| hsq ?_
    refine hcif ?_ ?_ <;> intro hc
    ·
     refine hsk <| htn <| hsq <| hbk <| hsq <| hrz ?_
     refine zlv xmv ?_
     refine zlv (xix (kk := i) sl_22 hxB) ?_
     refine zlv (xlr (u := .int .i64 (x.t.B i)) pl_3 (htat _ (hS.holds (.sem rest) (List.mem_of_getElem? (i := 7) rfl))).B) ?_
     iterate 2 refine zlv xas ?_
     refine zln <| zh <| htn <| hsq <| hrz ?_
     refine zlv xmv ?_
     refine zlv (xfb 0 fd_119_0) ?_
     refine zlv (xfb 0 fd_28_0) ?_
     refine zlv (xlb 5 pl_3 hS) ?_
     refine zlv xlss ?_
     have hlen := hxr0 (i + 1) (by omega) (by omega)
     have hcx := hprp.cell (i := i + 1) (j := 0) (by omega) (by omega) (by omega) (by omega)
     have hbx := hprp.rngB (i := i) h0 (by omega)
     have hqd := tdiv_abs (a := x.t.C (i + 1) 0) (d := x.t.den) (by omega) hcx
     refine zln <| zh <| htn ?_
     refine hcif ?_ ?_ <;> intro hc
     ·
      refine hdst [0, 1, 2, 3, 4, 5, 6, 7, 8, 9] [0, 1, 2, 3, 4, 5, 6, 7, 8] 16 mx_ hS ?_; clear hS; intro w hS
      refine zdla 0 (fun w hS => (xlb 1 pl_22 hS)) ?_
      refine zdv 1 (fun _ => xmv) ?_
      refine zdv 2 (fun _ => (xfb 0 fd_119_0)) ?_
      refine zdv 3 (fun _ => (xfb 4 fd_28_4)) ?_
      refine zdla 4 (fun w hS => (xlb 5 pl_23 hS)) ?_
      refine zdv 5 (fun _ => xmv) ?_
      refine zdv 6 (fun _ => (xadd (r := i + 1))) ?_
      refine zdv 7 (fun _ => (xix (kk := i + 1) sl_23 hxC)) ?_
      refine zdla 8 (fun w hS => (xlr (u := (x.vv (i + 1))) pl_22 (htat _ (hS.holds (.sem rest) (List.mem_of_getElem? (i := 7) rfl))).C.row)) ?_
      refine zdv 9 (fun _ => (xix (kk := 0) sl_22 (hxr (i + 1) (by omega) (by omega)))) ?_
      refine zdla 10 (fun w hS => (xlr (u := .int .i64 (x.t.C (i + 1) 0)) pl_3 ((htat _ (hS.holds (.sem rest) (List.mem_of_getElem? (i := 7) rfl))).C.p (i + 1) (by omega) (by omega)))) ?_
      refine zdv 11 (fun _ => (xfb 0 fd_119_0)) ?_
      refine zdv 12 (fun _ => (xfb 1 fd_28_1)) ?_
      refine zdla 13 (fun w hS => (xlb 5 pl_3 hS)) ?_
      refine zdv 14 (fun _ => (xquo (r := (Int.tdiv (x.t.C (i + 1) 0) x.t.den)))) ?_
      refine zdv 15 (fun _ => (xix (kk := (x.t.B i)) sl_22 hv1)) ?_
      refine zde 16 (xso 9 pl_3 hS (upd_ints _ _ _)) ?_; clear hS; rintro w hS
      replace hS : Sat w0 w [.blk _ [_, _, _], .blk _ [_], .blk _ [_], .blk _ [_], .blk _ [_], .blk _ [_, _, _, _, _, _, _], .blk _ [_, _, _], _, _, _] := hS
      refine ⟨⟨fun h => absurd h (by decide), hS.pk [0, 1, 2, 3, 4, 5, 6, 7, 8]⟩, ?_⟩
      refine zdd <| zh <| zbn <| htn <| hrz ?_
      refine zlv (xadd (r := i + 1)) ?_
      refine zlv xmv ?_
      refine zln <| zh <| hlq ⟨i + 1, (upd fX (x.t.B i) (Int.tdiv (x.t.C (i + 1) 0) x.t.den)), rfl, (by omega), (by omega), ?_, rfl, hS⟩
      ·
       rw [qX_next x.t h0, ← hfX]; first | rw [if_pos (by omega)] | rw [if_neg (by omega)]
     ·
      refine hsk <| zbn <| htn <| hrz ?_
      refine zlv (xadd (r := i + 1)) ?_
      refine zlv xmv ?_
      refine zln <| zh <| hlq ⟨i + 1, fX, rfl, (by omega), (by omega), ?_, rfl, hS⟩
      ·
       rw [qX_next x.t h0, ← hfX]; first | rw [if_pos (by omega)] | rw [if_neg (by omega)]
    ·
     refine hxt <| ztx <| ztx <| zbh <| htn <| hsq <| hsq <| hrz ?_
     refine zlv (xlb 1 pl_22 hS) ?_
     refine zlv (xln sl_22 hv1) ?_
     refine zlv xmv ?_
     refine zln <| zh <| htn <| hbk ?_
     obtain rfl : i = x.t.nb := by omega
     refine hlp (fun mm M w => ∃ (sv : Int) (j : Int), mm = ((x.t.vars - j).toNat) ∧ (0 ≤ j) ∧ (j ≤ x.t.vars) ∧ (sv = dotp fX p.c j.toNat) ∧ (-(1125899906842624 * j) ≤ sv ∧ sv ≤ 1125899906842624 * j) ∧ M = [(1, .pointer (some ⟨g1, 0, none⟩)), (2, .pointer (some ⟨g2, 0, none⟩)), (3, .pointer (some ⟨g3, 0, none⟩)), (4, .pointer (some ⟨g4, 0, none⟩)), (5, .pointer (some ⟨g5, 0, none⟩)), (60, v1), (61, .int .i64 x.t.vars), (62, .int .i64 j)] ∧ Sat w0 w [.blk g1 [vc, vA, vb], .blk g2 [v1], .blk g3 [.int .i64 sv], .blk g4 [.int .i64 (s9.length : Int)], .blk g5 [.int .i64 0], .blk g6 [.int .i64 x.t.vars, .int .i64 x.t.den, x.vB, x.vF, x.vC, B (x.fr), .int .i64 x.e], .blk g7 [vc, vA, vb], .sem rest, .sem (Frame.obj Dk (.deferred (some []))), .own v1 1 3 x.t.vars (ints fX)]) ⟨0, 0, rfl, (by omega), (by omega), ?_, (by omega), rfl, hS⟩ ?_
     ·
      rfl
     ·
      clear hS w
      rintro mm M w ⟨sv, j, rfl, j0, j1, hsv, hsb, rfl, hS⟩
      refine hsq <| hrz ?_
      refine zlv xlss ?_
      refine zln <| zh <| htn <| hsq ?_
      refine hcif ?_ ?_ <;> intro hc
      ·
       refine hsk <| htn <| hsq <| hbk <| hsq <| hrz ?_
       refine zlv xmv ?_
       refine zlv (xix (kk := j) sl_22 hv1) ?_
       refine zlv (xlr (u := .int .i64 (fX j)) pl_3 (hS.rowN 9 rfl)) ?_
       have hqr := qX_rng hprp j x.t.nb.toNat (by omega); rw [← hfX] at hqr
       have hcj := hlk.c j j0 (by omega)
       have hmu := mul_abs (a := fX j) (b := p.c j) (A := 1073741824) (B := 1000000) hqr (by omega)
       iterate 2 refine zlv xas ?_
       refine zln <| zh <| htn ?_
       refine hdst [0, 1, 2, 3, 4, 5, 6, 7, 8, 9] [0, 1, 3, 4, 5, 6, 7, 8, 9] 9 mx_ hS ?_; clear hS; intro w hS
       refine zdl 0 (fun w hS => (xlb 2 pl_3 hS)) ?_
       refine zdv 1 (fun _ => xmv) ?_
       refine zdv 2 (fun _ => (xfb 0 fd_48_0)) ?_
       refine zdla 3 (fun w hS => (xlb 0 pl_22 hS)) ?_
       refine zdv 4 (fun _ => xmv) ?_
       refine zdv 5 (fun _ => (xix (kk := j) sl_22 hL.c.slh)) ?_
       refine zdla 6 (fun w hS => (xlr (u := .int .i64 (p.c j)) pl_3 (hL.c.below hS.below))) ?_
       refine zdv 7 (fun _ => (xmul (r := ((fX j) * (p.c j))) (e := rfl))) ?_
       refine zdv 8 (fun _ => (xadd (r := sv + ((fX j) * (p.c j))))) ?_
       refine zde 9 (xsb 2 pl_3 hS) ?_; clear hS; rintro w hS
       replace hS : Sat w0 w [.blk _ [_, _, _], .blk _ [_], .blk _ [_], .blk _ [_], .blk _ [_], .blk _ [_, _, _, _, _, _, _], .blk _ [_, _, _], _, _, _] := hS
       refine ⟨⟨fun h => absurd h (by decide), hS.pk [0, 1, 3, 4, 5, 6, 7, 8, 9]⟩, ?_⟩
       refine zdd <| zh <| zbn <| htn <| hrz ?_
       refine zlv (xadd (r := j + 1)) ?_
       refine zlv xmv ?_
       refine zln <| zh <| hlq ⟨sv + ((fX j) * (p.c j)), j + 1, rfl, (by omega), (by omega), ?_, (by omega), rfl, hS⟩
       ·
        rw [dotp_next _ _ j0, ← hsv]
      ·
       refine hxt <| ztx <| ztx <| zbh <| htn <| hsq ?_
       refine hdst [0, 1, 2, 3, 4, 5, 6, 7, 8, 9] [0, 5, 6, 7, 8, 9] 3 mx_ hS ?_; clear hS; intro w hS
       refine zdl 0 (fun w hS => (xlb 1 pl_22 hS)) ?_
       refine zdfk (r := [1, 2, 3]) ((zdn1 ?_ (zdn1 ?_ (zdn1 ?_ zdn0))))
       ·
        refine zkv (xlb 2 pl_3 hS) ⟨fun _ => hS, hS.pk [0, 5, 6, 7, 8, 9]⟩ ?_
        refine zdfk (r := [2, 3]) ((zdn1 ?_ (zdn1 ?_ zdn0)))
        ·
         refine zkv (xlb 3 pl_3 hS) ⟨fun _ => hS, hS.pk [0, 5, 6, 7, 8, 9]⟩ ?_
         refine zde 3 (xsb 1 pl_22 hS (hv := hv1.one)) ?_; clear hS; rintro w hS
         replace hS : Sat w0 w [.blk _ [_, _, _], .blk _ [_], .blk _ [_], .blk _ [_], .blk _ [_], .blk _ [_, _, _, _, _, _, _], .blk _ [_, _, _], _, _, _] := hS
         refine ⟨⟨fun h => absurd h (by decide), hS.pk [0, 5, 6, 7, 8, 9]⟩, ?_⟩
         refine zde 4 (xsb 2 pl_3 hS) ?_; clear hS; rintro w hS
         replace hS : Sat w0 w [.blk _ [_, _, _], .blk _ [_], .blk _ [_], .blk _ [_], .blk _ [_], .blk _ [_, _, _, _, _, _, _], .blk _ [_, _, _], _, _, _] := hS
         refine ⟨⟨fun h => absurd h (by decide), hS.pk [0, 5, 6, 7, 8, 9]⟩, ?_⟩
         refine zde 5 (xsb 3 pl_3 hS) ?_; clear hS; rintro w hS
         replace hS : Sat w0 w [.blk _ [_, _, _], .blk _ [_], .blk _ [_], .blk _ [_], .blk _ [_], .blk _ [_, _, _, _, _, _, _], .blk _ [_, _, _], _, _, _] := hS
         refine ⟨⟨fun h => absurd h (by decide), hS.pk [0, 5, 6, 7, 8, 9]⟩, ?_⟩
         refine zde 6 (xsb 4 pl_29 hS) ?_; clear hS; rintro w hS
         replace hS : Sat w0 w [.blk _ [_, _, _], .blk _ [_], .blk _ [_], .blk _ [_], .blk _ [_], .blk _ [_, _, _, _, _, _, _], .blk _ [_, _, _], _, _, _] := hS
         refine ⟨⟨fun h => absurd h (by decide), hS.pk [0, 5, 6, 7, 8, 9]⟩, ?_⟩
         refine zdd <| zh <| htn <| hrt <| hmk1 8 hS fun w hS => zfc4 pl_22 pl_3 pl_3 pl_29 (hS.cellN 1 rfl rfl) (hS.cellN 2 rfl rfl) (hS.cellN 3 rfl rfl) (hS.cellN 4 rfl rfl) ⟨_, rfl, ?_⟩
         obtain rfl : j = x.t.vars := by omega
         have hv9 := hprp.v
         exact ⟨_, x.t.vars, fX, sv, _, 0, rfl, .inr ⟨rfl, _, _, _, hRn, hop, hprp, by have := gfr_rng x.t x.t.nb.toNat; by_cases hz9 : 0 ≤ gfr x.t x.t.nb.toNat; exact absurd (hfq.2 hz9) hfr; omega, by simp, hv9, fun j j0 j1 => by rw [hfX]; exact qX_bas x.t j1 _, hsv⟩, hv1, hS.pk [9]⟩
        ·
         refine zke (xsb 1 pl_22 hS (hv := hv1.one)) ?_; clear hS; rintro w hS
         replace hS : Sat w0 w [.blk _ [_, _, _], .blk _ [_], .blk _ [_], .blk _ [_], .blk _ [_], .blk _ [_, _, _, _, _, _, _], .blk _ [_, _, _], _, _, _] := hS
         refine ⟨⟨fun h => absurd h (by decide), hS.pk [0, 5, 6, 7, 8, 9]⟩, ?_⟩
         refine zdfk (r := [2, 4]) ((zdn1 ?_ (zdn1 ?_ zdn0)))
         ·
          refine zkv (xlb 3 pl_3 hS) ⟨fun h => absurd h (by decide), hS.pk [0, 5, 6, 7, 8, 9]⟩ ?_
          refine zde 4 (xsb 2 pl_3 hS) ?_; clear hS; rintro w hS
          replace hS : Sat w0 w [.blk _ [_, _, _], .blk _ [_], .blk _ [_], .blk _ [_], .blk _ [_], .blk _ [_, _, _, _, _, _, _], .blk _ [_, _, _], _, _, _] := hS
          refine ⟨⟨fun h => absurd h (by decide), hS.pk [0, 5, 6, 7, 8, 9]⟩, ?_⟩
          refine zde 5 (xsb 3 pl_3 hS) ?_; clear hS; rintro w hS
          replace hS : Sat w0 w [.blk _ [_, _, _], .blk _ [_], .blk _ [_], .blk _ [_], .blk _ [_], .blk _ [_, _, _, _, _, _, _], .blk _ [_, _, _], _, _, _] := hS
          refine ⟨⟨fun h => absurd h (by decide), hS.pk [0, 5, 6, 7, 8, 9]⟩, ?_⟩
          refine zde 6 (xsb 4 pl_29 hS) ?_; clear hS; rintro w hS
          replace hS : Sat w0 w [.blk _ [_, _, _], .blk _ [_], .blk _ [_], .blk _ [_], .blk _ [_], .blk _ [_, _, _, _, _, _, _], .blk _ [_, _, _], _, _, _] := hS
          refine ⟨⟨fun h => absurd h (by decide), hS.pk [0, 5, 6, 7, 8, 9]⟩, ?_⟩
          refine zdd <| zh <| htn <| hrt <| hmk1 8 hS fun w hS => zfc4 pl_22 pl_3 pl_3 pl_29 (hS.cellN 1 rfl rfl) (hS.cellN 2 rfl rfl) (hS.cellN 3 rfl rfl) (hS.cellN 4 rfl rfl) ⟨_, rfl, ?_⟩
          obtain rfl : j = x.t.vars := by omega
          have hv9 := hprp.v
          exact ⟨_, x.t.vars, fX, sv, _, 0, rfl, .inr ⟨rfl, _, _, _, hRn, hop, hprp, by have := gfr_rng x.t x.t.nb.toNat; by_cases hz9 : 0 ≤ gfr x.t x.t.nb.toNat; exact absurd (hfq.2 hz9) hfr; omega, by simp, hv9, fun j j0 j1 => by rw [hfX]; exact qX_bas x.t j1 _, hsv⟩, hv1, hS.pk [9]⟩
         ·
          refine zke (xsb 2 pl_3 hS) ?_; clear hS; rintro w hS
          replace hS : Sat w0 w [.blk _ [_, _, _], .blk _ [_], .blk _ [_], .blk _ [_], .blk _ [_], .blk _ [_, _, _, _, _, _, _], .blk _ [_, _, _], _, _, _] := hS
          refine ⟨⟨fun h => absurd h (by decide), hS.pk [0, 5, 6, 7, 8, 9]⟩, ?_⟩
          refine zdw 2 (xlb 3 pl_3 hS) ⟨fun h => absurd h (by decide), hS.pk [0, 5, 6, 7, 8, 9]⟩ ?_
          refine zde 5 (xsb 3 pl_3 hS) ?_; clear hS; rintro w hS
          replace hS : Sat w0 w [.blk _ [_, _, _], .blk _ [_], .blk _ [_], .blk _ [_], .blk _ [_], .blk _ [_, _, _, _, _, _, _], .blk _ [_, _, _], _, _, _] := hS
          refine ⟨⟨fun h => absurd h (by decide), hS.pk [0, 5, 6, 7, 8, 9]⟩, ?_⟩
          refine zde 6 (xsb 4 pl_29 hS) ?_; clear hS; rintro w hS
          replace hS : Sat w0 w [.blk _ [_, _, _], .blk _ [_], .blk _ [_], .blk _ [_], .blk _ [_], .blk _ [_, _, _, _, _, _, _], .blk _ [_, _, _], _, _, _] := hS
          refine ⟨⟨fun h => absurd h (by decide), hS.pk [0, 5, 6, 7, 8, 9]⟩, ?_⟩
          refine zdd <| zh <| htn <| hrt <| hmk1 8 hS fun w hS => zfc4 pl_22 pl_3 pl_3 pl_29 (hS.cellN 1 rfl rfl) (hS.cellN 2 rfl rfl) (hS.cellN 3 rfl rfl) (hS.cellN 4 rfl rfl) ⟨_, rfl, ?_⟩
          obtain rfl : j = x.t.vars := by omega
          have hv9 := hprp.v
          exact ⟨_, x.t.vars, fX, sv, _, 0, rfl, .inr ⟨rfl, _, _, _, hRn, hop, hprp, by have := gfr_rng x.t x.t.nb.toNat; by_cases hz9 : 0 ≤ gfr x.t x.t.nb.toNat; exact absurd (hfq.2 hz9) hfr; omega, by simp, hv9, fun j j0 j1 => by rw [hfX]; exact qX_bas x.t j1 _, hsv⟩, hv1, hS.pk [9]⟩
       ·
        refine zkv (xlb 3 pl_3 hS) ⟨fun _ => hS, hS.pk [0, 5, 6, 7, 8, 9]⟩ ?_
        refine zdfk (r := [1, 3]) ((zdn1 ?_ (zdn1 ?_ zdn0)))
        ·
         refine zkv (xlb 2 pl_3 hS) ⟨fun _ => hS, hS.pk [0, 5, 6, 7, 8, 9]⟩ ?_
         refine zde 3 (xsb 1 pl_22 hS (hv := hv1.one)) ?_; clear hS; rintro w hS
         replace hS : Sat w0 w [.blk _ [_, _, _], .blk _ [_], .blk _ [_], .blk _ [_], .blk _ [_], .blk _ [_, _, _, _, _, _, _], .blk _ [_, _, _], _, _, _] := hS
         refine ⟨⟨fun h => absurd h (by decide), hS.pk [0, 5, 6, 7, 8, 9]⟩, ?_⟩
         refine zde 4 (xsb 2 pl_3 hS) ?_; clear hS; rintro w hS
         replace hS : Sat w0 w [.blk _ [_, _, _], .blk _ [_], .blk _ [_], .blk _ [_], .blk _ [_], .blk _ [_, _, _, _, _, _, _], .blk _ [_, _, _], _, _, _] := hS
         refine ⟨⟨fun h => absurd h (by decide), hS.pk [0, 5, 6, 7, 8, 9]⟩, ?_⟩
         refine zde 5 (xsb 3 pl_3 hS) ?_; clear hS; rintro w hS
         replace hS : Sat w0 w [.blk _ [_, _, _], .blk _ [_], .blk _ [_], .blk _ [_], .blk _ [_], .blk _ [_, _, _, _, _, _, _], .blk _ [_, _, _], _, _, _] := hS
         refine ⟨⟨fun h => absurd h (by decide), hS.pk [0, 5, 6, 7, 8, 9]⟩, ?_⟩
         refine zde 6 (xsb 4 pl_29 hS) ?_; clear hS; rintro w hS
         replace hS : Sat w0 w [.blk _ [_, _, _], .blk _ [_], .blk _ [_], .blk _ [_], .blk _ [_], .blk _ [_, _, _, _, _, _, _], .blk _ [_, _, _], _, _, _] := hS
         refine ⟨⟨fun h => absurd h (by decide), hS.pk [0, 5, 6, 7, 8, 9]⟩, ?_⟩
         refine zdd <| zh <| htn <| hrt <| hmk1 8 hS fun w hS => zfc4 pl_22 pl_3 pl_3 pl_29 (hS.cellN 1 rfl rfl) (hS.cellN 2 rfl rfl) (hS.cellN 3 rfl rfl) (hS.cellN 4 rfl rfl) ⟨_, rfl, ?_⟩
         obtain rfl : j = x.t.vars := by omega
         have hv9 := hprp.v
         exact ⟨_, x.t.vars, fX, sv, _, 0, rfl, .inr ⟨rfl, _, _, _, hRn, hop, hprp, by have := gfr_rng x.t x.t.nb.toNat; by_cases hz9 : 0 ≤ gfr x.t x.t.nb.toNat; exact absurd (hfq.2 hz9) hfr; omega, by simp, hv9, fun j j0 j1 => by rw [hfX]; exact qX_bas x.t j1 _, hsv⟩, hv1, hS.pk [9]⟩
        ·
         refine zke (xsb 1 pl_22 hS (hv := hv1.one)) ?_; clear hS; rintro w hS
         replace hS : Sat w0 w [.blk _ [_, _, _], .blk _ [_], .blk _ [_], .blk _ [_], .blk _ [_], .blk _ [_, _, _, _, _, _, _], .blk _ [_, _, _], _, _, _] := hS
         refine ⟨⟨fun h => absurd h (by decide), hS.pk [0, 5, 6, 7, 8, 9]⟩, ?_⟩
         refine zdw 1 (xlb 2 pl_3 hS) ⟨fun h => absurd h (by decide), hS.pk [0, 5, 6, 7, 8, 9]⟩ ?_
         refine zde 4 (xsb 2 pl_3 hS) ?_; clear hS; rintro w hS
         replace hS : Sat w0 w [.blk _ [_, _, _], .blk _ [_], .blk _ [_], .blk _ [_], .blk _ [_], .blk _ [_, _, _, _, _, _, _], .blk _ [_, _, _], _, _, _] := hS
         refine ⟨⟨fun h => absurd h (by decide), hS.pk [0, 5, 6, 7, 8, 9]⟩, ?_⟩
         refine zde 5 (xsb 3 pl_3 hS) ?_; clear hS; rintro w hS
         replace hS : Sat w0 w [.blk _ [_, _, _], .blk _ [_], .blk _ [_], .blk _ [_], .blk _ [_], .blk _ [_, _, _, _, _, _, _], .blk _ [_, _, _], _, _, _] := hS
         refine ⟨⟨fun h => absurd h (by decide), hS.pk [0, 5, 6, 7, 8, 9]⟩, ?_⟩
         refine zde 6 (xsb 4 pl_29 hS) ?_; clear hS; rintro w hS
         replace hS : Sat w0 w [.blk _ [_, _, _], .blk _ [_], .blk _ [_], .blk _ [_], .blk _ [_], .blk _ [_, _, _, _, _, _, _], .blk _ [_, _, _], _, _, _] := hS
         refine ⟨⟨fun h => absurd h (by decide), hS.pk [0, 5, 6, 7, 8, 9]⟩, ?_⟩
         refine zdd <| zh <| htn <| hrt <| hmk1 8 hS fun w hS => zfc4 pl_22 pl_3 pl_3 pl_29 (hS.cellN 1 rfl rfl) (hS.cellN 2 rfl rfl) (hS.cellN 3 rfl rfl) (hS.cellN 4 rfl rfl) ⟨_, rfl, ?_⟩
         obtain rfl : j = x.t.vars := by omega
         have hv9 := hprp.v
         exact ⟨_, x.t.vars, fX, sv, _, 0, rfl, .inr ⟨rfl, _, _, _, hRn, hop, hprp, by have := gfr_rng x.t x.t.nb.toNat; by_cases hz9 : 0 ≤ gfr x.t x.t.nb.toNat; exact absurd (hfq.2 hz9) hfr; omega, by simp, hv9, fun j j0 j1 => by rw [hfX]; exact qX_bas x.t j1 _, hsv⟩, hv1, hS.pk [9]⟩
       ·
        refine zke (xsb 1 pl_22 hS (hv := hv1.one)) ?_; clear hS; rintro w hS
        replace hS : Sat w0 w [.blk _ [_, _, _], .blk _ [_], .blk _ [_], .blk _ [_], .blk _ [_], .blk _ [_, _, _, _, _, _, _], .blk _ [_, _, _], _, _, _] := hS
        refine ⟨⟨fun h => absurd h (by decide), hS.pk [0, 5, 6, 7, 8, 9]⟩, ?_⟩
        refine zdfk (r := [1, 2]) ((zdn1 ?_ (zdn1 ?_ zdn0)))
        ·
         refine zkv (xlb 2 pl_3 hS) ⟨fun h => absurd h (by decide), hS.pk [0, 5, 6, 7, 8, 9]⟩ ?_
         refine zdfk (r := [2, 4]) ((zdn1 ?_ (zdn1 ?_ zdn0)))
         ·
          refine zkv (xlb 3 pl_3 hS) ⟨fun h => absurd h (by decide), hS.pk [0, 5, 6, 7, 8, 9]⟩ ?_
          refine zde 4 (xsb 2 pl_3 hS) ?_; clear hS; rintro w hS
          replace hS : Sat w0 w [.blk _ [_, _, _], .blk _ [_], .blk _ [_], .blk _ [_], .blk _ [_], .blk _ [_, _, _, _, _, _, _], .blk _ [_, _, _], _, _, _] := hS
          refine ⟨⟨fun h => absurd h (by decide), hS.pk [0, 5, 6, 7, 8, 9]⟩, ?_⟩
          refine zde 5 (xsb 3 pl_3 hS) ?_; clear hS; rintro w hS
          replace hS : Sat w0 w [.blk _ [_, _, _], .blk _ [_], .blk _ [_], .blk _ [_], .blk _ [_], .blk _ [_, _, _, _, _, _, _], .blk _ [_, _, _], _, _, _] := hS
          refine ⟨⟨fun h => absurd h (by decide), hS.pk [0, 5, 6, 7, 8, 9]⟩, ?_⟩
          refine zde 6 (xsb 4 pl_29 hS) ?_; clear hS; rintro w hS
          replace hS : Sat w0 w [.blk _ [_, _, _], .blk _ [_], .blk _ [_], .blk _ [_], .blk _ [_], .blk _ [_, _, _, _, _, _, _], .blk _ [_, _, _], _, _, _] := hS
          refine ⟨⟨fun h => absurd h (by decide), hS.pk [0, 5, 6, 7, 8, 9]⟩, ?_⟩
          refine zdd <| zh <| htn <| hrt <| hmk1 8 hS fun w hS => zfc4 pl_22 pl_3 pl_3 pl_29 (hS.cellN 1 rfl rfl) (hS.cellN 2 rfl rfl) (hS.cellN 3 rfl rfl) (hS.cellN 4 rfl rfl) ⟨_, rfl, ?_⟩
          obtain rfl : j = x.t.vars := by omega
          have hv9 := hprp.v
          exact ⟨_, x.t.vars, fX, sv, _, 0, rfl, .inr ⟨rfl, _, _, _, hRn, hop, hprp, by have := gfr_rng x.t x.t.nb.toNat; by_cases hz9 : 0 ≤ gfr x.t x.t.nb.toNat; exact absurd (hfq.2 hz9) hfr; omega, by simp, hv9, fun j j0 j1 => by rw [hfX]; exact qX_bas x.t j1 _, hsv⟩, hv1, hS.pk [9]⟩
         ·
          refine zke (xsb 2 pl_3 hS) ?_; clear hS; rintro w hS
          replace hS : Sat w0 w [.blk _ [_, _, _], .blk _ [_], .blk _ [_], .blk _ [_], .blk _ [_], .blk _ [_, _, _, _, _, _, _], .blk _ [_, _, _], _, _, _] := hS
          refine ⟨⟨fun h => absurd h (by decide), hS.pk [0, 5, 6, 7, 8, 9]⟩, ?_⟩
          refine zdw 2 (xlb 3 pl_3 hS) ⟨fun h => absurd h (by decide), hS.pk [0, 5, 6, 7, 8, 9]⟩ ?_
          refine zde 5 (xsb 3 pl_3 hS) ?_; clear hS; rintro w hS
          replace hS : Sat w0 w [.blk _ [_, _, _], .blk _ [_], .blk _ [_], .blk _ [_], .blk _ [_], .blk _ [_, _, _, _, _, _, _], .blk _ [_, _, _], _, _, _] := hS
          refine ⟨⟨fun h => absurd h (by decide), hS.pk [0, 5, 6, 7, 8, 9]⟩, ?_⟩
          refine zde 6 (xsb 4 pl_29 hS) ?_; clear hS; rintro w hS
          replace hS : Sat w0 w [.blk _ [_, _, _], .blk _ [_], .blk _ [_], .blk _ [_], .blk _ [_], .blk _ [_, _, _, _, _, _, _], .blk _ [_, _, _], _, _, _] := hS
          refine ⟨⟨fun h => absurd h (by decide), hS.pk [0, 5, 6, 7, 8, 9]⟩, ?_⟩
          refine zdd <| zh <| htn <| hrt <| hmk1 8 hS fun w hS => zfc4 pl_22 pl_3 pl_3 pl_29 (hS.cellN 1 rfl rfl) (hS.cellN 2 rfl rfl) (hS.cellN 3 rfl rfl) (hS.cellN 4 rfl rfl) ⟨_, rfl, ?_⟩
          obtain rfl : j = x.t.vars := by omega
          have hv9 := hprp.v
          exact ⟨_, x.t.vars, fX, sv, _, 0, rfl, .inr ⟨rfl, _, _, _, hRn, hop, hprp, by have := gfr_rng x.t x.t.nb.toNat; by_cases hz9 : 0 ≤ gfr x.t x.t.nb.toNat; exact absurd (hfq.2 hz9) hfr; omega, by simp, hv9, fun j j0 j1 => by rw [hfX]; exact qX_bas x.t j1 _, hsv⟩, hv1, hS.pk [9]⟩
        ·
         refine zkv (xlb 3 pl_3 hS) ⟨fun h => absurd h (by decide), hS.pk [0, 5, 6, 7, 8, 9]⟩ ?_
         refine zdw 1 (xlb 2 pl_3 hS) ⟨fun h => absurd h (by decide), hS.pk [0, 5, 6, 7, 8, 9]⟩ ?_
         refine zde 4 (xsb 2 pl_3 hS) ?_; clear hS; rintro w hS
         replace hS : Sat w0 w [.blk _ [_, _, _], .blk _ [_], .blk _ [_], .blk _ [_], .blk _ [_], .blk _ [_, _, _, _, _, _, _], .blk _ [_, _, _], _, _, _] := hS
         refine ⟨⟨fun h => absurd h (by decide), hS.pk [0, 5, 6, 7, 8, 9]⟩, ?_⟩
         refine zde 5 (xsb 3 pl_3 hS) ?_; clear hS; rintro w hS
         replace hS : Sat w0 w [.blk _ [_, _, _], .blk _ [_], .blk _ [_], .blk _ [_], .blk _ [_], .blk _ [_, _, _, _, _, _, _], .blk _ [_, _, _], _, _, _] := hS
         refine ⟨⟨fun h => absurd h (by decide), hS.pk [0, 5, 6, 7, 8, 9]⟩, ?_⟩
         refine zde 6 (xsb 4 pl_29 hS) ?_; clear hS; rintro w hS
         replace hS : Sat w0 w [.blk _ [_, _, _], .blk _ [_], .blk _ [_], .blk _ [_], .blk _ [_], .blk _ [_, _, _, _, _, _, _], .blk _ [_, _, _], _, _, _] := hS
         refine ⟨⟨fun h => absurd h (by decide), hS.pk [0, 5, 6, 7, 8, 9]⟩, ?_⟩
         refine zdd <| zh <| htn <| hrt <| hmk1 8 hS fun w hS => zfc4 pl_22 pl_3 pl_3 pl_29 (hS.cellN 1 rfl rfl) (hS.cellN 2 rfl rfl) (hS.cellN 3 rfl rfl) (hS.cellN 4 rfl rfl) ⟨_, rfl, ?_⟩
         obtain rfl : j = x.t.vars := by omega
         have hv9 := hprp.v
         exact ⟨_, x.t.vars, fX, sv, _, 0, rfl, .inr ⟨rfl, _, _, _, hRn, hop, hprp, by have := gfr_rng x.t x.t.nb.toNat; by_cases hz9 : 0 ≤ gfr x.t x.t.nb.toNat; exact absurd (hfq.2 hz9) hfr; omega, by simp, hv9, fun j j0 j1 => by rw [hfX]; exact qX_bas x.t j1 _, hsv⟩, hv1, hS.pk [9]⟩
  ·
   intro Dk t rest w hfin hS
   replace hS : Sat w0 w [.blk _ [_], .blk _ [_], .blk _ [_], .blk _ [_], .blk _ [_, _, _], _, _] := hS
   obtain ⟨s, x, ⟨hx, he0⟩, hpre⟩ := hfin
   subst hx
   obtain ⟨tt, e9, hRn, hok, _, _, _, ⟨_, _, hcs⟩ | ⟨h1, _⟩⟩ := hpre
   rotate_left
   · exact absurd h1 he0
   replace hcs : (e9 = t.e ∧ e9 ≠ 0) ∨ (e9 = 0 ∧ ∃ u, OptR tt u t.e) := hcs
   show Ge _ _ _ .ret _ _
   refine zbr <| ztr <| hmk1 6 hS fun w hS => zfc4 pl_22 pl_3 pl_3 pl_29 (hS.cellN 0 rfl rfl) (hS.cellN 1 rfl rfl) (hS.cellN 2 rfl rfl) (hS.cellN 3 rfl rfl) ⟨_, rfl, ?_⟩
   exact ⟨_, 0, fun _ => 0, 0, 0, _, rfl, .inl ⟨he0, rfl, rfl, rfl, _, _, _, hRn, hcs⟩, slh_nil, (hS.addnil 1 3 (ints fun _ => 0)).sub (.cons _ (.cons _ (.cons _ (.cons _ (.cons _ (.cons _ (.cons _ (.cons_cons _ .slnil))))))))⟩

theorem idt_add {t : Tb} (hp : TPrp t) {row k0 z : Int} {v : Int → Int} (h : Idt (addT t row) k0 z v) : Idt t k0 z v := fun i i0 i1 => by
  have hc := hp.c
  have h1 := h i i0 (by show i ≤ t.nb + 1; omega)
  have eC : (addT t row).C i = t.C i := gsn_lt (by omega)
  have eL : lhsv (addT t row) z v i = lhsv t z v i := by
    unfold lhsv
    by_cases hi : i = 0
    · rw [if_pos hi, if_pos hi]
    · rw [if_neg hi, if_neg hi]
      show v (gsn t.B t.nb (t.nb + t.nf) (i - 1)) = _
      rw [gsn_lt (by omega)]
  have eR : rowv (addT t row) k0 v i = rowv t k0 v i := by
    unfold rowv
    rw [eC]; rfl
  rw [eL, eR] at h1
  exact h1
theorem idt_opt {t u : Tb} (h : OptR t u 0) (k0 z : Int) (v : Int → Int) : Idt t k0 z v ↔ Idt u k0 z v := by
  obtain ⟨u', f, hr, ⟨hf, _, rfl⟩ | ⟨hf, he, _⟩⟩ := h
  · exact idt_run hr k0 z v
  · exact absurd he.symm hf
theorem AddR.ok {t t' : Tb} {row e : Int} (h : AddR t row t' e) (he : e = 0) : t' = addT t row ∧ TPrp t ∧ 0 ≤ row ∧ row < t.nb ∧ t.nb < 16 := by
  rcases h with ⟨_, _, h⟩ | ⟨_, _, _, h⟩ | ⟨_, _, _, _, _, h⟩ | ⟨_, _, _, _, _, _, h⟩ | ⟨h1, h2, h3, _, h4, rfl, _⟩ <;> first | (exfalso; omega) | exact ⟨rfl, h1, h2, h3, h4⟩
theorem idt_rn {p : Lp} {us : List Tb} {t : Tb} {e : Int} (h : Rn p us t e) (he : e = 0) {k0 z : Int} {v : Int → Int} (hi : Idt t k0 z v) : Idt (startT p) k0 z v := by
  induction h with
  | start h => rcases h with ⟨_, _, h⟩ | ⟨_, rfl, _⟩; exact absurd he (by omega); exact hi
  | cut h ho hp hf ha ih =>
    obtain ⟨rfl, hq, _⟩ := AddR.ok ha he
    exact ih rfl ((idt_opt ho _ _ _).2 (idt_add hq hi))
theorem OptR.fin {t u : Tb} (h : OptR t u 0) : u.costs ∧ ∀ i : Int, 0 ≤ i → i < u.nb → 0 ≤ u.C (i + 1) 0 := by
  obtain ⟨u', f, hr, ⟨hf, _, rfl⟩ | ⟨hf, he, _⟩⟩ := h
  · subst hf
    obtain ⟨_, h1, h2, _⟩ := hr.fin (.inl rfl)
    have := leav_rng u u.nb.toNat
    exact ⟨h1, fun i i0 i1 => (leav_neg u u.nb.toNat).1 (by have := h2 rfl; omega) i i0 (by omega)⟩
  · exact absurd he.symm hf
/-- The basic solution obeys the tableau. -/
theorem idt_bas {u : Tb} (hp : TPrp u) (h0 : 0 ≤ u.nb) : Idt u u.den (u.C 0 0) (bas u u.nb.toNat) := fun i i0 i1 => by
  have hn := hp.n1
  have hz : sumTo (fun j => u.C i (j + 1) * bas u u.nb.toNat (u.F j)) u.nf.toNat = 0 := by
    have : sumTo (fun j => u.C i (j + 1) * bas u u.nb.toNat (u.F j)) u.nf.toNat = sumTo (fun _ => 0) u.nf.toNat := sumTo_congr fun j j0 j1 => by
      rw [bas_zero u _ fun q q0 q1 => hp.disj q0 (by omega) j0 (by omega)]; omega
    rw [this, sumTo_zero]
  unfold rowv lhsv
  rw [hz]
  by_cases hi : i = 0
  · subst hi; rw [if_pos rfl]; grind
  · rw [if_neg hi, bas_at hp u.nb.toNat (by omega) (i - 1) (by omega) (by omega), show i - 1 + 1 = i by omega]; grind
theorem gval {p : Lp} {us : List Tb} {t u : Tb} (hm : 0 ≤ p.m) (h : Rn p us t 0) (ho : OptR t u 0) (h0 : 0 ≤ u.nb) : u.C 0 0 = dotp p.c (bas u u.nb.toNat) p.n.toNat ∧ ∀ i, 0 ≤ i → i < p.m → bas u u.nb.toNat (p.n + i) = dotp (p.A i) (bas u u.nb.toNat) p.n.toNat - p.b i * u.den :=
  (idt_start (h.lok rfl) hm _ _ _).1 (idt_rn h rfl ((idt_opt ho _ _ _).2 (idt_bas ho.prp.1 h0)))
theorem bas_nn {t u : Tb} (ho : OptR t u 0) (q : Int) : 0 ≤ bas u u.nb.toNat q := by
  have hp := ho.prp.1
  by_cases h0 : 0 ≤ u.nb
  · exact (bas_rng hp ho.fin.2 q u.nb.toNat (by omega)).1
  · rw [show u.nb.toNat = 0 by omega]; simp [bas]
theorem dotp_nn {f g : Int → Int} : ∀ {n : Nat}, (∀ k : Int, 0 ≤ k → k < n → 0 ≤ f k) → (∀ k : Int, 0 ≤ k → k < n → 0 ≤ g k) → 0 ≤ dotp f g n
  | 0, _, _ => by simp [dotp, sumTo]
  | n + 1, hf, hg => by
    have h1 := dotp_nn (f := f) (g := g) (n := n) (fun k k0 k1 => hf k k0 (by omega)) (fun k k0 k1 => hg k k0 (by omega))
    have h2 := dotp_next f g (i := n) (by omega)
    rw [show ((n : Int) + 1).toNat = n + 1 by omega, show ((n : Int)).toNat = n by omega] at h2
    have h3 := Int.mul_nonneg (hf n (by omega) (by omega)) (hg n (by omega) (by omega))
    omega
theorem gval_nn {p : Lp} {us : List Tb} {t u : Tb} (hm : 0 ≤ p.m) (h : Rn p us t 0) (ho : OptR t u 0) (h0 : 0 ≤ u.nb) : 0 ≤ u.C 0 0 := by
  rw [(gval hm h ho h0).1]
  have hl := h.lok rfl
  have hn := hl.n1
  exact dotp_nn (fun k k0 k1 => (hl.c k k0 (by omega)).1) fun k _ _ => bas_nn ho k
/-- No fraction: every number of x is a multiple. -/
theorem whole_dvd {t u : Tb} (ho : OptR t u 0) (hf : gfr u u.nb.toNat < 0) {j : Int} (hj : j < u.vars) : u.den ∣ bas u u.nb.toNat j := by
  have hp := ho.prp.1
  have key : ∀ K : Nat, (K : Int) ≤ u.nb → u.den ∣ bas u K j := fun K => by
    induction K with
    | zero => intro _; exact ⟨0, by simp [bas]⟩
    | succ k ih =>
      intro hk
      have h1 := ih (by omega)
      simp only [bas, upd]
      split
      · rename_i e
        have hr := gfr_rng u u.nb.toNat
        exact Int.dvd_of_tmod_eq_zero ((gfr_law u u.nb.toNat).1 (by omega) k (by omega) (by omega) (by omega))
      · exact h1
  by_cases h0 : 0 ≤ u.nb
  · exact key _ (by omega)
  · rw [show u.nb.toNat = 0 by omega]; exact ⟨0, by simp [bas]⟩
theorem dotp_div {f g : Int → Int} {d : Int} : ∀ {n : Nat}, (∀ k : Int, 0 ≤ k → k < n → f k = d * g k) → ∀ c : Int → Int, dotp f c n = d * dotp g c n
  | 0, _, c => by simp [dotp, sumTo]
  | n + 1, h, c => by
    have h1 := dotp_div (f := f) (g := g) (d := d) (n := n) (fun k k0 k1 => h k k0 (by omega)) c
    have h2 := dotp_next f c (i := n) (by omega)
    have h3 := dotp_next g c (i := n) (by omega)
    rw [show ((n : Int) + 1).toNat = n + 1 by omega, show ((n : Int)).toNat = n by omega] at h2 h3
    have h4 := h n (by omega) (by omega)
    rw [h2, h3, h1, h4]; grind
/-! ## Two runs are one -/
theorem Rn.eqlen {p : Lp} {us : List Tb} {t : Tb} {e : Int} (h : Rn p us t e) : ∀ {us' : List Tb} {t' : Tb} {e' : Int}, Rn p us' t' e' → us.length = us'.length → us = us' ∧ t = t' ∧ e = e' := by
  induction h with
  | start h =>
    intro us' t' e' h' hl
    cases h' with
    | start h' => obtain ⟨h1, h2⟩ := h.same h'; exact ⟨rfl, h1, h2⟩
    | cut => simp at hl
  | cut h ho hp hf ha ih =>
    intro us' t' e' h' hl
    cases h' with
    | start => simp at hl
    | cut h' ho' hp' hf' ha' =>
      obtain ⟨rfl, rfl, _⟩ := ih h' (by simpa using hl)
      obtain ⟨rfl, _⟩ := OptR.same ho ho'
      obtain ⟨rfl, rfl⟩ := ha.same ha'
      exact ⟨rfl, rfl, rfl⟩
theorem Rn.part {p : Lp} {us : List Tb} {t : Tb} {e : Int} (h : Rn p us t e) : ∀ k : Nat, k < us.length → ∃ us0 t0 u0, us0.length = k ∧ Rn p us0 t0 0 ∧ OptR t0 u0 0 ∧ 0 ≤ gfr u0 u0.nb.toNat := by
  induction h with
  | start => intro k hk; simp at hk
  | @cut us0 t0 u0 _ _ h ho hp hf ha ih =>
    intro k hk
    rw [List.length_append, List.length_singleton] at hk
    rcases Nat.lt_or_ge k us0.length with hlt | hge
    · exact ih k hlt
    · exact ⟨us0, t0, u0, by omega, h, ho, hf⟩
def RnEnd (t : Tb) (e : Int) : Prop := e ≠ 0 ∨ (∃ u f, OptR t u f ∧ f ≠ 0) ∨ ∃ u, OptR t u 0 ∧ gfr u u.nb.toNat < 0
theorem RnEnd.no {t : Tb} {e : Int} (h : RnEnd t e) (he : e = 0) {u : Tb} (ho : OptR t u 0) (hf : 0 ≤ gfr u u.nb.toNat) : False := by
  rcases h with h | ⟨u', f, h1, h2⟩ | ⟨u', h1, h2⟩
  · exact h he
  · obtain ⟨_, h3⟩ := OptR.same ho h1; omega
  · obtain ⟨rfl, _⟩ := OptR.same ho h1; omega
theorem Rn.same {p : Lp} {us us' : List Tb} {t t' : Tb} {e e' : Int} (h : Rn p us t e) (h' : Rn p us' t' e') (hE : RnEnd t e) (hE' : RnEnd t' e') : us = us' ∧ t = t' ∧ e = e' := by
  rcases Nat.lt_trichotomy us.length us'.length with hlt | heq | hgt
  · obtain ⟨us0, t0, u0, h1, h2, h3, h4⟩ := h'.part _ hlt
    obtain ⟨rfl, rfl, rfl⟩ := h.eqlen h2 h1.symm
    exact (hE.no rfl h3 h4).elim
  · exact h.eqlen h' heq
  · obtain ⟨us0, t0, u0, h1, h2, h3, h4⟩ := h.part _ hgt
    obtain ⟨rfl, rfl, rfl⟩ := h'.eqlen h2 h1.symm
    exact (hE'.no rfl h3 h4).elim
/-- What Solve, of the reference, returns. -/
def RGSolveR (p : Lp) (n : Int) (f : Int → Int) (val cuts e : Int) : Prop :=
  (e ≠ 0 ∧ n = 0 ∧ val = 0 ∧ cuts = 0 ∧ ∃ us t e', Rn p us t e' ∧ ((e' = e ∧ e' ≠ 0) ∨ (e' = 0 ∧ ∃ u, OptR t u e))) ∨
    (e = 0 ∧ ∃ us t u, Rn p us t 0 ∧ OptR t u 0 ∧ gfr u u.nb.toNat < 0 ∧ cuts = (us.length : Int) ∧ n = u.nf ∧ (∀ j, 0 ≤ j → j < n → f j = (rdX u u.nb.toNat j).tdiv u.den) ∧ val = (u.C 0 0).tdiv u.den)
theorem GSolveR.same {p : Lp} (hm : 0 ≤ p.m) {n n' val val' cuts cuts' e e' : Int} {f f' : Int → Int} (h : GSolveR p n f val cuts e) (h' : RGSolveR p n' f' val' cuts' e') : n = n' ∧ (∀ j, 0 ≤ j → j < n → f j = f' j) ∧ val = val' ∧ cuts = cuts' ∧ e = e' := by
  have endE : ∀ {us : List Tb} {t : Tb} {e e0 : Int}, ((e0 = e ∧ e0 ≠ 0) ∨ (e0 = 0 ∧ ∃ u, OptR t u e)) → e ≠ 0 → RnEnd t e0 := fun h he => by
    rcases h with ⟨_, h⟩ | ⟨h, u, ho⟩
    · exact .inl h
    · exact .inr (.inl ⟨u, _, ho, he⟩)
  rcases h with ⟨he, h1, h2, h3, us, t, e0, hr, hc⟩ | ⟨he, us, t, u, hr, ho, hp, hf, h1, h2, h3, h4⟩ <;> rcases h' with ⟨ge, g1, g2, g3, us', t', e1, gr, gc⟩ | ⟨ge, us', t', u', gr, go, gf, g1, g2, g3, g4⟩
  · obtain ⟨rfl, rfl, rfl⟩ := hr.same gr (endE (us := us) hc he) (endE (us := us) gc ge)
    refine ⟨by omega, fun j j0 j1 => by omega, by omega, by omega, ?_⟩
    rcases hc with ⟨a, b⟩ | ⟨a, u1, b⟩ <;> rcases gc with ⟨c, d⟩ | ⟨c, u2, d⟩
    · omega
    · omega
    · omega
    · exact (OptR.same b d).2
  · obtain ⟨rfl, rfl, rfl⟩ := hr.same gr (endE (us := us) hc he) (.inr (.inr ⟨u', go, gf⟩))
    rcases hc with ⟨a, b⟩ | ⟨a, u1, b⟩
    · exact absurd rfl b
    · exact absurd (OptR.same go b).2.symm he
  · obtain ⟨rfl, rfl, rfl⟩ := hr.same gr (.inr (.inr ⟨u, ho, hf⟩)) (endE (us := us) gc ge)
    rcases gc with ⟨a, b⟩ | ⟨a, u1, b⟩
    · exact absurd rfl b
    · exact absurd (OptR.same ho b).2.symm ge
  · obtain ⟨rfl, rfl, _⟩ := hr.same gr (.inr (.inr ⟨u, ho, hf⟩)) (.inr (.inr ⟨u', go, gf⟩))
    obtain ⟨rfl, _⟩ := OptR.same ho go
    have hv := hp.v
    have hd := hp.d1
    have hdm := hr.dims rfl
    have hod := ho.dims
    refine ⟨by omega, fun j j0 j1 => by rw [h3 j j0 j1, g3 j j0 (by omega), rdX_bas u (by omega)], ?_, by omega, by omega⟩
    rw [h4, g4]
    by_cases h0 : 0 ≤ u.nb
    · have hg := (gval hm hr ho h0).1
      have hx : ∀ k : Int, 0 ≤ k → k < n.toNat → bas u u.nb.toNat k = u.den * f k := fun k k0 k1 => by
        rw [h3 k k0 (by omega), Int.mul_tdiv_cancel' (whole_dvd ho hf (by omega))]
      have := dotp_div (n := n.toNat) hx p.c
      rw [dotp_comm, show n.toNat = p.n.toNat by omega, ← hg, show p.n.toNat = n.toNat by omega] at this
      rw [this, Int.mul_tdiv_cancel_left _ (by omega)]
    · have := hr.len rfl hm
      have := ho.prp.2
      omega
theorem rdX_rng {u : Tb} (hp : TPrp u) (j : Int) : ∀ K : Nat, (K : Int) ≤ u.nb → -1073741824 ≤ rdX u K j ∧ rdX u K j ≤ 1073741824
  | 0, _ => by simp [rdX]
  | k + 1, hk => by
    have ih := rdX_rng hp j k (by omega)
    have h0 := hp.n1
    have hc := hp.cell (i := k + 1) (j := 0) (by omega) (by omega) (by omega) (by omega)
    simp only [rdX]
    split
    · unfold upd; split
      · exact hc
      · exact ih
    · exact ih
/-! ## Bounds -/
def cvR (u : Tb) : Int := (u.C 0 0 + u.den - 1).tdiv u.den
def cvP (u : Tb) : Int := (u.C 0 0 + rmd (-(u.C 0 0)) u.den).tdiv u.den
theorem cv_eq {u : Tb} (hd : 1 ≤ u.den) (h0 : 0 ≤ u.C 0 0) : cvP u = cvR u := by
  unfold cvP cvR
  rw [rmd_emod hd]
  have h1 := Int.emod_nonneg (-(u.C 0 0)) (show u.den ≠ 0 by omega)
  have h2 := Int.emod_lt_of_pos (-(u.C 0 0)) (show 0 < u.den by omega)
  rw [Int.tdiv_eq_ediv_of_nonneg (by omega), Int.tdiv_eq_ediv_of_nonneg (by omega)]
  have h3 := Int.mul_ediv_add_emod (-(u.C 0 0)) u.den
  generalize hq : -(u.C 0 0) / u.den = q at h3
  have e : u.C 0 0 + -(u.C 0 0) % u.den = u.den * (-q) := by rw [Int.mul_neg]; omega
  rw [e, Int.mul_ediv_cancel_left _ (by omega)]
  symm
  rw [Int.ediv_eq_iff_of_pos (by omega)]
  have e2 : -q * u.den = u.den * -q := Int.mul_comm _ _
  rw [e2]
  generalize u.den * -q = P at e
  constructor <;> omega
def bdF (c : Tb → Int) (us : List Tb) : Int → Int := fun k => (us.map c).getD k.toNat 0
theorem bdF_snoc (c : Tb → Int) (us : List Tb) (u : Tb) {k : Int} (k0 : 0 ≤ k) (k1 : k < us.length + 1) : snoc (bdF c us) us.length (c u) k = bdF c (us ++ [u]) k := by
  unfold bdF
  rw [List.map_append]
  by_cases e : k < us.length
  · rw [snoc_lt e, List.getD_eq_getElem?_getD, List.getD_eq_getElem?_getD, List.getElem?_append_left (by rw [List.length_map]; omega)]
  · rw [snoc_at e, List.getD_eq_getElem?_getD, List.getElem?_append_right (by rw [List.length_map]; omega)]
    rw [List.length_map, show k.toNat - us.length = 0 by omega]; rfl
/-- What Bounds returns (c: how a value is rounded up). -/
def BoundsR (c : Tb → Int) (p : Lp) (most n : Int) (f : Int → Int) (e : Int) : Prop :=
  (¬ (0 ≤ most ∧ most ≤ 16) ∧ n = 0 ∧ e = 2) ∨
  (0 ≤ most ∧ most ≤ 16 ∧ e ≠ 0 ∧ n = 0 ∧ ∃ us t e', Rn p us t e' ∧ (us.length : Int) ≤ most ∧ ((e' = e ∧ e' ≠ 0) ∨ (e' = 0 ∧ ∃ u, OptR t u e)) ∧ ¬ (e' = 9 ∧ 0 < us.length ∧ p.m + us.length > 16)) ∨
  (0 ≤ most ∧ most ≤ 16 ∧ e = 0 ∧ ∃ us t u, Rn p us t 0 ∧ OptR t u 0 ∧ (us.length : Int) ≤ most ∧ (gfr u u.nb.toNat < 0 ∨ (us.length : Int) = most ∨ u.nb = 16) ∧ n = us.length + 1 ∧ ∀ k, 0 ≤ k → k < n → f k = bdF c (us ++ [u]) k)
/-- The same where a row too many was asked for. -/
theorem rn_limit {p : Lp} (hm : 0 ≤ p.m) {us : List Tb} {t : Tb} {e : Int} (h : Rn p us t e) (h0 : 0 < us.length) (hl : p.m + us.length > 16) : ∃ us' t' u, us = us' ++ [u] ∧ Rn p us' t' 0 ∧ OptR t' u 0 ∧ u.nb = 16 ∧ e = 9 := by
  cases h with
  | start => simp at h0
  | @cut us' t' u _ _ h ho hp hf ha =>
    rw [List.length_append, List.length_singleton] at hl
    have h1 := h.len rfl hm
    have h2 := ho.prp.2
    have h3 := hp.m2
    have hr := gfr_rng u u.nb.toNat
    rcases ha with ⟨a, _⟩ | ⟨_, a, _⟩ | ⟨_, _, _, a, _⟩ | ⟨_, _, _, _, a, _, b⟩ | ⟨_, _, _, _, a, _⟩
    · exact absurd hp a
    · exact absurd ⟨hf, by omega⟩ a
    · exact absurd a ((gfr_law u u.nb.toNat).2 hf).2
    · exact ⟨us', t', u, rfl, h, ho, by omega, b⟩
    · omega
theorem bdF_congr {p : Lp} (hm : 0 ≤ p.m) {us : List Tb} {t u : Tb} (h : Rn p us t 0) (ho : OptR t u 0) (k : Int) : bdF cvP (us ++ [u]) k = bdF cvR (us ++ [u]) k := by
  have key : ∀ {us : List Tb} {t : Tb} {e : Int}, Rn p us t e → ∀ x ∈ us, cvP x = cvR x := fun h => by
    induction h with
    | start => intro x hx; cases hx
    | @cut us0 t0 u0 _ _ h ho hp hf ha ih =>
      intro x hx
      rcases List.mem_append.1 hx with hx | hx
      · exact ih x hx
      · obtain rfl := List.mem_singleton.1 hx
        exact cv_eq hp.d1 (gval_nn hm h ho (by have := h.len rfl hm; have := ho.prp.2; omega))
  have e : (us ++ [u]).map cvP = (us ++ [u]).map cvR := List.map_congr_left fun x hx => by
    rcases List.mem_append.1 hx with hx | hx
    · exact key h x hx
    · obtain rfl := List.mem_singleton.1 hx
      exact cv_eq ho.prp.1.d1 (gval_nn hm h ho (by have := h.len rfl hm; have := ho.prp.2; omega))
  unfold bdF
  rw [e]
/-- Two runs that end, or are broken off behind the same number of cuts. -/
theorem Rn.same2 {p : Lp} (hm : 0 ≤ p.m) {most : Int} {us us' : List Tb} {t t' : Tb} {e e' : Int} (h : Rn p us t e) (h' : Rn p us' t' e') (hl : (us.length : Int) ≤ most) (hl' : (us'.length : Int) ≤ most)
    (hE : RnEnd t e ∨ (e = 0 ∧ ∃ u, OptR t u 0 ∧ ((us.length : Int) = most ∨ u.nb = 16))) (hE' : RnEnd t' e' ∨ (e' = 0 ∧ ∃ u, OptR t' u 0 ∧ ((us'.length : Int) = most ∨ u.nb = 16)))
    (hx : ¬ (e = 9 ∧ 0 < us.length ∧ p.m + us.length > 16)) (hx' : ¬ (e' = 9 ∧ 0 < us'.length ∧ p.m + us'.length > 16)) : us = us' ∧ t = t' ∧ e = e' := by
  have go : ∀ {us us' : List Tb} {t t' : Tb} {e e' : Int}, Rn p us t e → Rn p us' t' e' → (us'.length : Int) ≤ most → (RnEnd t e ∨ (e = 0 ∧ ∃ u, OptR t u 0 ∧ ((us.length : Int) = most ∨ u.nb = 16))) →
      ¬ (e' = 9 ∧ 0 < us'.length ∧ p.m + us'.length > 16) → ¬ us.length < us'.length := fun {us us' t t' e e'} h h' hl' hE hx' hlt => by
    obtain ⟨us0, t0, u0, h1, h2, h3, h4⟩ := h'.part _ hlt
    obtain ⟨rfl, rfl, rfl⟩ := h.eqlen h2 h1.symm
    rcases hE with hE | ⟨_, u, ho, hb | hb⟩
    · exact hE.no rfl h3 h4
    · omega
    · obtain ⟨rfl, _⟩ := OptR.same ho h3
      have l1 := h.len rfl hm
      have l2 := ho.prp.2
      obtain ⟨_, _, _, _, _, _, _, l3⟩ := rn_limit hm h' (by omega) (by omega)
      exact hx' ⟨l3, by omega, by omega⟩
  have n1 := go h h' hl' hE hx'
  have n2 := go h' h hl hE' hx
  exact h.eqlen h' (by omega)
theorem BoundsR.same {p : Lp} (hm : 0 ≤ p.m) {most n n' e e' : Int} {f f' : Int → Int} (h : BoundsR cvP p most n f e) (h' : BoundsR cvR p most n' f' e') : n = n' ∧ (∀ j, 0 ≤ j → j < n → f j = f' j) ∧ e = e' := by
  have hz : ∀ {us : List Tb}, ¬ ((0 : Int) = 9 ∧ 0 < us.length ∧ p.m + us.length > 16) := fun h => by omega
  have endE : ∀ {us : List Tb} {t : Tb} {e e0 : Int}, ((e0 = e ∧ e0 ≠ 0) ∨ (e0 = 0 ∧ ∃ u, OptR t u e)) → e ≠ 0 → RnEnd t e0 := fun h he => by
    rcases h with ⟨_, h⟩ | ⟨h, u, ho⟩
    · exact .inl h
    · exact .inr (.inl ⟨u, _, ho, he⟩)
  have endU : ∀ {us : List Tb} {t u : Tb}, OptR t u 0 → (gfr u u.nb.toNat < 0 ∨ (us.length : Int) = most ∨ u.nb = 16) → (RnEnd t 0 ∨ ((0 : Int) = 0 ∧ ∃ u, OptR t u 0 ∧ ((us.length : Int) = most ∨ u.nb = 16))) := fun {us t u} ho h => by
    rcases h with h | h
    · exact .inl (.inr (.inr ⟨u, ho, h⟩))
    · exact .inr ⟨rfl, u, ho, h⟩
  rcases h with ⟨h1, h2, h3⟩ | ⟨h1, h2, he, h3, us, t, e0, hr, hl, hc, hx⟩ | ⟨h1, h2, he, us, t, u, hr, ho, hl, hb, h3, h4⟩ <;> rcases h' with ⟨g1, g2, g3⟩ | ⟨g1, g2, ge, g3, us', t', e1, gr, gl, gc, gx⟩ | ⟨g1, g2, ge, us', t', u', gr, go, gl, gb, g3, g4⟩
  · exact ⟨by omega, fun j j0 j1 => by omega, by omega⟩
  · exact absurd ⟨g1, g2⟩ h1
  · exact absurd ⟨g1, g2⟩ h1
  · exact absurd ⟨h1, h2⟩ g1
  · obtain ⟨rfl, rfl, rfl⟩ := hr.same2 hm gr hl gl (.inl (endE (us := us) hc he)) (.inl (endE (us := us) gc ge)) hx gx
    refine ⟨by omega, fun j j0 j1 => by omega, ?_⟩
    rcases hc with ⟨a, b⟩ | ⟨a, u1, b⟩ <;> rcases gc with ⟨c, d⟩ | ⟨c, u2, d⟩
    · omega
    · omega
    · omega
    · exact (OptR.same b d).2
  · obtain ⟨rfl, rfl, rfl⟩ := hr.same2 hm gr hl gl (.inl (endE (us := us) hc he)) (endU go gb) hx hz
    rcases hc with ⟨a, b⟩ | ⟨a, u1, b⟩
    · exact absurd rfl b
    · exact absurd (OptR.same go b).2.symm he
  · exact absurd ⟨h1, h2⟩ g1
  · obtain ⟨rfl, rfl, rfl⟩ := hr.same2 hm gr hl gl (endU ho hb) (.inl (endE (us := us) gc ge)) hz gx
    rcases gc with ⟨a, b⟩ | ⟨a, u1, b⟩
    · exact absurd rfl b
    · exact absurd (OptR.same ho b).2.symm ge
  · obtain ⟨rfl, rfl, _⟩ := hr.same2 hm gr hl gl (endU ho hb) (endU go gb) hz hz
    obtain ⟨rfl, _⟩ := OptR.same ho go
    exact ⟨by omega, fun j j0 j1 => by rw [h4 j j0 j1, g4 j j0 (by omega)]; exact bdF_congr hm hr ho j, by omega⟩

set_option maxRecDepth 20000 in
theorem c_rgsolve {vc vA vb : Value} {vq : Int → Value} {p : Lp} (w0 : World) (hL : LAt w0 vc vA vb vq p) :
    Calls Try.prog 30 [.agg #[vc, vA, vb]].toArray w0 fun e w => ∃ v, e = .returned v ∧ ∃ r n f val cuts e, v = .tuple #[r, .int .i64 val, .int .i64 cuts, .int .i64 e] ∧ RGSolveR p n f val cuts e ∧ Slh r n ∧ Sat w0 w [.own r 1 3 n (ints f)] := by
  have hn := hL.c.slh.n0; have hn1 := hL.c.slh.n1; have hm := hL.A.row.slh.n0; have hm1 := hL.A.row.slh.n1; have hk := hL.b.slh.n0; have hk1 := hL.b.slh.n1
  refine zenG Try.func30 Try.ntmps30 fun w hS => ?_
  refine zsq <| zrg ?_
  refine zla (xbx (cs := [_, _, _]) hS) ?_; rintro _ w ⟨g1, rfl, hS⟩
  replace hS : Sat w0 w [.blk _ [_, _, _]] := hS
  iterate 4 refine zlv xas ?_
  refine zln <| ztn <| zsq <| zrg ?_
  refine zlv (xls 0 st_44 hS) ?_
  refine zlc (xc0 cl_73) (c_rstart (p := p) w (hL.below hS.below)) ?_; rintro _ w ⟨vBk1, vFk1, vCk1, vvk1, tk1, ek1, rfl, hstk1, hsBk1, hsFk1, hsCk1, hS'⟩
  replace hS : Sat w0 w [.blk g1 [vc, vA, vb], .own vBk1 1 3 tk1.nb (ints tk1.B), .own vFk1 1 3 tk1.nf (ints tk1.F), .own vCk1 1 22 tk1.nc vvk1, .sem (Frame.rows 3 tk1.nc vvk1 tk1.ln tk1.C)] := hS.comp hS'; clear hS'
  have hrsk1 := fun k (k0 : 0 ≤ k) (k1 : k < tk1.nc) => hS.slhIn 4 rfl k0 k1
  refine zlv xmv ?_
  iterate 2 refine zlv xex ?_
  refine zla (xal (cs := [_, _, _, _, _]) el_25 hS) ?_; rintro _ w ⟨g2, rfl, hS⟩
  replace hS : Sat w0 w [.blk _ [_, _, _], _, _, _, _, .blk _ [_, _, _, _, _]] := hS
  refine zle (xsw 5 st_25 hS (hd := (ones_cons rfl (ones_cons rfl (ones_cons hsBk1.one (ones_cons hsFk1.one (ones_cons hsCk1.one ones_nil))))))) ?_; clear hS; rintro w hS
  replace hS : Sat w0 w [.blk _ [_, _, _], _, _, _, _, .blk _ [_, _, _, _, _]] := hS
  refine zlv xas ?_
  refine zln <| ztn <| zsq <| zrg ?_
  refine zlv xas ?_
  refine zln <| ztn <| zbk <| zlp (fun mm M w => ∃ (us : List Tb) (t : Tb) (vB : Value) (vF : Value) (vC : Value) (vv : Int → Value) (e : Int) (cu : Int), mm = (if e = 0 then (20 - t.nb).toNat else 0) ∧ (Rn p us t e) ∧ (Slh vB t.nb) ∧ (Slh vF t.nf) ∧ (Slh vC t.nc) ∧ (cu = us.length) ∧ (us.length ≤ 100 ∨ e ≠ 0) ∧ M = [(6, .pointer (some ⟨g2, 0, none⟩)), (7, .int .i64 e), (8, .int .i64 cu)] ∧ Sat w0 w [.blk g1 [vc, vA, vb], .blk g2 [.int .i64 t.vars, .int .i64 t.den, vB, vF, vC], .own vB 1 3 t.nb (ints t.B), .own vF 1 3 t.nf (ints t.F), .own vC 1 22 t.nc vv, .sem (Frame.rows 3 t.nc vv t.ln t.C)]) ⟨[], tk1, vBk1, vFk1, vCk1, vvk1, ek1, 0, rfl, ?_, ?_, ?_, ?_, ?_, ?_, rfl, hS.pk [0, 5, 1, 2, 3, 4]⟩ ?_
  ·
   exact .start hstk1
  ·
   exact hsBk1
  ·
   exact hsFk1
  ·
   exact hsCk1
  ·
   rfl
  ·
   left; simp
  ·
   clear hS w
   rintro mm M w ⟨us, t, vB, vF, vC, vv, e, cu, rfl, hRn, hsB, hsF, hsC, hnn, hul, rfl, hS⟩
   have hrs := fun k (k0 : 0 ≤ k) (k1 : k < t.nc) => hS.slhIn 5 rfl k0 k1
   refine zsq <| zbk <| zsq <| zsq <| zrg ?_
   refine zlv xmv ?_
   refine zlv xeql ?_
   refine zln <| ztn ?_
   refine zcif ?_ ?_ <;> intro hc
   ·
    refine zrg ?_
    refine zlv (xls 1 st_25 hS) ?_
    refine zlc (xc0 cl_74) (c_rOptimize (t := t) w (⟨(hS.rowN 2 rfl), (hS.rowN 3 rfl), (⟨(hS.rowN 4 rfl), fun k k0 k1 => hS.rowIn 5 rfl k0 k1, fun k k0 k1 => hS.roomIn 5 rfl k0 k1⟩ : MAt _ vC t.nc vv t.ln t.C)⟩ : TAt _ vB vF vC vv t)) ?_; rintro _ w ⟨vBk2, vFk2, vCk2, vvk2, tk2, ek2, rfl, hopk2, hsBk2, hsFk2, hsCk2, hS'⟩
    replace hS : Sat w0 w [.blk g1 [vc, vA, vb], .blk g2 [.int .i64 t.vars, .int .i64 t.den, vB, vF, vC], .own vB 1 3 t.nb (ints t.B), .own vF 1 3 t.nf (ints t.F), .own vC 1 22 t.nc vv, .sem (Frame.rows 3 t.nc vv t.ln t.C), .own vBk2 1 3 tk2.nb (ints tk2.B), .own vFk2 1 3 tk2.nf (ints tk2.F), .own vCk2 1 22 tk2.nc vvk2, .sem (Frame.rows 3 tk2.nc vvk2 tk2.ln tk2.C)] := hS.comp hS'; clear hS'
    have hrsk2 := fun k (k0 : 0 ≤ k) (k1 : k < tk2.nc) => hS.slhIn 9 rfl k0 k1
    refine zlv xmv ?_
    iterate 2 refine zlv xex ?_
    refine zle (xsw 1 st_25 hS (hd := (ones_cons rfl (ones_cons rfl (ones_cons hsBk2.one (ones_cons hsFk2.one (ones_cons hsCk2.one ones_nil))))))) ?_; clear hS; rintro w hS
    replace hS : Sat w0 w [.blk _ [_, _, _], .blk _ [_, _, _, _, _], _, _, _, _, _, _, _, _] := hS
    refine zlv xas ?_
    refine zln <| ztn <| zsq <| zsq <| zrg ?_
    refine zlv xmv ?_
    refine zlv xneq ?_
    refine zln <| ztn ?_
    refine zcif ?_ ?_ <;> intro hc
    ·
     refine zsq <| zrg ?_
     refine zlv xmv ?_
     iterate 4 refine zlv xas ?_
     refine zln <| ztn <| zrt <| ztr <| zbr <| ztr <| ztr <| zbr <| zf4 ⟨_, rfl, ?_⟩
     obtain rfl : e = 0 := by omega
     exact ⟨_, 0, fun _ => 0, 0, 0, _, rfl, .inl ⟨by omega, rfl, rfl, rfl, _, _, _, hRn, .inr ⟨rfl, _, hopk2⟩⟩, slh_nil, (hS.addnil 1 3 (ints fun _ => 0)).sub (.cons _ (.cons _ (.cons _ (.cons _ (.cons _ (.cons _ (.cons _ (.cons _ (.cons _ (.cons _ (.cons_cons _ .slnil)))))))))))⟩
    ·
     refine zsk <| ztn <| zsq <| zrg ?_
     refine zlv (xls 1 st_25 hS) ?_
     refine zlc (xc0 cl_17) (c_rfrac (t := tk2) w (⟨(hS.rowN 6 rfl), (hS.rowN 7 rfl), (⟨(hS.rowN 8 rfl), fun k k0 k1 => hS.rowIn 9 rfl k0 k1, fun k k0 k1 => hS.roomIn 9 rfl k0 k1⟩ : MAt _ vCk2 tk2.nc vvk2 tk2.ln tk2.C)⟩ : TAt _ vBk2 vFk2 vCk2 vvk2 tk2)) ?_; rintro _ w ⟨rf1, okf1, ef1, rfl, hfrf1, hS'⟩
     replace hS := hS.cmp hS'; clear hS'
     refine zlv xmv ?_
     iterate 3 refine zlv xex ?_
     iterate 3 refine zlv xas ?_
     refine zln <| ztn <| zsq <| zsq <| zrg ?_
     refine zlv xmv ?_
     obtain rfl : e = 0 := by omega
     have hop0 : OptR t tk2 0 := by have := hopk2; rwa [show ek2 = 0 by omega] at this
     have hpu := hop0.prp
     have hp := hpu.1
     have b1 := hp.n1
     have b2 := hp.n2
     have b3 := hp.m2
     have b4 := hp.v
     have b5 := hp.d1
     have b6 := hp.d2
     have b7 := hp.c
     obtain ⟨_, hfr1, hfr2, hfr3⟩ : TPrp tk2 ∧ rf1 = max (gfr tk2 tk2.nb.toNat) 0 ∧ (okf1 ↔ 0 ≤ gfr tk2 tk2.nb.toNat) ∧ ef1 = 0 := hfrf1.resolve_left (fun h => h.1 hpu.1)
     have hrr := hfrf1.rng
     have hbn := hpu.1.m2
     have hkn := hsBk2.n0
     refine zlv xnot ?_
     refine zln <| ztn ?_
     refine zcif ?_ ?_ <;> intro hc
     ·
      refine zsq <| zrg ?_
      refine zlv (xls 1 st_25 hS) ?_
      refine zlc (xc0 cl_75) (c_read (t := tk2) w (⟨(hS.rowN 6 rfl), (hS.rowN 7 rfl), (⟨(hS.rowN 8 rfl), fun k k0 k1 => hS.rowIn 9 rfl k0 k1, fun k k0 k1 => hS.roomIn 9 rfl k0 k1⟩ : MAt _ vCk2 tk2.nc vvk2 tk2.ln tk2.C)⟩ : TAt _ vBk2 vFk2 vCk2 vvk2 tk2) hp) ?_; rintro _ w ⟨rXr1, rYr1, rfl, hrXr1, hrYr1, hS'⟩
      replace hS : Sat w0 w [.blk g1 [vc, vA, vb], .blk g2 [.int .i64 tk2.vars, .int .i64 tk2.den, vBk2, vFk2, vCk2], .own vB 1 3 t.nb (ints t.B), .own vF 1 3 t.nf (ints t.F), .own vC 1 22 t.nc vv, .sem (Frame.rows 3 t.nc vv t.ln t.C), .own vBk2 1 3 tk2.nb (ints tk2.B), .own vFk2 1 3 tk2.nf (ints tk2.F), .own vCk2 1 22 tk2.nc vvk2, .sem (Frame.rows 3 tk2.nc vvk2 tk2.ln tk2.C), .own rXr1 1 3 tk2.nf (ints (rdX tk2 tk2.nb.toNat)), .own rYr1 1 3 tk2.nb (ints (rdY tk2 tk2.nf.toNat))] := hS.comp hS'; clear hS'
      refine zla (xal (cs := [_, _, _, _]) el_72 hS) ?_; rintro _ w ⟨g3, rfl, hS⟩
      replace hS : Sat w0 w [.blk _ [_, _, _], .blk _ [_, _, _, _, _], _, _, _, _, _, _, _, _, _, _, .blk _ [_, _, _, _]] := hS
      refine zle (xsw 12 st_72 hS (hd := (ones_cons hrXr1.one (ones_cons hrYr1.one (ones_cons rfl (ones_cons rfl ones_nil)))))) ?_; clear hS; rintro w hS
      replace hS : Sat w0 w [.blk _ [_, _, _], .blk _ [_, _, _, _, _], _, _, _, _, _, _, _, _, _, _, .blk _ [_, _, _, _]] := hS
      refine zln <| ztn <| zsq <| zrg ?_
      refine zlv xas ?_
      refine zln <| ztn <| zsq <| zsq <| zrg ?_
      refine zlv xas ?_
      refine zln <| ztn <| zbk ?_
      replace hS := hS.addnil 1 3 (ints (fun _ => 0))
      replace hS : Sat w0 w [.blk _ [_, _, _], .blk _ [_, _, _, _, _], _, _, _, _, _, _, _, _, _, _, .blk _ [_, _, _, _], _] := hS
      refine zlp (fun mm M w => ∃ (m : Int) (i : Int) (vx : Value) (g : Int → Int), mm = ((tk2.nf - i).toNat) ∧ (0 ≤ i) ∧ (i ≤ tk2.nf) ∧ (m = i) ∧ (∀ j, 0 ≤ j → j < m → g j = (rdX tk2 tk2.nb.toNat j).tdiv tk2.den) ∧ (Slh vx m) ∧ M = [(6, .pointer (some ⟨g2, 0, none⟩)), (7, .int .i64 ek2), (8, .int .i64 cu), (9, .int .i64 rf1), (12, .pointer (some ⟨g3, 0, none⟩)), (13, vx), (14, .int .i64 i)] ∧ Sat w0 w [.blk g1 [vc, vA, vb], .blk g2 [.int .i64 tk2.vars, .int .i64 tk2.den, vBk2, vFk2, vCk2], .own vB 1 3 t.nb (ints t.B), .own vF 1 3 t.nf (ints t.F), .own vC 1 22 t.nc vv, .sem (Frame.rows 3 t.nc vv t.ln t.C), .own vBk2 1 3 tk2.nb (ints tk2.B), .own vFk2 1 3 tk2.nf (ints tk2.F), .own vCk2 1 22 tk2.nc vvk2, .sem (Frame.rows 3 tk2.nc vvk2 tk2.ln tk2.C), .own rXr1 1 3 tk2.nf (ints (rdX tk2 tk2.nb.toNat)), .own rYr1 1 3 tk2.nb (ints (rdY tk2 tk2.nf.toNat)), .blk g3 [rXr1, rYr1, .int .i64 (tk2.C 0 0), .int .i64 tk2.den], .own vx 1 3 m (ints g)]) ⟨0, 0, (.slice none 0 0), (fun _ => 0), rfl, (by omega), (by omega), (by omega), ?_, ?_, rfl, hS⟩ ?_
      ·
       intro j j0 j1; omega
      ·
       exact slh_nil
      ·
       clear hS w
       rintro mm M w ⟨m, i, vx, g, rfl, h0, h1, hmi, hg, hvx, rfl, hS⟩
       refine zsq <| zsq <| zrg ?_
       refine zlv xmv ?_
       refine zlv (xfb 0 fd_72_0) ?_
       refine zlv (xlb 12 pl_22 hS) ?_
       refine zlv (xln sl_22 hrXr1) ?_
       refine zlv xlss ?_
       refine zln <| ztn ?_
       refine zcif ?_ ?_ <;> intro hc
       ·
        refine zsk <| ztn <| zsq <| zbk ?_
        refine zdst [0, 1, 10, 12] [0, 1, 10, 12] 1000 mx_ hS ?_; clear hS; intro w hS
        refine zdv 0 (fun _ => xmv) ?_
        have hqr := rdX_rng hp i tk2.nb.toNat (by omega)
        have hqd := tdiv_abs (a := rdX tk2 tk2.nb.toNat i) (d := tk2.den) (A := 1073741824) (by omega) hqr
        refine zdv 1 (fun _ => (xfb 0 fd_72_0)) ?_
        refine zdla 2 (fun w hS => (xlb 3 pl_22 hS)) ?_
        refine zdv 3 (fun _ => xmv) ?_
        refine zdv 4 (fun _ => (xix (kk := i) sl_22 hrXr1)) ?_
        refine zdla 5 (fun w hS => (xlr (u := .int .i64 (rdX tk2 tk2.nb.toNat i)) pl_3 (hS.rowN 2 rfl))) ?_
        refine zdv 6 (fun _ => (xfb 3 fd_72_3)) ?_
        refine zdla 7 (fun w hS => (xlb 3 pl_3 hS)) ?_
        refine zdv 8 (fun _ => (xquo (r := (Int.tdiv (rdX tk2 tk2.nb.toNat i) tk2.den)))) ?_
        refine zda 9 (xli (n := 1) (len := 1) (pv := [(0, .int .i64 (Int.tdiv (rdX tk2 tk2.nb.toNat i) tk2.den))]) (cs := [.int .i64 (Int.tdiv (rdX tk2 tk2.nb.toNat i) tk2.den)]) (c := ints (fun _ => (Int.tdiv (rdX tk2 tk2.nb.toNat i) tk2.den))) sl_22 el_3 hS) ?_; rintro v1 w ⟨hS, hv1⟩
        replace hS : Sat w0 w [.blk _ [_, _, _], .blk _ [_, _, _, _, _], _, _, _, _, _, _, _, _, _, _, .blk _ [_, _, _, _], _, _] := hS
        refine ⟨⟨fun _ => hS.pk [0, 1, 10, 12], hS.pk [0, 1, 10, 12]⟩, ?_⟩
        refine zda 10 (xap 13 (r := m + 1) sl_22 el_3 hS (hS.rowN 14 rfl) (cat_snoc _ _ _)) ?_; rintro v2 w ⟨hS, hv2⟩
        replace hS : Sat w0 w [.blk _ [_, _, _], .blk _ [_, _, _, _, _], _, _, _, _, _, _, _, _, _, _, .blk _ [_, _, _, _], _, _] := hS
        refine ⟨⟨fun _ => hS.pk [0, 1, 10, 12], hS.pk [0, 1, 10, 12]⟩, ?_⟩
        refine zdv 11 (fun _ => xas) ?_
        refine zdd <| zbn <| ztn <| zrg ?_
        refine zlv xmv ?_
        refine zlv (xadd (r := i + 1)) ?_
        refine zlv xas ?_
        refine zln <| zlq ⟨m + 1, i + 1, v2, (snoc g m (Int.tdiv (rdX tk2 tk2.nb.toNat i) tk2.den)), rfl, (by omega), (by omega), (by omega), ?_, ?_, rfl, hS.pk [0, 1, 2, 3, 4, 5, 6, 7, 8, 9, 10, 11, 12, 13]⟩
        ·
         intro j j0 j1; by_cases e : j < m
         · rw [snoc_lt e]; exact hg j j0 e
         · rw [snoc_at e, show j = i by omega]
        ·
         exact hv2
       ·
        refine zxt <| ztx <| ztx <| zbh <| ztn <| zsq ?_
        refine zdst [0, 1, 2, 3, 4, 5, 6, 7, 8, 9, 10, 11, 12, 13] [0, 1, 2, 3, 4, 5, 6, 7, 8, 9, 10, 11, 12, 13] 1000 mx_ hS ?_; clear hS; intro w hS
        refine zdv 0 (fun _ => xmv) ?_
        have hcx := hp.cell (i := 0) (j := 0) (by omega) (by omega) (by omega) (by omega)
        have hqd := tdiv_abs (a := tk2.C 0 0) (d := tk2.den) (A := 1073741824) (by omega) hcx
        refine zdv 1 (fun _ => (xfb 2 fd_72_2)) ?_
        refine zdla 2 (fun w hS => (xlb 12 pl_3 hS)) ?_
        refine zdv 3 (fun _ => (xfb 3 fd_72_3)) ?_
        refine zdla 4 (fun w hS => (xlb 12 pl_3 hS)) ?_
        refine zdv 5 (fun _ => (xquo (r := (Int.tdiv (tk2.C 0 0) tk2.den)))) ?_
        refine zdv 6 (fun _ => xmv) ?_
        refine zdv 7 (fun _ => xas) ?_
        refine zdv 8 (fun _ => xas) ?_
        refine zdv 9 (fun _ => xas) ?_
        refine zdv 10 (fun _ => xas) ?_
        refine zdd <| ztn <| zrt <| ztr <| zbr <| ztr <| ztr <| zbr <| zf4 ⟨_, rfl, ?_⟩
        exact ⟨_, m, g, _, _, 0, rfl, .inr ⟨rfl, _, _, _, hRn, hop0, by have := gfr_rng tk2 tk2.nb.toNat; by_cases hz9 : 0 ≤ gfr tk2 tk2.nb.toNat; exact absurd (hfr2.2 hz9) (by assumption); omega, hnn, by omega, hg, rfl⟩, hvx, hS.pk [13]⟩
     ·
      refine zsk <| ztn <| zrg ?_
      refine zlv (xls 1 st_25 hS) ?_
      refine zlv xmv ?_
      refine zlc (xc0 cl_21) (c_radd (t := tk2) (row := rf1) w (⟨(hS.rowN 6 rfl), (hS.rowN 7 rfl), (⟨(hS.rowN 8 rfl), fun k k0 k1 => hS.rowIn 9 rfl k0 k1, fun k k0 k1 => hS.roomIn 9 rfl k0 k1⟩ : MAt _ vCk2 tk2.nc vvk2 tk2.ln tk2.C)⟩ : TAt _ vBk2 vFk2 vCk2 vvk2 tk2) (by omega)) ?_; rintro _ w ⟨vBk3, vFk3, vCk3, vvk3, tk3, ek3, rfl, hadk3, hsBk3, hsFk3, hsCk3, hS'⟩
      replace hS : Sat w0 w [.blk g1 [vc, vA, vb], .blk g2 [.int .i64 tk2.vars, .int .i64 tk2.den, vBk2, vFk2, vCk2], .own vB 1 3 t.nb (ints t.B), .own vF 1 3 t.nf (ints t.F), .own vC 1 22 t.nc vv, .sem (Frame.rows 3 t.nc vv t.ln t.C), .own vBk2 1 3 tk2.nb (ints tk2.B), .own vFk2 1 3 tk2.nf (ints tk2.F), .own vCk2 1 22 tk2.nc vvk2, .sem (Frame.rows 3 tk2.nc vvk2 tk2.ln tk2.C), .own vBk3 1 3 tk3.nb (ints tk3.B), .own vFk3 1 3 tk3.nf (ints tk3.F), .own vCk3 1 22 tk3.nc vvk3, .sem (Frame.rows 3 tk3.nc vvk3 tk3.ln tk3.C)] := hS.comp hS'; clear hS'
      have hrsk3 := fun k (k0 : 0 ≤ k) (k1 : k < tk3.nc) => hS.slhIn 13 rfl k0 k1
      refine zlv xmv ?_
      iterate 2 refine zlv xex ?_
      refine zle (xsw 1 st_25 hS (hd := (ones_cons rfl (ones_cons rfl (ones_cons hsBk3.one (ones_cons hsFk3.one (ones_cons hsCk3.one ones_nil))))))) ?_; clear hS; rintro w hS
      replace hS : Sat w0 w [.blk _ [_, _, _], .blk _ [_, _, _, _, _], _, _, _, _, _, _, _, _, _, _, _, _] := hS
      refine zlv xas ?_
      refine zln <| zbn <| ztn <| zrg ?_
      refine zlv xmv ?_
      refine zlv (xadd (r := cu + 1)) ?_
      refine zlv xas ?_
      refine zln <| zlq ⟨us ++ [tk2], tk3, vBk3, vFk3, vCk3, vvk3, ek3, cu + 1, rfl, ?_, ?_, ?_, ?_, ?_, ?_, rfl, hS.pk [0, 1, 10, 11, 12, 13]⟩ (hlt := (by rw [if_pos rfl]; have hd1 := hpu.2; have hd2 := hpu.1.m2; split <;> rename_i hz; (have hq := hadk3.nb hz; omega); omega))
      ·
       exact .cut hRn hop0 hpu.1 (hfr2.1 (by first | assumption | exact Classical.not_not.1 ‹_›)) (by have hq := hadk3; rwa [show rf1 = gfr tk2 tk2.nb.toNat by have := hfr2.1 (by first | assumption | exact Classical.not_not.1 ‹_›); omega] at hq)
      ·
       exact hsBk3
      ·
       exact hsFk3
      ·
       exact hsCk3
      ·
       rw [List.length_append]; simp; omega
      ·
       have hq9 := hRn.len rfl hm; left; rw [List.length_append]; simp; omega
   ·
    refine zsk <| ztn <| zsq <| zsq <| zrg ?_
    refine zlv xmv ?_
    refine zlv xneq ?_
    refine zln <| ztn ?_
    refine zcif ?_ ?_ <;> intro hc
    ·
     refine zsq <| zrg ?_
     refine zlv xmv ?_
     iterate 4 refine zlv xas ?_
     refine zln <| ztn <| zrt <| ztr <| zbr <| ztr <| ztr <| zbr <| zf4 ⟨_, rfl, ?_⟩
     exact ⟨_, 0, fun _ => 0, 0, 0, _, rfl, .inl ⟨by omega, rfl, rfl, rfl, _, _, _, hRn, .inl ⟨rfl, by omega⟩⟩, slh_nil, (hS.addnil 1 3 (ints fun _ => 0)).sub (.cons _ (.cons _ (.cons _ (.cons _ (.cons _ (.cons _ (.cons_cons _ .slnil)))))))⟩
    ·
     exfalso; omega

end Go.Proofs.Ytelfplepnodbgaa
