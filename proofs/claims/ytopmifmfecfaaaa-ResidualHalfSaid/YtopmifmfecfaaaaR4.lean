/- The walk of firstFit. -/
import Derived.Test.YtopmifmfecfaaaaGv
import Derived.Test.YtopmifmfecfaaaaR3
namespace Go.Proofs.Ytopmifmfecfaaaa
open Go Go.RowKit Go.Proofs.Gw
set_option linter.unusedVariables false

theorem cl_77 : calledT Try.prog 77 = true := by kernel_rfl
theorem cl_78 : calledT Try.prog 78 = true := by kernel_rfl
theorem cl_80 : calledT Try.prog 80 = true := by kernel_rfl
theorem cl_95 : calledT Try.prog 95 = true := by kernel_rfl
theorem el_22 : elemT Try.prog 22 = some (.slice none 0 0, 1, 24) := by kernel_rfl
theorem el_32 : elemT Try.prog 32 = some (.slice none 0 0, 1, 24) := by kernel_rfl
theorem pl_32 : plainT Try.prog 32 = true := by kernel_rfl
theorem sl_32 : sliceT Try.prog 32 = some (22, 1) := by kernel_rfl
set_option maxHeartbeats 4000000 in
set_option maxRecDepth 20000 in
theorem c_firstfit {vL vD : Value} {p : Prob} (w0 : World) (h : PAt w0 vL vD p) (hok : p.Ok) (htot : psum (fun _ => 1) p.D p.m.toNat ≤ 1000) :
    Calls Try.prog 45 [.agg #[vL, vD, .int .i64 p.stock, .int .i64 p.kerf]].toArray w0 fun e w => ∃ v, e = .returned v ∧ ∃ r n2 pv2 ln2 pt2 cnt2, v = r ∧ NormR (ones (ffRun p.m (p.stock + p.kerf) (szP p) (pcsTo p.D p.m 0))) (plL n2 ln2 pt2 cnt2) ∧ 0 ≤ n2 ∧ n2 ≤ 1000 ∧ (∀ k, 0 ≤ k → k < n2 → 1 ≤ cnt2 k ∧ cnt2 k ≤ 1000000) ∧ Slh r n2 ∧ Sat w0 w [.own r 2 50 n2 (ucells pv2 cnt2), .sem (Frame.rows 3 n2 pv2 ln2 pt2)] := by
  have hm := h.L.slh.n0; have hm1 := h.L.slh.n1; have hd := h.D.slh.n0; have hd1 := h.D.slh.n1; have hs := h.is; have hk := h.ik
  have hpd := hok.d; have hpm2 := hok.m2; have hpm1 := hok.m1; have hs1 := hok.s1; have hs2 := hok.s2; have hk1 := hok.k1; have hk2 := hok.k2
  refine henM Try.func45 Try.ntmps45 fun w hS => ?_
  refine hsq <| hrz ?_
  refine zla (xbx (cs := [_, _, _, _]) hS) ?_; rintro _ w ⟨g1, rfl, hS⟩
  replace hS := hS.n1
  refine zlv xas ?_
  refine zln <| zh <| htn <| hsq <| hrz ?_
  refine zla (xal (cs := [_]) el_32 hS) ?_; rintro _ w ⟨g2, rfl, hS⟩
  replace hS := hS.n2
  refine zln <| zh <| htn <| hsq <| hrz ?_
  refine zla (xal (cs := [_]) el_22 hS) ?_; rintro _ w ⟨g3, rfl, hS⟩
  replace hS := hS.n3
  refine zln <| zh <| htn <| hsq <| hsq <| hrz ?_
  refine zlv (xls 0 st_39 hS) ?_
  refine zlc (xc0 cl_77) (c_pieces (p := p) w (h.below hS.below)) ?_; rintro _ w ⟨g4, rfl, hS'⟩
  replace hS : Sat w0 w [.blk g1 [vL, vD, .int .i64 p.stock, .int .i64 p.kerf], .blk g2 [.slice none 0 0], .blk g3 [.slice none 0 0], .blk g4 [vL, vD, .int .i64 p.stock, .int .i64 p.kerf]] := hS.comp hS'; clear hS'
  refine zln <| zh <| htn <| hbk ?_
  replace hS := hS.addnil 1 22 (fun _ => Value.slice none 0 0)
  replace hS := hS.n5
  replace hS := hS.addrows 3 (fun _ => Value.slice none 0 0) (fun _ => p.m) (fun _ _ => 0)
  replace hS := hS.n6
  replace hS := hS.addnil 1 3 (ints (fun _ => 0))
  replace hS := hS.n7
  refine hrf (St := FSt) (X := Int) (Tt := Unit) (fun s => [.blk g1 [vL, vD, .int .i64 p.stock, .int .i64 p.kerf], .blk g2 [s.vB], .blk g3 [s.vL], .own s.vB 1 22 s.n s.vv, .sem (Frame.rows 3 s.n s.vv (fun _ => p.m) s.P), .own s.vL 1 3 s.n (ints s.L)]) (fun t => []) (fun _ => .ret) FSt.zer (fun x M es => M = [(0, .agg #[vL, vD, .int .i64 p.stock, .int .i64 p.kerf]), (1, .pointer (some ⟨g1, 0, none⟩)), (2, .slice none 0 0), (3, .pointer (some ⟨g2, 0, none⟩)), (4, .pointer (some ⟨g3, 0, none⟩)), (11, .agg #[vL, vD, .int .i64 p.stock, .int .i64 p.kerf]), (12, .func (.func 95) #[] #[.pointer (some ⟨g4, 0, none⟩)]), (13, .int .i64 x), (5, .int .i64 x)] ∧ es = []) (c_pieces1 (gp := g4) (fun s => s.h) (FInv p) FSt.zer rfl (FInv.zer p) w0 h hok) (hS.pk [0, 1, 2, 4, 5, 6, 3]) cl_95 (fun _ => rfl) (fun _ => .inl rfl) ?_ ?_ ?_ ?_
  ·
   intro l s x rest w hpre rest1 hrr hS
   replace hS := hS.n8
   refine hrz ?_
   refine zlv xas ?_
   refine zln <| zh <| hasg ⟨rfl, rfl⟩ hS
  ·
   rintro l s x _ _ rest w hpre ⟨rfl, rfl⟩ rest1 hrr hS
   replace hS := hS.n8
   obtain ⟨hIv, c, x0, x1, c0, c1, hh⟩ := hpre
   have hlB := hIv.2.1; have hlL := hIv.2.2
   obtain ⟨hmem, hlen⟩ := pcsTo_ok (d := p.D) (i := x) (c := c) (fun k k0 k1 => by have he := hok.all k k0 k1; unfold Prob.each at he; omega) x0 (by omega) c0 (fun _ => by omega) (fun _ => by omega)
   rw [← hh] at hmem hlen
   obtain ⟨hn9, hrg⟩ := hIv.rng hok hmem (by omega)
   have hex := hok.all x x0 x1; unfold Prob.each at hex
   have hsn := hlB.n0
   have hrB := fun k (k0 : 0 ≤ k) (k1 : k < s.n) => hS.slhIn 4 rfl k0 k1
   refine hbk <| hsq ?_
   refine hdst [0, 1, 2, 3, 4, 5, 6, 7] [0, 1, 2, 3, 4, 5, 6, 7] 9 mx_ hS ?_; clear hS; intro w hS
   refine zdv 0 (fun _ => (xfb 0 fd_39_0)) ?_
   refine zdla 1 (fun w hS => (xlb 0 pl_22 hS)) ?_
   refine zdv 2 (fun _ => xmv) ?_
   refine zdv 3 (fun _ => (xix (kk := x) sl_22 h.L.slh)) ?_
   refine zdla 4 (fun w hS => (xlr (u := .int .i64 (p.L x)) pl_3 (h.L.below hS.below))) ?_
   have hbv := h.iL x
   refine zdv 5 (fun _ => (xfb 3 fd_39_3)) ?_
   refine zdla 6 (fun w hS => (xlb 0 pl_3 hS)) ?_
   refine zdv 7 (fun _ => (xadd (r := p.L x + p.kerf))) ?_
   refine zda 8 (xal (cs := [_]) el_3 hS) ?_; rintro _ w ⟨g5, rfl, hS⟩
   replace hS := hS.n9
   refine ⟨⟨fun _ => hS.pk [0, 1, 2, 3, 4, 5, 6, 7], hS.pk [0, 1, 2, 3, 4, 5, 6, 7]⟩, ?_⟩
   refine zde 9 (xsb 8 pl_3 hS) ?_; clear hS; rintro w hS
   replace hS := hS.n9
   refine ⟨⟨fun h => absurd h (by decide), hS.pk [0, 1, 2, 3, 4, 5, 6, 7]⟩, ?_⟩
   refine zdd <| zh <| htn <| hsq <| hrz ?_
   refine zlv (xlb 2 pl_22 hS) ?_
   refine zlv xmf ?_
   refine zlc (xc0 cl_78) (c_ixff (n := s.n) (m := (p.L x + p.kerf)) (f := s.L) w (hS.rowN 5 rfl) (hS.cellN 8 rfl rfl)) ?_; rintro _ w ⟨r1, rfl, hr1, hS'⟩
   replace hS := hS.cmp hS'; clear hS'
   have hrr : r1 = -1 ∨ (0 ≤ r1 ∧ r1 < s.n) := by rcases hr1 with ⟨h2, _⟩ | ⟨h2, h3, _⟩ <;> omega
   have hbr : 0 ≤ r1 → (0 ≤ s.L r1 ∧ s.L r1 ≤ p.stock + p.kerf) ∧ 0 ≤ s.P r1 x ∧ s.P r1 x ≤ p.stock + p.kerf := fun h => by have h9 := hrg r1 h (by omega); exact ⟨h9.1, h9.2 x x0 x1⟩
   refine zlv xas ?_
   refine zln <| zh <| htn <| hsq <| hsq <| hrz ?_
   refine zs2 ?_
   refine zln <| zh <| htn ?_
   refine hcif ?_ ?_ <;> intro hc
   ·
    refine hsq <| hrz ?_
    refine zlv (xlb 1 pl_32 hS) ?_
    refine zlv (xln sl_32 hlB) ?_
    refine zlv xas ?_
    refine zln <| zh <| htn <| hsq ?_
    refine hdst [0, 1, 2, 6, 7, 8] [0, 2, 6, 7, 8] 7 mx_ hS ?_; clear hS; intro w hS
    refine zdl 0 (fun w hS => (xlb 1 pl_32 hS)) ?_
    refine zdv 1 (fun _ => (xfb 0 fd_39_0)) ?_
    refine zdla 2 (fun w hS => (xlb 0 pl_22 hS)) ?_
    refine zdv 3 (fun _ => (xln sl_22 h.L.slh)) ?_
    refine zda 4 (xmk sl_22 el_3 hS) ?_; rintro v1 w ⟨hS, hv1⟩
    replace hS := hS.n10
    refine ⟨⟨fun _ => hS.pk [0, 1, 2, 6, 7, 8], hS.pk [0, 2, 6, 7, 8]⟩, ?_⟩
    refine zda 5 (xli (n := 1) (len := 1) (pv := [(0, v1)]) (cs := [v1]) (c := (fun _ => v1)) sl_32 el_22 hS (hf := by obtain ⟨_, _, _, _, rfl, _⟩ := hv1; kernel_rfl)) ?_; rintro v2 w ⟨hS, hv2⟩
    replace hS := hS.n11
    refine ⟨⟨fun _ => hS.pk [0, 1, 2, 6, 7, 8], hS.pk [0, 2, 6, 7, 8]⟩, ?_⟩
    refine zda 6 (xap 3 (r := s.n + 1) sl_32 el_22 hS (hS.rowN 10 rfl) (cat_gsn _ _ _) (h1 := fun _ _ _ => hv1.one)) ?_; rintro v3 w ⟨hS, hv3⟩
    replace hS := hS.n11
    replace hS := Sat.merge (l1 := [_, _, _, _]) (l2 := [_, _, _, _]) (l3 := [_]) hS (by omega)
    have hrs1 := fun k (k0 : 0 ≤ k) (k1 : k < s.n + 1) => hS.slhIn 4 rfl k0 k1
    replace hS := hS.n10
    refine ⟨⟨fun _ => hS.pk [0, 1, 2, 6, 7, 8], hS.pk [0, 2, 6, 7, 8]⟩, ?_⟩
    refine zde 7 (xsb 1 pl_32 hS (hv := hv3.one)) ?_; clear hS; rintro w hS
    replace hS := hS.n10
    refine ⟨⟨fun h => absurd h (by decide), hS.pk [0, 2, 6, 7, 8]⟩, ?_⟩
    refine zdd <| zh <| htn <| hrz ?_
    refine zlv (xlb 2 pl_22 hS) ?_
    refine zlv (xfb 2 fd_39_2) ?_
    refine zlv (xlb 0 pl_3 hS) ?_
    refine zlv (xfb 3 fd_39_3) ?_
    refine zlv (xlb 0 pl_3 hS) ?_
    refine zlv (xadd (r := p.stock + p.kerf)) ?_
    refine zla (xli (n := 1) (len := 1) (pv := [(0, .int .i64 (p.stock + p.kerf))]) (cs := [.int .i64 (p.stock + p.kerf)]) (c := ints (fun _ => p.stock + p.kerf)) sl_22 el_3 hS) ?_; rintro v4 w ⟨hS, hv4⟩
    replace hS := hS.n11
    refine zla (xap 5 (r := s.n + 1) sl_22 el_3 hS (hS.rowN 10 rfl) (cat_snoc _ _ _)) ?_; rintro v5 w ⟨hS, hv5⟩
    replace hS := hS.n11
    rw [gsn_const] at hS hrs1
    have hz9 : gsn s.P s.n (fun _ => 0) s.n x = 0 := by rw [gsn_at (by omega)]
    have hl9 : snoc s.L s.n (p.stock + p.kerf) s.n = p.stock + p.kerf := snoc_at (by omega)
    refine zle (xsb 2 pl_22 hS (hv := hv5.one)) ?_; clear hS; rintro w hS
    replace hS := hS.n11
    refine zln <| zh <| htn <| hsq <| hrz ?_
    refine zlv (xlb 1 pl_32 hS) ?_
    refine zlv xmv ?_
    refine zlv (xix (kk := s.n) sl_32 hv3) ?_
    refine zlv (xlr (u := ((gsn s.vv s.n v1) s.n)) pl_22 (hS.rowN 3 rfl)) ?_
    refine zlv xmv ?_
    refine zlv (xix (kk := x) sl_22 (hrs1 s.n (by omega) (by omega))) ?_
    refine zlv (xlr (u := .int .i64 ((gsn s.P s.n (fun _ => 0)) s.n x)) pl_3 (hS.rowIn (k := s.n) 4 rfl (by omega) (by omega))) ?_
    refine zlv (xadd (r := ((gsn s.P s.n (fun _ => 0)) s.n x) + 1)) ?_
    refine zlv (xix (kk := x) sl_22 (hrs1 s.n (by omega) (by omega))) ?_
    refine zle (xsr 4 pl_3 hS rfl) ?_; clear hS; rintro w hS
    replace hS := hS.n11
    refine zln <| zh <| htn ?_
    refine hdst [0, 1, 2, 3, 4, 5, 6, 7, 8, 9, 10] [0, 1, 2, 3, 4, 6, 7, 8, 9, 10] 7 mx_ hS ?_; clear hS; intro w hS
    refine zdla 0 (fun w hS => (xlb 2 pl_22 hS)) ?_
    refine zdv 1 (fun _ => xmv) ?_
    refine zdv 2 (fun _ => (xix (kk := s.n) sl_22 hv5)) ?_
    refine zdl 3 (fun w hS => (xlr (u := .int .i64 ((snoc s.L s.n (p.stock + p.kerf)) s.n)) pl_3 (hS.rowN 5 rfl))) ?_
    refine zdla 4 (fun w hS => (xlb 7 pl_3 hS)) ?_
    refine zdv 5 (fun _ => (xsub (r := ((snoc s.L s.n (p.stock + p.kerf)) s.n) - p.L x - p.kerf))) ?_
    refine zdv 6 (fun _ => (xix (kk := s.n) sl_22 hv5)) ?_
    refine zde 7 (xso 5 pl_3 hS (upd_ints _ _ _)) ?_; clear hS; rintro w hS
    replace hS := hS.n11
    refine ⟨⟨fun h => absurd h (by decide), hS.pk [0, 1, 2, 3, 4, 6, 7, 8, 9, 10]⟩, ?_⟩
    refine zdd <| zh <| zbn <| hrdN ⟨s.h ++ [x], v3, s.n + 1, gsn s.vv s.n v1, upd (gsn s.P s.n (fun _ => 0)) s.n (upd ((gsn s.P s.n (fun _ => 0)) s.n) x (((gsn s.P s.n (fun _ => 0)) s.n x) + 1)), v5, (upd (snoc s.L s.n (p.stock + p.kerf)) s.n (((snoc s.L s.n (p.stock + p.kerf)) s.n) - p.L x - p.kerf))⟩ ⟨rfl, (by show plL _ _ _ _ = ffRun _ _ _ (s.h ++ [x]); rw [ffRun_snoc, ← hIv.1]; first | exact ffm_new (sz := szP p) hsn x0 (hr1.resolve_right (fun h => by omega)).2 (by unfold szP; omega) | (have hr9 := hr1.resolve_left (fun h => by omega); exact ffm_at (sz := szP p) hsn x0 hr9.1 hr9.2.1 hr9.2.2.1 hr9.2.2.2 (by unfold szP; omega))), hv3, hv5⟩ (hS.pk [0, 1, 2, 3, 4, 5, 6, 7])
   refine hsk <| htn <| hsq <| hrz ?_
   refine zlv (xlb 1 pl_32 hS) ?_
   refine zlv xmv ?_
   refine zlv (xix (kk := r1) sl_32 hlB) ?_
   refine zlv (xlr (u := (s.vv r1)) pl_22 (hS.rowN 3 rfl)) ?_
   refine zlv xmv ?_
   refine zlv (xix (kk := x) sl_22 (hrB r1 (by omega) (by omega))) ?_
   refine zlv (xlr (u := .int .i64 (s.P r1 x)) pl_3 (hS.rowIn (k := r1) 4 rfl (by omega) (by omega))) ?_
   refine zlv (xadd (r := (s.P r1 x) + 1)) ?_
   refine zlv (xix (kk := x) sl_22 (hrB r1 (by omega) (by omega))) ?_
   refine zle (xsr 4 pl_3 hS rfl) ?_; clear hS; rintro w hS
   replace hS := hS.n9
   refine zln <| zh <| htn ?_
   refine hdst [0, 1, 2, 3, 4, 5, 6, 7, 8] [0, 1, 2, 3, 4, 6, 7, 8] 7 mx_ hS ?_; clear hS; intro w hS
   refine zdla 0 (fun w hS => (xlb 2 pl_22 hS)) ?_
   refine zdv 1 (fun _ => xmv) ?_
   refine zdv 2 (fun _ => (xix (kk := r1) sl_22 hlL)) ?_
   refine zdl 3 (fun w hS => (xlr (u := .int .i64 (s.L r1)) pl_3 (hS.rowN 5 rfl))) ?_
   refine zdla 4 (fun w hS => (xlb 7 pl_3 hS)) ?_
   refine zdv 5 (fun _ => (xsub (r := (s.L r1) - p.L x - p.kerf))) ?_
   refine zdv 6 (fun _ => (xix (kk := r1) sl_22 hlL)) ?_
   refine zde 7 (xso 5 pl_3 hS (upd_ints _ _ _)) ?_; clear hS; rintro w hS
   replace hS := hS.n9
   refine ⟨⟨fun h => absurd h (by decide), hS.pk [0, 1, 2, 3, 4, 6, 7, 8]⟩, ?_⟩
   refine zdd <| zh <| zbn <| hrdN ⟨s.h ++ [x], s.vB, s.n, s.vv, upd s.P r1 (upd (s.P r1) x ((s.P r1 x) + 1)), s.vL, (upd s.L r1 ((s.L r1) - p.L x - p.kerf))⟩ ⟨rfl, (by show plL _ _ _ _ = ffRun _ _ _ (s.h ++ [x]); rw [ffRun_snoc, ← hIv.1]; first | exact ffm_new (sz := szP p) hsn x0 (hr1.resolve_right (fun h => by omega)).2 (by unfold szP; omega) | (have hr9 := hr1.resolve_left (fun h => by omega); exact ffm_at (sz := szP p) hsn x0 hr9.1 hr9.2.1 hr9.2.2.1 hr9.2.2.2 (by unfold szP; omega))), hlB, hlL⟩ (hS.pk [0, 1, 2, 3, 4, 5, 6, 7])
  ·
   intro Dk s rest w hfin hS
   replace hS := hS.n9
   obtain ⟨hIv, hh⟩ := hfin
   have hlB := hIv.2.1; have hlL := hIv.2.2
   obtain ⟨hmem, hlen⟩ := pcsTo_ok (d := p.D) (i := p.m) (c := 0) (fun k k0 k1 => by have he := hok.all k k0 k1; unfold Prob.each at he; omega) (by omega) (by omega) (by omega) (fun h => by omega) (fun _ => rfl)
   rw [← hh] at hmem hlen
   obtain ⟨hn9, hrg⟩ := hIv.rng hok hmem (by omega)
   have hsn := hlB.n0
   have hrB := fun k (k0 : 0 ≤ k) (k1 : k < s.n) => hS.slhIn 4 rfl k0 k1
   refine zbn <| htn <| hsq <| hrz ?_
   refine zlv xas ?_
   refine zln <| zh <| htn <| hsq <| hsq <| hrz ?_
   refine zlv (xlb 1 pl_32 hS) ?_
   refine zlv (xln sl_32 hlB) ?_
   refine zlv xmv ?_
   refine zln <| zh <| htn <| hbk ?_
   replace hS := hS.addnil 2 50 (ucells (fun _ => Value.slice none 0 0) (fun _ => 0))
   replace hS := hS.n10
   refine hlp (fun mm M w => ∃ (nC : Int) (wv : Int → Value) (cC : Int → Int) (i : Int) (wC : Value), mm = ((s.n - i).toNat) ∧ (0 ≤ i) ∧ (i ≤ s.n) ∧ (nC = i) ∧ (∀ k, 0 ≤ k → k < i → wv k = s.vv k) ∧ (∀ k, 0 ≤ k → k < i → cC k = 1) ∧ (Slh wC nC) ∧ M = [(2, .slice none 0 0), (8, wC), (60, s.vB), (61, .int .i64 s.n), (62, .int .i64 i)] ∧ Sat w0 w [.blk g1 [vL, vD, .int .i64 p.stock, .int .i64 p.kerf], .blk g2 [s.vB], .blk g3 [s.vL], .own s.vB 1 22 s.n s.vv, .sem (Frame.rows 3 s.n s.vv (fun _ => p.m) s.P), .own s.vL 1 3 s.n (ints s.L), .blk g4 [vL, vD, .int .i64 p.stock, .int .i64 p.kerf], .sem rest, .sem (Frame.obj Dk (.deferred (some []))), .own wC 2 50 nC (ucells wv cC)]) ⟨0, (fun _ => Value.slice none 0 0), (fun _ => 0), 0, (.slice none 0 0), rfl, (by omega), (by omega), (by omega), ?_, ?_, ?_, rfl, hS⟩ ?_
   ·
    intro k k0 k1; omega
   ·
    intro k k0 k1; omega
   ·
    exact slh_nil
   clear hS w
   rintro mm M w ⟨nC, wv, cC, i, wC, rfl, h0, h1, hnC, hwv, hcC, hwC, rfl, hS⟩
   refine hsq <| hrz ?_
   refine zlv xlss ?_
   refine zln <| zh <| htn <| hsq ?_
   refine hcif ?_ ?_ <;> intro hc
   ·
    refine hsk <| htn <| hsq <| hbk <| hsq <| hrz ?_
    refine zlv (xix (kk := i) sl_32 hlB) ?_
    refine zlv (xlr (u := (s.vv i)) pl_22 (hS.rowN 3 rfl)) ?_
    refine zlv xas ?_
    refine zln <| zh <| htn <| hrz ?_
    refine zs2 ?_
    refine zlv (xany (v := .agg #[(s.vv i), .int .i64 1]) (hr := by have hz := (hrB i (by omega) (by omega)); revert hz; generalize (s.vv i) = z; rintro ⟨_, _, _, _, rfl, _⟩; show _ = _; kernel_rfl)) ?_
    refine zla (xli (n := 1) (len := 1) (pv := [(0, .agg #[(s.vv i), .int .i64 1])]) (cs := [(s.vv i), .int .i64 1]) (c := ucells (fun _ => (s.vv i)) (fun _ => 1)) sl_43 el_50 hS (hf := by have hz := (hrB i (by omega) (by omega)); revert hz; generalize (s.vv i) = z; rintro ⟨_, _, _, _, rfl, _⟩; show _ = _; kernel_rfl)) ?_; rintro v6 w ⟨hS, hv6⟩
    replace hS := hS.n11
    refine zla (xap 9 (r := nC + 1) sl_43 el_50 hS (hS.rowN 10 rfl) (cat_ucells _ _ _ _ _) (h1 := fun k _ _ => ucells_one (fun _ => (hrB i (by omega) (by omega)).one) k)) ?_; rintro v7 w ⟨hS, hv7⟩
    replace hS := hS.n11
    refine zlv xas ?_
    refine zln <| zh <| zbn <| htn <| hrz ?_
    refine zlv (xadd (r := i + 1)) ?_
    refine zlv xmv ?_
    refine zln <| zh <| hlq ⟨nC + 1, (gsn wv nC (s.vv i)), (snoc cC nC 1), i + 1, v7, rfl, (by omega), (by omega), (by omega), ?_, ?_, ?_, rfl, hS.pk [0, 1, 2, 3, 4, 5, 6, 7, 8, 9]⟩
    ·
     intro k k0 k1; by_cases e : k < nC
     · rw [gsn_lt e]; exact hwv k k0 (by omega)
     · rw [gsn_at e, show k = i by omega]
    ·
     intro k k0 k1; by_cases e : k < nC
     · rw [snoc_lt e]; exact hcC k k0 (by omega)
     · rw [snoc_at e]
    ·
     exact hv7
   refine hxt <| ztx <| ztx <| zbh <| htn <| hsq <| hrz ?_
   refine zlv xmv ?_
   have hiN : i = s.n := by omega
   have hnN : nC = s.n := by omega
   subst hnN
   replace hS := hS.recont 9 rfl (d := ucells s.vv (fun _ => 1)) (fun k k0 k1 => by unfold ucells; rw [hwv _ (by omega) (by omega), hcC _ (by omega) (by omega)])
   replace hS := hS.n10
   refine zlc (xc0 cl_80) (c_norm (u := s.n) (pv := s.vv) (ln := (fun _ => p.m)) (pt := s.P) (cnt := (fun _ => 1)) w (⟨(hS.rowN 9 rfl), fun k k0 k1 => hS.rowIn 4 rfl k0 k1, fun k k0 k1 => hS.roomIn 4 rfl k0 k1⟩ : VAt _ wC s.n s.vv (fun _ => p.m) s.P (fun _ => 1)) (by omega) (fun k k0 k1 => by omega) (fun k k0 k1 => by omega)) ?_; rintro vnn1 w ⟨_, nnn1, pnn1, lnn1, gnn1, cnn1, rfl, hnrn1, hn0n1, hn1n1, hncn1, hvnn1, hS'⟩
   replace hS : Sat w0 w [.blk g1 [vL, vD, .int .i64 p.stock, .int .i64 p.kerf], .blk g2 [s.vB], .blk g3 [s.vL], .own s.vB 1 22 s.n s.vv, .sem (Frame.rows 3 s.n s.vv (fun _ => p.m) s.P), .own s.vL 1 3 s.n (ints s.L), .blk g4 [vL, vD, .int .i64 p.stock, .int .i64 p.kerf], .sem rest, .sem (Frame.obj Dk (.deferred (some []))), .own wC 2 50 s.n (ucells s.vv (fun _ => 1)), .own vnn1 2 50 nnn1 (ucells pnn1 cnn1), .sem (Frame.rows 3 nnn1 pnn1 lnn1 gnn1)] := hS.comp hS'; clear hS'
   have hrnn1 := fun k (k0 : 0 ≤ k) (k1 : k < nnn1) => hS.slhIn 11 rfl k0 k1
   refine zlv xas ?_
   refine zln <| zh <| htn <| hrt <| hmk1 8 hS fun w hS => zf1 ⟨_, rfl, ?_⟩
   exact ⟨_, _, _, _, _, _, rfl, (by rw [← hh, ← hIv.1, ones_plL]; exact hnrn1), hn0n1, by omega, fun k k0 k1 => by have := hncn1 k k0 k1; omega, hvnn1, hS.pk [10, 11]⟩
  ·
   intro Dk t rest w hfin hS
   replace hS := hS.n3
   exact hfin.elim

end Go.Proofs.Ytopmifmfecfaaaa
