/- The walk of TableauRows. -/
import Derived.Test.YtkcmbndnhcofpaaGv
import Derived.Test.YtkcmbndnhcofpaaT2
namespace Go.Proofs.Ytkcmbndnhcofpaa
open Go Go.RowKit Go.Proofs.Gw
set_option linter.unusedVariables false

theorem ar_38 : arrayT Try.prog 38 = some (2, 5, 1) := by kernel_rfl
theorem el_25 : elemT Try.prog 25 = some (.agg #[.slice none 0 0, .slice none 0 0, .slice none 0 0], 3, 72) := by kernel_rfl
theorem zmem {P : Program} {l : List Oper} {Q : Exit → Act → World → Prop} {S A : World → Prop} {brk : Nat} {w : World} {n : Nat} {ds : List Deferred} {L : List (Nat × Value)} {listed : Array Bool} {fuel : Nat} (J : List (Nat × Value) → World → Prop) (listed' : Array Bool) (fuel' : Nat) (H : ∀ M w, J M w → Gd P n ds l Q S A brk fuel' listed' M w) (K : (∀ M w, J M w → Gd P n ds l Q S A brk fuel' listed' M w) → Gd P n ds l Q S A brk fuel listed L w) : Gd P n ds l Q S A brk fuel listed L w := K H
theorem zmus {P : Program} {l : List Oper} {Q : Exit → Act → World → Prop} {S A : World → Prop} {brk : Nat} {w : World} {n : Nat} {ds : List Deferred} {L : List (Nat × Value)} {listed listed' : Array Bool} {fuel : Nat} {J : List (Nat × Value) → World → Prop} (H : ∀ M w, J M w → Gd P n ds l Q S A brk fuel listed' M w) {M : List (Nat × Value)} (hJ : J M w) (hM : Sub L M := by repeat' first | exact zpk0 | refine zpk rfl ?_) (hl : listed' = listed := by kernel_rfl) : Gd P n ds l Q S A brk fuel listed L w := fun hc hS a hF => by
  subst hl
  exact H M w hJ hc hS a (hF.sub hM)

/-- A problem with one more row. -/
def addRow (p : Lp) (l : Int) (f : Int → Int) (b : Int) : Lp := ⟨p.n, p.m + 1, p.k + 1, p.c, gsn p.ln p.m l, gsn p.A p.m f, gsn p.b p.m b⟩
theorem lat_row {w : World} {vc vA vb v4 v8 x : Value} {vq : Int → Value} {p : Lp} {l b : Int} {f : Int → Int} (h : LAt w vc vA vb vq p) (h4 : Row w v4 1 (p.m + 1) (gsn vq p.m x)) (h8 : Row w v8 1 (p.k + 1) (ints (gsn p.b p.m b))) (hx : Row w x 1 l (ints f)) (hr : Go.Proofs.Gw.Roomy x) : LAt w vc v4 v8 (gsn vq p.m x) (addRow p l f b) := by
  refine ⟨h.c, ⟨h4, fun i i0 i1 => ?_, fun i i0 i1 => ?_⟩, h8⟩
  · by_cases e : i < p.m
    · show Row w (gsn vq p.m x i) 1 (gsn p.ln p.m l i) (ints (gsn p.A p.m f i))
      rw [gsn_lt e, gsn_lt e, gsn_lt e]; exact h.A.p i i0 e
    · show Row w (gsn vq p.m x i) 1 (gsn p.ln p.m l i) (ints (gsn p.A p.m f i))
      rw [gsn_at e, gsn_at e, gsn_at e]; exact hx
  · by_cases e : i < p.m
    · show Go.Proofs.Gw.Roomy (gsn vq p.m x i)
      rw [gsn_lt e]; exact h.A.room i i0 e
    · show Go.Proofs.Gw.Roomy (gsn vq p.m x i)
      rw [gsn_at e]; exact hr
theorem gsn_cat0 {vq : Int → Value} {g : Int → Value} {m : Int} {x : Value} {k : Int} (k0 : 0 ≤ k) : gsn (cat (0 * 1) g vq) m x k = gsn vq m x k := by
  unfold gsn cat
  split
  · rw [if_neg (by omega), show k - 0 * 1 = k by omega]
  · rfl
theorem ints_cat0 {f g : Int → Int} {n m b k : Int} (k0 : 0 ≤ k) (hk : n = m) (e : (k : Int) ≤ n := by omega) : cat (n * 1) (cat (0 * 1) (ints g) (ints f)) (ints fun _ => b) k = ints (gsn f m b) k := by
  unfold cat ints gsn
  by_cases e2 : k < n
  · rw [if_pos (by omega), if_neg (by omega), if_pos (by omega), show k - 0 * 1 = k by omega]
  · rw [if_neg (by omega), if_neg (by omega)]

theorem row_dot {p : Lp} {l b : Int} {f : Int → Int} {x : Int → Int} {i : Int} (h : i < p.m) : dotp ((addRow p l f b).A i) x p.n.toNat = dotp (p.A i) x p.n.toNat := by
  show dotp (gsn p.A p.m f i) x p.n.toNat = _
  rw [gsn_lt h]
theorem row_b {p : Lp} {l b : Int} {f : Int → Int} {i : Int} (h : i < p.m) : (addRow p l f b).b i = p.b i := by
  show gsn p.b p.m b i = _
  rw [gsn_lt h]
/-- A further row does not lower the value. -/
theorem row_up {p : Lp} {l b : Int} {f : Int → Int} (hm : 0 ≤ p.m) {s t : So} (hs : ChkS p s) (ht : ChkS (addRow p l f b) t) : s.val * t.den ≤ t.val * s.den := by
  have h := weak (A := p.A) (x := t.X) (y := s.Y) (b := fun i => p.b i * t.den) (c := fun j => p.c j * s.den) (n := p.n.toNat) (m := p.m.toNat) (fun j j0 j1 => (ht.X j j0 (by show j < p.n; omega)).1) (fun i i0 i1 => (hs.Y i i0 (by omega)).1)
    (fun j j0 j1 => hs.cols j j0 (by omega)) (fun i i0 i1 => by
      have h1 := ht.rows i i0 (by show i < p.m + 1; omega)
      have h2 : (addRow p l f b).b i * t.den ≤ dotp ((addRow p l f b).A i) t.X p.n.toNat := h1
      rw [row_b (by omega), row_dot (by omega)] at h2
      exact h2)
  rw [dotp_scale, hs.bY] at h
  have e : dotp (fun j => p.c j * s.den) t.X p.n.toNat = t.val * s.den := by
    rw [dotp_scale]
    have : dotp p.c t.X p.n.toNat = t.val := ht.cX
    rw [this]
  rw [e] at h; exact h
theorem row_has {p : Lp} {k : Int} (k0 : 0 ≤ k) (k1 : k < p.m) {s : So} (hs : ChkS p s) (i : Int) (i0 : 0 ≤ i) (i1 : i < p.m + 1) : (addRow p (p.ln k) (p.A k) (p.b k)).b i * s.den ≤ dotp ((addRow p (p.ln k) (p.A k) (p.b k)).A i) s.X p.n.toNat := by
  by_cases e : i < p.m
  · rw [row_b e, row_dot e]; exact hs.rows i i0 e
  · show gsn p.b p.m (p.b k) i * s.den ≤ dotp (gsn p.A p.m (p.A k) i) s.X p.n.toNat
    rw [gsn_at e, gsn_at e]; exact hs.rows k k0 k1
/-- A copy of a row does not raise the value. -/
theorem row_dn {p : Lp} {k : Int} (k0 : 0 ≤ k) (k1 : k < p.m) {s t : So} (hs : ChkS p s) (ht : ChkS (addRow p (p.ln k) (p.A k) (p.b k)) t) : t.val * s.den ≤ s.val * t.den := by
  have h := weak (A := (addRow p (p.ln k) (p.A k) (p.b k)).A) (x := s.X) (y := t.Y) (b := fun i => (addRow p (p.ln k) (p.A k) (p.b k)).b i * s.den) (c := fun j => p.c j * t.den) (n := p.n.toNat) (m := (p.m + 1).toNat) (fun j j0 j1 => (hs.X j j0 (by omega)).1) (fun i i0 i1 => (ht.Y i i0 (by show i < p.m + 1; omega)).1)
    (fun j j0 j1 => ht.cols j j0 (by show j < p.n; omega)) (fun i i0 i1 => row_has k0 k1 hs i i0 (by omega))
  have hb : dotp (addRow p (p.ln k) (p.A k) (p.b k)).b t.Y (p.m + 1).toNat = t.val := ht.bY
  rw [dotp_scale, dotp_scale, hs.cX, hb] at h; exact h
theorem row_no {p : Lp} {k : Int} (k0 : 0 ≤ k) (k1 : k < p.m) {s t : So} (hs : ChkS p s) (h : SolveR (addRow p (p.ln k) (p.A k) (p.b k)) t 19) : False := by
  obtain ⟨y, hy⟩ := h.none (by show 0 ≤ p.m + 1; omega) rfl
  have h1 := hs.d1; have h2 := hs.ok.n1
  have := ref_none (x := s.X) (a := s.den) hy (by show 0 ≤ p.n; omega) (by show 0 ≤ p.m + 1; omega) (by omega) (fun j j0 j1 => (hs.X j j0 j1).1) (fun i i0 i1 => row_has k0 k1 hs i i0 i1)
  omega
/-- All costs times a number. -/
def dearP (p : Lp) (n : Int) : Lp := ⟨p.n, p.m, p.k, fun q => p.c q * n, p.ln, p.A, p.b⟩
theorem dear_eq {p : Lp} {n : Int} (hn : 0 ≤ n) (hm : 0 ≤ p.m) {s t : So} (hs : ChkS p s) (ht : ChkS (dearP p n) t) : t.val * s.den = n * s.val * t.den := by
  have h1 := weak (A := p.A) (x := t.X) (y := s.Y) (b := fun i => p.b i * t.den) (c := fun j => p.c j * s.den) (n := p.n.toNat) (m := p.m.toNat) (fun j j0 j1 => (ht.X j j0 (by show j < p.n; omega)).1) (fun i i0 i1 => (hs.Y i i0 (by omega)).1)
    (fun j j0 j1 => hs.cols j j0 (by omega)) (fun i i0 i1 => ht.rows i i0 (by show i < p.m; omega))
  have h2 := weak (A := p.A) (x := s.X) (y := t.Y) (b := fun i => p.b i * s.den) (c := fun j => p.c j * (n * t.den)) (n := p.n.toNat) (m := p.m.toNat) (fun j j0 j1 => (hs.X j j0 (by omega)).1) (fun i i0 i1 => (ht.Y i i0 (by show i < p.m; omega)).1)
    (fun j j0 j1 => by have h9 : wgt p.A t.Y p.m.toNat j ≤ p.c j * n * t.den := ht.cols j j0 (by show j < p.n; omega); rw [Int.mul_assoc] at h9; exact h9) (fun i i0 i1 => hs.rows i i0 (by omega))
  have hc : dotp (fun q => p.c q * n) t.X p.n.toNat = t.val := ht.cX
  have hb : dotp p.b t.Y p.m.toNat = t.val := ht.bY
  rw [dotp_scale] at hc
  rw [dotp_scale, dotp_scale, hs.bY] at h1
  rw [dotp_scale, dotp_scale, hs.cX, hb] at h2
  have h3 := Int.mul_le_mul_of_nonneg_left h1 hn
  have e1 : n * (dotp p.c t.X p.n.toNat * s.den) = t.val * s.den := by rw [← hc]; grind
  have e2 : n * (s.val * t.den) = n * s.val * t.den := by grind
  have e3 : s.val * (n * t.den) = n * s.val * t.den := by grind
  rw [e1, e2] at h3; rw [e3] at h2
  exact Int.le_antisymm h2 h3
theorem dear_no {p : Lp} {n : Int} (hm : 0 ≤ p.m) {s t : So} (hs : ChkS p s) (h : SolveR (dearP p n) t 19) : False := by
  obtain ⟨y, hy⟩ := SolveR.none (p := dearP p n) hm h rfl
  have h1 := hs.d1; have h2 := hs.ok.n1
  have := ref_none (x := s.X) (a := s.den) hy (by show 0 ≤ p.n; omega) hm (by omega) (fun j j0 j1 => (hs.X j j0 j1).1) (fun i i0 i1 => hs.rows i i0 i1)
  omega

theorem suf_roomy {v : Value} {q : Nat} (hr : Go.Proofs.Gw.Roomy v) : Go.Proofs.Gw.Roomy (sufV v q) := fun a len cap e => by
  cases v with
  | slice a' len' cap' =>
    have := hr _ _ _ rfl
    simp [sufV] at e
    omega
  | _ => cases e

set_option maxHeartbeats 16000000 in
set_option maxRecDepth 20000 in
theorem law_trows {vc vA vb : Value} {vq : Int → Value} {p : Lp} {vr : Value} {nr : Int} {fr : Int → Int} {by0 by1 : Int} (w0 : World) (hL : LAt w0 vc vA vb vq p) (hR9 : Row w0 vr 1 nr (ints fr)) (hroom : Go.Proofs.Gw.Roomy vr) (hb0 : 0 ≤ by0 ∧ by0 ≤ 255) (hb1 : 0 ≤ by1 ∧ by1 ≤ 255) :
    Calls Try.prog 4 [.agg #[vc, vA, vb], vr, .agg #[.int .u8 by0, .int .u8 by1]].toArray w0 fun e w => ∃ v, e = .returned v ∧ v = .bool true ∧ Sat w0 w [] := by
  have hn := hL.c.slh.n0; have hn1 := hL.c.slh.n1; have hm := hL.A.row.slh.n0; have hm1 := hL.A.row.slh.n1; have hk := hL.b.slh.n0; have hk1 := hL.b.slh.n1
  have hnr := hR9.slh.n0; have hnr1 := hR9.slh.n1
  refine zenG Try.func4 Try.ntmps4 fun w hS => ?_
  refine zsr ?_
  refine zla (xbx (cs := [_, _, _]) hS) ?_; rintro _ w ⟨g1, rfl, hS⟩
  replace hS := hS.n1
  refine zla (xbx (cs := [_, _]) hS) ?_; rintro _ w ⟨g2, rfl, hS⟩
  replace hS := hS.n2
  refine zlv xas ?_
  refine zlt <| zsq <| zsr ?_
  refine zlc (xc0 cl_5) (c_awake w) ?_; rintro _ w ⟨rfl, hS'⟩
  replace hS := hS.cmp hS'; clear hS'
  refine zs2 ?_
  refine zlv (xls 0 st_25 hS) ?_
  refine zlc (xc0 cl_6) (c_few (p := p) w (hL.below hS.below)) ?_; rintro _ w ⟨rfl, hS'⟩
  replace hS := hS.cmp hS'; clear hS'
  refine zs3 ?_
  refine zlb 27 ?_ ?_ <;> intro hc
  ·
   iterate 3 refine zlo ?_
   refine zs2 ?_
   iterate 4 refine zlo ?_
   refine zs2 ?_
   iterate 4 refine zlo ?_
   refine zlv xpt ?_
   refine zlt <| zct <| zsr ?_
   refine zlc (xc0 cl_5) (c_awake w) ?_; rintro _ w ⟨rfl, hS'⟩
   replace hS := hS.cmp hS'; clear hS'
   refine zlv xas ?_
   refine zlt <| zrt <| ztr <| zf1 ⟨_, rfl, ?_⟩
   exact ⟨rfl, hS.nl⟩
  refine zlv (xls 0 st_25 hS) ?_
  refine zlc (xc0 cl_7) (c_rvalid (p := p) w (hL.below hS.below)) ?_; rintro _ w ⟨rfl, hS'⟩
  replace hS := hS.cmp hS'; clear hS'
  refine zs3 ?_
  refine zlb 32 ?_ ?_ <;> intro hc
  ·
   iterate 4 refine zlo ?_
   refine zs2 ?_
   iterate 4 refine zlo ?_
   refine zlv xpt ?_
   refine zlt <| zct <| zsr ?_
   refine zlc (xc0 cl_5) (c_awake w) ?_; rintro _ w ⟨rfl, hS'⟩
   replace hS := hS.cmp hS'; clear hS'
   refine zlv xas ?_
   refine zlt <| zrt <| ztr <| zf1 ⟨_, rfl, ?_⟩
   exact ⟨rfl, hS.nl⟩
  refine zlv (xfb 1 fd_25_1) ?_
  refine zlv (xlb 0 pl_23 hS) ?_
  refine zlv (xln sl_23 hL.A.row.slh) ?_
  refine zs3 ?_
  refine zlb 38 ?_ ?_ <;> intro hc
  ·
   iterate 4 refine zlo ?_
   refine zlv xpt ?_
   refine zlt <| zct <| zsr ?_
   refine zlc (xc0 cl_5) (c_awake w) ?_; rintro _ w ⟨rfl, hS'⟩
   replace hS := hS.cmp hS'; clear hS'
   refine zlv xas ?_
   refine zlt <| zrt <| ztr <| zf1 ⟨_, rfl, ?_⟩
   exact ⟨rfl, hS.nl⟩
  refine zlv (xfb 1 fd_25_1) ?_
  refine zlv (xlb 0 pl_23 hS) ?_
  refine zlv (xln sl_23 hL.A.row.slh) ?_
  refine zs2 ?_
  refine zlt ?_
  refine zcif ?_ ?_ <;> intro hc
  ·
   refine zsr ?_
   refine zlc (xc0 cl_5) (c_awake w) ?_; rintro _ w ⟨rfl, hS'⟩
   replace hS := hS.cmp hS'; clear hS'
   refine zlv xas ?_
   refine zlt <| zrt <| ztr <| zf1 ⟨_, rfl, ?_⟩
   exact ⟨rfl, hS.nl⟩
  refine zsk <| ztn <| zsr ?_
  refine zlv (xls 0 st_25 hS) ?_
  have hl : LOk p := by first | assumption | exact Classical.not_not.1 ‹¬ ¬ (LOk p)›
  have b1 := hl.n1; have b2 := hl.n2; have b3 := hl.m2; have b4 := hl.k
  refine zlc (xc0 cl_9) (c_own (p := p) w (hL.below hS.below)) ?_; rintro _ w ⟨rfl, hS'⟩
  replace hS := hS.cmp hS'; clear hS'
  refine zlc (xc0 cl_11) (c_solve (p := p) w (hL.below hS.below)) ?_; rintro _ w ⟨vXs1, vYs1, ss1, es1, rfl, hsos1, hvXs1, hvYs1, hS'⟩
  replace hS : Sat w0 w [.blk g1 [vc, vA, vb], .blk g2 [.int .u8 by0, .int .u8 by1], .own vXs1 1 3 ss1.n (ints ss1.X), .own vYs1 1 3 ss1.m (ints ss1.Y)] := hS.comp hS'; clear hS'
  refine zs3 ?_
  refine zla (xal (cs := [_, _, _, _]) el_40 hS) ?_; rintro _ w ⟨g3, rfl, hS⟩
  replace hS := hS.n5
  refine zle (xsw 4 st_40 hS (hd := (ones_cons hvXs1.one (ones_cons hvYs1.one (ones_cons rfl (ones_cons rfl ones_nil)))))) ?_; clear hS; rintro w hS
  replace hS := hS.n5
  refine zlv xas ?_
  refine zlt <| zsq <| zsr ?_
  refine zs2 ?_
  refine zlt ?_
  refine zcif ?_ ?_ <;> intro hc
  ·
   refine zsr ?_
   refine zlv xas ?_
   refine zlt <| zrt <| ztr <| zf1 ⟨_, rfl, ?_⟩
   exact ⟨rfl, hS.nl⟩
  refine zsk <| ztn <| zsr ?_
  refine zlvr rfl rfl rfl (ex_indexArr (b := ⟨g2, 0, none⟩) rfl ar_38 rfl rfl (by omega) (by omega) rfl) ?_
  have hcs := hsos1.chk (by omega) (by omega)
  have hv0 := hcs.v; have hv1 := hcs.d1; have hv2 := hcs.d2
  refine zlv (xlb 1 pl_5 hS) ?_
  refine zlv (xcv so_5 it_3) ?_
  refine zlv (xfb 1 fd_25_1) ?_
  refine zlv (xlb 0 pl_23 hS) ?_
  refine zlv (xln sl_23 hL.A.row.slh) ?_
  refine zlv (xrem (r := (Int.tmod by0 p.m))) ?_
  have hk0 := Int.tmod_nonneg p.m hb0.1; have hk1 := Int.tmod_lt_of_pos by0 (show 0 < p.m by omega)
  refine zlv xas ?_
  refine zlz ?_
  refine zlv (xls 0 st_25 hS) ?_
  refine zla (xal (cs := [_, _, _]) el_25 hS) ?_; rintro _ w ⟨g4, rfl, hS⟩
  replace hS := hS.n6
  refine zle (xsw 5 st_25 hS (hd := (ones_cons hL.c.slh.one (ones_cons hL.A.row.slh.one (ones_cons hL.b.slh.one ones_nil))))) ?_; clear hS; rintro w hS
  replace hS := hS.n6
  refine zlt <| zsq ?_
  refine zdst [0, 1, 4, 5] [0, 1, 4] 23 mx_ hS ?_; clear hS; intro w hS
  refine zmem (fun M w => ∃ (v1 : Value) (v2 : Value) (v3 : Value) (v4 : Value) (v5 : Value) (v6 : Value) (v7 : Value) (v8 : Value), (Slh v4 (p.m + 1)) ∧ (Slh v3 1) ∧ (Slh v8 (p.k + 1)) ∧ (Slh v7 1) ∧ M = [(0, .agg #[vc, vA, vb]), (1, vr), (2, .agg #[.int .u8 by0, .int .u8 by1]), (3, .pointer (some ⟨g1, 0, none⟩)), (5, .pointer (some ⟨g2, 0, none⟩)), (6, .bool false), (20, .bool true), (21, .bool false), (22, .bool false), (23, .agg #[vc, vA, vb]), (24, B (FewP p)), (25, B (¬ (FewP p))), (26, B (¬ (FewP p))), (27, .bool false), (28, .agg #[vc, vA, vb]), (29, B (LOk p)), (30, B (¬ (LOk p))), (31, B (¬ (LOk p))), (32, .bool false), (33, .pointer (some ⟨g1, 1, none⟩)), (34, vA), (35, .int .i64 p.m), (36, B (p.m = 0)), (37, B (p.m = 0)), (38, .bool false), (39, .pointer (some ⟨g1, 1, none⟩)), (40, vA), (41, .int .i64 p.m), (42, B (7 < p.m)), (43, B (7 < p.m)), (46, .agg #[vc, vA, vb]), (47, .agg #[vc, vA, vb]), (48, .tuple #[.agg #[vXs1, vYs1, .int .i64 ss1.val, .int .i64 ss1.den], .int .i64 es1]), (45, .tuple #[.agg #[vXs1, vYs1, .int .i64 ss1.val, .int .i64 ss1.den], .int .i64 es1]), (49, .agg #[vXs1, vYs1, .int .i64 ss1.val, .int .i64 ss1.den]), (50, .int .i64 es1), (7, .pointer (some ⟨g3, 0, none⟩)), (8, .int .i64 es1), (51, .int .i64 es1), (52, B (es1 ≠ 0)), (53, .pointer (some ⟨g2, 0, none⟩)), (54, .int .u8 by0), (55, .int .i64 by0), (56, .pointer (some ⟨g1, 1, none⟩)), (57, vA), (58, .int .i64 p.m), (59, .int .i64 (Int.tmod by0 p.m)), (9, .int .i64 (Int.tmod by0 p.m)), (60, .agg #[vc, vA, vb]), (10, .pointer (some ⟨g4, 0, none⟩)), (62, .pointer (some ⟨g1, 1, none⟩)), (63, vA), (65, .pointer (some ⟨g1, 1, none⟩)), (66, vA), (67, .int .i64 (Int.tmod by0 p.m)), (68, .pointer (some (cad vA (Int.tmod by0 p.m)))), (69, (vq (Int.tmod by0 p.m))), (73, .pointer (some ⟨g1, 2, none⟩)), (74, vb), (76, .pointer (some ⟨g1, 2, none⟩)), (77, vb), (78, .int .i64 (Int.tmod by0 p.m)), (79, .pointer (some (cad vb (Int.tmod by0 p.m)))), (80, .int .i64 (p.b (Int.tmod by0 p.m))), (61, v1), (64, v2), (70, v3), (71, v4), (83, .pointer (some ⟨g4, 1, none⟩)), (72, v5), (75, v6), (81, v7), (82, v8), (84, .pointer (some ⟨g4, 2, none⟩))] ∧ Sat w0 w [.blk g1 [vc, vA, vb], .blk g2 [.int .u8 by0, .int .u8 by1], .own vXs1 1 3 ss1.n (ints ss1.X), .own vYs1 1 3 ss1.m (ints ss1.Y), .blk g3 [vXs1, vYs1, .int .i64 ss1.val, .int .i64 ss1.den], .blk g4 [vc, v4, vb], .own v4 1 22 (p.m + 1) (gsn (cat (0 * 1) (ints (fun _ => 0)) vq) p.m (vq (Int.tmod by0 p.m))), .own v3 1 22 1 (fun _ => (vq (Int.tmod by0 p.m))), .own v8 1 3 (p.k + 1) (cat (p.k * 1) (cat (0 * 1) (ints (fun _ => 0)) (ints p.b)) (ints (fun _ => (p.b (Int.tmod by0 p.m))))), .own v7 1 3 1 (ints (fun _ => (p.b (Int.tmod by0 p.m))))]) #[true, true, true, true, true, true, true, true, true, true, true, true, true, true, true, true, true, true, true, true, true, true, true, true, true, false] 1 ?_ ?_
  ·
   rintro M w ⟨v1, v2, v3, v4, v5, v6, v7, v8, hv4, hv3, hv8, hv7, rfl, hS⟩
   refine zde 25 (xsb 5 pl_22 hS (hv := hv8.one)) ?_; clear hS; rintro w hS
   replace hS := hS.n10
   refine ⟨⟨fun h => absurd h (by decide), hS.pk [0, 1, 4]⟩, ?_⟩
   refine zdd <| ztn <| zsq <| ?_
   refine zgcut (fun M w => M = [(0, .agg #[vc, vA, vb]), (1, vr), (2, .agg #[.int .u8 by0, .int .u8 by1]), (3, .pointer (some ⟨g1, 0, none⟩)), (5, .pointer (some ⟨g2, 0, none⟩)), (6, .bool false), (20, .bool true), (21, .bool false), (22, .bool false), (23, .agg #[vc, vA, vb]), (24, B (FewP p)), (25, B (¬ (FewP p))), (26, B (¬ (FewP p))), (27, .bool false), (28, .agg #[vc, vA, vb]), (29, B (LOk p)), (30, B (¬ (LOk p))), (31, B (¬ (LOk p))), (32, .bool false), (33, .pointer (some ⟨g1, 1, none⟩)), (34, vA), (35, .int .i64 p.m), (36, B (p.m = 0)), (37, B (p.m = 0)), (38, .bool false), (39, .pointer (some ⟨g1, 1, none⟩)), (40, vA), (41, .int .i64 p.m), (42, B (7 < p.m)), (43, B (7 < p.m)), (46, .agg #[vc, vA, vb]), (47, .agg #[vc, vA, vb]), (48, .tuple #[.agg #[vXs1, vYs1, .int .i64 ss1.val, .int .i64 ss1.den], .int .i64 es1]), (45, .tuple #[.agg #[vXs1, vYs1, .int .i64 ss1.val, .int .i64 ss1.den], .int .i64 es1]), (49, .agg #[vXs1, vYs1, .int .i64 ss1.val, .int .i64 ss1.den]), (50, .int .i64 es1), (7, .pointer (some ⟨g3, 0, none⟩)), (8, .int .i64 es1), (51, .int .i64 es1), (52, B (es1 ≠ 0)), (53, .pointer (some ⟨g2, 0, none⟩)), (54, .int .u8 by0), (55, .int .i64 by0), (56, .pointer (some ⟨g1, 1, none⟩)), (57, vA), (58, .int .i64 p.m), (59, .int .i64 (Int.tmod by0 p.m)), (9, .int .i64 (Int.tmod by0 p.m)), (60, .agg #[vc, vA, vb]), (10, .pointer (some ⟨g4, 0, none⟩)), (62, .pointer (some ⟨g1, 1, none⟩)), (63, vA), (65, .pointer (some ⟨g1, 1, none⟩)), (66, vA), (67, .int .i64 (Int.tmod by0 p.m)), (68, .pointer (some (cad vA (Int.tmod by0 p.m)))), (69, (vq (Int.tmod by0 p.m))), (73, .pointer (some ⟨g1, 2, none⟩)), (74, vb), (76, .pointer (some ⟨g1, 2, none⟩)), (77, vb), (78, .int .i64 (Int.tmod by0 p.m)), (79, .pointer (some (cad vb (Int.tmod by0 p.m)))), (80, .int .i64 (p.b (Int.tmod by0 p.m))), (61, v1), (64, v2), (70, v3), (71, v4), (83, .pointer (some ⟨g4, 1, none⟩)), (72, v5), (75, v6), (81, v7), (82, v8), (84, .pointer (some ⟨g4, 2, none⟩))] ∧ Sat w0 w [.blk g1 [vc, vA, vb], .blk g2 [.int .u8 by0, .int .u8 by1], .own vXs1 1 3 ss1.n (ints ss1.X), .own vYs1 1 3 ss1.m (ints ss1.Y), .blk g3 [vXs1, vYs1, .int .i64 ss1.val, .int .i64 ss1.den], .blk g4 [vc, v4, v8], .own v3 1 22 1 (fun _ => (vq (Int.tmod by0 p.m))), .own v7 1 3 1 (ints (fun _ => (p.b (Int.tmod by0 p.m))))]) ?_ ?_
   ·
    refine zsr ?_
    refine zlv (xls 5 st_25 hS) ?_
    replace hS := hS.recont 6 rfl (d := gsn vq p.m (vq (by0.tmod p.m))) (fun k k0 k1 => by exact gsn_cat0 k0)
    replace hS := hS.n10
    replace hS := hS.recont 8 rfl (d := ints (gsn p.b p.m (p.b (by0.tmod p.m)))) (fun k k0 k1 => by exact ints_cat0 k0 (by omega))
    replace hS := hS.n10
    refine zlc (xc0 cl_9) (c_own (p := (addRow p (p.ln (by0.tmod p.m)) (p.A (by0.tmod p.m)) (p.b (by0.tmod p.m)))) w (lat_row (hL.below hS.below) (hS.rowN 6 rfl) (hS.rowN 8 rfl) ((hL.A.p (by0.tmod p.m) hk0 hk1).below hS.below) (hL.A.room (by0.tmod p.m) hk0 hk1))) ?_; rintro _ w ⟨rfl, hS'⟩
    replace hS := hS.cmp hS'; clear hS'
    refine zlc (xc0 cl_11) (c_solve (p := (addRow p (p.ln (by0.tmod p.m)) (p.A (by0.tmod p.m)) (p.b (by0.tmod p.m)))) w (lat_row (hL.below hS.below) (hS.rowN 6 rfl) (hS.rowN 8 rfl) ((hL.A.p (by0.tmod p.m) hk0 hk1).below hS.below) (hL.A.room (by0.tmod p.m) hk0 hk1))) ?_; rintro _ w ⟨vXs2, vYs2, ss2, es2, rfl, hsos2, hvXs2, hvYs2, hS'⟩
    replace hS : Sat w0 w [.blk g1 [vc, vA, vb], .blk g2 [.int .u8 by0, .int .u8 by1], .own vXs1 1 3 ss1.n (ints ss1.X), .own vYs1 1 3 ss1.m (ints ss1.Y), .blk g3 [vXs1, vYs1, .int .i64 ss1.val, .int .i64 ss1.den], .blk g4 [vc, v4, v8], .own v4 1 22 (p.m + 1) (gsn vq p.m (vq (by0.tmod p.m))), .own v3 1 22 1 (fun _ => (vq (Int.tmod by0 p.m))), .own v8 1 3 (p.k + 1) (ints (gsn p.b p.m (p.b (by0.tmod p.m)))), .own v7 1 3 1 (ints (fun _ => (p.b (Int.tmod by0 p.m)))), .own vXs2 1 3 ss2.n (ints ss2.X), .own vYs2 1 3 ss2.m (ints ss2.Y)] := hS.comp hS'; clear hS'
    refine zs3 ?_
    refine zla (xal (cs := [_, _, _, _]) el_40 hS) ?_; rintro _ w ⟨g5, rfl, hS⟩
    replace hS := hS.n13
    refine zle (xsw 12 st_40 hS (hd := (ones_cons hvXs2.one (ones_cons hvYs2.one (ones_cons rfl (ones_cons rfl ones_nil)))))) ?_; clear hS; rintro w hS
    replace hS := hS.n13
    refine zlv xas ?_
    refine zlz ?_
    refine zs3 ?_
    refine zlb 93 ?_ ?_ <;> intro hc
    ·
     refine zlv (xfb 2 fd_40_2) ?_
     have ht := SolveR.chk (p := (addRow p (p.ln (by0.tmod p.m)) (p.A (by0.tmod p.m)) (p.b (by0.tmod p.m)))) (by first | (show 0 ≤ p.m + 1; omega) | (show 0 ≤ p.m; omega)) hsos2 (by omega)
     have ht0 := ht.v; have ht1 := ht.d1; have ht2 := ht.d2
     have hq1 := mul_abs (a := ss2.val) (b := ss1.den) (A := 1073741824) (B := 1073741824) (by omega) (by omega)
     have hq2 := mul_abs (a := ss1.val) (b := ss2.den) (A := 1073741824) (B := 1073741824) (by omega) (by omega)
     refine zlv (xlb 12 pl_3 hS) ?_
     refine zlv (xfb 3 fd_40_3) ?_
     refine zlv (xlb 4 pl_3 hS) ?_
     refine zlv (xmul (r := (ss2.val * ss1.den)) (e := rfl)) ?_
     refine zlv (xfb 2 fd_40_2) ?_
     refine zlv (xlb 4 pl_3 hS) ?_
     refine zlv (xfb 3 fd_40_3) ?_
     refine zlv (xlb 12 pl_3 hS) ?_
     refine zlv (xmul (r := (ss1.val * ss2.den)) (e := rfl)) ?_
     refine zs3 ?_
     refine zlb 106 ?_ ?_ <;> intro hc
     ·
      iterate 2 refine zlo ?_
      refine zlv xpt ?_
      refine zlt <| zct <| zsr ?_
      refine zlv xas ?_
      refine zlt <| zrt <| zcr <| ztr <| zf1 ⟨_, rfl, ?_⟩
      exfalso
      first
      | omega
      | (have h9 := row_up (by omega) hcs ht; have h8 := row_dn hk0 hk1 hcs ht; omega)
      | (have h9 := row_up (by omega) hcs ht; omega)
      | (have h9 : es2 = 19 := by omega
         rw [h9] at hsos2
         first | exact row_no hk0 hk1 hcs hsos2 | exact dear_no (by omega) hcs hsos2)
     refine zlv xmv ?_
     refine zlv (xkf xeql) ?_
     refine zlv xpf ?_
     refine zlt <| zcf <| zsk <| zgj ⟨rfl, hS.pk [0, 1, 2, 3, 4, 5, 7, 9]⟩
    iterate 11 refine zlo ?_
    refine zs5 ?_
    refine zlt ?_
    refine zcif ?_ ?_ <;> intro hc
    ·
     refine zsr ?_
     refine zlv xas ?_
     refine zlt <| zrt <| zcr <| ztr <| zf1 ⟨_, rfl, ?_⟩
     exfalso
     first
     | omega
     | (have h9 := row_up (by omega) hcs ht; have h8 := row_dn hk0 hk1 hcs ht; omega)
     | (have h9 := row_up (by omega) hcs ht; omega)
     | (have h9 : es2 = 19 := by omega
        rw [h9] at hsos2
        first | exact row_no hk0 hk1 hcs hsos2 | exact dear_no (by omega) hcs hsos2)
    refine zsk <| zgj ⟨rfl, hS.pk [0, 1, 2, 3, 4, 5, 7, 9]⟩
   clear hS w; rintro M w ⟨rfl, hS⟩
   refine ztn <| zsq <| ?_
   refine zgcut (fun M w => M = [(0, .agg #[vc, vA, vb]), (1, vr), (2, .agg #[.int .u8 by0, .int .u8 by1]), (3, .pointer (some ⟨g1, 0, none⟩)), (5, .pointer (some ⟨g2, 0, none⟩)), (6, .bool false), (20, .bool true), (21, .bool false), (22, .bool false), (23, .agg #[vc, vA, vb]), (24, B (FewP p)), (25, B (¬ (FewP p))), (26, B (¬ (FewP p))), (27, .bool false), (28, .agg #[vc, vA, vb]), (29, B (LOk p)), (30, B (¬ (LOk p))), (31, B (¬ (LOk p))), (32, .bool false), (33, .pointer (some ⟨g1, 1, none⟩)), (34, vA), (35, .int .i64 p.m), (36, B (p.m = 0)), (37, B (p.m = 0)), (38, .bool false), (39, .pointer (some ⟨g1, 1, none⟩)), (40, vA), (41, .int .i64 p.m), (42, B (7 < p.m)), (43, B (7 < p.m)), (46, .agg #[vc, vA, vb]), (47, .agg #[vc, vA, vb]), (48, .tuple #[.agg #[vXs1, vYs1, .int .i64 ss1.val, .int .i64 ss1.den], .int .i64 es1]), (45, .tuple #[.agg #[vXs1, vYs1, .int .i64 ss1.val, .int .i64 ss1.den], .int .i64 es1]), (49, .agg #[vXs1, vYs1, .int .i64 ss1.val, .int .i64 ss1.den]), (50, .int .i64 es1), (7, .pointer (some ⟨g3, 0, none⟩)), (8, .int .i64 es1), (51, .int .i64 es1), (52, B (es1 ≠ 0)), (53, .pointer (some ⟨g2, 0, none⟩)), (54, .int .u8 by0), (55, .int .i64 by0), (56, .pointer (some ⟨g1, 1, none⟩)), (57, vA), (58, .int .i64 p.m), (59, .int .i64 (Int.tmod by0 p.m)), (9, .int .i64 (Int.tmod by0 p.m)), (60, .agg #[vc, vA, vb]), (62, .pointer (some ⟨g1, 1, none⟩)), (63, vA), (65, .pointer (some ⟨g1, 1, none⟩)), (66, vA), (67, .int .i64 (Int.tmod by0 p.m)), (68, .pointer (some (cad vA (Int.tmod by0 p.m)))), (69, (vq (Int.tmod by0 p.m))), (73, .pointer (some ⟨g1, 2, none⟩)), (74, vb), (76, .pointer (some ⟨g1, 2, none⟩)), (77, vb), (78, .int .i64 (Int.tmod by0 p.m)), (79, .pointer (some (cad vb (Int.tmod by0 p.m)))), (80, .int .i64 (p.b (Int.tmod by0 p.m))), (61, v1), (64, v2), (70, v3), (71, v4), (83, .pointer (some ⟨g4, 1, none⟩)), (72, v5), (75, v6), (81, v7), (82, v8), (84, .pointer (some ⟨g4, 2, none⟩))] ∧ Sat w0 w [.blk g1 [vc, vA, vb], .blk g2 [.int .u8 by0, .int .u8 by1], .own vXs1 1 3 ss1.n (ints ss1.X), .own vYs1 1 3 ss1.m (ints ss1.Y), .blk g3 [vXs1, vYs1, .int .i64 ss1.val, .int .i64 ss1.den], .own v3 1 22 1 (fun _ => (vq (Int.tmod by0 p.m))), .own v7 1 3 1 (ints (fun _ => (p.b (Int.tmod by0 p.m))))]) ?_ ?_
   ·
    refine zsr ?_
    refine zlv xmv ?_
    refine zlv (xln sl_22 hR9.slh) ?_
    refine zlv (xfb 0 fd_25_0) ?_
    refine zlv (xlb 0 pl_22 hS) ?_
    refine zlv (xln sl_22 hL.c.slh) ?_
    refine zlv (xadd (r := p.n + 1)) ?_
    refine zlv xeql ?_
    refine zlt ?_
    refine zcif ?_ ?_ <;> intro hc
    ·
     refine zsq ?_
     refine zdst [0, 1, 4, 5] [0, 1, 4] 18 mx_ hS ?_; clear hS; intro w hS
     refine zmem (fun M w => ∃ (v9 : Value) (v10 : Value) (v11 : Value) (v12 : Value) (v13 : Value) (v14 : Value) (v15 : Value) (v16 : Value), (Slh v12 (p.m + 1)) ∧ (Slh v11 1) ∧ (Slh v16 (p.k + 1)) ∧ (Slh v15 1) ∧ M = [(0, .agg #[vc, vA, vb]), (1, vr), (2, .agg #[.int .u8 by0, .int .u8 by1]), (3, .pointer (some ⟨g1, 0, none⟩)), (5, .pointer (some ⟨g2, 0, none⟩)), (6, .bool false), (20, .bool true), (21, .bool false), (22, .bool false), (23, .agg #[vc, vA, vb]), (24, B (FewP p)), (25, B (¬ (FewP p))), (26, B (¬ (FewP p))), (27, .bool false), (28, .agg #[vc, vA, vb]), (29, B (LOk p)), (30, B (¬ (LOk p))), (31, B (¬ (LOk p))), (32, .bool false), (33, .pointer (some ⟨g1, 1, none⟩)), (34, vA), (35, .int .i64 p.m), (36, B (p.m = 0)), (37, B (p.m = 0)), (38, .bool false), (39, .pointer (some ⟨g1, 1, none⟩)), (40, vA), (41, .int .i64 p.m), (42, B (7 < p.m)), (43, B (7 < p.m)), (46, .agg #[vc, vA, vb]), (47, .agg #[vc, vA, vb]), (48, .tuple #[.agg #[vXs1, vYs1, .int .i64 ss1.val, .int .i64 ss1.den], .int .i64 es1]), (45, .tuple #[.agg #[vXs1, vYs1, .int .i64 ss1.val, .int .i64 ss1.den], .int .i64 es1]), (49, .agg #[vXs1, vYs1, .int .i64 ss1.val, .int .i64 ss1.den]), (50, .int .i64 es1), (7, .pointer (some ⟨g3, 0, none⟩)), (8, .int .i64 es1), (51, .int .i64 es1), (52, B (es1 ≠ 0)), (53, .pointer (some ⟨g2, 0, none⟩)), (54, .int .u8 by0), (55, .int .i64 by0), (56, .pointer (some ⟨g1, 1, none⟩)), (57, vA), (58, .int .i64 p.m), (59, .int .i64 (Int.tmod by0 p.m)), (9, .int .i64 (Int.tmod by0 p.m)), (60, .agg #[vc, vA, vb]), (10, .pointer (some ⟨g4, 0, none⟩)), (62, .pointer (some ⟨g1, 1, none⟩)), (63, vA), (65, .pointer (some ⟨g1, 1, none⟩)), (66, vA), (67, .int .i64 (Int.tmod by0 p.m)), (68, .pointer (some (cad vA (Int.tmod by0 p.m)))), (69, (vq (Int.tmod by0 p.m))), (73, .pointer (some ⟨g1, 2, none⟩)), (74, vb), (76, .pointer (some ⟨g1, 2, none⟩)), (77, vb), (78, .int .i64 (Int.tmod by0 p.m)), (79, .pointer (some (cad vb (Int.tmod by0 p.m)))), (80, .int .i64 (p.b (Int.tmod by0 p.m))), (61, v1), (64, v2), (70, v3), (71, v4), (83, .pointer (some ⟨g4, 1, none⟩)), (72, v5), (75, v6), (81, v7), (82, v8), (84, .pointer (some ⟨g4, 2, none⟩)), (110, vr), (111, .int .i64 nr), (112, .pointer (some ⟨g1, 0, none⟩)), (113, vc), (114, .int .i64 p.n), (115, .int .i64 (p.n + 1)), (116, B (nr = p.n + 1)), (118, .pointer (some ⟨g1, 1, none⟩)), (119, vA), (121, vr), (122, (sufV vr 1)), (126, .pointer (some ⟨g1, 2, none⟩)), (127, vb), (129, vr), (130, .pointer (some (cad vr 0))), (131, .int .i64 (fr 0)), (117, v9), (120, v10), (123, v11), (124, v12), (134, .pointer (some ⟨g4, 1, none⟩)), (125, v13), (128, v14), (132, v15), (133, v16), (135, .pointer (some ⟨g4, 2, none⟩))] ∧ Sat w0 w [.blk g1 [vc, vA, vb], .blk g2 [.int .u8 by0, .int .u8 by1], .own vXs1 1 3 ss1.n (ints ss1.X), .own vYs1 1 3 ss1.m (ints ss1.Y), .blk g3 [vXs1, vYs1, .int .i64 ss1.val, .int .i64 ss1.den], .blk g4 [vc, v12, v8], .own v3 1 22 1 (fun _ => (vq (Int.tmod by0 p.m))), .own v7 1 3 1 (ints (fun _ => (p.b (Int.tmod by0 p.m)))), .own v12 1 22 (p.m + 1) (gsn (cat (0 * 1) (ints (fun _ => 0)) vq) p.m (sufV vr 1)), .own v11 1 22 1 (fun _ => (sufV vr 1)), .own v16 1 3 (p.k + 1) (cat (p.k * 1) (cat (0 * 1) (ints (fun _ => 0)) (ints p.b)) (ints (fun _ => (fr 0)))), .own v15 1 3 1 (ints (fun _ => (fr 0)))]) #[true, true, true, true, true, true, true, true, true, true, true, true, true, true, true, true, true, true, true, true, false] 1 ?_ ?_
     ·
      rintro M w ⟨v9, v10, v11, v12, v13, v14, v15, v16, hv12, hv11, hv16, hv15, rfl, hS⟩
      refine zde 20 (xsb 5 pl_22 hS (hv := hv16.one)) ?_; clear hS; rintro w hS
      replace hS := hS.n12
      refine ⟨⟨fun h => absurd h (by decide), hS.pk [0, 1, 4]⟩, ?_⟩
      refine zdd <| ztn <| zsr ?_
      refine zlv (xls 5 st_25 hS) ?_
      replace hS := hS.recont 8 rfl (d := gsn vq p.m (sufV vr 1)) (fun k k0 k1 => by exact gsn_cat0 k0)
      replace hS := hS.n12
      replace hS := hS.recont 10 rfl (d := ints (gsn p.b p.m (fr 0))) (fun k k0 k1 => by exact ints_cat0 k0 (by omega))
      replace hS := hS.n12
      refine zlc (xc0 cl_9) (c_own (p := (addRow p (nr - 1) (fun k => fr (k + 1)) (fr 0))) w (lat_row (hL.below hS.below) (hS.rowN 8 rfl) (hS.rowN 10 rfl) ((suf_of (q := 1) hR9.slh hroom (by omega)).row (by omega) (hR9.below hS.below)) (suf_roomy hroom))) ?_; rintro _ w ⟨rfl, hS'⟩
      replace hS := hS.cmp hS'; clear hS'
      refine zlc (xc0 cl_11) (c_solve (p := (addRow p (nr - 1) (fun k => fr (k + 1)) (fr 0))) w (lat_row (hL.below hS.below) (hS.rowN 8 rfl) (hS.rowN 10 rfl) ((suf_of (q := 1) hR9.slh hroom (by omega)).row (by omega) (hR9.below hS.below)) (suf_roomy hroom))) ?_; rintro _ w ⟨vXs2, vYs2, ss2, es2, rfl, hsos2, hvXs2, hvYs2, hS'⟩
      replace hS : Sat w0 w [.blk g1 [vc, vA, vb], .blk g2 [.int .u8 by0, .int .u8 by1], .own vXs1 1 3 ss1.n (ints ss1.X), .own vYs1 1 3 ss1.m (ints ss1.Y), .blk g3 [vXs1, vYs1, .int .i64 ss1.val, .int .i64 ss1.den], .blk g4 [vc, v12, v16], .own v3 1 22 1 (fun _ => (vq (Int.tmod by0 p.m))), .own v7 1 3 1 (ints (fun _ => (p.b (Int.tmod by0 p.m)))), .own v12 1 22 (p.m + 1) (gsn vq p.m (sufV vr 1)), .own v11 1 22 1 (fun _ => (sufV vr 1)), .own v16 1 3 (p.k + 1) (ints (gsn p.b p.m (fr 0))), .own v15 1 3 1 (ints (fun _ => (fr 0))), .own vXs2 1 3 ss2.n (ints ss2.X), .own vYs2 1 3 ss2.m (ints ss2.Y)] := hS.comp hS'; clear hS'
      refine zs3 ?_
      refine zla (xal (cs := [_, _, _, _]) el_40 hS) ?_; rintro _ w ⟨g5, rfl, hS⟩
      replace hS := hS.n15
      refine zle (xsw 14 st_40 hS (hd := (ones_cons hvXs2.one (ones_cons hvYs2.one (ones_cons rfl (ones_cons rfl ones_nil)))))) ?_; clear hS; rintro w hS
      replace hS := hS.n15
      refine zlv xas ?_
      refine zlz ?_
      refine zs3 ?_
      refine zlb 144 ?_ ?_ <;> intro hc
      ·
       refine zlv (xfb 2 fd_40_2) ?_
       have ht := SolveR.chk (p := (addRow p (nr - 1) (fun k => fr (k + 1)) (fr 0))) (by first | (show 0 ≤ p.m + 1; omega) | (show 0 ≤ p.m; omega)) hsos2 (by omega)
       have ht0 := ht.v; have ht1 := ht.d1; have ht2 := ht.d2
       have hq1 := mul_abs (a := ss2.val) (b := ss1.den) (A := 1073741824) (B := 1073741824) (by omega) (by omega)
       have hq2 := mul_abs (a := ss1.val) (b := ss2.den) (A := 1073741824) (B := 1073741824) (by omega) (by omega)
       refine zlv (xlb 14 pl_3 hS) ?_
       refine zlv (xfb 3 fd_40_3) ?_
       refine zlv (xlb 4 pl_3 hS) ?_
       refine zlv (xmul (r := (ss2.val * ss1.den)) (e := rfl)) ?_
       refine zlv (xfb 2 fd_40_2) ?_
       refine zlv (xlb 4 pl_3 hS) ?_
       refine zlv (xfb 3 fd_40_3) ?_
       refine zlv (xlb 14 pl_3 hS) ?_
       refine zlv (xmul (r := (ss1.val * ss2.den)) (e := rfl)) ?_
       refine zs2 ?_
       refine zlt ?_
       refine zcif ?_ ?_ <;> intro hc
       ·
        refine zsr ?_
        refine zlv xas ?_
        refine zlt <| zrt <| zcr <| ztr <| zf1 ⟨_, rfl, ?_⟩
        exfalso
        first
        | omega
        | (have h9 := row_up (by omega) hcs ht; have h8 := row_dn hk0 hk1 hcs ht; omega)
        | (have h9 := row_up (by omega) hcs ht; omega)
        | (have h9 : es2 = 19 := by omega
           rw [h9] at hsos2
           first | exact row_no hk0 hk1 hcs hsos2 | exact dear_no (by omega) hcs hsos2)
       refine zsk <| zgj ⟨rfl, hS.pk [0, 1, 2, 3, 4, 6, 7]⟩
      iterate 11 refine zlo ?_
      refine zlv xpf ?_
      refine zlt <| zcf <| zsk <| zgj ⟨rfl, hS.pk [0, 1, 2, 3, 4, 6, 7]⟩
     intro hMm20
     refine zmem (fun M w => ∃ (v9 : Value) (v10 : Value) (v11 : Value) (v12 : Value) (v13 : Value) (v14 : Value) (v15 : Value) (v16 : Value), (Slh v12 (p.m + 1)) ∧ (Slh v11 1) ∧ (Slh v16 (p.k + 1)) ∧ (Slh v15 1) ∧ M = [(0, .agg #[vc, vA, vb]), (1, vr), (2, .agg #[.int .u8 by0, .int .u8 by1]), (3, .pointer (some ⟨g1, 0, none⟩)), (5, .pointer (some ⟨g2, 0, none⟩)), (6, .bool false), (20, .bool true), (21, .bool false), (22, .bool false), (23, .agg #[vc, vA, vb]), (24, B (FewP p)), (25, B (¬ (FewP p))), (26, B (¬ (FewP p))), (27, .bool false), (28, .agg #[vc, vA, vb]), (29, B (LOk p)), (30, B (¬ (LOk p))), (31, B (¬ (LOk p))), (32, .bool false), (33, .pointer (some ⟨g1, 1, none⟩)), (34, vA), (35, .int .i64 p.m), (36, B (p.m = 0)), (37, B (p.m = 0)), (38, .bool false), (39, .pointer (some ⟨g1, 1, none⟩)), (40, vA), (41, .int .i64 p.m), (42, B (7 < p.m)), (43, B (7 < p.m)), (46, .agg #[vc, vA, vb]), (47, .agg #[vc, vA, vb]), (48, .tuple #[.agg #[vXs1, vYs1, .int .i64 ss1.val, .int .i64 ss1.den], .int .i64 es1]), (45, .tuple #[.agg #[vXs1, vYs1, .int .i64 ss1.val, .int .i64 ss1.den], .int .i64 es1]), (49, .agg #[vXs1, vYs1, .int .i64 ss1.val, .int .i64 ss1.den]), (50, .int .i64 es1), (7, .pointer (some ⟨g3, 0, none⟩)), (8, .int .i64 es1), (51, .int .i64 es1), (52, B (es1 ≠ 0)), (53, .pointer (some ⟨g2, 0, none⟩)), (54, .int .u8 by0), (55, .int .i64 by0), (56, .pointer (some ⟨g1, 1, none⟩)), (57, vA), (58, .int .i64 p.m), (59, .int .i64 (Int.tmod by0 p.m)), (9, .int .i64 (Int.tmod by0 p.m)), (60, .agg #[vc, vA, vb]), (10, .pointer (some ⟨g4, 0, none⟩)), (62, .pointer (some ⟨g1, 1, none⟩)), (63, vA), (65, .pointer (some ⟨g1, 1, none⟩)), (66, vA), (67, .int .i64 (Int.tmod by0 p.m)), (68, .pointer (some (cad vA (Int.tmod by0 p.m)))), (69, (vq (Int.tmod by0 p.m))), (73, .pointer (some ⟨g1, 2, none⟩)), (74, vb), (76, .pointer (some ⟨g1, 2, none⟩)), (77, vb), (78, .int .i64 (Int.tmod by0 p.m)), (79, .pointer (some (cad vb (Int.tmod by0 p.m)))), (80, .int .i64 (p.b (Int.tmod by0 p.m))), (61, v1), (64, v2), (70, v3), (71, v4), (83, .pointer (some ⟨g4, 1, none⟩)), (72, v5), (75, v6), (81, v7), (82, v8), (84, .pointer (some ⟨g4, 2, none⟩)), (110, vr), (111, .int .i64 nr), (112, .pointer (some ⟨g1, 0, none⟩)), (113, vc), (114, .int .i64 p.n), (115, .int .i64 (p.n + 1)), (116, B (nr = p.n + 1)), (118, .pointer (some ⟨g1, 1, none⟩)), (119, vA), (121, vr), (122, (sufV vr 1)), (126, .pointer (some ⟨g1, 2, none⟩)), (127, vb), (129, vr), (130, .pointer (some (cad vr 0))), (131, .int .i64 (fr 0)), (117, v9), (120, v10), (123, v11), (124, v12), (134, .pointer (some ⟨g4, 1, none⟩)), (125, v13), (128, v14), (132, v15), (133, v16)] ∧ Sat w0 w [.blk g1 [vc, vA, vb], .blk g2 [.int .u8 by0, .int .u8 by1], .own vXs1 1 3 ss1.n (ints ss1.X), .own vYs1 1 3 ss1.m (ints ss1.Y), .blk g3 [vXs1, vYs1, .int .i64 ss1.val, .int .i64 ss1.den], .blk g4 [vc, v4, v8], .own v3 1 22 1 (fun _ => (vq (Int.tmod by0 p.m))), .own v7 1 3 1 (ints (fun _ => (p.b (Int.tmod by0 p.m)))), .own v12 1 22 (p.m + 1) (gsn (cat (0 * 1) (ints (fun _ => 0)) vq) p.m (sufV vr 1)), .own v11 1 22 1 (fun _ => (sufV vr 1)), .own v16 1 3 (p.k + 1) (cat (p.k * 1) (cat (0 * 1) (ints (fun _ => 0)) (ints p.b)) (ints (fun _ => (fr 0)))), .own v15 1 3 1 (ints (fun _ => (fr 0)))]) #[true, true, true, true, true, true, true, true, true, true, true, true, true, true, true, true, true, true, false, false, false] 3 ?_ ?_
     ·
      rintro M w ⟨v9, v10, v11, v12, v13, v14, v15, v16, hv12, hv11, hv16, hv15, rfl, hS⟩
      refine zde 18 (xsb 5 pl_23 hS (hv := hv12.one)) ?_; clear hS; rintro w hS
      replace hS := hS.n12
      refine ⟨⟨fun h => absurd h (by decide), hS.pk [0, 1, 4]⟩, ?_⟩
      refine zdv 19 (fun _ => (xfb 2 fd_25_2)) ?_
      exact zmus hMm20 ⟨v9, v10, v11, v12, v13, v14, v15, v16, hv12, hv11, hv16, hv15, rfl, hS⟩
     intro hMm19
     refine zmem (fun M w => ∃ (v9 : Value) (v10 : Value) (v11 : Value) (v12 : Value) (v13 : Value) (v14 : Value) (v15 : Value), (Slh v12 (p.m + 1)) ∧ (Slh v11 1) ∧ (Slh v14 p.k) ∧ (Slh v15 1) ∧ M = [(0, .agg #[vc, vA, vb]), (1, vr), (2, .agg #[.int .u8 by0, .int .u8 by1]), (3, .pointer (some ⟨g1, 0, none⟩)), (5, .pointer (some ⟨g2, 0, none⟩)), (6, .bool false), (20, .bool true), (21, .bool false), (22, .bool false), (23, .agg #[vc, vA, vb]), (24, B (FewP p)), (25, B (¬ (FewP p))), (26, B (¬ (FewP p))), (27, .bool false), (28, .agg #[vc, vA, vb]), (29, B (LOk p)), (30, B (¬ (LOk p))), (31, B (¬ (LOk p))), (32, .bool false), (33, .pointer (some ⟨g1, 1, none⟩)), (34, vA), (35, .int .i64 p.m), (36, B (p.m = 0)), (37, B (p.m = 0)), (38, .bool false), (39, .pointer (some ⟨g1, 1, none⟩)), (40, vA), (41, .int .i64 p.m), (42, B (7 < p.m)), (43, B (7 < p.m)), (46, .agg #[vc, vA, vb]), (47, .agg #[vc, vA, vb]), (48, .tuple #[.agg #[vXs1, vYs1, .int .i64 ss1.val, .int .i64 ss1.den], .int .i64 es1]), (45, .tuple #[.agg #[vXs1, vYs1, .int .i64 ss1.val, .int .i64 ss1.den], .int .i64 es1]), (49, .agg #[vXs1, vYs1, .int .i64 ss1.val, .int .i64 ss1.den]), (50, .int .i64 es1), (7, .pointer (some ⟨g3, 0, none⟩)), (8, .int .i64 es1), (51, .int .i64 es1), (52, B (es1 ≠ 0)), (53, .pointer (some ⟨g2, 0, none⟩)), (54, .int .u8 by0), (55, .int .i64 by0), (56, .pointer (some ⟨g1, 1, none⟩)), (57, vA), (58, .int .i64 p.m), (59, .int .i64 (Int.tmod by0 p.m)), (9, .int .i64 (Int.tmod by0 p.m)), (60, .agg #[vc, vA, vb]), (10, .pointer (some ⟨g4, 0, none⟩)), (62, .pointer (some ⟨g1, 1, none⟩)), (63, vA), (65, .pointer (some ⟨g1, 1, none⟩)), (66, vA), (67, .int .i64 (Int.tmod by0 p.m)), (68, .pointer (some (cad vA (Int.tmod by0 p.m)))), (69, (vq (Int.tmod by0 p.m))), (73, .pointer (some ⟨g1, 2, none⟩)), (74, vb), (76, .pointer (some ⟨g1, 2, none⟩)), (77, vb), (78, .int .i64 (Int.tmod by0 p.m)), (79, .pointer (some (cad vb (Int.tmod by0 p.m)))), (80, .int .i64 (p.b (Int.tmod by0 p.m))), (61, v1), (64, v2), (70, v3), (71, v4), (83, .pointer (some ⟨g4, 1, none⟩)), (72, v5), (75, v6), (81, v7), (82, v8), (84, .pointer (some ⟨g4, 2, none⟩)), (110, vr), (111, .int .i64 nr), (112, .pointer (some ⟨g1, 0, none⟩)), (113, vc), (114, .int .i64 p.n), (115, .int .i64 (p.n + 1)), (116, B (nr = p.n + 1)), (118, .pointer (some ⟨g1, 1, none⟩)), (119, vA), (121, vr), (122, (sufV vr 1)), (126, .pointer (some ⟨g1, 2, none⟩)), (127, vb), (129, vr), (130, .pointer (some (cad vr 0))), (131, .int .i64 (fr 0)), (117, v9), (120, v10), (123, v11), (124, v12), (134, .pointer (some ⟨g4, 1, none⟩)), (125, v13), (128, v14), (132, v15)] ∧ Sat w0 w [.blk g1 [vc, vA, vb], .blk g2 [.int .u8 by0, .int .u8 by1], .own vXs1 1 3 ss1.n (ints ss1.X), .own vYs1 1 3 ss1.m (ints ss1.Y), .blk g3 [vXs1, vYs1, .int .i64 ss1.val, .int .i64 ss1.den], .blk g4 [vc, v4, v8], .own v3 1 22 1 (fun _ => (vq (Int.tmod by0 p.m))), .own v7 1 3 1 (ints (fun _ => (p.b (Int.tmod by0 p.m)))), .own v12 1 22 (p.m + 1) (gsn (cat (0 * 1) (ints (fun _ => 0)) vq) p.m (sufV vr 1)), .own v11 1 22 1 (fun _ => (sufV vr 1)), .own v14 1 3 p.k (cat (0 * 1) (ints (fun _ => 0)) (ints p.b)), .own v15 1 3 1 (ints (fun _ => (fr 0)))]) #[true, true, true, true, true, true, true, true, true, true, true, true, true, true, true, true, false, true, false, false, false] 4 ?_ ?_
     ·
      rintro M w ⟨v9, v10, v11, v12, v13, v14, v15, hv12, hv11, hv14, hv15, rfl, hS⟩
      refine zda 16 (xap 10 (r := p.k + 1) (f := cat (p.k * 1) (cat (0 * 1) (ints (fun _ => 0)) (ints p.b)) (ints (fun _ => (fr 0)))) sl_22 el_3 hS (hS.rowN 11 rfl) rfl) ?_; rintro v16 w ⟨hS, hv16⟩
      replace hS := hS.n12
      refine ⟨⟨fun _ => hS.pk [0, 1, 4, 5], hS.pk [0, 1, 4]⟩, ?_⟩
      exact zmus hMm19 ⟨v9, v10, v11, v12, v13, v14, v15, v16, hv12, hv11, hv16, hv15, rfl, hS⟩
     intro hMm18
     refine zmem (fun M w => ∃ (v9 : Value) (v10 : Value) (v11 : Value) (v12 : Value) (v13 : Value) (v14 : Value), (Slh v12 (p.m + 1)) ∧ (Slh v11 1) ∧ (Slh v14 p.k) ∧ M = [(0, .agg #[vc, vA, vb]), (1, vr), (2, .agg #[.int .u8 by0, .int .u8 by1]), (3, .pointer (some ⟨g1, 0, none⟩)), (5, .pointer (some ⟨g2, 0, none⟩)), (6, .bool false), (20, .bool true), (21, .bool false), (22, .bool false), (23, .agg #[vc, vA, vb]), (24, B (FewP p)), (25, B (¬ (FewP p))), (26, B (¬ (FewP p))), (27, .bool false), (28, .agg #[vc, vA, vb]), (29, B (LOk p)), (30, B (¬ (LOk p))), (31, B (¬ (LOk p))), (32, .bool false), (33, .pointer (some ⟨g1, 1, none⟩)), (34, vA), (35, .int .i64 p.m), (36, B (p.m = 0)), (37, B (p.m = 0)), (38, .bool false), (39, .pointer (some ⟨g1, 1, none⟩)), (40, vA), (41, .int .i64 p.m), (42, B (7 < p.m)), (43, B (7 < p.m)), (46, .agg #[vc, vA, vb]), (47, .agg #[vc, vA, vb]), (48, .tuple #[.agg #[vXs1, vYs1, .int .i64 ss1.val, .int .i64 ss1.den], .int .i64 es1]), (45, .tuple #[.agg #[vXs1, vYs1, .int .i64 ss1.val, .int .i64 ss1.den], .int .i64 es1]), (49, .agg #[vXs1, vYs1, .int .i64 ss1.val, .int .i64 ss1.den]), (50, .int .i64 es1), (7, .pointer (some ⟨g3, 0, none⟩)), (8, .int .i64 es1), (51, .int .i64 es1), (52, B (es1 ≠ 0)), (53, .pointer (some ⟨g2, 0, none⟩)), (54, .int .u8 by0), (55, .int .i64 by0), (56, .pointer (some ⟨g1, 1, none⟩)), (57, vA), (58, .int .i64 p.m), (59, .int .i64 (Int.tmod by0 p.m)), (9, .int .i64 (Int.tmod by0 p.m)), (60, .agg #[vc, vA, vb]), (10, .pointer (some ⟨g4, 0, none⟩)), (62, .pointer (some ⟨g1, 1, none⟩)), (63, vA), (65, .pointer (some ⟨g1, 1, none⟩)), (66, vA), (67, .int .i64 (Int.tmod by0 p.m)), (68, .pointer (some (cad vA (Int.tmod by0 p.m)))), (69, (vq (Int.tmod by0 p.m))), (73, .pointer (some ⟨g1, 2, none⟩)), (74, vb), (76, .pointer (some ⟨g1, 2, none⟩)), (77, vb), (78, .int .i64 (Int.tmod by0 p.m)), (79, .pointer (some (cad vb (Int.tmod by0 p.m)))), (80, .int .i64 (p.b (Int.tmod by0 p.m))), (61, v1), (64, v2), (70, v3), (71, v4), (83, .pointer (some ⟨g4, 1, none⟩)), (72, v5), (75, v6), (81, v7), (82, v8), (84, .pointer (some ⟨g4, 2, none⟩)), (110, vr), (111, .int .i64 nr), (112, .pointer (some ⟨g1, 0, none⟩)), (113, vc), (114, .int .i64 p.n), (115, .int .i64 (p.n + 1)), (116, B (nr = p.n + 1)), (118, .pointer (some ⟨g1, 1, none⟩)), (119, vA), (121, vr), (122, (sufV vr 1)), (126, .pointer (some ⟨g1, 2, none⟩)), (127, vb), (129, vr), (130, .pointer (some (cad vr 0))), (131, .int .i64 (fr 0)), (117, v9), (120, v10), (123, v11), (124, v12), (134, .pointer (some ⟨g4, 1, none⟩)), (125, v13), (128, v14)] ∧ Sat w0 w [.blk g1 [vc, vA, vb], .blk g2 [.int .u8 by0, .int .u8 by1], .own vXs1 1 3 ss1.n (ints ss1.X), .own vYs1 1 3 ss1.m (ints ss1.Y), .blk g3 [vXs1, vYs1, .int .i64 ss1.val, .int .i64 ss1.den], .blk g4 [vc, v4, v8], .own v3 1 22 1 (fun _ => (vq (Int.tmod by0 p.m))), .own v7 1 3 1 (ints (fun _ => (p.b (Int.tmod by0 p.m)))), .own v12 1 22 (p.m + 1) (gsn (cat (0 * 1) (ints (fun _ => 0)) vq) p.m (sufV vr 1)), .own v11 1 22 1 (fun _ => (sufV vr 1)), .own v14 1 3 p.k (cat (0 * 1) (ints (fun _ => 0)) (ints p.b))]) #[true, true, true, true, true, true, true, true, true, true, true, true, true, true, true, false, false, true, false, false, false] 5 ?_ ?_
     ·
      rintro M w ⟨v9, v10, v11, v12, v13, v14, hv12, hv11, hv14, rfl, hS⟩
      refine zda 15 (xli (n := 1) (len := 1) (pv := [(0, .int .i64 (fr 0))]) (cs := [.int .i64 (fr 0)]) (c := ints (fun _ => (fr 0))) sl_22 el_3 hS) ?_; rintro v15 w ⟨hS, hv15⟩
      replace hS := hS.n12
      refine ⟨⟨fun _ => hS.pk [0, 1, 4, 5], hS.pk [0, 1, 4]⟩, ?_⟩
      exact zmus hMm18 ⟨v9, v10, v11, v12, v13, v14, v15, hv12, hv11, hv14, hv15, rfl, hS⟩
     intro hMm17
     refine zmem (fun M w => ∃ (v9 : Value) (v10 : Value) (v11 : Value) (v12 : Value) (v13 : Value) (v14 : Value), (Slh v12 (p.m + 1)) ∧ (Slh v11 1) ∧ (Slh v13 0) ∧ (Slh v14 1) ∧ M = [(0, .agg #[vc, vA, vb]), (1, vr), (2, .agg #[.int .u8 by0, .int .u8 by1]), (3, .pointer (some ⟨g1, 0, none⟩)), (5, .pointer (some ⟨g2, 0, none⟩)), (6, .bool false), (20, .bool true), (21, .bool false), (22, .bool false), (23, .agg #[vc, vA, vb]), (24, B (FewP p)), (25, B (¬ (FewP p))), (26, B (¬ (FewP p))), (27, .bool false), (28, .agg #[vc, vA, vb]), (29, B (LOk p)), (30, B (¬ (LOk p))), (31, B (¬ (LOk p))), (32, .bool false), (33, .pointer (some ⟨g1, 1, none⟩)), (34, vA), (35, .int .i64 p.m), (36, B (p.m = 0)), (37, B (p.m = 0)), (38, .bool false), (39, .pointer (some ⟨g1, 1, none⟩)), (40, vA), (41, .int .i64 p.m), (42, B (7 < p.m)), (43, B (7 < p.m)), (46, .agg #[vc, vA, vb]), (47, .agg #[vc, vA, vb]), (48, .tuple #[.agg #[vXs1, vYs1, .int .i64 ss1.val, .int .i64 ss1.den], .int .i64 es1]), (45, .tuple #[.agg #[vXs1, vYs1, .int .i64 ss1.val, .int .i64 ss1.den], .int .i64 es1]), (49, .agg #[vXs1, vYs1, .int .i64 ss1.val, .int .i64 ss1.den]), (50, .int .i64 es1), (7, .pointer (some ⟨g3, 0, none⟩)), (8, .int .i64 es1), (51, .int .i64 es1), (52, B (es1 ≠ 0)), (53, .pointer (some ⟨g2, 0, none⟩)), (54, .int .u8 by0), (55, .int .i64 by0), (56, .pointer (some ⟨g1, 1, none⟩)), (57, vA), (58, .int .i64 p.m), (59, .int .i64 (Int.tmod by0 p.m)), (9, .int .i64 (Int.tmod by0 p.m)), (60, .agg #[vc, vA, vb]), (10, .pointer (some ⟨g4, 0, none⟩)), (62, .pointer (some ⟨g1, 1, none⟩)), (63, vA), (65, .pointer (some ⟨g1, 1, none⟩)), (66, vA), (67, .int .i64 (Int.tmod by0 p.m)), (68, .pointer (some (cad vA (Int.tmod by0 p.m)))), (69, (vq (Int.tmod by0 p.m))), (73, .pointer (some ⟨g1, 2, none⟩)), (74, vb), (76, .pointer (some ⟨g1, 2, none⟩)), (77, vb), (78, .int .i64 (Int.tmod by0 p.m)), (79, .pointer (some (cad vb (Int.tmod by0 p.m)))), (80, .int .i64 (p.b (Int.tmod by0 p.m))), (61, v1), (64, v2), (70, v3), (71, v4), (83, .pointer (some ⟨g4, 1, none⟩)), (72, v5), (75, v6), (81, v7), (82, v8), (84, .pointer (some ⟨g4, 2, none⟩)), (110, vr), (111, .int .i64 nr), (112, .pointer (some ⟨g1, 0, none⟩)), (113, vc), (114, .int .i64 p.n), (115, .int .i64 (p.n + 1)), (116, B (nr = p.n + 1)), (118, .pointer (some ⟨g1, 1, none⟩)), (119, vA), (121, vr), (122, (sufV vr 1)), (126, .pointer (some ⟨g1, 2, none⟩)), (127, vb), (129, vr), (130, .pointer (some (cad vr 0))), (131, .int .i64 (fr 0)), (117, v9), (120, v10), (123, v11), (124, v12), (134, .pointer (some ⟨g4, 1, none⟩)), (125, v13), (132, v14)] ∧ Sat w0 w [.blk g1 [vc, vA, vb], .blk g2 [.int .u8 by0, .int .u8 by1], .own vXs1 1 3 ss1.n (ints ss1.X), .own vYs1 1 3 ss1.m (ints ss1.Y), .blk g3 [vXs1, vYs1, .int .i64 ss1.val, .int .i64 ss1.den], .blk g4 [vc, v4, v8], .own v3 1 22 1 (fun _ => (vq (Int.tmod by0 p.m))), .own v7 1 3 1 (ints (fun _ => (p.b (Int.tmod by0 p.m)))), .own v12 1 22 (p.m + 1) (gsn (cat (0 * 1) (ints (fun _ => 0)) vq) p.m (sufV vr 1)), .own v11 1 22 1 (fun _ => (sufV vr 1)), .own v13 1 3 0 (ints (fun _ => 0)), .own v14 1 3 1 (ints (fun _ => (fr 0)))]) #[true, true, true, true, true, true, true, true, true, true, true, false, true, true, true, true, false, true, false, false, false] 5 ?_ ?_
     ·
      rintro M w ⟨v9, v10, v11, v12, v13, v14, hv12, hv11, hv13, hv14, rfl, hS⟩
      refine zda 11 (xap 10 (r := p.k) (f := cat (0 * 1) (ints (fun _ => 0)) (ints p.b)) sl_22 el_3 hS (hL.b.below hS.below) rfl) ?_; rintro v15 w ⟨hS, hv15⟩
      replace hS := hS.n12
      refine ⟨⟨fun _ => hS.pk [0, 1, 4, 5], hS.pk [0, 1, 4]⟩, ?_⟩
      exact zmus hMm18 ⟨v9, v10, v11, v12, v13, v15, v14, hv12, hv11, hv15, hv14, rfl, hS⟩
     intro hMm21
     refine zmem (fun M w => ∃ (v9 : Value) (v10 : Value) (v11 : Value) (v12 : Value) (v13 : Value), (Slh v12 (p.m + 1)) ∧ (Slh v11 1) ∧ (Slh v13 0) ∧ M = [(0, .agg #[vc, vA, vb]), (1, vr), (2, .agg #[.int .u8 by0, .int .u8 by1]), (3, .pointer (some ⟨g1, 0, none⟩)), (5, .pointer (some ⟨g2, 0, none⟩)), (6, .bool false), (20, .bool true), (21, .bool false), (22, .bool false), (23, .agg #[vc, vA, vb]), (24, B (FewP p)), (25, B (¬ (FewP p))), (26, B (¬ (FewP p))), (27, .bool false), (28, .agg #[vc, vA, vb]), (29, B (LOk p)), (30, B (¬ (LOk p))), (31, B (¬ (LOk p))), (32, .bool false), (33, .pointer (some ⟨g1, 1, none⟩)), (34, vA), (35, .int .i64 p.m), (36, B (p.m = 0)), (37, B (p.m = 0)), (38, .bool false), (39, .pointer (some ⟨g1, 1, none⟩)), (40, vA), (41, .int .i64 p.m), (42, B (7 < p.m)), (43, B (7 < p.m)), (46, .agg #[vc, vA, vb]), (47, .agg #[vc, vA, vb]), (48, .tuple #[.agg #[vXs1, vYs1, .int .i64 ss1.val, .int .i64 ss1.den], .int .i64 es1]), (45, .tuple #[.agg #[vXs1, vYs1, .int .i64 ss1.val, .int .i64 ss1.den], .int .i64 es1]), (49, .agg #[vXs1, vYs1, .int .i64 ss1.val, .int .i64 ss1.den]), (50, .int .i64 es1), (7, .pointer (some ⟨g3, 0, none⟩)), (8, .int .i64 es1), (51, .int .i64 es1), (52, B (es1 ≠ 0)), (53, .pointer (some ⟨g2, 0, none⟩)), (54, .int .u8 by0), (55, .int .i64 by0), (56, .pointer (some ⟨g1, 1, none⟩)), (57, vA), (58, .int .i64 p.m), (59, .int .i64 (Int.tmod by0 p.m)), (9, .int .i64 (Int.tmod by0 p.m)), (60, .agg #[vc, vA, vb]), (10, .pointer (some ⟨g4, 0, none⟩)), (62, .pointer (some ⟨g1, 1, none⟩)), (63, vA), (65, .pointer (some ⟨g1, 1, none⟩)), (66, vA), (67, .int .i64 (Int.tmod by0 p.m)), (68, .pointer (some (cad vA (Int.tmod by0 p.m)))), (69, (vq (Int.tmod by0 p.m))), (73, .pointer (some ⟨g1, 2, none⟩)), (74, vb), (76, .pointer (some ⟨g1, 2, none⟩)), (77, vb), (78, .int .i64 (Int.tmod by0 p.m)), (79, .pointer (some (cad vb (Int.tmod by0 p.m)))), (80, .int .i64 (p.b (Int.tmod by0 p.m))), (61, v1), (64, v2), (70, v3), (71, v4), (83, .pointer (some ⟨g4, 1, none⟩)), (72, v5), (75, v6), (81, v7), (82, v8), (84, .pointer (some ⟨g4, 2, none⟩)), (110, vr), (111, .int .i64 nr), (112, .pointer (some ⟨g1, 0, none⟩)), (113, vc), (114, .int .i64 p.n), (115, .int .i64 (p.n + 1)), (116, B (nr = p.n + 1)), (118, .pointer (some ⟨g1, 1, none⟩)), (119, vA), (121, vr), (122, (sufV vr 1)), (126, .pointer (some ⟨g1, 2, none⟩)), (127, vb), (129, vr), (130, .pointer (some (cad vr 0))), (131, .int .i64 (fr 0)), (117, v9), (120, v10), (123, v11), (124, v12), (134, .pointer (some ⟨g4, 1, none⟩)), (125, v13)] ∧ Sat w0 w [.blk g1 [vc, vA, vb], .blk g2 [.int .u8 by0, .int .u8 by1], .own vXs1 1 3 ss1.n (ints ss1.X), .own vYs1 1 3 ss1.m (ints ss1.Y), .blk g3 [vXs1, vYs1, .int .i64 ss1.val, .int .i64 ss1.den], .blk g4 [vc, v4, v8], .own v3 1 22 1 (fun _ => (vq (Int.tmod by0 p.m))), .own v7 1 3 1 (ints (fun _ => (p.b (Int.tmod by0 p.m)))), .own v12 1 22 (p.m + 1) (gsn (cat (0 * 1) (ints (fun _ => 0)) vq) p.m (sufV vr 1)), .own v11 1 22 1 (fun _ => (sufV vr 1)), .own v13 1 3 0 (ints (fun _ => 0))]) #[true, true, true, true, true, true, true, true, true, true, true, false, true, true, true, false, false, true, false, false, false] 6 ?_ ?_
     ·
      rintro M w ⟨v9, v10, v11, v12, v13, hv12, hv11, hv13, rfl, hS⟩
      refine zdfk (r := [11, 15]) ((zdn1 ?_ (zdn1 ?_ zdn0)))
      ·
       refine zka (xap 10 (r := p.k) (f := cat (0 * 1) (ints (fun _ => 0)) (ints p.b)) sl_22 el_3 hS (hL.b.below hS.below) rfl) ?_; rintro v14 w ⟨hS, hv14⟩
       replace hS := hS.n11
       refine ⟨⟨fun _ => hS.pk [0, 1, 4, 5], hS.pk [0, 1, 4]⟩, ?_⟩
       exact zmus hMm17 ⟨v9, v10, v11, v12, v13, v14, hv12, hv11, hv14, rfl, hS⟩
      refine zka (xli (n := 1) (len := 1) (pv := [(0, .int .i64 (fr 0))]) (cs := [.int .i64 (fr 0)]) (c := ints (fun _ => (fr 0))) sl_22 el_3 hS) ?_; rintro v14 w ⟨hS, hv14⟩
      replace hS := hS.n12
      refine ⟨⟨fun _ => hS.pk [0, 1, 4, 5], hS.pk [0, 1, 4]⟩, ?_⟩
      exact zmus hMm21 ⟨v9, v10, v11, v12, v13, v14, hv12, hv11, hv13, hv14, rfl, hS⟩
     intro hMm16
     refine zmem (fun M w => ∃ (v9 : Value) (v10 : Value) (v11 : Value) (v12 : Value) (v13 : Value), (Slh v12 (p.m + 1)) ∧ (Slh v11 1) ∧ (Slh v13 1) ∧ M = [(0, .agg #[vc, vA, vb]), (1, vr), (2, .agg #[.int .u8 by0, .int .u8 by1]), (3, .pointer (some ⟨g1, 0, none⟩)), (5, .pointer (some ⟨g2, 0, none⟩)), (6, .bool false), (20, .bool true), (21, .bool false), (22, .bool false), (23, .agg #[vc, vA, vb]), (24, B (FewP p)), (25, B (¬ (FewP p))), (26, B (¬ (FewP p))), (27, .bool false), (28, .agg #[vc, vA, vb]), (29, B (LOk p)), (30, B (¬ (LOk p))), (31, B (¬ (LOk p))), (32, .bool false), (33, .pointer (some ⟨g1, 1, none⟩)), (34, vA), (35, .int .i64 p.m), (36, B (p.m = 0)), (37, B (p.m = 0)), (38, .bool false), (39, .pointer (some ⟨g1, 1, none⟩)), (40, vA), (41, .int .i64 p.m), (42, B (7 < p.m)), (43, B (7 < p.m)), (46, .agg #[vc, vA, vb]), (47, .agg #[vc, vA, vb]), (48, .tuple #[.agg #[vXs1, vYs1, .int .i64 ss1.val, .int .i64 ss1.den], .int .i64 es1]), (45, .tuple #[.agg #[vXs1, vYs1, .int .i64 ss1.val, .int .i64 ss1.den], .int .i64 es1]), (49, .agg #[vXs1, vYs1, .int .i64 ss1.val, .int .i64 ss1.den]), (50, .int .i64 es1), (7, .pointer (some ⟨g3, 0, none⟩)), (8, .int .i64 es1), (51, .int .i64 es1), (52, B (es1 ≠ 0)), (53, .pointer (some ⟨g2, 0, none⟩)), (54, .int .u8 by0), (55, .int .i64 by0), (56, .pointer (some ⟨g1, 1, none⟩)), (57, vA), (58, .int .i64 p.m), (59, .int .i64 (Int.tmod by0 p.m)), (9, .int .i64 (Int.tmod by0 p.m)), (60, .agg #[vc, vA, vb]), (10, .pointer (some ⟨g4, 0, none⟩)), (62, .pointer (some ⟨g1, 1, none⟩)), (63, vA), (65, .pointer (some ⟨g1, 1, none⟩)), (66, vA), (67, .int .i64 (Int.tmod by0 p.m)), (68, .pointer (some (cad vA (Int.tmod by0 p.m)))), (69, (vq (Int.tmod by0 p.m))), (73, .pointer (some ⟨g1, 2, none⟩)), (74, vb), (76, .pointer (some ⟨g1, 2, none⟩)), (77, vb), (78, .int .i64 (Int.tmod by0 p.m)), (79, .pointer (some (cad vb (Int.tmod by0 p.m)))), (80, .int .i64 (p.b (Int.tmod by0 p.m))), (61, v1), (64, v2), (70, v3), (71, v4), (83, .pointer (some ⟨g4, 1, none⟩)), (72, v5), (75, v6), (81, v7), (82, v8), (84, .pointer (some ⟨g4, 2, none⟩)), (110, vr), (111, .int .i64 nr), (112, .pointer (some ⟨g1, 0, none⟩)), (113, vc), (114, .int .i64 p.n), (115, .int .i64 (p.n + 1)), (116, B (nr = p.n + 1)), (118, .pointer (some ⟨g1, 1, none⟩)), (119, vA), (121, vr), (122, (sufV vr 1)), (126, .pointer (some ⟨g1, 2, none⟩)), (127, vb), (129, vr), (130, .pointer (some (cad vr 0))), (131, .int .i64 (fr 0)), (117, v9), (120, v10), (123, v11), (124, v12), (134, .pointer (some ⟨g4, 1, none⟩)), (132, v13)] ∧ Sat w0 w [.blk g1 [vc, vA, vb], .blk g2 [.int .u8 by0, .int .u8 by1], .own vXs1 1 3 ss1.n (ints ss1.X), .own vYs1 1 3 ss1.m (ints ss1.Y), .blk g3 [vXs1, vYs1, .int .i64 ss1.val, .int .i64 ss1.den], .blk g4 [vc, v4, v8], .own v3 1 22 1 (fun _ => (vq (Int.tmod by0 p.m))), .own v7 1 3 1 (ints (fun _ => (p.b (Int.tmod by0 p.m)))), .own v12 1 22 (p.m + 1) (gsn (cat (0 * 1) (ints (fun _ => 0)) vq) p.m (sufV vr 1)), .own v11 1 22 1 (fun _ => (sufV vr 1)), .own v13 1 3 1 (ints (fun _ => (fr 0)))]) #[true, true, true, true, true, true, true, true, false, true, true, false, true, true, true, true, false, true, false, false, false] 6 ?_ ?_
     ·
      rintro M w ⟨v9, v10, v11, v12, v13, hv12, hv11, hv13, rfl, hS⟩
      refine zda 8 (xl0 (c := ints (fun _ => 0)) sl_22 hS) ?_; rintro v14 w ⟨hS, hv14⟩
      replace hS := hS.n12
      refine ⟨⟨fun _ => hS.pk [0, 1, 4, 5], hS.pk [0, 1, 4]⟩, ?_⟩
      exact zmus hMm21 ⟨v9, v10, v11, v12, v14, v13, hv12, hv11, hv14, hv13, rfl, hS.pk [0, 1, 2, 3, 4, 5, 6, 7, 8, 9, 11, 10]⟩
     intro hMm22
     refine zmem (fun M w => ∃ (v9 : Value) (v10 : Value) (v11 : Value) (v12 : Value), (Slh v12 (p.m + 1)) ∧ (Slh v11 1) ∧ M = [(0, .agg #[vc, vA, vb]), (1, vr), (2, .agg #[.int .u8 by0, .int .u8 by1]), (3, .pointer (some ⟨g1, 0, none⟩)), (5, .pointer (some ⟨g2, 0, none⟩)), (6, .bool false), (20, .bool true), (21, .bool false), (22, .bool false), (23, .agg #[vc, vA, vb]), (24, B (FewP p)), (25, B (¬ (FewP p))), (26, B (¬ (FewP p))), (27, .bool false), (28, .agg #[vc, vA, vb]), (29, B (LOk p)), (30, B (¬ (LOk p))), (31, B (¬ (LOk p))), (32, .bool false), (33, .pointer (some ⟨g1, 1, none⟩)), (34, vA), (35, .int .i64 p.m), (36, B (p.m = 0)), (37, B (p.m = 0)), (38, .bool false), (39, .pointer (some ⟨g1, 1, none⟩)), (40, vA), (41, .int .i64 p.m), (42, B (7 < p.m)), (43, B (7 < p.m)), (46, .agg #[vc, vA, vb]), (47, .agg #[vc, vA, vb]), (48, .tuple #[.agg #[vXs1, vYs1, .int .i64 ss1.val, .int .i64 ss1.den], .int .i64 es1]), (45, .tuple #[.agg #[vXs1, vYs1, .int .i64 ss1.val, .int .i64 ss1.den], .int .i64 es1]), (49, .agg #[vXs1, vYs1, .int .i64 ss1.val, .int .i64 ss1.den]), (50, .int .i64 es1), (7, .pointer (some ⟨g3, 0, none⟩)), (8, .int .i64 es1), (51, .int .i64 es1), (52, B (es1 ≠ 0)), (53, .pointer (some ⟨g2, 0, none⟩)), (54, .int .u8 by0), (55, .int .i64 by0), (56, .pointer (some ⟨g1, 1, none⟩)), (57, vA), (58, .int .i64 p.m), (59, .int .i64 (Int.tmod by0 p.m)), (9, .int .i64 (Int.tmod by0 p.m)), (60, .agg #[vc, vA, vb]), (10, .pointer (some ⟨g4, 0, none⟩)), (62, .pointer (some ⟨g1, 1, none⟩)), (63, vA), (65, .pointer (some ⟨g1, 1, none⟩)), (66, vA), (67, .int .i64 (Int.tmod by0 p.m)), (68, .pointer (some (cad vA (Int.tmod by0 p.m)))), (69, (vq (Int.tmod by0 p.m))), (73, .pointer (some ⟨g1, 2, none⟩)), (74, vb), (76, .pointer (some ⟨g1, 2, none⟩)), (77, vb), (78, .int .i64 (Int.tmod by0 p.m)), (79, .pointer (some (cad vb (Int.tmod by0 p.m)))), (80, .int .i64 (p.b (Int.tmod by0 p.m))), (61, v1), (64, v2), (70, v3), (71, v4), (83, .pointer (some ⟨g4, 1, none⟩)), (72, v5), (75, v6), (81, v7), (82, v8), (84, .pointer (some ⟨g4, 2, none⟩)), (110, vr), (111, .int .i64 nr), (112, .pointer (some ⟨g1, 0, none⟩)), (113, vc), (114, .int .i64 p.n), (115, .int .i64 (p.n + 1)), (116, B (nr = p.n + 1)), (118, .pointer (some ⟨g1, 1, none⟩)), (119, vA), (121, vr), (122, (sufV vr 1)), (126, .pointer (some ⟨g1, 2, none⟩)), (127, vb), (129, vr), (130, .pointer (some (cad vr 0))), (131, .int .i64 (fr 0)), (117, v9), (120, v10), (123, v11), (124, v12), (134, .pointer (some ⟨g4, 1, none⟩))] ∧ Sat w0 w [.blk g1 [vc, vA, vb], .blk g2 [.int .u8 by0, .int .u8 by1], .own vXs1 1 3 ss1.n (ints ss1.X), .own vYs1 1 3 ss1.m (ints ss1.Y), .blk g3 [vXs1, vYs1, .int .i64 ss1.val, .int .i64 ss1.den], .blk g4 [vc, v4, v8], .own v3 1 22 1 (fun _ => (vq (Int.tmod by0 p.m))), .own v7 1 3 1 (ints (fun _ => (p.b (Int.tmod by0 p.m)))), .own v12 1 22 (p.m + 1) (gsn (cat (0 * 1) (ints (fun _ => 0)) vq) p.m (sufV vr 1)), .own v11 1 22 1 (fun _ => (sufV vr 1))]) #[true, true, true, true, true, true, true, true, false, true, true, false, true, true, true, false, false, true, false, false, false] 7 ?_ ?_
     ·
      rintro M w ⟨v9, v10, v11, v12, hv12, hv11, rfl, hS⟩
      refine zdfk (r := [8, 15]) ((zdn1 ?_ (zdn1 ?_ zdn0)))
      ·
       refine zka (xl0 (c := ints (fun _ => 0)) sl_22 hS) ?_; rintro v13 w ⟨hS, hv13⟩
       replace hS := hS.n11
       refine ⟨⟨fun _ => hS.pk [0, 1, 4, 5], hS.pk [0, 1, 4]⟩, ?_⟩
       exact zmus hMm16 ⟨v9, v10, v11, v12, v13, hv12, hv11, hv13, rfl, hS⟩
      refine zka (xli (n := 1) (len := 1) (pv := [(0, .int .i64 (fr 0))]) (cs := [.int .i64 (fr 0)]) (c := ints (fun _ => (fr 0))) sl_22 el_3 hS) ?_; rintro v13 w ⟨hS, hv13⟩
      replace hS := hS.n11
      refine ⟨⟨fun _ => hS.pk [0, 1, 4, 5], hS.pk [0, 1, 4]⟩, ?_⟩
      exact zmus hMm22 ⟨v9, v10, v11, v12, v13, hv12, hv11, hv13, rfl, hS⟩
     intro hMm15
     refine zmem (fun M w => ∃ (v9 : Value) (v10 : Value) (v11 : Value) (v12 : Value) (v13 : Value), (Slh v10 p.m) ∧ (Slh v11 1) ∧ (Slh v12 0) ∧ (Slh v13 1) ∧ M = [(0, .agg #[vc, vA, vb]), (1, vr), (2, .agg #[.int .u8 by0, .int .u8 by1]), (3, .pointer (some ⟨g1, 0, none⟩)), (5, .pointer (some ⟨g2, 0, none⟩)), (6, .bool false), (20, .bool true), (21, .bool false), (22, .bool false), (23, .agg #[vc, vA, vb]), (24, B (FewP p)), (25, B (¬ (FewP p))), (26, B (¬ (FewP p))), (27, .bool false), (28, .agg #[vc, vA, vb]), (29, B (LOk p)), (30, B (¬ (LOk p))), (31, B (¬ (LOk p))), (32, .bool false), (33, .pointer (some ⟨g1, 1, none⟩)), (34, vA), (35, .int .i64 p.m), (36, B (p.m = 0)), (37, B (p.m = 0)), (38, .bool false), (39, .pointer (some ⟨g1, 1, none⟩)), (40, vA), (41, .int .i64 p.m), (42, B (7 < p.m)), (43, B (7 < p.m)), (46, .agg #[vc, vA, vb]), (47, .agg #[vc, vA, vb]), (48, .tuple #[.agg #[vXs1, vYs1, .int .i64 ss1.val, .int .i64 ss1.den], .int .i64 es1]), (45, .tuple #[.agg #[vXs1, vYs1, .int .i64 ss1.val, .int .i64 ss1.den], .int .i64 es1]), (49, .agg #[vXs1, vYs1, .int .i64 ss1.val, .int .i64 ss1.den]), (50, .int .i64 es1), (7, .pointer (some ⟨g3, 0, none⟩)), (8, .int .i64 es1), (51, .int .i64 es1), (52, B (es1 ≠ 0)), (53, .pointer (some ⟨g2, 0, none⟩)), (54, .int .u8 by0), (55, .int .i64 by0), (56, .pointer (some ⟨g1, 1, none⟩)), (57, vA), (58, .int .i64 p.m), (59, .int .i64 (Int.tmod by0 p.m)), (9, .int .i64 (Int.tmod by0 p.m)), (60, .agg #[vc, vA, vb]), (10, .pointer (some ⟨g4, 0, none⟩)), (62, .pointer (some ⟨g1, 1, none⟩)), (63, vA), (65, .pointer (some ⟨g1, 1, none⟩)), (66, vA), (67, .int .i64 (Int.tmod by0 p.m)), (68, .pointer (some (cad vA (Int.tmod by0 p.m)))), (69, (vq (Int.tmod by0 p.m))), (73, .pointer (some ⟨g1, 2, none⟩)), (74, vb), (76, .pointer (some ⟨g1, 2, none⟩)), (77, vb), (78, .int .i64 (Int.tmod by0 p.m)), (79, .pointer (some (cad vb (Int.tmod by0 p.m)))), (80, .int .i64 (p.b (Int.tmod by0 p.m))), (61, v1), (64, v2), (70, v3), (71, v4), (83, .pointer (some ⟨g4, 1, none⟩)), (72, v5), (75, v6), (81, v7), (82, v8), (84, .pointer (some ⟨g4, 2, none⟩)), (110, vr), (111, .int .i64 nr), (112, .pointer (some ⟨g1, 0, none⟩)), (113, vc), (114, .int .i64 p.n), (115, .int .i64 (p.n + 1)), (116, B (nr = p.n + 1)), (118, .pointer (some ⟨g1, 1, none⟩)), (119, vA), (121, vr), (122, (sufV vr 1)), (126, .pointer (some ⟨g1, 2, none⟩)), (127, vb), (129, vr), (130, .pointer (some (cad vr 0))), (131, .int .i64 (fr 0)), (117, v9), (120, v10), (123, v11), (125, v12), (132, v13)] ∧ Sat w0 w [.blk g1 [vc, vA, vb], .blk g2 [.int .u8 by0, .int .u8 by1], .own vXs1 1 3 ss1.n (ints ss1.X), .own vYs1 1 3 ss1.m (ints ss1.Y), .blk g3 [vXs1, vYs1, .int .i64 ss1.val, .int .i64 ss1.den], .blk g4 [vc, v4, v8], .own v3 1 22 1 (fun _ => (vq (Int.tmod by0 p.m))), .own v7 1 3 1 (ints (fun _ => (p.b (Int.tmod by0 p.m)))), .own v10 1 22 p.m (cat (0 * 1) (ints (fun _ => 0)) vq), .own v11 1 22 1 (fun _ => (sufV vr 1)), .own v12 1 3 0 (ints (fun _ => 0)), .own v13 1 3 1 (ints (fun _ => (fr 0)))]) #[true, true, true, true, true, true, true, false, true, true, true, false, true, true, true, true, false, false, false, false, false] 7 ?_ ?_
     ·
      rintro M w ⟨v9, v10, v11, v12, v13, hv10, hv11, hv12, hv13, rfl, hS⟩
      refine zda 7 (xap 8 (r := p.m + 1) sl_23 el_22 hS (hS.rowN 9 rfl) (cat_gsn _ _ _) (h1 := fun _ _ _ => (suf_of (q := 1) hR9.slh hroom (by omega)).slh.one)) ?_; rintro v14 w ⟨hS, hv14⟩
      replace hS := hS.n12
      refine ⟨⟨fun _ => hS.pk [0, 1, 4, 5], hS.pk [0, 1, 4]⟩, ?_⟩
      refine zdv 17 (fun _ => (xfb 1 fd_25_1)) ?_
      exact zmus hMm21 ⟨v9, v10, v11, v14, v12, v13, hv14, hv11, hv12, hv13, rfl, hS⟩
     intro hMm24
     refine zmem (fun M w => ∃ (v9 : Value) (v10 : Value) (v11 : Value) (v12 : Value), (Slh v10 p.m) ∧ (Slh v11 1) ∧ (Slh v12 0) ∧ M = [(0, .agg #[vc, vA, vb]), (1, vr), (2, .agg #[.int .u8 by0, .int .u8 by1]), (3, .pointer (some ⟨g1, 0, none⟩)), (5, .pointer (some ⟨g2, 0, none⟩)), (6, .bool false), (20, .bool true), (21, .bool false), (22, .bool false), (23, .agg #[vc, vA, vb]), (24, B (FewP p)), (25, B (¬ (FewP p))), (26, B (¬ (FewP p))), (27, .bool false), (28, .agg #[vc, vA, vb]), (29, B (LOk p)), (30, B (¬ (LOk p))), (31, B (¬ (LOk p))), (32, .bool false), (33, .pointer (some ⟨g1, 1, none⟩)), (34, vA), (35, .int .i64 p.m), (36, B (p.m = 0)), (37, B (p.m = 0)), (38, .bool false), (39, .pointer (some ⟨g1, 1, none⟩)), (40, vA), (41, .int .i64 p.m), (42, B (7 < p.m)), (43, B (7 < p.m)), (46, .agg #[vc, vA, vb]), (47, .agg #[vc, vA, vb]), (48, .tuple #[.agg #[vXs1, vYs1, .int .i64 ss1.val, .int .i64 ss1.den], .int .i64 es1]), (45, .tuple #[.agg #[vXs1, vYs1, .int .i64 ss1.val, .int .i64 ss1.den], .int .i64 es1]), (49, .agg #[vXs1, vYs1, .int .i64 ss1.val, .int .i64 ss1.den]), (50, .int .i64 es1), (7, .pointer (some ⟨g3, 0, none⟩)), (8, .int .i64 es1), (51, .int .i64 es1), (52, B (es1 ≠ 0)), (53, .pointer (some ⟨g2, 0, none⟩)), (54, .int .u8 by0), (55, .int .i64 by0), (56, .pointer (some ⟨g1, 1, none⟩)), (57, vA), (58, .int .i64 p.m), (59, .int .i64 (Int.tmod by0 p.m)), (9, .int .i64 (Int.tmod by0 p.m)), (60, .agg #[vc, vA, vb]), (10, .pointer (some ⟨g4, 0, none⟩)), (62, .pointer (some ⟨g1, 1, none⟩)), (63, vA), (65, .pointer (some ⟨g1, 1, none⟩)), (66, vA), (67, .int .i64 (Int.tmod by0 p.m)), (68, .pointer (some (cad vA (Int.tmod by0 p.m)))), (69, (vq (Int.tmod by0 p.m))), (73, .pointer (some ⟨g1, 2, none⟩)), (74, vb), (76, .pointer (some ⟨g1, 2, none⟩)), (77, vb), (78, .int .i64 (Int.tmod by0 p.m)), (79, .pointer (some (cad vb (Int.tmod by0 p.m)))), (80, .int .i64 (p.b (Int.tmod by0 p.m))), (61, v1), (64, v2), (70, v3), (71, v4), (83, .pointer (some ⟨g4, 1, none⟩)), (72, v5), (75, v6), (81, v7), (82, v8), (84, .pointer (some ⟨g4, 2, none⟩)), (110, vr), (111, .int .i64 nr), (112, .pointer (some ⟨g1, 0, none⟩)), (113, vc), (114, .int .i64 p.n), (115, .int .i64 (p.n + 1)), (116, B (nr = p.n + 1)), (118, .pointer (some ⟨g1, 1, none⟩)), (119, vA), (121, vr), (122, (sufV vr 1)), (126, .pointer (some ⟨g1, 2, none⟩)), (127, vb), (129, vr), (130, .pointer (some (cad vr 0))), (131, .int .i64 (fr 0)), (117, v9), (120, v10), (123, v11), (125, v12)] ∧ Sat w0 w [.blk g1 [vc, vA, vb], .blk g2 [.int .u8 by0, .int .u8 by1], .own vXs1 1 3 ss1.n (ints ss1.X), .own vYs1 1 3 ss1.m (ints ss1.Y), .blk g3 [vXs1, vYs1, .int .i64 ss1.val, .int .i64 ss1.den], .blk g4 [vc, v4, v8], .own v3 1 22 1 (fun _ => (vq (Int.tmod by0 p.m))), .own v7 1 3 1 (ints (fun _ => (p.b (Int.tmod by0 p.m)))), .own v10 1 22 p.m (cat (0 * 1) (ints (fun _ => 0)) vq), .own v11 1 22 1 (fun _ => (sufV vr 1)), .own v12 1 3 0 (ints (fun _ => 0))]) #[true, true, true, true, true, true, true, false, true, true, true, false, true, true, true, false, false, false, false, false, false] 8 ?_ ?_
     ·
      rintro M w ⟨v9, v10, v11, v12, hv10, hv11, hv12, rfl, hS⟩
      refine zdfk (r := [7, 15]) ((zdn1 ?_ (zdn1 ?_ zdn0)))
      ·
       refine zka (xap 8 (r := p.m + 1) sl_23 el_22 hS (hS.rowN 9 rfl) (cat_gsn _ _ _) (h1 := fun _ _ _ => (suf_of (q := 1) hR9.slh hroom (by omega)).slh.one)) ?_; rintro v13 w ⟨hS, hv13⟩
       replace hS := hS.n11
       refine ⟨⟨fun _ => hS.pk [0, 1, 4, 5], hS.pk [0, 1, 4]⟩, ?_⟩
       refine zdv 17 (fun _ => (xfb 1 fd_25_1)) ?_
       exact zmus hMm16 ⟨v9, v10, v11, v13, v12, hv13, hv11, hv12, rfl, hS⟩
      refine zka (xli (n := 1) (len := 1) (pv := [(0, .int .i64 (fr 0))]) (cs := [.int .i64 (fr 0)]) (c := ints (fun _ => (fr 0))) sl_22 el_3 hS) ?_; rintro v13 w ⟨hS, hv13⟩
      replace hS := hS.n12
      refine ⟨⟨fun _ => hS.pk [0, 1, 4, 5], hS.pk [0, 1, 4]⟩, ?_⟩
      exact zmus hMm24 ⟨v9, v10, v11, v12, v13, hv10, hv11, hv12, hv13, rfl, hS⟩
     intro hMm23
     refine zmem (fun M w => ∃ (v9 : Value) (v10 : Value) (v11 : Value) (v12 : Value), (Slh v10 p.m) ∧ (Slh v11 1) ∧ (Slh v12 1) ∧ M = [(0, .agg #[vc, vA, vb]), (1, vr), (2, .agg #[.int .u8 by0, .int .u8 by1]), (3, .pointer (some ⟨g1, 0, none⟩)), (5, .pointer (some ⟨g2, 0, none⟩)), (6, .bool false), (20, .bool true), (21, .bool false), (22, .bool false), (23, .agg #[vc, vA, vb]), (24, B (FewP p)), (25, B (¬ (FewP p))), (26, B (¬ (FewP p))), (27, .bool false), (28, .agg #[vc, vA, vb]), (29, B (LOk p)), (30, B (¬ (LOk p))), (31, B (¬ (LOk p))), (32, .bool false), (33, .pointer (some ⟨g1, 1, none⟩)), (34, vA), (35, .int .i64 p.m), (36, B (p.m = 0)), (37, B (p.m = 0)), (38, .bool false), (39, .pointer (some ⟨g1, 1, none⟩)), (40, vA), (41, .int .i64 p.m), (42, B (7 < p.m)), (43, B (7 < p.m)), (46, .agg #[vc, vA, vb]), (47, .agg #[vc, vA, vb]), (48, .tuple #[.agg #[vXs1, vYs1, .int .i64 ss1.val, .int .i64 ss1.den], .int .i64 es1]), (45, .tuple #[.agg #[vXs1, vYs1, .int .i64 ss1.val, .int .i64 ss1.den], .int .i64 es1]), (49, .agg #[vXs1, vYs1, .int .i64 ss1.val, .int .i64 ss1.den]), (50, .int .i64 es1), (7, .pointer (some ⟨g3, 0, none⟩)), (8, .int .i64 es1), (51, .int .i64 es1), (52, B (es1 ≠ 0)), (53, .pointer (some ⟨g2, 0, none⟩)), (54, .int .u8 by0), (55, .int .i64 by0), (56, .pointer (some ⟨g1, 1, none⟩)), (57, vA), (58, .int .i64 p.m), (59, .int .i64 (Int.tmod by0 p.m)), (9, .int .i64 (Int.tmod by0 p.m)), (60, .agg #[vc, vA, vb]), (10, .pointer (some ⟨g4, 0, none⟩)), (62, .pointer (some ⟨g1, 1, none⟩)), (63, vA), (65, .pointer (some ⟨g1, 1, none⟩)), (66, vA), (67, .int .i64 (Int.tmod by0 p.m)), (68, .pointer (some (cad vA (Int.tmod by0 p.m)))), (69, (vq (Int.tmod by0 p.m))), (73, .pointer (some ⟨g1, 2, none⟩)), (74, vb), (76, .pointer (some ⟨g1, 2, none⟩)), (77, vb), (78, .int .i64 (Int.tmod by0 p.m)), (79, .pointer (some (cad vb (Int.tmod by0 p.m)))), (80, .int .i64 (p.b (Int.tmod by0 p.m))), (61, v1), (64, v2), (70, v3), (71, v4), (83, .pointer (some ⟨g4, 1, none⟩)), (72, v5), (75, v6), (81, v7), (82, v8), (84, .pointer (some ⟨g4, 2, none⟩)), (110, vr), (111, .int .i64 nr), (112, .pointer (some ⟨g1, 0, none⟩)), (113, vc), (114, .int .i64 p.n), (115, .int .i64 (p.n + 1)), (116, B (nr = p.n + 1)), (118, .pointer (some ⟨g1, 1, none⟩)), (119, vA), (121, vr), (122, (sufV vr 1)), (126, .pointer (some ⟨g1, 2, none⟩)), (127, vb), (129, vr), (130, .pointer (some (cad vr 0))), (131, .int .i64 (fr 0)), (117, v9), (120, v10), (123, v11), (132, v12)] ∧ Sat w0 w [.blk g1 [vc, vA, vb], .blk g2 [.int .u8 by0, .int .u8 by1], .own vXs1 1 3 ss1.n (ints ss1.X), .own vYs1 1 3 ss1.m (ints ss1.Y), .blk g3 [vXs1, vYs1, .int .i64 ss1.val, .int .i64 ss1.den], .blk g4 [vc, v4, v8], .own v3 1 22 1 (fun _ => (vq (Int.tmod by0 p.m))), .own v7 1 3 1 (ints (fun _ => (p.b (Int.tmod by0 p.m)))), .own v10 1 22 p.m (cat (0 * 1) (ints (fun _ => 0)) vq), .own v11 1 22 1 (fun _ => (sufV vr 1)), .own v12 1 3 1 (ints (fun _ => (fr 0)))]) #[true, true, true, true, true, true, true, false, false, true, true, false, true, true, true, true, false, false, false, false, false] 8 ?_ ?_
     ·
      rintro M w ⟨v9, v10, v11, v12, hv10, hv11, hv12, rfl, hS⟩
      refine zdfk (r := [7, 8]) ((zdn1 ?_ (zdn1 ?_ zdn0)))
      ·
       refine zka (xap 8 (r := p.m + 1) sl_23 el_22 hS (hS.rowN 9 rfl) (cat_gsn _ _ _) (h1 := fun _ _ _ => (suf_of (q := 1) hR9.slh hroom (by omega)).slh.one)) ?_; rintro v13 w ⟨hS, hv13⟩
       replace hS := hS.n11
       refine ⟨⟨fun _ => hS.pk [0, 1, 4, 5], hS.pk [0, 1, 4]⟩, ?_⟩
       refine zdv 17 (fun _ => (xfb 1 fd_25_1)) ?_
       exact zmus hMm22 ⟨v9, v10, v11, v13, v12, hv13, hv11, hv12, rfl, hS⟩
      refine zka (xl0 (c := ints (fun _ => 0)) sl_22 hS) ?_; rintro v13 w ⟨hS, hv13⟩
      replace hS := hS.n12
      refine ⟨⟨fun _ => hS.pk [0, 1, 4, 5], hS.pk [0, 1, 4]⟩, ?_⟩
      exact zmus hMm24 ⟨v9, v10, v11, v13, v12, hv10, hv11, hv13, hv12, rfl, hS.pk [0, 1, 2, 3, 4, 5, 6, 7, 8, 9, 11, 10]⟩
     intro hMm25
     refine zmem (fun M w => ∃ (v9 : Value) (v10 : Value) (v11 : Value), (Slh v10 p.m) ∧ (Slh v11 1) ∧ M = [(0, .agg #[vc, vA, vb]), (1, vr), (2, .agg #[.int .u8 by0, .int .u8 by1]), (3, .pointer (some ⟨g1, 0, none⟩)), (5, .pointer (some ⟨g2, 0, none⟩)), (6, .bool false), (20, .bool true), (21, .bool false), (22, .bool false), (23, .agg #[vc, vA, vb]), (24, B (FewP p)), (25, B (¬ (FewP p))), (26, B (¬ (FewP p))), (27, .bool false), (28, .agg #[vc, vA, vb]), (29, B (LOk p)), (30, B (¬ (LOk p))), (31, B (¬ (LOk p))), (32, .bool false), (33, .pointer (some ⟨g1, 1, none⟩)), (34, vA), (35, .int .i64 p.m), (36, B (p.m = 0)), (37, B (p.m = 0)), (38, .bool false), (39, .pointer (some ⟨g1, 1, none⟩)), (40, vA), (41, .int .i64 p.m), (42, B (7 < p.m)), (43, B (7 < p.m)), (46, .agg #[vc, vA, vb]), (47, .agg #[vc, vA, vb]), (48, .tuple #[.agg #[vXs1, vYs1, .int .i64 ss1.val, .int .i64 ss1.den], .int .i64 es1]), (45, .tuple #[.agg #[vXs1, vYs1, .int .i64 ss1.val, .int .i64 ss1.den], .int .i64 es1]), (49, .agg #[vXs1, vYs1, .int .i64 ss1.val, .int .i64 ss1.den]), (50, .int .i64 es1), (7, .pointer (some ⟨g3, 0, none⟩)), (8, .int .i64 es1), (51, .int .i64 es1), (52, B (es1 ≠ 0)), (53, .pointer (some ⟨g2, 0, none⟩)), (54, .int .u8 by0), (55, .int .i64 by0), (56, .pointer (some ⟨g1, 1, none⟩)), (57, vA), (58, .int .i64 p.m), (59, .int .i64 (Int.tmod by0 p.m)), (9, .int .i64 (Int.tmod by0 p.m)), (60, .agg #[vc, vA, vb]), (10, .pointer (some ⟨g4, 0, none⟩)), (62, .pointer (some ⟨g1, 1, none⟩)), (63, vA), (65, .pointer (some ⟨g1, 1, none⟩)), (66, vA), (67, .int .i64 (Int.tmod by0 p.m)), (68, .pointer (some (cad vA (Int.tmod by0 p.m)))), (69, (vq (Int.tmod by0 p.m))), (73, .pointer (some ⟨g1, 2, none⟩)), (74, vb), (76, .pointer (some ⟨g1, 2, none⟩)), (77, vb), (78, .int .i64 (Int.tmod by0 p.m)), (79, .pointer (some (cad vb (Int.tmod by0 p.m)))), (80, .int .i64 (p.b (Int.tmod by0 p.m))), (61, v1), (64, v2), (70, v3), (71, v4), (83, .pointer (some ⟨g4, 1, none⟩)), (72, v5), (75, v6), (81, v7), (82, v8), (84, .pointer (some ⟨g4, 2, none⟩)), (110, vr), (111, .int .i64 nr), (112, .pointer (some ⟨g1, 0, none⟩)), (113, vc), (114, .int .i64 p.n), (115, .int .i64 (p.n + 1)), (116, B (nr = p.n + 1)), (118, .pointer (some ⟨g1, 1, none⟩)), (119, vA), (121, vr), (122, (sufV vr 1)), (126, .pointer (some ⟨g1, 2, none⟩)), (127, vb), (129, vr), (130, .pointer (some (cad vr 0))), (131, .int .i64 (fr 0)), (117, v9), (120, v10), (123, v11)] ∧ Sat w0 w [.blk g1 [vc, vA, vb], .blk g2 [.int .u8 by0, .int .u8 by1], .own vXs1 1 3 ss1.n (ints ss1.X), .own vYs1 1 3 ss1.m (ints ss1.Y), .blk g3 [vXs1, vYs1, .int .i64 ss1.val, .int .i64 ss1.den], .blk g4 [vc, v4, v8], .own v3 1 22 1 (fun _ => (vq (Int.tmod by0 p.m))), .own v7 1 3 1 (ints (fun _ => (p.b (Int.tmod by0 p.m)))), .own v10 1 22 p.m (cat (0 * 1) (ints (fun _ => 0)) vq), .own v11 1 22 1 (fun _ => (sufV vr 1))]) #[true, true, true, true, true, true, true, false, false, true, true, false, true, true, true, false, false, false, false, false, false] 9 ?_ ?_
     ·
      rintro M w ⟨v9, v10, v11, hv10, hv11, rfl, hS⟩
      refine zdfk (r := [7, 8, 15]) ((zdn1 ?_ (zdn1 ?_ (zdn1 ?_ zdn0))))
      ·
       refine zka (xap 8 (r := p.m + 1) sl_23 el_22 hS (hS.rowN 9 rfl) (cat_gsn _ _ _) (h1 := fun _ _ _ => (suf_of (q := 1) hR9.slh hroom (by omega)).slh.one)) ?_; rintro v12 w ⟨hS, hv12⟩
       replace hS := hS.n10
       refine ⟨⟨fun _ => hS.pk [0, 1, 4, 5], hS.pk [0, 1, 4]⟩, ?_⟩
       refine zdv 17 (fun _ => (xfb 1 fd_25_1)) ?_
       exact zmus hMm15 ⟨v9, v10, v11, v12, hv12, hv11, rfl, hS⟩
      ·
       refine zka (xl0 (c := ints (fun _ => 0)) sl_22 hS) ?_; rintro v12 w ⟨hS, hv12⟩
       replace hS := hS.n11
       refine ⟨⟨fun _ => hS.pk [0, 1, 4, 5], hS.pk [0, 1, 4]⟩, ?_⟩
       exact zmus hMm23 ⟨v9, v10, v11, v12, hv10, hv11, hv12, rfl, hS⟩
      refine zka (xli (n := 1) (len := 1) (pv := [(0, .int .i64 (fr 0))]) (cs := [.int .i64 (fr 0)]) (c := ints (fun _ => (fr 0))) sl_22 el_3 hS) ?_; rintro v12 w ⟨hS, hv12⟩
      replace hS := hS.n11
      refine ⟨⟨fun _ => hS.pk [0, 1, 4, 5], hS.pk [0, 1, 4]⟩, ?_⟩
      exact zmus hMm25 ⟨v9, v10, v11, v12, hv10, hv11, hv12, rfl, hS⟩
     intro hMm14
     refine zmem (fun M w => ∃ (v9 : Value) (v10 : Value) (v11 : Value) (v12 : Value), (Slh v10 p.m) ∧ (Slh v11 0) ∧ (Slh v12 1) ∧ M = [(0, .agg #[vc, vA, vb]), (1, vr), (2, .agg #[.int .u8 by0, .int .u8 by1]), (3, .pointer (some ⟨g1, 0, none⟩)), (5, .pointer (some ⟨g2, 0, none⟩)), (6, .bool false), (20, .bool true), (21, .bool false), (22, .bool false), (23, .agg #[vc, vA, vb]), (24, B (FewP p)), (25, B (¬ (FewP p))), (26, B (¬ (FewP p))), (27, .bool false), (28, .agg #[vc, vA, vb]), (29, B (LOk p)), (30, B (¬ (LOk p))), (31, B (¬ (LOk p))), (32, .bool false), (33, .pointer (some ⟨g1, 1, none⟩)), (34, vA), (35, .int .i64 p.m), (36, B (p.m = 0)), (37, B (p.m = 0)), (38, .bool false), (39, .pointer (some ⟨g1, 1, none⟩)), (40, vA), (41, .int .i64 p.m), (42, B (7 < p.m)), (43, B (7 < p.m)), (46, .agg #[vc, vA, vb]), (47, .agg #[vc, vA, vb]), (48, .tuple #[.agg #[vXs1, vYs1, .int .i64 ss1.val, .int .i64 ss1.den], .int .i64 es1]), (45, .tuple #[.agg #[vXs1, vYs1, .int .i64 ss1.val, .int .i64 ss1.den], .int .i64 es1]), (49, .agg #[vXs1, vYs1, .int .i64 ss1.val, .int .i64 ss1.den]), (50, .int .i64 es1), (7, .pointer (some ⟨g3, 0, none⟩)), (8, .int .i64 es1), (51, .int .i64 es1), (52, B (es1 ≠ 0)), (53, .pointer (some ⟨g2, 0, none⟩)), (54, .int .u8 by0), (55, .int .i64 by0), (56, .pointer (some ⟨g1, 1, none⟩)), (57, vA), (58, .int .i64 p.m), (59, .int .i64 (Int.tmod by0 p.m)), (9, .int .i64 (Int.tmod by0 p.m)), (60, .agg #[vc, vA, vb]), (10, .pointer (some ⟨g4, 0, none⟩)), (62, .pointer (some ⟨g1, 1, none⟩)), (63, vA), (65, .pointer (some ⟨g1, 1, none⟩)), (66, vA), (67, .int .i64 (Int.tmod by0 p.m)), (68, .pointer (some (cad vA (Int.tmod by0 p.m)))), (69, (vq (Int.tmod by0 p.m))), (73, .pointer (some ⟨g1, 2, none⟩)), (74, vb), (76, .pointer (some ⟨g1, 2, none⟩)), (77, vb), (78, .int .i64 (Int.tmod by0 p.m)), (79, .pointer (some (cad vb (Int.tmod by0 p.m)))), (80, .int .i64 (p.b (Int.tmod by0 p.m))), (61, v1), (64, v2), (70, v3), (71, v4), (83, .pointer (some ⟨g4, 1, none⟩)), (72, v5), (75, v6), (81, v7), (82, v8), (84, .pointer (some ⟨g4, 2, none⟩)), (110, vr), (111, .int .i64 nr), (112, .pointer (some ⟨g1, 0, none⟩)), (113, vc), (114, .int .i64 p.n), (115, .int .i64 (p.n + 1)), (116, B (nr = p.n + 1)), (118, .pointer (some ⟨g1, 1, none⟩)), (119, vA), (121, vr), (122, (sufV vr 1)), (126, .pointer (some ⟨g1, 2, none⟩)), (127, vb), (129, vr), (130, .pointer (some (cad vr 0))), (131, .int .i64 (fr 0)), (117, v9), (120, v10), (125, v11), (132, v12)] ∧ Sat w0 w [.blk g1 [vc, vA, vb], .blk g2 [.int .u8 by0, .int .u8 by1], .own vXs1 1 3 ss1.n (ints ss1.X), .own vYs1 1 3 ss1.m (ints ss1.Y), .blk g3 [vXs1, vYs1, .int .i64 ss1.val, .int .i64 ss1.den], .blk g4 [vc, v4, v8], .own v3 1 22 1 (fun _ => (vq (Int.tmod by0 p.m))), .own v7 1 3 1 (ints (fun _ => (p.b (Int.tmod by0 p.m)))), .own v10 1 22 p.m (cat (0 * 1) (ints (fun _ => 0)) vq), .own v11 1 3 0 (ints (fun _ => 0)), .own v12 1 3 1 (ints (fun _ => (fr 0)))]) #[true, true, true, true, true, true, false, false, true, true, true, false, true, true, true, true, false, false, false, false, false] 8 ?_ ?_
     ·
      rintro M w ⟨v9, v10, v11, v12, hv10, hv11, hv12, rfl, hS⟩
      refine zda 6 (xli (n := 1) (len := 1) (pv := [(0, (sufV vr 1))]) (cs := [(sufV vr 1)]) (c := (fun _ => (sufV vr 1))) sl_23 el_22 hS (hf := by have hz := (suf_of (q := 1) hR9.slh hroom (by omega)).slh; revert hz; generalize (sufV vr 1) = z; rintro ⟨_, _, _, _, rfl, _⟩; show _ = _; kernel_rfl)) ?_; rintro v13 w ⟨hS, hv13⟩
      replace hS := hS.n12
      refine ⟨⟨fun _ => hS.pk [0, 1, 4, 5], hS.pk [0, 1, 4]⟩, ?_⟩
      exact zmus hMm24 ⟨v9, v10, v13, v11, v12, hv10, hv13, hv11, hv12, rfl, hS.pk [0, 1, 2, 3, 4, 5, 6, 7, 8, 11, 9, 10]⟩
     intro hMm27
     refine zmem (fun M w => ∃ (v9 : Value) (v10 : Value) (v11 : Value), (Slh v10 p.m) ∧ (Slh v11 0) ∧ M = [(0, .agg #[vc, vA, vb]), (1, vr), (2, .agg #[.int .u8 by0, .int .u8 by1]), (3, .pointer (some ⟨g1, 0, none⟩)), (5, .pointer (some ⟨g2, 0, none⟩)), (6, .bool false), (20, .bool true), (21, .bool false), (22, .bool false), (23, .agg #[vc, vA, vb]), (24, B (FewP p)), (25, B (¬ (FewP p))), (26, B (¬ (FewP p))), (27, .bool false), (28, .agg #[vc, vA, vb]), (29, B (LOk p)), (30, B (¬ (LOk p))), (31, B (¬ (LOk p))), (32, .bool false), (33, .pointer (some ⟨g1, 1, none⟩)), (34, vA), (35, .int .i64 p.m), (36, B (p.m = 0)), (37, B (p.m = 0)), (38, .bool false), (39, .pointer (some ⟨g1, 1, none⟩)), (40, vA), (41, .int .i64 p.m), (42, B (7 < p.m)), (43, B (7 < p.m)), (46, .agg #[vc, vA, vb]), (47, .agg #[vc, vA, vb]), (48, .tuple #[.agg #[vXs1, vYs1, .int .i64 ss1.val, .int .i64 ss1.den], .int .i64 es1]), (45, .tuple #[.agg #[vXs1, vYs1, .int .i64 ss1.val, .int .i64 ss1.den], .int .i64 es1]), (49, .agg #[vXs1, vYs1, .int .i64 ss1.val, .int .i64 ss1.den]), (50, .int .i64 es1), (7, .pointer (some ⟨g3, 0, none⟩)), (8, .int .i64 es1), (51, .int .i64 es1), (52, B (es1 ≠ 0)), (53, .pointer (some ⟨g2, 0, none⟩)), (54, .int .u8 by0), (55, .int .i64 by0), (56, .pointer (some ⟨g1, 1, none⟩)), (57, vA), (58, .int .i64 p.m), (59, .int .i64 (Int.tmod by0 p.m)), (9, .int .i64 (Int.tmod by0 p.m)), (60, .agg #[vc, vA, vb]), (10, .pointer (some ⟨g4, 0, none⟩)), (62, .pointer (some ⟨g1, 1, none⟩)), (63, vA), (65, .pointer (some ⟨g1, 1, none⟩)), (66, vA), (67, .int .i64 (Int.tmod by0 p.m)), (68, .pointer (some (cad vA (Int.tmod by0 p.m)))), (69, (vq (Int.tmod by0 p.m))), (73, .pointer (some ⟨g1, 2, none⟩)), (74, vb), (76, .pointer (some ⟨g1, 2, none⟩)), (77, vb), (78, .int .i64 (Int.tmod by0 p.m)), (79, .pointer (some (cad vb (Int.tmod by0 p.m)))), (80, .int .i64 (p.b (Int.tmod by0 p.m))), (61, v1), (64, v2), (70, v3), (71, v4), (83, .pointer (some ⟨g4, 1, none⟩)), (72, v5), (75, v6), (81, v7), (82, v8), (84, .pointer (some ⟨g4, 2, none⟩)), (110, vr), (111, .int .i64 nr), (112, .pointer (some ⟨g1, 0, none⟩)), (113, vc), (114, .int .i64 p.n), (115, .int .i64 (p.n + 1)), (116, B (nr = p.n + 1)), (118, .pointer (some ⟨g1, 1, none⟩)), (119, vA), (121, vr), (122, (sufV vr 1)), (126, .pointer (some ⟨g1, 2, none⟩)), (127, vb), (129, vr), (130, .pointer (some (cad vr 0))), (131, .int .i64 (fr 0)), (117, v9), (120, v10), (125, v11)] ∧ Sat w0 w [.blk g1 [vc, vA, vb], .blk g2 [.int .u8 by0, .int .u8 by1], .own vXs1 1 3 ss1.n (ints ss1.X), .own vYs1 1 3 ss1.m (ints ss1.Y), .blk g3 [vXs1, vYs1, .int .i64 ss1.val, .int .i64 ss1.den], .blk g4 [vc, v4, v8], .own v3 1 22 1 (fun _ => (vq (Int.tmod by0 p.m))), .own v7 1 3 1 (ints (fun _ => (p.b (Int.tmod by0 p.m)))), .own v10 1 22 p.m (cat (0 * 1) (ints (fun _ => 0)) vq), .own v11 1 3 0 (ints (fun _ => 0))]) #[true, true, true, true, true, true, false, false, true, true, true, false, true, true, true, false, false, false, false, false, false] 9 ?_ ?_
     ·
      rintro M w ⟨v9, v10, v11, hv10, hv11, rfl, hS⟩
      refine zdfk (r := [6, 15]) ((zdn1 ?_ (zdn1 ?_ zdn0)))
      ·
       refine zka (xli (n := 1) (len := 1) (pv := [(0, (sufV vr 1))]) (cs := [(sufV vr 1)]) (c := (fun _ => (sufV vr 1))) sl_23 el_22 hS (hf := by have hz := (suf_of (q := 1) hR9.slh hroom (by omega)).slh; revert hz; generalize (sufV vr 1) = z; rintro ⟨_, _, _, _, rfl, _⟩; show _ = _; kernel_rfl)) ?_; rintro v12 w ⟨hS, hv12⟩
       replace hS := hS.n11
       refine ⟨⟨fun _ => hS.pk [0, 1, 4, 5], hS.pk [0, 1, 4]⟩, ?_⟩
       exact zmus hMm23 ⟨v9, v10, v12, v11, hv10, hv12, hv11, rfl, hS.pk [0, 1, 2, 3, 4, 5, 6, 7, 8, 10, 9]⟩
      refine zka (xli (n := 1) (len := 1) (pv := [(0, .int .i64 (fr 0))]) (cs := [.int .i64 (fr 0)]) (c := ints (fun _ => (fr 0))) sl_22 el_3 hS) ?_; rintro v12 w ⟨hS, hv12⟩
      replace hS := hS.n11
      refine ⟨⟨fun _ => hS.pk [0, 1, 4, 5], hS.pk [0, 1, 4]⟩, ?_⟩
      exact zmus hMm27 ⟨v9, v10, v11, v12, hv10, hv11, hv12, rfl, hS⟩
     intro hMm26
     refine zmem (fun M w => ∃ (v9 : Value) (v10 : Value) (v11 : Value), (Slh v10 p.m) ∧ (Slh v11 1) ∧ M = [(0, .agg #[vc, vA, vb]), (1, vr), (2, .agg #[.int .u8 by0, .int .u8 by1]), (3, .pointer (some ⟨g1, 0, none⟩)), (5, .pointer (some ⟨g2, 0, none⟩)), (6, .bool false), (20, .bool true), (21, .bool false), (22, .bool false), (23, .agg #[vc, vA, vb]), (24, B (FewP p)), (25, B (¬ (FewP p))), (26, B (¬ (FewP p))), (27, .bool false), (28, .agg #[vc, vA, vb]), (29, B (LOk p)), (30, B (¬ (LOk p))), (31, B (¬ (LOk p))), (32, .bool false), (33, .pointer (some ⟨g1, 1, none⟩)), (34, vA), (35, .int .i64 p.m), (36, B (p.m = 0)), (37, B (p.m = 0)), (38, .bool false), (39, .pointer (some ⟨g1, 1, none⟩)), (40, vA), (41, .int .i64 p.m), (42, B (7 < p.m)), (43, B (7 < p.m)), (46, .agg #[vc, vA, vb]), (47, .agg #[vc, vA, vb]), (48, .tuple #[.agg #[vXs1, vYs1, .int .i64 ss1.val, .int .i64 ss1.den], .int .i64 es1]), (45, .tuple #[.agg #[vXs1, vYs1, .int .i64 ss1.val, .int .i64 ss1.den], .int .i64 es1]), (49, .agg #[vXs1, vYs1, .int .i64 ss1.val, .int .i64 ss1.den]), (50, .int .i64 es1), (7, .pointer (some ⟨g3, 0, none⟩)), (8, .int .i64 es1), (51, .int .i64 es1), (52, B (es1 ≠ 0)), (53, .pointer (some ⟨g2, 0, none⟩)), (54, .int .u8 by0), (55, .int .i64 by0), (56, .pointer (some ⟨g1, 1, none⟩)), (57, vA), (58, .int .i64 p.m), (59, .int .i64 (Int.tmod by0 p.m)), (9, .int .i64 (Int.tmod by0 p.m)), (60, .agg #[vc, vA, vb]), (10, .pointer (some ⟨g4, 0, none⟩)), (62, .pointer (some ⟨g1, 1, none⟩)), (63, vA), (65, .pointer (some ⟨g1, 1, none⟩)), (66, vA), (67, .int .i64 (Int.tmod by0 p.m)), (68, .pointer (some (cad vA (Int.tmod by0 p.m)))), (69, (vq (Int.tmod by0 p.m))), (73, .pointer (some ⟨g1, 2, none⟩)), (74, vb), (76, .pointer (some ⟨g1, 2, none⟩)), (77, vb), (78, .int .i64 (Int.tmod by0 p.m)), (79, .pointer (some (cad vb (Int.tmod by0 p.m)))), (80, .int .i64 (p.b (Int.tmod by0 p.m))), (61, v1), (64, v2), (70, v3), (71, v4), (83, .pointer (some ⟨g4, 1, none⟩)), (72, v5), (75, v6), (81, v7), (82, v8), (84, .pointer (some ⟨g4, 2, none⟩)), (110, vr), (111, .int .i64 nr), (112, .pointer (some ⟨g1, 0, none⟩)), (113, vc), (114, .int .i64 p.n), (115, .int .i64 (p.n + 1)), (116, B (nr = p.n + 1)), (118, .pointer (some ⟨g1, 1, none⟩)), (119, vA), (121, vr), (122, (sufV vr 1)), (126, .pointer (some ⟨g1, 2, none⟩)), (127, vb), (129, vr), (130, .pointer (some (cad vr 0))), (131, .int .i64 (fr 0)), (117, v9), (120, v10), (132, v11)] ∧ Sat w0 w [.blk g1 [vc, vA, vb], .blk g2 [.int .u8 by0, .int .u8 by1], .own vXs1 1 3 ss1.n (ints ss1.X), .own vYs1 1 3 ss1.m (ints ss1.Y), .blk g3 [vXs1, vYs1, .int .i64 ss1.val, .int .i64 ss1.den], .blk g4 [vc, v4, v8], .own v3 1 22 1 (fun _ => (vq (Int.tmod by0 p.m))), .own v7 1 3 1 (ints (fun _ => (p.b (Int.tmod by0 p.m)))), .own v10 1 22 p.m (cat (0 * 1) (ints (fun _ => 0)) vq), .own v11 1 3 1 (ints (fun _ => (fr 0)))]) #[true, true, true, true, true, true, false, false, false, true, true, false, true, true, true, true, false, false, false, false, false] 9 ?_ ?_
     ·
      rintro M w ⟨v9, v10, v11, hv10, hv11, rfl, hS⟩
      refine zdfk (r := [6, 8]) ((zdn1 ?_ (zdn1 ?_ zdn0)))
      ·
       refine zka (xli (n := 1) (len := 1) (pv := [(0, (sufV vr 1))]) (cs := [(sufV vr 1)]) (c := (fun _ => (sufV vr 1))) sl_23 el_22 hS (hf := by have hz := (suf_of (q := 1) hR9.slh hroom (by omega)).slh; revert hz; generalize (sufV vr 1) = z; rintro ⟨_, _, _, _, rfl, _⟩; show _ = _; kernel_rfl)) ?_; rintro v12 w ⟨hS, hv12⟩
       replace hS := hS.n11
       refine ⟨⟨fun _ => hS.pk [0, 1, 4, 5], hS.pk [0, 1, 4]⟩, ?_⟩
       exact zmus hMm25 ⟨v9, v10, v12, v11, hv10, hv12, hv11, rfl, hS.pk [0, 1, 2, 3, 4, 5, 6, 7, 8, 10, 9]⟩
      refine zka (xl0 (c := ints (fun _ => 0)) sl_22 hS) ?_; rintro v12 w ⟨hS, hv12⟩
      replace hS := hS.n11
      refine ⟨⟨fun _ => hS.pk [0, 1, 4, 5], hS.pk [0, 1, 4]⟩, ?_⟩
      exact zmus hMm27 ⟨v9, v10, v12, v11, hv10, hv12, hv11, rfl, hS.pk [0, 1, 2, 3, 4, 5, 6, 7, 8, 10, 9]⟩
     intro hMm28
     refine zmem (fun M w => ∃ (v9 : Value) (v10 : Value), (Slh v10 p.m) ∧ M = [(0, .agg #[vc, vA, vb]), (1, vr), (2, .agg #[.int .u8 by0, .int .u8 by1]), (3, .pointer (some ⟨g1, 0, none⟩)), (5, .pointer (some ⟨g2, 0, none⟩)), (6, .bool false), (20, .bool true), (21, .bool false), (22, .bool false), (23, .agg #[vc, vA, vb]), (24, B (FewP p)), (25, B (¬ (FewP p))), (26, B (¬ (FewP p))), (27, .bool false), (28, .agg #[vc, vA, vb]), (29, B (LOk p)), (30, B (¬ (LOk p))), (31, B (¬ (LOk p))), (32, .bool false), (33, .pointer (some ⟨g1, 1, none⟩)), (34, vA), (35, .int .i64 p.m), (36, B (p.m = 0)), (37, B (p.m = 0)), (38, .bool false), (39, .pointer (some ⟨g1, 1, none⟩)), (40, vA), (41, .int .i64 p.m), (42, B (7 < p.m)), (43, B (7 < p.m)), (46, .agg #[vc, vA, vb]), (47, .agg #[vc, vA, vb]), (48, .tuple #[.agg #[vXs1, vYs1, .int .i64 ss1.val, .int .i64 ss1.den], .int .i64 es1]), (45, .tuple #[.agg #[vXs1, vYs1, .int .i64 ss1.val, .int .i64 ss1.den], .int .i64 es1]), (49, .agg #[vXs1, vYs1, .int .i64 ss1.val, .int .i64 ss1.den]), (50, .int .i64 es1), (7, .pointer (some ⟨g3, 0, none⟩)), (8, .int .i64 es1), (51, .int .i64 es1), (52, B (es1 ≠ 0)), (53, .pointer (some ⟨g2, 0, none⟩)), (54, .int .u8 by0), (55, .int .i64 by0), (56, .pointer (some ⟨g1, 1, none⟩)), (57, vA), (58, .int .i64 p.m), (59, .int .i64 (Int.tmod by0 p.m)), (9, .int .i64 (Int.tmod by0 p.m)), (60, .agg #[vc, vA, vb]), (10, .pointer (some ⟨g4, 0, none⟩)), (62, .pointer (some ⟨g1, 1, none⟩)), (63, vA), (65, .pointer (some ⟨g1, 1, none⟩)), (66, vA), (67, .int .i64 (Int.tmod by0 p.m)), (68, .pointer (some (cad vA (Int.tmod by0 p.m)))), (69, (vq (Int.tmod by0 p.m))), (73, .pointer (some ⟨g1, 2, none⟩)), (74, vb), (76, .pointer (some ⟨g1, 2, none⟩)), (77, vb), (78, .int .i64 (Int.tmod by0 p.m)), (79, .pointer (some (cad vb (Int.tmod by0 p.m)))), (80, .int .i64 (p.b (Int.tmod by0 p.m))), (61, v1), (64, v2), (70, v3), (71, v4), (83, .pointer (some ⟨g4, 1, none⟩)), (72, v5), (75, v6), (81, v7), (82, v8), (84, .pointer (some ⟨g4, 2, none⟩)), (110, vr), (111, .int .i64 nr), (112, .pointer (some ⟨g1, 0, none⟩)), (113, vc), (114, .int .i64 p.n), (115, .int .i64 (p.n + 1)), (116, B (nr = p.n + 1)), (118, .pointer (some ⟨g1, 1, none⟩)), (119, vA), (121, vr), (122, (sufV vr 1)), (126, .pointer (some ⟨g1, 2, none⟩)), (127, vb), (129, vr), (130, .pointer (some (cad vr 0))), (131, .int .i64 (fr 0)), (117, v9), (120, v10)] ∧ Sat w0 w [.blk g1 [vc, vA, vb], .blk g2 [.int .u8 by0, .int .u8 by1], .own vXs1 1 3 ss1.n (ints ss1.X), .own vYs1 1 3 ss1.m (ints ss1.Y), .blk g3 [vXs1, vYs1, .int .i64 ss1.val, .int .i64 ss1.den], .blk g4 [vc, v4, v8], .own v3 1 22 1 (fun _ => (vq (Int.tmod by0 p.m))), .own v7 1 3 1 (ints (fun _ => (p.b (Int.tmod by0 p.m)))), .own v10 1 22 p.m (cat (0 * 1) (ints (fun _ => 0)) vq)]) #[true, true, true, true, true, true, false, false, false, true, true, false, true, true, true, false, false, false, false, false, false] 10 ?_ ?_
     ·
      rintro M w ⟨v9, v10, hv10, rfl, hS⟩
      refine zdfk (r := [6, 8, 15]) ((zdn1 ?_ (zdn1 ?_ (zdn1 ?_ zdn0))))
      ·
       refine zka (xli (n := 1) (len := 1) (pv := [(0, (sufV vr 1))]) (cs := [(sufV vr 1)]) (c := (fun _ => (sufV vr 1))) sl_23 el_22 hS (hf := by have hz := (suf_of (q := 1) hR9.slh hroom (by omega)).slh; revert hz; generalize (sufV vr 1) = z; rintro ⟨_, _, _, _, rfl, _⟩; show _ = _; kernel_rfl)) ?_; rintro v11 w ⟨hS, hv11⟩
       replace hS := hS.n10
       refine ⟨⟨fun _ => hS.pk [0, 1, 4, 5], hS.pk [0, 1, 4]⟩, ?_⟩
       exact zmus hMm14 ⟨v9, v10, v11, hv10, hv11, rfl, hS⟩
      ·
       refine zka (xl0 (c := ints (fun _ => 0)) sl_22 hS) ?_; rintro v11 w ⟨hS, hv11⟩
       replace hS := hS.n10
       refine ⟨⟨fun _ => hS.pk [0, 1, 4, 5], hS.pk [0, 1, 4]⟩, ?_⟩
       exact zmus hMm26 ⟨v9, v10, v11, hv10, hv11, rfl, hS⟩
      refine zka (xli (n := 1) (len := 1) (pv := [(0, .int .i64 (fr 0))]) (cs := [.int .i64 (fr 0)]) (c := ints (fun _ => (fr 0))) sl_22 el_3 hS) ?_; rintro v11 w ⟨hS, hv11⟩
      replace hS := hS.n10
      refine ⟨⟨fun _ => hS.pk [0, 1, 4, 5], hS.pk [0, 1, 4]⟩, ?_⟩
      exact zmus hMm28 ⟨v9, v10, v11, hv10, hv11, rfl, hS⟩
     intro hMm13
     refine zmem (fun M w => ∃ (v9 : Value) (v10 : Value) (v11 : Value) (v12 : Value), (Slh v9 0) ∧ (Slh v10 1) ∧ (Slh v11 0) ∧ (Slh v12 1) ∧ M = [(0, .agg #[vc, vA, vb]), (1, vr), (2, .agg #[.int .u8 by0, .int .u8 by1]), (3, .pointer (some ⟨g1, 0, none⟩)), (5, .pointer (some ⟨g2, 0, none⟩)), (6, .bool false), (20, .bool true), (21, .bool false), (22, .bool false), (23, .agg #[vc, vA, vb]), (24, B (FewP p)), (25, B (¬ (FewP p))), (26, B (¬ (FewP p))), (27, .bool false), (28, .agg #[vc, vA, vb]), (29, B (LOk p)), (30, B (¬ (LOk p))), (31, B (¬ (LOk p))), (32, .bool false), (33, .pointer (some ⟨g1, 1, none⟩)), (34, vA), (35, .int .i64 p.m), (36, B (p.m = 0)), (37, B (p.m = 0)), (38, .bool false), (39, .pointer (some ⟨g1, 1, none⟩)), (40, vA), (41, .int .i64 p.m), (42, B (7 < p.m)), (43, B (7 < p.m)), (46, .agg #[vc, vA, vb]), (47, .agg #[vc, vA, vb]), (48, .tuple #[.agg #[vXs1, vYs1, .int .i64 ss1.val, .int .i64 ss1.den], .int .i64 es1]), (45, .tuple #[.agg #[vXs1, vYs1, .int .i64 ss1.val, .int .i64 ss1.den], .int .i64 es1]), (49, .agg #[vXs1, vYs1, .int .i64 ss1.val, .int .i64 ss1.den]), (50, .int .i64 es1), (7, .pointer (some ⟨g3, 0, none⟩)), (8, .int .i64 es1), (51, .int .i64 es1), (52, B (es1 ≠ 0)), (53, .pointer (some ⟨g2, 0, none⟩)), (54, .int .u8 by0), (55, .int .i64 by0), (56, .pointer (some ⟨g1, 1, none⟩)), (57, vA), (58, .int .i64 p.m), (59, .int .i64 (Int.tmod by0 p.m)), (9, .int .i64 (Int.tmod by0 p.m)), (60, .agg #[vc, vA, vb]), (10, .pointer (some ⟨g4, 0, none⟩)), (62, .pointer (some ⟨g1, 1, none⟩)), (63, vA), (65, .pointer (some ⟨g1, 1, none⟩)), (66, vA), (67, .int .i64 (Int.tmod by0 p.m)), (68, .pointer (some (cad vA (Int.tmod by0 p.m)))), (69, (vq (Int.tmod by0 p.m))), (73, .pointer (some ⟨g1, 2, none⟩)), (74, vb), (76, .pointer (some ⟨g1, 2, none⟩)), (77, vb), (78, .int .i64 (Int.tmod by0 p.m)), (79, .pointer (some (cad vb (Int.tmod by0 p.m)))), (80, .int .i64 (p.b (Int.tmod by0 p.m))), (61, v1), (64, v2), (70, v3), (71, v4), (83, .pointer (some ⟨g4, 1, none⟩)), (72, v5), (75, v6), (81, v7), (82, v8), (84, .pointer (some ⟨g4, 2, none⟩)), (110, vr), (111, .int .i64 nr), (112, .pointer (some ⟨g1, 0, none⟩)), (113, vc), (114, .int .i64 p.n), (115, .int .i64 (p.n + 1)), (116, B (nr = p.n + 1)), (118, .pointer (some ⟨g1, 1, none⟩)), (119, vA), (121, vr), (122, (sufV vr 1)), (126, .pointer (some ⟨g1, 2, none⟩)), (127, vb), (129, vr), (130, .pointer (some (cad vr 0))), (131, .int .i64 (fr 0)), (117, v9), (123, v10), (125, v11), (132, v12)] ∧ Sat w0 w [.blk g1 [vc, vA, vb], .blk g2 [.int .u8 by0, .int .u8 by1], .own vXs1 1 3 ss1.n (ints ss1.X), .own vYs1 1 3 ss1.m (ints ss1.Y), .blk g3 [vXs1, vYs1, .int .i64 ss1.val, .int .i64 ss1.den], .blk g4 [vc, v4, v8], .own v3 1 22 1 (fun _ => (vq (Int.tmod by0 p.m))), .own v7 1 3 1 (ints (fun _ => (p.b (Int.tmod by0 p.m)))), .own v9 1 22 0 (ints (fun _ => 0)), .own v10 1 22 1 (fun _ => (sufV vr 1)), .own v11 1 3 0 (ints (fun _ => 0)), .own v12 1 3 1 (ints (fun _ => (fr 0)))]) #[true, true, true, false, true, true, true, false, true, true, true, false, true, true, true, true, false, false, false, false, false] 8 ?_ ?_
     ·
      rintro M w ⟨v9, v10, v11, v12, hv9, hv10, hv11, hv12, rfl, hS⟩
      refine zda 3 (xap 8 (r := p.m) (f := cat (0 * 1) (ints (fun _ => 0)) vq) sl_23 el_22 hS (hL.A.row.below hS.below) rfl (h1 := (fun k k0 k1 => (hL.A.p k k0 (by omega)).slh.one))) ?_; rintro v13 w ⟨hS, hv13⟩
      replace hS := hS.n12
      refine ⟨⟨fun _ => hS.pk [0, 1, 4, 5], hS.pk [0, 1, 4]⟩, ?_⟩
      exact zmus hMm24 ⟨v9, v13, v10, v11, v12, hv13, hv10, hv11, hv12, rfl, hS⟩
     intro hMm31
     refine zmem (fun M w => ∃ (v9 : Value) (v10 : Value) (v11 : Value), (Slh v9 0) ∧ (Slh v10 1) ∧ (Slh v11 0) ∧ M = [(0, .agg #[vc, vA, vb]), (1, vr), (2, .agg #[.int .u8 by0, .int .u8 by1]), (3, .pointer (some ⟨g1, 0, none⟩)), (5, .pointer (some ⟨g2, 0, none⟩)), (6, .bool false), (20, .bool true), (21, .bool false), (22, .bool false), (23, .agg #[vc, vA, vb]), (24, B (FewP p)), (25, B (¬ (FewP p))), (26, B (¬ (FewP p))), (27, .bool false), (28, .agg #[vc, vA, vb]), (29, B (LOk p)), (30, B (¬ (LOk p))), (31, B (¬ (LOk p))), (32, .bool false), (33, .pointer (some ⟨g1, 1, none⟩)), (34, vA), (35, .int .i64 p.m), (36, B (p.m = 0)), (37, B (p.m = 0)), (38, .bool false), (39, .pointer (some ⟨g1, 1, none⟩)), (40, vA), (41, .int .i64 p.m), (42, B (7 < p.m)), (43, B (7 < p.m)), (46, .agg #[vc, vA, vb]), (47, .agg #[vc, vA, vb]), (48, .tuple #[.agg #[vXs1, vYs1, .int .i64 ss1.val, .int .i64 ss1.den], .int .i64 es1]), (45, .tuple #[.agg #[vXs1, vYs1, .int .i64 ss1.val, .int .i64 ss1.den], .int .i64 es1]), (49, .agg #[vXs1, vYs1, .int .i64 ss1.val, .int .i64 ss1.den]), (50, .int .i64 es1), (7, .pointer (some ⟨g3, 0, none⟩)), (8, .int .i64 es1), (51, .int .i64 es1), (52, B (es1 ≠ 0)), (53, .pointer (some ⟨g2, 0, none⟩)), (54, .int .u8 by0), (55, .int .i64 by0), (56, .pointer (some ⟨g1, 1, none⟩)), (57, vA), (58, .int .i64 p.m), (59, .int .i64 (Int.tmod by0 p.m)), (9, .int .i64 (Int.tmod by0 p.m)), (60, .agg #[vc, vA, vb]), (10, .pointer (some ⟨g4, 0, none⟩)), (62, .pointer (some ⟨g1, 1, none⟩)), (63, vA), (65, .pointer (some ⟨g1, 1, none⟩)), (66, vA), (67, .int .i64 (Int.tmod by0 p.m)), (68, .pointer (some (cad vA (Int.tmod by0 p.m)))), (69, (vq (Int.tmod by0 p.m))), (73, .pointer (some ⟨g1, 2, none⟩)), (74, vb), (76, .pointer (some ⟨g1, 2, none⟩)), (77, vb), (78, .int .i64 (Int.tmod by0 p.m)), (79, .pointer (some (cad vb (Int.tmod by0 p.m)))), (80, .int .i64 (p.b (Int.tmod by0 p.m))), (61, v1), (64, v2), (70, v3), (71, v4), (83, .pointer (some ⟨g4, 1, none⟩)), (72, v5), (75, v6), (81, v7), (82, v8), (84, .pointer (some ⟨g4, 2, none⟩)), (110, vr), (111, .int .i64 nr), (112, .pointer (some ⟨g1, 0, none⟩)), (113, vc), (114, .int .i64 p.n), (115, .int .i64 (p.n + 1)), (116, B (nr = p.n + 1)), (118, .pointer (some ⟨g1, 1, none⟩)), (119, vA), (121, vr), (122, (sufV vr 1)), (126, .pointer (some ⟨g1, 2, none⟩)), (127, vb), (129, vr), (130, .pointer (some (cad vr 0))), (131, .int .i64 (fr 0)), (117, v9), (123, v10), (125, v11)] ∧ Sat w0 w [.blk g1 [vc, vA, vb], .blk g2 [.int .u8 by0, .int .u8 by1], .own vXs1 1 3 ss1.n (ints ss1.X), .own vYs1 1 3 ss1.m (ints ss1.Y), .blk g3 [vXs1, vYs1, .int .i64 ss1.val, .int .i64 ss1.den], .blk g4 [vc, v4, v8], .own v3 1 22 1 (fun _ => (vq (Int.tmod by0 p.m))), .own v7 1 3 1 (ints (fun _ => (p.b (Int.tmod by0 p.m)))), .own v9 1 22 0 (ints (fun _ => 0)), .own v10 1 22 1 (fun _ => (sufV vr 1)), .own v11 1 3 0 (ints (fun _ => 0))]) #[true, true, true, false, true, true, true, false, true, true, true, false, true, true, true, false, false, false, false, false, false] 9 ?_ ?_
     ·
      rintro M w ⟨v9, v10, v11, hv9, hv10, hv11, rfl, hS⟩
      refine zdfk (r := [3, 15]) ((zdn1 ?_ (zdn1 ?_ zdn0)))
      ·
       refine zka (xap 8 (r := p.m) (f := cat (0 * 1) (ints (fun _ => 0)) vq) sl_23 el_22 hS (hL.A.row.below hS.below) rfl (h1 := (fun k k0 k1 => (hL.A.p k k0 (by omega)).slh.one))) ?_; rintro v12 w ⟨hS, hv12⟩
       replace hS := hS.n11
       refine ⟨⟨fun _ => hS.pk [0, 1, 4, 5], hS.pk [0, 1, 4]⟩, ?_⟩
       exact zmus hMm23 ⟨v9, v12, v10, v11, hv12, hv10, hv11, rfl, hS⟩
      refine zka (xli (n := 1) (len := 1) (pv := [(0, .int .i64 (fr 0))]) (cs := [.int .i64 (fr 0)]) (c := ints (fun _ => (fr 0))) sl_22 el_3 hS) ?_; rintro v12 w ⟨hS, hv12⟩
      replace hS := hS.n12
      refine ⟨⟨fun _ => hS.pk [0, 1, 4, 5], hS.pk [0, 1, 4]⟩, ?_⟩
      exact zmus hMm31 ⟨v9, v10, v11, v12, hv9, hv10, hv11, hv12, rfl, hS⟩
     intro hMm30
     refine zmem (fun M w => ∃ (v9 : Value) (v10 : Value) (v11 : Value), (Slh v9 0) ∧ (Slh v10 1) ∧ (Slh v11 1) ∧ M = [(0, .agg #[vc, vA, vb]), (1, vr), (2, .agg #[.int .u8 by0, .int .u8 by1]), (3, .pointer (some ⟨g1, 0, none⟩)), (5, .pointer (some ⟨g2, 0, none⟩)), (6, .bool false), (20, .bool true), (21, .bool false), (22, .bool false), (23, .agg #[vc, vA, vb]), (24, B (FewP p)), (25, B (¬ (FewP p))), (26, B (¬ (FewP p))), (27, .bool false), (28, .agg #[vc, vA, vb]), (29, B (LOk p)), (30, B (¬ (LOk p))), (31, B (¬ (LOk p))), (32, .bool false), (33, .pointer (some ⟨g1, 1, none⟩)), (34, vA), (35, .int .i64 p.m), (36, B (p.m = 0)), (37, B (p.m = 0)), (38, .bool false), (39, .pointer (some ⟨g1, 1, none⟩)), (40, vA), (41, .int .i64 p.m), (42, B (7 < p.m)), (43, B (7 < p.m)), (46, .agg #[vc, vA, vb]), (47, .agg #[vc, vA, vb]), (48, .tuple #[.agg #[vXs1, vYs1, .int .i64 ss1.val, .int .i64 ss1.den], .int .i64 es1]), (45, .tuple #[.agg #[vXs1, vYs1, .int .i64 ss1.val, .int .i64 ss1.den], .int .i64 es1]), (49, .agg #[vXs1, vYs1, .int .i64 ss1.val, .int .i64 ss1.den]), (50, .int .i64 es1), (7, .pointer (some ⟨g3, 0, none⟩)), (8, .int .i64 es1), (51, .int .i64 es1), (52, B (es1 ≠ 0)), (53, .pointer (some ⟨g2, 0, none⟩)), (54, .int .u8 by0), (55, .int .i64 by0), (56, .pointer (some ⟨g1, 1, none⟩)), (57, vA), (58, .int .i64 p.m), (59, .int .i64 (Int.tmod by0 p.m)), (9, .int .i64 (Int.tmod by0 p.m)), (60, .agg #[vc, vA, vb]), (10, .pointer (some ⟨g4, 0, none⟩)), (62, .pointer (some ⟨g1, 1, none⟩)), (63, vA), (65, .pointer (some ⟨g1, 1, none⟩)), (66, vA), (67, .int .i64 (Int.tmod by0 p.m)), (68, .pointer (some (cad vA (Int.tmod by0 p.m)))), (69, (vq (Int.tmod by0 p.m))), (73, .pointer (some ⟨g1, 2, none⟩)), (74, vb), (76, .pointer (some ⟨g1, 2, none⟩)), (77, vb), (78, .int .i64 (Int.tmod by0 p.m)), (79, .pointer (some (cad vb (Int.tmod by0 p.m)))), (80, .int .i64 (p.b (Int.tmod by0 p.m))), (61, v1), (64, v2), (70, v3), (71, v4), (83, .pointer (some ⟨g4, 1, none⟩)), (72, v5), (75, v6), (81, v7), (82, v8), (84, .pointer (some ⟨g4, 2, none⟩)), (110, vr), (111, .int .i64 nr), (112, .pointer (some ⟨g1, 0, none⟩)), (113, vc), (114, .int .i64 p.n), (115, .int .i64 (p.n + 1)), (116, B (nr = p.n + 1)), (118, .pointer (some ⟨g1, 1, none⟩)), (119, vA), (121, vr), (122, (sufV vr 1)), (126, .pointer (some ⟨g1, 2, none⟩)), (127, vb), (129, vr), (130, .pointer (some (cad vr 0))), (131, .int .i64 (fr 0)), (117, v9), (123, v10), (132, v11)] ∧ Sat w0 w [.blk g1 [vc, vA, vb], .blk g2 [.int .u8 by0, .int .u8 by1], .own vXs1 1 3 ss1.n (ints ss1.X), .own vYs1 1 3 ss1.m (ints ss1.Y), .blk g3 [vXs1, vYs1, .int .i64 ss1.val, .int .i64 ss1.den], .blk g4 [vc, v4, v8], .own v3 1 22 1 (fun _ => (vq (Int.tmod by0 p.m))), .own v7 1 3 1 (ints (fun _ => (p.b (Int.tmod by0 p.m)))), .own v9 1 22 0 (ints (fun _ => 0)), .own v10 1 22 1 (fun _ => (sufV vr 1)), .own v11 1 3 1 (ints (fun _ => (fr 0)))]) #[true, true, true, false, true, true, true, false, false, true, true, false, true, true, true, true, false, false, false, false, false] 9 ?_ ?_
     ·
      rintro M w ⟨v9, v10, v11, hv9, hv10, hv11, rfl, hS⟩
      refine zdfk (r := [3, 8]) ((zdn1 ?_ (zdn1 ?_ zdn0)))
      ·
       refine zka (xap 8 (r := p.m) (f := cat (0 * 1) (ints (fun _ => 0)) vq) sl_23 el_22 hS (hL.A.row.below hS.below) rfl (h1 := (fun k k0 k1 => (hL.A.p k k0 (by omega)).slh.one))) ?_; rintro v12 w ⟨hS, hv12⟩
       replace hS := hS.n11
       refine ⟨⟨fun _ => hS.pk [0, 1, 4, 5], hS.pk [0, 1, 4]⟩, ?_⟩
       exact zmus hMm25 ⟨v9, v12, v10, v11, hv12, hv10, hv11, rfl, hS⟩
      refine zka (xl0 (c := ints (fun _ => 0)) sl_22 hS) ?_; rintro v12 w ⟨hS, hv12⟩
      replace hS := hS.n12
      refine ⟨⟨fun _ => hS.pk [0, 1, 4, 5], hS.pk [0, 1, 4]⟩, ?_⟩
      exact zmus hMm31 ⟨v9, v10, v12, v11, hv9, hv10, hv12, hv11, rfl, hS.pk [0, 1, 2, 3, 4, 5, 6, 7, 8, 9, 11, 10]⟩
     intro hMm32
     refine zmem (fun M w => ∃ (v9 : Value) (v10 : Value), (Slh v9 0) ∧ (Slh v10 1) ∧ M = [(0, .agg #[vc, vA, vb]), (1, vr), (2, .agg #[.int .u8 by0, .int .u8 by1]), (3, .pointer (some ⟨g1, 0, none⟩)), (5, .pointer (some ⟨g2, 0, none⟩)), (6, .bool false), (20, .bool true), (21, .bool false), (22, .bool false), (23, .agg #[vc, vA, vb]), (24, B (FewP p)), (25, B (¬ (FewP p))), (26, B (¬ (FewP p))), (27, .bool false), (28, .agg #[vc, vA, vb]), (29, B (LOk p)), (30, B (¬ (LOk p))), (31, B (¬ (LOk p))), (32, .bool false), (33, .pointer (some ⟨g1, 1, none⟩)), (34, vA), (35, .int .i64 p.m), (36, B (p.m = 0)), (37, B (p.m = 0)), (38, .bool false), (39, .pointer (some ⟨g1, 1, none⟩)), (40, vA), (41, .int .i64 p.m), (42, B (7 < p.m)), (43, B (7 < p.m)), (46, .agg #[vc, vA, vb]), (47, .agg #[vc, vA, vb]), (48, .tuple #[.agg #[vXs1, vYs1, .int .i64 ss1.val, .int .i64 ss1.den], .int .i64 es1]), (45, .tuple #[.agg #[vXs1, vYs1, .int .i64 ss1.val, .int .i64 ss1.den], .int .i64 es1]), (49, .agg #[vXs1, vYs1, .int .i64 ss1.val, .int .i64 ss1.den]), (50, .int .i64 es1), (7, .pointer (some ⟨g3, 0, none⟩)), (8, .int .i64 es1), (51, .int .i64 es1), (52, B (es1 ≠ 0)), (53, .pointer (some ⟨g2, 0, none⟩)), (54, .int .u8 by0), (55, .int .i64 by0), (56, .pointer (some ⟨g1, 1, none⟩)), (57, vA), (58, .int .i64 p.m), (59, .int .i64 (Int.tmod by0 p.m)), (9, .int .i64 (Int.tmod by0 p.m)), (60, .agg #[vc, vA, vb]), (10, .pointer (some ⟨g4, 0, none⟩)), (62, .pointer (some ⟨g1, 1, none⟩)), (63, vA), (65, .pointer (some ⟨g1, 1, none⟩)), (66, vA), (67, .int .i64 (Int.tmod by0 p.m)), (68, .pointer (some (cad vA (Int.tmod by0 p.m)))), (69, (vq (Int.tmod by0 p.m))), (73, .pointer (some ⟨g1, 2, none⟩)), (74, vb), (76, .pointer (some ⟨g1, 2, none⟩)), (77, vb), (78, .int .i64 (Int.tmod by0 p.m)), (79, .pointer (some (cad vb (Int.tmod by0 p.m)))), (80, .int .i64 (p.b (Int.tmod by0 p.m))), (61, v1), (64, v2), (70, v3), (71, v4), (83, .pointer (some ⟨g4, 1, none⟩)), (72, v5), (75, v6), (81, v7), (82, v8), (84, .pointer (some ⟨g4, 2, none⟩)), (110, vr), (111, .int .i64 nr), (112, .pointer (some ⟨g1, 0, none⟩)), (113, vc), (114, .int .i64 p.n), (115, .int .i64 (p.n + 1)), (116, B (nr = p.n + 1)), (118, .pointer (some ⟨g1, 1, none⟩)), (119, vA), (121, vr), (122, (sufV vr 1)), (126, .pointer (some ⟨g1, 2, none⟩)), (127, vb), (129, vr), (130, .pointer (some (cad vr 0))), (131, .int .i64 (fr 0)), (117, v9), (123, v10)] ∧ Sat w0 w [.blk g1 [vc, vA, vb], .blk g2 [.int .u8 by0, .int .u8 by1], .own vXs1 1 3 ss1.n (ints ss1.X), .own vYs1 1 3 ss1.m (ints ss1.Y), .blk g3 [vXs1, vYs1, .int .i64 ss1.val, .int .i64 ss1.den], .blk g4 [vc, v4, v8], .own v3 1 22 1 (fun _ => (vq (Int.tmod by0 p.m))), .own v7 1 3 1 (ints (fun _ => (p.b (Int.tmod by0 p.m)))), .own v9 1 22 0 (ints (fun _ => 0)), .own v10 1 22 1 (fun _ => (sufV vr 1))]) #[true, true, true, false, true, true, true, false, false, true, true, false, true, true, true, false, false, false, false, false, false] 10 ?_ ?_
     ·
      rintro M w ⟨v9, v10, hv9, hv10, rfl, hS⟩
      refine zdfk (r := [3, 8, 15]) ((zdn1 ?_ (zdn1 ?_ (zdn1 ?_ zdn0))))
      ·
       refine zka (xap 8 (r := p.m) (f := cat (0 * 1) (ints (fun _ => 0)) vq) sl_23 el_22 hS (hL.A.row.below hS.below) rfl (h1 := (fun k k0 k1 => (hL.A.p k k0 (by omega)).slh.one))) ?_; rintro v11 w ⟨hS, hv11⟩
       replace hS := hS.n10
       refine ⟨⟨fun _ => hS.pk [0, 1, 4, 5], hS.pk [0, 1, 4]⟩, ?_⟩
       exact zmus hMm14 ⟨v9, v11, v10, hv11, hv10, rfl, hS⟩
      ·
       refine zka (xl0 (c := ints (fun _ => 0)) sl_22 hS) ?_; rintro v11 w ⟨hS, hv11⟩
       replace hS := hS.n11
       refine ⟨⟨fun _ => hS.pk [0, 1, 4, 5], hS.pk [0, 1, 4]⟩, ?_⟩
       exact zmus hMm30 ⟨v9, v10, v11, hv9, hv10, hv11, rfl, hS⟩
      refine zka (xli (n := 1) (len := 1) (pv := [(0, .int .i64 (fr 0))]) (cs := [.int .i64 (fr 0)]) (c := ints (fun _ => (fr 0))) sl_22 el_3 hS) ?_; rintro v11 w ⟨hS, hv11⟩
      replace hS := hS.n11
      refine ⟨⟨fun _ => hS.pk [0, 1, 4, 5], hS.pk [0, 1, 4]⟩, ?_⟩
      exact zmus hMm32 ⟨v9, v10, v11, hv9, hv10, hv11, rfl, hS⟩
     intro hMm29
     refine zmem (fun M w => ∃ (v9 : Value) (v10 : Value) (v11 : Value), (Slh v9 0) ∧ (Slh v10 0) ∧ (Slh v11 1) ∧ M = [(0, .agg #[vc, vA, vb]), (1, vr), (2, .agg #[.int .u8 by0, .int .u8 by1]), (3, .pointer (some ⟨g1, 0, none⟩)), (5, .pointer (some ⟨g2, 0, none⟩)), (6, .bool false), (20, .bool true), (21, .bool false), (22, .bool false), (23, .agg #[vc, vA, vb]), (24, B (FewP p)), (25, B (¬ (FewP p))), (26, B (¬ (FewP p))), (27, .bool false), (28, .agg #[vc, vA, vb]), (29, B (LOk p)), (30, B (¬ (LOk p))), (31, B (¬ (LOk p))), (32, .bool false), (33, .pointer (some ⟨g1, 1, none⟩)), (34, vA), (35, .int .i64 p.m), (36, B (p.m = 0)), (37, B (p.m = 0)), (38, .bool false), (39, .pointer (some ⟨g1, 1, none⟩)), (40, vA), (41, .int .i64 p.m), (42, B (7 < p.m)), (43, B (7 < p.m)), (46, .agg #[vc, vA, vb]), (47, .agg #[vc, vA, vb]), (48, .tuple #[.agg #[vXs1, vYs1, .int .i64 ss1.val, .int .i64 ss1.den], .int .i64 es1]), (45, .tuple #[.agg #[vXs1, vYs1, .int .i64 ss1.val, .int .i64 ss1.den], .int .i64 es1]), (49, .agg #[vXs1, vYs1, .int .i64 ss1.val, .int .i64 ss1.den]), (50, .int .i64 es1), (7, .pointer (some ⟨g3, 0, none⟩)), (8, .int .i64 es1), (51, .int .i64 es1), (52, B (es1 ≠ 0)), (53, .pointer (some ⟨g2, 0, none⟩)), (54, .int .u8 by0), (55, .int .i64 by0), (56, .pointer (some ⟨g1, 1, none⟩)), (57, vA), (58, .int .i64 p.m), (59, .int .i64 (Int.tmod by0 p.m)), (9, .int .i64 (Int.tmod by0 p.m)), (60, .agg #[vc, vA, vb]), (10, .pointer (some ⟨g4, 0, none⟩)), (62, .pointer (some ⟨g1, 1, none⟩)), (63, vA), (65, .pointer (some ⟨g1, 1, none⟩)), (66, vA), (67, .int .i64 (Int.tmod by0 p.m)), (68, .pointer (some (cad vA (Int.tmod by0 p.m)))), (69, (vq (Int.tmod by0 p.m))), (73, .pointer (some ⟨g1, 2, none⟩)), (74, vb), (76, .pointer (some ⟨g1, 2, none⟩)), (77, vb), (78, .int .i64 (Int.tmod by0 p.m)), (79, .pointer (some (cad vb (Int.tmod by0 p.m)))), (80, .int .i64 (p.b (Int.tmod by0 p.m))), (61, v1), (64, v2), (70, v3), (71, v4), (83, .pointer (some ⟨g4, 1, none⟩)), (72, v5), (75, v6), (81, v7), (82, v8), (84, .pointer (some ⟨g4, 2, none⟩)), (110, vr), (111, .int .i64 nr), (112, .pointer (some ⟨g1, 0, none⟩)), (113, vc), (114, .int .i64 p.n), (115, .int .i64 (p.n + 1)), (116, B (nr = p.n + 1)), (118, .pointer (some ⟨g1, 1, none⟩)), (119, vA), (121, vr), (122, (sufV vr 1)), (126, .pointer (some ⟨g1, 2, none⟩)), (127, vb), (129, vr), (130, .pointer (some (cad vr 0))), (131, .int .i64 (fr 0)), (117, v9), (125, v10), (132, v11)] ∧ Sat w0 w [.blk g1 [vc, vA, vb], .blk g2 [.int .u8 by0, .int .u8 by1], .own vXs1 1 3 ss1.n (ints ss1.X), .own vYs1 1 3 ss1.m (ints ss1.Y), .blk g3 [vXs1, vYs1, .int .i64 ss1.val, .int .i64 ss1.den], .blk g4 [vc, v4, v8], .own v3 1 22 1 (fun _ => (vq (Int.tmod by0 p.m))), .own v7 1 3 1 (ints (fun _ => (p.b (Int.tmod by0 p.m)))), .own v9 1 22 0 (ints (fun _ => 0)), .own v10 1 3 0 (ints (fun _ => 0)), .own v11 1 3 1 (ints (fun _ => (fr 0)))]) #[true, true, true, false, true, true, false, false, true, true, true, false, true, true, true, true, false, false, false, false, false] 9 ?_ ?_
     ·
      rintro M w ⟨v9, v10, v11, hv9, hv10, hv11, rfl, hS⟩
      refine zdfk (r := [3, 6]) ((zdn1 ?_ (zdn1 ?_ zdn0)))
      ·
       refine zka (xap 8 (r := p.m) (f := cat (0 * 1) (ints (fun _ => 0)) vq) sl_23 el_22 hS (hL.A.row.below hS.below) rfl (h1 := (fun k k0 k1 => (hL.A.p k k0 (by omega)).slh.one))) ?_; rintro v12 w ⟨hS, hv12⟩
       replace hS := hS.n11
       refine ⟨⟨fun _ => hS.pk [0, 1, 4, 5], hS.pk [0, 1, 4]⟩, ?_⟩
       exact zmus hMm27 ⟨v9, v12, v10, v11, hv12, hv10, hv11, rfl, hS⟩
      refine zka (xli (n := 1) (len := 1) (pv := [(0, (sufV vr 1))]) (cs := [(sufV vr 1)]) (c := (fun _ => (sufV vr 1))) sl_23 el_22 hS (hf := by have hz := (suf_of (q := 1) hR9.slh hroom (by omega)).slh; revert hz; generalize (sufV vr 1) = z; rintro ⟨_, _, _, _, rfl, _⟩; show _ = _; kernel_rfl)) ?_; rintro v12 w ⟨hS, hv12⟩
      replace hS := hS.n12
      refine ⟨⟨fun _ => hS.pk [0, 1, 4, 5], hS.pk [0, 1, 4]⟩, ?_⟩
      exact zmus hMm31 ⟨v9, v12, v10, v11, hv9, hv12, hv10, hv11, rfl, hS.pk [0, 1, 2, 3, 4, 5, 6, 7, 8, 11, 9, 10]⟩
     intro hMm34
     refine zmem (fun M w => ∃ (v9 : Value) (v10 : Value), (Slh v9 0) ∧ (Slh v10 0) ∧ M = [(0, .agg #[vc, vA, vb]), (1, vr), (2, .agg #[.int .u8 by0, .int .u8 by1]), (3, .pointer (some ⟨g1, 0, none⟩)), (5, .pointer (some ⟨g2, 0, none⟩)), (6, .bool false), (20, .bool true), (21, .bool false), (22, .bool false), (23, .agg #[vc, vA, vb]), (24, B (FewP p)), (25, B (¬ (FewP p))), (26, B (¬ (FewP p))), (27, .bool false), (28, .agg #[vc, vA, vb]), (29, B (LOk p)), (30, B (¬ (LOk p))), (31, B (¬ (LOk p))), (32, .bool false), (33, .pointer (some ⟨g1, 1, none⟩)), (34, vA), (35, .int .i64 p.m), (36, B (p.m = 0)), (37, B (p.m = 0)), (38, .bool false), (39, .pointer (some ⟨g1, 1, none⟩)), (40, vA), (41, .int .i64 p.m), (42, B (7 < p.m)), (43, B (7 < p.m)), (46, .agg #[vc, vA, vb]), (47, .agg #[vc, vA, vb]), (48, .tuple #[.agg #[vXs1, vYs1, .int .i64 ss1.val, .int .i64 ss1.den], .int .i64 es1]), (45, .tuple #[.agg #[vXs1, vYs1, .int .i64 ss1.val, .int .i64 ss1.den], .int .i64 es1]), (49, .agg #[vXs1, vYs1, .int .i64 ss1.val, .int .i64 ss1.den]), (50, .int .i64 es1), (7, .pointer (some ⟨g3, 0, none⟩)), (8, .int .i64 es1), (51, .int .i64 es1), (52, B (es1 ≠ 0)), (53, .pointer (some ⟨g2, 0, none⟩)), (54, .int .u8 by0), (55, .int .i64 by0), (56, .pointer (some ⟨g1, 1, none⟩)), (57, vA), (58, .int .i64 p.m), (59, .int .i64 (Int.tmod by0 p.m)), (9, .int .i64 (Int.tmod by0 p.m)), (60, .agg #[vc, vA, vb]), (10, .pointer (some ⟨g4, 0, none⟩)), (62, .pointer (some ⟨g1, 1, none⟩)), (63, vA), (65, .pointer (some ⟨g1, 1, none⟩)), (66, vA), (67, .int .i64 (Int.tmod by0 p.m)), (68, .pointer (some (cad vA (Int.tmod by0 p.m)))), (69, (vq (Int.tmod by0 p.m))), (73, .pointer (some ⟨g1, 2, none⟩)), (74, vb), (76, .pointer (some ⟨g1, 2, none⟩)), (77, vb), (78, .int .i64 (Int.tmod by0 p.m)), (79, .pointer (some (cad vb (Int.tmod by0 p.m)))), (80, .int .i64 (p.b (Int.tmod by0 p.m))), (61, v1), (64, v2), (70, v3), (71, v4), (83, .pointer (some ⟨g4, 1, none⟩)), (72, v5), (75, v6), (81, v7), (82, v8), (84, .pointer (some ⟨g4, 2, none⟩)), (110, vr), (111, .int .i64 nr), (112, .pointer (some ⟨g1, 0, none⟩)), (113, vc), (114, .int .i64 p.n), (115, .int .i64 (p.n + 1)), (116, B (nr = p.n + 1)), (118, .pointer (some ⟨g1, 1, none⟩)), (119, vA), (121, vr), (122, (sufV vr 1)), (126, .pointer (some ⟨g1, 2, none⟩)), (127, vb), (129, vr), (130, .pointer (some (cad vr 0))), (131, .int .i64 (fr 0)), (117, v9), (125, v10)] ∧ Sat w0 w [.blk g1 [vc, vA, vb], .blk g2 [.int .u8 by0, .int .u8 by1], .own vXs1 1 3 ss1.n (ints ss1.X), .own vYs1 1 3 ss1.m (ints ss1.Y), .blk g3 [vXs1, vYs1, .int .i64 ss1.val, .int .i64 ss1.den], .blk g4 [vc, v4, v8], .own v3 1 22 1 (fun _ => (vq (Int.tmod by0 p.m))), .own v7 1 3 1 (ints (fun _ => (p.b (Int.tmod by0 p.m)))), .own v9 1 22 0 (ints (fun _ => 0)), .own v10 1 3 0 (ints (fun _ => 0))]) #[true, true, true, false, true, true, false, false, true, true, true, false, true, true, true, false, false, false, false, false, false] 10 ?_ ?_
     ·
      rintro M w ⟨v9, v10, hv9, hv10, rfl, hS⟩
      refine zdfk (r := [3, 6, 15]) ((zdn1 ?_ (zdn1 ?_ (zdn1 ?_ zdn0))))
      ·
       refine zka (xap 8 (r := p.m) (f := cat (0 * 1) (ints (fun _ => 0)) vq) sl_23 el_22 hS (hL.A.row.below hS.below) rfl (h1 := (fun k k0 k1 => (hL.A.p k k0 (by omega)).slh.one))) ?_; rintro v11 w ⟨hS, hv11⟩
       replace hS := hS.n10
       refine ⟨⟨fun _ => hS.pk [0, 1, 4, 5], hS.pk [0, 1, 4]⟩, ?_⟩
       exact zmus hMm26 ⟨v9, v11, v10, hv11, hv10, rfl, hS⟩
      ·
       refine zka (xli (n := 1) (len := 1) (pv := [(0, (sufV vr 1))]) (cs := [(sufV vr 1)]) (c := (fun _ => (sufV vr 1))) sl_23 el_22 hS (hf := by have hz := (suf_of (q := 1) hR9.slh hroom (by omega)).slh; revert hz; generalize (sufV vr 1) = z; rintro ⟨_, _, _, _, rfl, _⟩; show _ = _; kernel_rfl)) ?_; rintro v11 w ⟨hS, hv11⟩
       replace hS := hS.n11
       refine ⟨⟨fun _ => hS.pk [0, 1, 4, 5], hS.pk [0, 1, 4]⟩, ?_⟩
       exact zmus hMm30 ⟨v9, v11, v10, hv9, hv11, hv10, rfl, hS.pk [0, 1, 2, 3, 4, 5, 6, 7, 8, 10, 9]⟩
      refine zka (xli (n := 1) (len := 1) (pv := [(0, .int .i64 (fr 0))]) (cs := [.int .i64 (fr 0)]) (c := ints (fun _ => (fr 0))) sl_22 el_3 hS) ?_; rintro v11 w ⟨hS, hv11⟩
      replace hS := hS.n11
      refine ⟨⟨fun _ => hS.pk [0, 1, 4, 5], hS.pk [0, 1, 4]⟩, ?_⟩
      exact zmus hMm34 ⟨v9, v10, v11, hv9, hv10, hv11, rfl, hS⟩
     intro hMm33
     refine zmem (fun M w => ∃ (v9 : Value) (v10 : Value), (Slh v9 0) ∧ (Slh v10 1) ∧ M = [(0, .agg #[vc, vA, vb]), (1, vr), (2, .agg #[.int .u8 by0, .int .u8 by1]), (3, .pointer (some ⟨g1, 0, none⟩)), (5, .pointer (some ⟨g2, 0, none⟩)), (6, .bool false), (20, .bool true), (21, .bool false), (22, .bool false), (23, .agg #[vc, vA, vb]), (24, B (FewP p)), (25, B (¬ (FewP p))), (26, B (¬ (FewP p))), (27, .bool false), (28, .agg #[vc, vA, vb]), (29, B (LOk p)), (30, B (¬ (LOk p))), (31, B (¬ (LOk p))), (32, .bool false), (33, .pointer (some ⟨g1, 1, none⟩)), (34, vA), (35, .int .i64 p.m), (36, B (p.m = 0)), (37, B (p.m = 0)), (38, .bool false), (39, .pointer (some ⟨g1, 1, none⟩)), (40, vA), (41, .int .i64 p.m), (42, B (7 < p.m)), (43, B (7 < p.m)), (46, .agg #[vc, vA, vb]), (47, .agg #[vc, vA, vb]), (48, .tuple #[.agg #[vXs1, vYs1, .int .i64 ss1.val, .int .i64 ss1.den], .int .i64 es1]), (45, .tuple #[.agg #[vXs1, vYs1, .int .i64 ss1.val, .int .i64 ss1.den], .int .i64 es1]), (49, .agg #[vXs1, vYs1, .int .i64 ss1.val, .int .i64 ss1.den]), (50, .int .i64 es1), (7, .pointer (some ⟨g3, 0, none⟩)), (8, .int .i64 es1), (51, .int .i64 es1), (52, B (es1 ≠ 0)), (53, .pointer (some ⟨g2, 0, none⟩)), (54, .int .u8 by0), (55, .int .i64 by0), (56, .pointer (some ⟨g1, 1, none⟩)), (57, vA), (58, .int .i64 p.m), (59, .int .i64 (Int.tmod by0 p.m)), (9, .int .i64 (Int.tmod by0 p.m)), (60, .agg #[vc, vA, vb]), (10, .pointer (some ⟨g4, 0, none⟩)), (62, .pointer (some ⟨g1, 1, none⟩)), (63, vA), (65, .pointer (some ⟨g1, 1, none⟩)), (66, vA), (67, .int .i64 (Int.tmod by0 p.m)), (68, .pointer (some (cad vA (Int.tmod by0 p.m)))), (69, (vq (Int.tmod by0 p.m))), (73, .pointer (some ⟨g1, 2, none⟩)), (74, vb), (76, .pointer (some ⟨g1, 2, none⟩)), (77, vb), (78, .int .i64 (Int.tmod by0 p.m)), (79, .pointer (some (cad vb (Int.tmod by0 p.m)))), (80, .int .i64 (p.b (Int.tmod by0 p.m))), (61, v1), (64, v2), (70, v3), (71, v4), (83, .pointer (some ⟨g4, 1, none⟩)), (72, v5), (75, v6), (81, v7), (82, v8), (84, .pointer (some ⟨g4, 2, none⟩)), (110, vr), (111, .int .i64 nr), (112, .pointer (some ⟨g1, 0, none⟩)), (113, vc), (114, .int .i64 p.n), (115, .int .i64 (p.n + 1)), (116, B (nr = p.n + 1)), (118, .pointer (some ⟨g1, 1, none⟩)), (119, vA), (121, vr), (122, (sufV vr 1)), (126, .pointer (some ⟨g1, 2, none⟩)), (127, vb), (129, vr), (130, .pointer (some (cad vr 0))), (131, .int .i64 (fr 0)), (117, v9), (132, v10)] ∧ Sat w0 w [.blk g1 [vc, vA, vb], .blk g2 [.int .u8 by0, .int .u8 by1], .own vXs1 1 3 ss1.n (ints ss1.X), .own vYs1 1 3 ss1.m (ints ss1.Y), .blk g3 [vXs1, vYs1, .int .i64 ss1.val, .int .i64 ss1.den], .blk g4 [vc, v4, v8], .own v3 1 22 1 (fun _ => (vq (Int.tmod by0 p.m))), .own v7 1 3 1 (ints (fun _ => (p.b (Int.tmod by0 p.m)))), .own v9 1 22 0 (ints (fun _ => 0)), .own v10 1 3 1 (ints (fun _ => (fr 0)))]) #[true, true, true, false, true, true, false, false, false, true, true, false, true, true, true, true, false, false, false, false, false] 10 ?_ ?_
     ·
      rintro M w ⟨v9, v10, hv9, hv10, rfl, hS⟩
      refine zdfk (r := [3, 6, 8]) ((zdn1 ?_ (zdn1 ?_ (zdn1 ?_ zdn0))))
      ·
       refine zka (xap 8 (r := p.m) (f := cat (0 * 1) (ints (fun _ => 0)) vq) sl_23 el_22 hS (hL.A.row.below hS.below) rfl (h1 := (fun k k0 k1 => (hL.A.p k k0 (by omega)).slh.one))) ?_; rintro v11 w ⟨hS, hv11⟩
       replace hS := hS.n10
       refine ⟨⟨fun _ => hS.pk [0, 1, 4, 5], hS.pk [0, 1, 4]⟩, ?_⟩
       exact zmus hMm28 ⟨v9, v11, v10, hv11, hv10, rfl, hS⟩
      ·
       refine zka (xli (n := 1) (len := 1) (pv := [(0, (sufV vr 1))]) (cs := [(sufV vr 1)]) (c := (fun _ => (sufV vr 1))) sl_23 el_22 hS (hf := by have hz := (suf_of (q := 1) hR9.slh hroom (by omega)).slh; revert hz; generalize (sufV vr 1) = z; rintro ⟨_, _, _, _, rfl, _⟩; show _ = _; kernel_rfl)) ?_; rintro v11 w ⟨hS, hv11⟩
       replace hS := hS.n11
       refine ⟨⟨fun _ => hS.pk [0, 1, 4, 5], hS.pk [0, 1, 4]⟩, ?_⟩
       exact zmus hMm32 ⟨v9, v11, v10, hv9, hv11, hv10, rfl, hS.pk [0, 1, 2, 3, 4, 5, 6, 7, 8, 10, 9]⟩
      refine zka (xl0 (c := ints (fun _ => 0)) sl_22 hS) ?_; rintro v11 w ⟨hS, hv11⟩
      replace hS := hS.n11
      refine ⟨⟨fun _ => hS.pk [0, 1, 4, 5], hS.pk [0, 1, 4]⟩, ?_⟩
      exact zmus hMm34 ⟨v9, v11, v10, hv9, hv11, hv10, rfl, hS.pk [0, 1, 2, 3, 4, 5, 6, 7, 8, 10, 9]⟩
     intro hMm35
     refine zmem (fun M w => ∃ (v9 : Value), (Slh v9 0) ∧ M = [(0, .agg #[vc, vA, vb]), (1, vr), (2, .agg #[.int .u8 by0, .int .u8 by1]), (3, .pointer (some ⟨g1, 0, none⟩)), (5, .pointer (some ⟨g2, 0, none⟩)), (6, .bool false), (20, .bool true), (21, .bool false), (22, .bool false), (23, .agg #[vc, vA, vb]), (24, B (FewP p)), (25, B (¬ (FewP p))), (26, B (¬ (FewP p))), (27, .bool false), (28, .agg #[vc, vA, vb]), (29, B (LOk p)), (30, B (¬ (LOk p))), (31, B (¬ (LOk p))), (32, .bool false), (33, .pointer (some ⟨g1, 1, none⟩)), (34, vA), (35, .int .i64 p.m), (36, B (p.m = 0)), (37, B (p.m = 0)), (38, .bool false), (39, .pointer (some ⟨g1, 1, none⟩)), (40, vA), (41, .int .i64 p.m), (42, B (7 < p.m)), (43, B (7 < p.m)), (46, .agg #[vc, vA, vb]), (47, .agg #[vc, vA, vb]), (48, .tuple #[.agg #[vXs1, vYs1, .int .i64 ss1.val, .int .i64 ss1.den], .int .i64 es1]), (45, .tuple #[.agg #[vXs1, vYs1, .int .i64 ss1.val, .int .i64 ss1.den], .int .i64 es1]), (49, .agg #[vXs1, vYs1, .int .i64 ss1.val, .int .i64 ss1.den]), (50, .int .i64 es1), (7, .pointer (some ⟨g3, 0, none⟩)), (8, .int .i64 es1), (51, .int .i64 es1), (52, B (es1 ≠ 0)), (53, .pointer (some ⟨g2, 0, none⟩)), (54, .int .u8 by0), (55, .int .i64 by0), (56, .pointer (some ⟨g1, 1, none⟩)), (57, vA), (58, .int .i64 p.m), (59, .int .i64 (Int.tmod by0 p.m)), (9, .int .i64 (Int.tmod by0 p.m)), (60, .agg #[vc, vA, vb]), (10, .pointer (some ⟨g4, 0, none⟩)), (62, .pointer (some ⟨g1, 1, none⟩)), (63, vA), (65, .pointer (some ⟨g1, 1, none⟩)), (66, vA), (67, .int .i64 (Int.tmod by0 p.m)), (68, .pointer (some (cad vA (Int.tmod by0 p.m)))), (69, (vq (Int.tmod by0 p.m))), (73, .pointer (some ⟨g1, 2, none⟩)), (74, vb), (76, .pointer (some ⟨g1, 2, none⟩)), (77, vb), (78, .int .i64 (Int.tmod by0 p.m)), (79, .pointer (some (cad vb (Int.tmod by0 p.m)))), (80, .int .i64 (p.b (Int.tmod by0 p.m))), (61, v1), (64, v2), (70, v3), (71, v4), (83, .pointer (some ⟨g4, 1, none⟩)), (72, v5), (75, v6), (81, v7), (82, v8), (84, .pointer (some ⟨g4, 2, none⟩)), (110, vr), (111, .int .i64 nr), (112, .pointer (some ⟨g1, 0, none⟩)), (113, vc), (114, .int .i64 p.n), (115, .int .i64 (p.n + 1)), (116, B (nr = p.n + 1)), (118, .pointer (some ⟨g1, 1, none⟩)), (119, vA), (121, vr), (122, (sufV vr 1)), (126, .pointer (some ⟨g1, 2, none⟩)), (127, vb), (129, vr), (130, .pointer (some (cad vr 0))), (131, .int .i64 (fr 0)), (117, v9)] ∧ Sat w0 w [.blk g1 [vc, vA, vb], .blk g2 [.int .u8 by0, .int .u8 by1], .own vXs1 1 3 ss1.n (ints ss1.X), .own vYs1 1 3 ss1.m (ints ss1.Y), .blk g3 [vXs1, vYs1, .int .i64 ss1.val, .int .i64 ss1.den], .blk g4 [vc, v4, v8], .own v3 1 22 1 (fun _ => (vq (Int.tmod by0 p.m))), .own v7 1 3 1 (ints (fun _ => (p.b (Int.tmod by0 p.m)))), .own v9 1 22 0 (ints (fun _ => 0))]) #[true, true, true, false, true, true, false, false, false, true, true, false, true, true, true, false, false, false, false, false, false] 11 ?_ ?_
     ·
      rintro M w ⟨v9, hv9, rfl, hS⟩
      refine zdfk (r := [3, 6, 8, 15]) ((zdn1 ?_ (zdn1 ?_ (zdn1 ?_ (zdn1 ?_ zdn0)))))
      ·
       refine zka (xap 8 (r := p.m) (f := cat (0 * 1) (ints (fun _ => 0)) vq) sl_23 el_22 hS (hL.A.row.below hS.below) rfl (h1 := (fun k k0 k1 => (hL.A.p k k0 (by omega)).slh.one))) ?_; rintro v10 w ⟨hS, hv10⟩
       replace hS := hS.n9
       refine ⟨⟨fun _ => hS.pk [0, 1, 4, 5], hS.pk [0, 1, 4]⟩, ?_⟩
       exact zmus hMm13 ⟨v9, v10, hv10, rfl, hS⟩
      ·
       refine zka (xli (n := 1) (len := 1) (pv := [(0, (sufV vr 1))]) (cs := [(sufV vr 1)]) (c := (fun _ => (sufV vr 1))) sl_23 el_22 hS (hf := by have hz := (suf_of (q := 1) hR9.slh hroom (by omega)).slh; revert hz; generalize (sufV vr 1) = z; rintro ⟨_, _, _, _, rfl, _⟩; show _ = _; kernel_rfl)) ?_; rintro v10 w ⟨hS, hv10⟩
       replace hS := hS.n10
       refine ⟨⟨fun _ => hS.pk [0, 1, 4, 5], hS.pk [0, 1, 4]⟩, ?_⟩
       exact zmus hMm29 ⟨v9, v10, hv9, hv10, rfl, hS⟩
      ·
       refine zka (xl0 (c := ints (fun _ => 0)) sl_22 hS) ?_; rintro v10 w ⟨hS, hv10⟩
       replace hS := hS.n10
       refine ⟨⟨fun _ => hS.pk [0, 1, 4, 5], hS.pk [0, 1, 4]⟩, ?_⟩
       exact zmus hMm33 ⟨v9, v10, hv9, hv10, rfl, hS⟩
      refine zka (xli (n := 1) (len := 1) (pv := [(0, .int .i64 (fr 0))]) (cs := [.int .i64 (fr 0)]) (c := ints (fun _ => (fr 0))) sl_22 el_3 hS) ?_; rintro v10 w ⟨hS, hv10⟩
      replace hS := hS.n10
      refine ⟨⟨fun _ => hS.pk [0, 1, 4, 5], hS.pk [0, 1, 4]⟩, ?_⟩
      exact zmus hMm35 ⟨v9, v10, hv9, hv10, rfl, hS⟩
     intro hMm12
     refine zmem (fun M w => ∃ (v9 : Value) (v10 : Value) (v11 : Value), (Slh v9 1) ∧ (Slh v10 0) ∧ (Slh v11 1) ∧ M = [(0, .agg #[vc, vA, vb]), (1, vr), (2, .agg #[.int .u8 by0, .int .u8 by1]), (3, .pointer (some ⟨g1, 0, none⟩)), (5, .pointer (some ⟨g2, 0, none⟩)), (6, .bool false), (20, .bool true), (21, .bool false), (22, .bool false), (23, .agg #[vc, vA, vb]), (24, B (FewP p)), (25, B (¬ (FewP p))), (26, B (¬ (FewP p))), (27, .bool false), (28, .agg #[vc, vA, vb]), (29, B (LOk p)), (30, B (¬ (LOk p))), (31, B (¬ (LOk p))), (32, .bool false), (33, .pointer (some ⟨g1, 1, none⟩)), (34, vA), (35, .int .i64 p.m), (36, B (p.m = 0)), (37, B (p.m = 0)), (38, .bool false), (39, .pointer (some ⟨g1, 1, none⟩)), (40, vA), (41, .int .i64 p.m), (42, B (7 < p.m)), (43, B (7 < p.m)), (46, .agg #[vc, vA, vb]), (47, .agg #[vc, vA, vb]), (48, .tuple #[.agg #[vXs1, vYs1, .int .i64 ss1.val, .int .i64 ss1.den], .int .i64 es1]), (45, .tuple #[.agg #[vXs1, vYs1, .int .i64 ss1.val, .int .i64 ss1.den], .int .i64 es1]), (49, .agg #[vXs1, vYs1, .int .i64 ss1.val, .int .i64 ss1.den]), (50, .int .i64 es1), (7, .pointer (some ⟨g3, 0, none⟩)), (8, .int .i64 es1), (51, .int .i64 es1), (52, B (es1 ≠ 0)), (53, .pointer (some ⟨g2, 0, none⟩)), (54, .int .u8 by0), (55, .int .i64 by0), (56, .pointer (some ⟨g1, 1, none⟩)), (57, vA), (58, .int .i64 p.m), (59, .int .i64 (Int.tmod by0 p.m)), (9, .int .i64 (Int.tmod by0 p.m)), (60, .agg #[vc, vA, vb]), (10, .pointer (some ⟨g4, 0, none⟩)), (62, .pointer (some ⟨g1, 1, none⟩)), (63, vA), (65, .pointer (some ⟨g1, 1, none⟩)), (66, vA), (67, .int .i64 (Int.tmod by0 p.m)), (68, .pointer (some (cad vA (Int.tmod by0 p.m)))), (69, (vq (Int.tmod by0 p.m))), (73, .pointer (some ⟨g1, 2, none⟩)), (74, vb), (76, .pointer (some ⟨g1, 2, none⟩)), (77, vb), (78, .int .i64 (Int.tmod by0 p.m)), (79, .pointer (some (cad vb (Int.tmod by0 p.m)))), (80, .int .i64 (p.b (Int.tmod by0 p.m))), (61, v1), (64, v2), (70, v3), (71, v4), (83, .pointer (some ⟨g4, 1, none⟩)), (72, v5), (75, v6), (81, v7), (82, v8), (84, .pointer (some ⟨g4, 2, none⟩)), (110, vr), (111, .int .i64 nr), (112, .pointer (some ⟨g1, 0, none⟩)), (113, vc), (114, .int .i64 p.n), (115, .int .i64 (p.n + 1)), (116, B (nr = p.n + 1)), (118, .pointer (some ⟨g1, 1, none⟩)), (119, vA), (121, vr), (122, (sufV vr 1)), (126, .pointer (some ⟨g1, 2, none⟩)), (127, vb), (129, vr), (130, .pointer (some (cad vr 0))), (131, .int .i64 (fr 0)), (123, v9), (125, v10), (132, v11)] ∧ Sat w0 w [.blk g1 [vc, vA, vb], .blk g2 [.int .u8 by0, .int .u8 by1], .own vXs1 1 3 ss1.n (ints ss1.X), .own vYs1 1 3 ss1.m (ints ss1.Y), .blk g3 [vXs1, vYs1, .int .i64 ss1.val, .int .i64 ss1.den], .blk g4 [vc, v4, v8], .own v3 1 22 1 (fun _ => (vq (Int.tmod by0 p.m))), .own v7 1 3 1 (ints (fun _ => (p.b (Int.tmod by0 p.m)))), .own v9 1 22 1 (fun _ => (sufV vr 1)), .own v10 1 3 0 (ints (fun _ => 0)), .own v11 1 3 1 (ints (fun _ => (fr 0)))]) #[false, true, true, false, true, true, true, false, true, true, true, false, true, true, true, true, false, false, false, false, false] 9 ?_ ?_
     ·
      rintro M w ⟨v9, v10, v11, hv9, hv10, hv11, rfl, hS⟩
      refine zda 0 (xl0 (c := ints (fun _ => 0)) sl_23 hS) ?_; rintro v12 w ⟨hS, hv12⟩
      replace hS := hS.n12
      refine ⟨⟨fun _ => hS.pk [0, 1, 4, 5], hS.pk [0, 1, 4]⟩, ?_⟩
      exact zmus hMm31 ⟨v12, v9, v10, v11, hv12, hv9, hv10, hv11, rfl, hS.pk [0, 1, 2, 3, 4, 5, 6, 7, 11, 8, 9, 10]⟩
     intro hMm38
     refine zmem (fun M w => ∃ (v9 : Value) (v10 : Value), (Slh v9 1) ∧ (Slh v10 0) ∧ M = [(0, .agg #[vc, vA, vb]), (1, vr), (2, .agg #[.int .u8 by0, .int .u8 by1]), (3, .pointer (some ⟨g1, 0, none⟩)), (5, .pointer (some ⟨g2, 0, none⟩)), (6, .bool false), (20, .bool true), (21, .bool false), (22, .bool false), (23, .agg #[vc, vA, vb]), (24, B (FewP p)), (25, B (¬ (FewP p))), (26, B (¬ (FewP p))), (27, .bool false), (28, .agg #[vc, vA, vb]), (29, B (LOk p)), (30, B (¬ (LOk p))), (31, B (¬ (LOk p))), (32, .bool false), (33, .pointer (some ⟨g1, 1, none⟩)), (34, vA), (35, .int .i64 p.m), (36, B (p.m = 0)), (37, B (p.m = 0)), (38, .bool false), (39, .pointer (some ⟨g1, 1, none⟩)), (40, vA), (41, .int .i64 p.m), (42, B (7 < p.m)), (43, B (7 < p.m)), (46, .agg #[vc, vA, vb]), (47, .agg #[vc, vA, vb]), (48, .tuple #[.agg #[vXs1, vYs1, .int .i64 ss1.val, .int .i64 ss1.den], .int .i64 es1]), (45, .tuple #[.agg #[vXs1, vYs1, .int .i64 ss1.val, .int .i64 ss1.den], .int .i64 es1]), (49, .agg #[vXs1, vYs1, .int .i64 ss1.val, .int .i64 ss1.den]), (50, .int .i64 es1), (7, .pointer (some ⟨g3, 0, none⟩)), (8, .int .i64 es1), (51, .int .i64 es1), (52, B (es1 ≠ 0)), (53, .pointer (some ⟨g2, 0, none⟩)), (54, .int .u8 by0), (55, .int .i64 by0), (56, .pointer (some ⟨g1, 1, none⟩)), (57, vA), (58, .int .i64 p.m), (59, .int .i64 (Int.tmod by0 p.m)), (9, .int .i64 (Int.tmod by0 p.m)), (60, .agg #[vc, vA, vb]), (10, .pointer (some ⟨g4, 0, none⟩)), (62, .pointer (some ⟨g1, 1, none⟩)), (63, vA), (65, .pointer (some ⟨g1, 1, none⟩)), (66, vA), (67, .int .i64 (Int.tmod by0 p.m)), (68, .pointer (some (cad vA (Int.tmod by0 p.m)))), (69, (vq (Int.tmod by0 p.m))), (73, .pointer (some ⟨g1, 2, none⟩)), (74, vb), (76, .pointer (some ⟨g1, 2, none⟩)), (77, vb), (78, .int .i64 (Int.tmod by0 p.m)), (79, .pointer (some (cad vb (Int.tmod by0 p.m)))), (80, .int .i64 (p.b (Int.tmod by0 p.m))), (61, v1), (64, v2), (70, v3), (71, v4), (83, .pointer (some ⟨g4, 1, none⟩)), (72, v5), (75, v6), (81, v7), (82, v8), (84, .pointer (some ⟨g4, 2, none⟩)), (110, vr), (111, .int .i64 nr), (112, .pointer (some ⟨g1, 0, none⟩)), (113, vc), (114, .int .i64 p.n), (115, .int .i64 (p.n + 1)), (116, B (nr = p.n + 1)), (118, .pointer (some ⟨g1, 1, none⟩)), (119, vA), (121, vr), (122, (sufV vr 1)), (126, .pointer (some ⟨g1, 2, none⟩)), (127, vb), (129, vr), (130, .pointer (some (cad vr 0))), (131, .int .i64 (fr 0)), (123, v9), (125, v10)] ∧ Sat w0 w [.blk g1 [vc, vA, vb], .blk g2 [.int .u8 by0, .int .u8 by1], .own vXs1 1 3 ss1.n (ints ss1.X), .own vYs1 1 3 ss1.m (ints ss1.Y), .blk g3 [vXs1, vYs1, .int .i64 ss1.val, .int .i64 ss1.den], .blk g4 [vc, v4, v8], .own v3 1 22 1 (fun _ => (vq (Int.tmod by0 p.m))), .own v7 1 3 1 (ints (fun _ => (p.b (Int.tmod by0 p.m)))), .own v9 1 22 1 (fun _ => (sufV vr 1)), .own v10 1 3 0 (ints (fun _ => 0))]) #[false, true, true, false, true, true, true, false, true, true, true, false, true, true, true, false, false, false, false, false, false] 10 ?_ ?_
     ·
      rintro M w ⟨v9, v10, hv9, hv10, rfl, hS⟩
      refine zdfk (r := [0, 15]) ((zdn1 ?_ (zdn1 ?_ zdn0)))
      ·
       refine zka (xl0 (c := ints (fun _ => 0)) sl_23 hS) ?_; rintro v11 w ⟨hS, hv11⟩
       replace hS := hS.n11
       refine ⟨⟨fun _ => hS.pk [0, 1, 4, 5], hS.pk [0, 1, 4]⟩, ?_⟩
       exact zmus hMm30 ⟨v11, v9, v10, hv11, hv9, hv10, rfl, hS.pk [0, 1, 2, 3, 4, 5, 6, 7, 10, 8, 9]⟩
      refine zka (xli (n := 1) (len := 1) (pv := [(0, .int .i64 (fr 0))]) (cs := [.int .i64 (fr 0)]) (c := ints (fun _ => (fr 0))) sl_22 el_3 hS) ?_; rintro v11 w ⟨hS, hv11⟩
      replace hS := hS.n11
      refine ⟨⟨fun _ => hS.pk [0, 1, 4, 5], hS.pk [0, 1, 4]⟩, ?_⟩
      exact zmus hMm38 ⟨v9, v10, v11, hv9, hv10, hv11, rfl, hS⟩
     intro hMm37
     refine zmem (fun M w => ∃ (v9 : Value) (v10 : Value), (Slh v9 1) ∧ (Slh v10 1) ∧ M = [(0, .agg #[vc, vA, vb]), (1, vr), (2, .agg #[.int .u8 by0, .int .u8 by1]), (3, .pointer (some ⟨g1, 0, none⟩)), (5, .pointer (some ⟨g2, 0, none⟩)), (6, .bool false), (20, .bool true), (21, .bool false), (22, .bool false), (23, .agg #[vc, vA, vb]), (24, B (FewP p)), (25, B (¬ (FewP p))), (26, B (¬ (FewP p))), (27, .bool false), (28, .agg #[vc, vA, vb]), (29, B (LOk p)), (30, B (¬ (LOk p))), (31, B (¬ (LOk p))), (32, .bool false), (33, .pointer (some ⟨g1, 1, none⟩)), (34, vA), (35, .int .i64 p.m), (36, B (p.m = 0)), (37, B (p.m = 0)), (38, .bool false), (39, .pointer (some ⟨g1, 1, none⟩)), (40, vA), (41, .int .i64 p.m), (42, B (7 < p.m)), (43, B (7 < p.m)), (46, .agg #[vc, vA, vb]), (47, .agg #[vc, vA, vb]), (48, .tuple #[.agg #[vXs1, vYs1, .int .i64 ss1.val, .int .i64 ss1.den], .int .i64 es1]), (45, .tuple #[.agg #[vXs1, vYs1, .int .i64 ss1.val, .int .i64 ss1.den], .int .i64 es1]), (49, .agg #[vXs1, vYs1, .int .i64 ss1.val, .int .i64 ss1.den]), (50, .int .i64 es1), (7, .pointer (some ⟨g3, 0, none⟩)), (8, .int .i64 es1), (51, .int .i64 es1), (52, B (es1 ≠ 0)), (53, .pointer (some ⟨g2, 0, none⟩)), (54, .int .u8 by0), (55, .int .i64 by0), (56, .pointer (some ⟨g1, 1, none⟩)), (57, vA), (58, .int .i64 p.m), (59, .int .i64 (Int.tmod by0 p.m)), (9, .int .i64 (Int.tmod by0 p.m)), (60, .agg #[vc, vA, vb]), (10, .pointer (some ⟨g4, 0, none⟩)), (62, .pointer (some ⟨g1, 1, none⟩)), (63, vA), (65, .pointer (some ⟨g1, 1, none⟩)), (66, vA), (67, .int .i64 (Int.tmod by0 p.m)), (68, .pointer (some (cad vA (Int.tmod by0 p.m)))), (69, (vq (Int.tmod by0 p.m))), (73, .pointer (some ⟨g1, 2, none⟩)), (74, vb), (76, .pointer (some ⟨g1, 2, none⟩)), (77, vb), (78, .int .i64 (Int.tmod by0 p.m)), (79, .pointer (some (cad vb (Int.tmod by0 p.m)))), (80, .int .i64 (p.b (Int.tmod by0 p.m))), (61, v1), (64, v2), (70, v3), (71, v4), (83, .pointer (some ⟨g4, 1, none⟩)), (72, v5), (75, v6), (81, v7), (82, v8), (84, .pointer (some ⟨g4, 2, none⟩)), (110, vr), (111, .int .i64 nr), (112, .pointer (some ⟨g1, 0, none⟩)), (113, vc), (114, .int .i64 p.n), (115, .int .i64 (p.n + 1)), (116, B (nr = p.n + 1)), (118, .pointer (some ⟨g1, 1, none⟩)), (119, vA), (121, vr), (122, (sufV vr 1)), (126, .pointer (some ⟨g1, 2, none⟩)), (127, vb), (129, vr), (130, .pointer (some (cad vr 0))), (131, .int .i64 (fr 0)), (123, v9), (132, v10)] ∧ Sat w0 w [.blk g1 [vc, vA, vb], .blk g2 [.int .u8 by0, .int .u8 by1], .own vXs1 1 3 ss1.n (ints ss1.X), .own vYs1 1 3 ss1.m (ints ss1.Y), .blk g3 [vXs1, vYs1, .int .i64 ss1.val, .int .i64 ss1.den], .blk g4 [vc, v4, v8], .own v3 1 22 1 (fun _ => (vq (Int.tmod by0 p.m))), .own v7 1 3 1 (ints (fun _ => (p.b (Int.tmod by0 p.m)))), .own v9 1 22 1 (fun _ => (sufV vr 1)), .own v10 1 3 1 (ints (fun _ => (fr 0)))]) #[false, true, true, false, true, true, true, false, false, true, true, false, true, true, true, true, false, false, false, false, false] 10 ?_ ?_
     ·
      rintro M w ⟨v9, v10, hv9, hv10, rfl, hS⟩
      refine zdfk (r := [0, 8]) ((zdn1 ?_ (zdn1 ?_ zdn0)))
      ·
       refine zka (xl0 (c := ints (fun _ => 0)) sl_23 hS) ?_; rintro v11 w ⟨hS, hv11⟩
       replace hS := hS.n11
       refine ⟨⟨fun _ => hS.pk [0, 1, 4, 5], hS.pk [0, 1, 4]⟩, ?_⟩
       exact zmus hMm32 ⟨v11, v9, v10, hv11, hv9, hv10, rfl, hS.pk [0, 1, 2, 3, 4, 5, 6, 7, 10, 8, 9]⟩
      refine zka (xl0 (c := ints (fun _ => 0)) sl_22 hS) ?_; rintro v11 w ⟨hS, hv11⟩
      replace hS := hS.n11
      refine ⟨⟨fun _ => hS.pk [0, 1, 4, 5], hS.pk [0, 1, 4]⟩, ?_⟩
      exact zmus hMm38 ⟨v9, v11, v10, hv9, hv11, hv10, rfl, hS.pk [0, 1, 2, 3, 4, 5, 6, 7, 8, 10, 9]⟩
     intro hMm39
     refine zmem (fun M w => ∃ (v9 : Value), (Slh v9 1) ∧ M = [(0, .agg #[vc, vA, vb]), (1, vr), (2, .agg #[.int .u8 by0, .int .u8 by1]), (3, .pointer (some ⟨g1, 0, none⟩)), (5, .pointer (some ⟨g2, 0, none⟩)), (6, .bool false), (20, .bool true), (21, .bool false), (22, .bool false), (23, .agg #[vc, vA, vb]), (24, B (FewP p)), (25, B (¬ (FewP p))), (26, B (¬ (FewP p))), (27, .bool false), (28, .agg #[vc, vA, vb]), (29, B (LOk p)), (30, B (¬ (LOk p))), (31, B (¬ (LOk p))), (32, .bool false), (33, .pointer (some ⟨g1, 1, none⟩)), (34, vA), (35, .int .i64 p.m), (36, B (p.m = 0)), (37, B (p.m = 0)), (38, .bool false), (39, .pointer (some ⟨g1, 1, none⟩)), (40, vA), (41, .int .i64 p.m), (42, B (7 < p.m)), (43, B (7 < p.m)), (46, .agg #[vc, vA, vb]), (47, .agg #[vc, vA, vb]), (48, .tuple #[.agg #[vXs1, vYs1, .int .i64 ss1.val, .int .i64 ss1.den], .int .i64 es1]), (45, .tuple #[.agg #[vXs1, vYs1, .int .i64 ss1.val, .int .i64 ss1.den], .int .i64 es1]), (49, .agg #[vXs1, vYs1, .int .i64 ss1.val, .int .i64 ss1.den]), (50, .int .i64 es1), (7, .pointer (some ⟨g3, 0, none⟩)), (8, .int .i64 es1), (51, .int .i64 es1), (52, B (es1 ≠ 0)), (53, .pointer (some ⟨g2, 0, none⟩)), (54, .int .u8 by0), (55, .int .i64 by0), (56, .pointer (some ⟨g1, 1, none⟩)), (57, vA), (58, .int .i64 p.m), (59, .int .i64 (Int.tmod by0 p.m)), (9, .int .i64 (Int.tmod by0 p.m)), (60, .agg #[vc, vA, vb]), (10, .pointer (some ⟨g4, 0, none⟩)), (62, .pointer (some ⟨g1, 1, none⟩)), (63, vA), (65, .pointer (some ⟨g1, 1, none⟩)), (66, vA), (67, .int .i64 (Int.tmod by0 p.m)), (68, .pointer (some (cad vA (Int.tmod by0 p.m)))), (69, (vq (Int.tmod by0 p.m))), (73, .pointer (some ⟨g1, 2, none⟩)), (74, vb), (76, .pointer (some ⟨g1, 2, none⟩)), (77, vb), (78, .int .i64 (Int.tmod by0 p.m)), (79, .pointer (some (cad vb (Int.tmod by0 p.m)))), (80, .int .i64 (p.b (Int.tmod by0 p.m))), (61, v1), (64, v2), (70, v3), (71, v4), (83, .pointer (some ⟨g4, 1, none⟩)), (72, v5), (75, v6), (81, v7), (82, v8), (84, .pointer (some ⟨g4, 2, none⟩)), (110, vr), (111, .int .i64 nr), (112, .pointer (some ⟨g1, 0, none⟩)), (113, vc), (114, .int .i64 p.n), (115, .int .i64 (p.n + 1)), (116, B (nr = p.n + 1)), (118, .pointer (some ⟨g1, 1, none⟩)), (119, vA), (121, vr), (122, (sufV vr 1)), (126, .pointer (some ⟨g1, 2, none⟩)), (127, vb), (129, vr), (130, .pointer (some (cad vr 0))), (131, .int .i64 (fr 0)), (123, v9)] ∧ Sat w0 w [.blk g1 [vc, vA, vb], .blk g2 [.int .u8 by0, .int .u8 by1], .own vXs1 1 3 ss1.n (ints ss1.X), .own vYs1 1 3 ss1.m (ints ss1.Y), .blk g3 [vXs1, vYs1, .int .i64 ss1.val, .int .i64 ss1.den], .blk g4 [vc, v4, v8], .own v3 1 22 1 (fun _ => (vq (Int.tmod by0 p.m))), .own v7 1 3 1 (ints (fun _ => (p.b (Int.tmod by0 p.m)))), .own v9 1 22 1 (fun _ => (sufV vr 1))]) #[false, true, true, false, true, true, true, false, false, true, true, false, true, true, true, false, false, false, false, false, false] 11 ?_ ?_
     ·
      rintro M w ⟨v9, hv9, rfl, hS⟩
      refine zdfk (r := [0, 8, 15]) ((zdn1 ?_ (zdn1 ?_ (zdn1 ?_ zdn0))))
      ·
       refine zka (xl0 (c := ints (fun _ => 0)) sl_23 hS) ?_; rintro v10 w ⟨hS, hv10⟩
       replace hS := hS.n10
       refine ⟨⟨fun _ => hS.pk [0, 1, 4, 5], hS.pk [0, 1, 4]⟩, ?_⟩
       exact zmus hMm29 ⟨v10, v9, hv10, hv9, rfl, hS.pk [0, 1, 2, 3, 4, 5, 6, 7, 9, 8]⟩
      ·
       refine zka (xl0 (c := ints (fun _ => 0)) sl_22 hS) ?_; rintro v10 w ⟨hS, hv10⟩
       replace hS := hS.n10
       refine ⟨⟨fun _ => hS.pk [0, 1, 4, 5], hS.pk [0, 1, 4]⟩, ?_⟩
       exact zmus hMm37 ⟨v9, v10, hv9, hv10, rfl, hS⟩
      refine zka (xli (n := 1) (len := 1) (pv := [(0, .int .i64 (fr 0))]) (cs := [.int .i64 (fr 0)]) (c := ints (fun _ => (fr 0))) sl_22 el_3 hS) ?_; rintro v10 w ⟨hS, hv10⟩
      replace hS := hS.n10
      refine ⟨⟨fun _ => hS.pk [0, 1, 4, 5], hS.pk [0, 1, 4]⟩, ?_⟩
      exact zmus hMm39 ⟨v9, v10, hv9, hv10, rfl, hS⟩
     intro hMm36
     refine zmem (fun M w => ∃ (v9 : Value) (v10 : Value), (Slh v9 0) ∧ (Slh v10 1) ∧ M = [(0, .agg #[vc, vA, vb]), (1, vr), (2, .agg #[.int .u8 by0, .int .u8 by1]), (3, .pointer (some ⟨g1, 0, none⟩)), (5, .pointer (some ⟨g2, 0, none⟩)), (6, .bool false), (20, .bool true), (21, .bool false), (22, .bool false), (23, .agg #[vc, vA, vb]), (24, B (FewP p)), (25, B (¬ (FewP p))), (26, B (¬ (FewP p))), (27, .bool false), (28, .agg #[vc, vA, vb]), (29, B (LOk p)), (30, B (¬ (LOk p))), (31, B (¬ (LOk p))), (32, .bool false), (33, .pointer (some ⟨g1, 1, none⟩)), (34, vA), (35, .int .i64 p.m), (36, B (p.m = 0)), (37, B (p.m = 0)), (38, .bool false), (39, .pointer (some ⟨g1, 1, none⟩)), (40, vA), (41, .int .i64 p.m), (42, B (7 < p.m)), (43, B (7 < p.m)), (46, .agg #[vc, vA, vb]), (47, .agg #[vc, vA, vb]), (48, .tuple #[.agg #[vXs1, vYs1, .int .i64 ss1.val, .int .i64 ss1.den], .int .i64 es1]), (45, .tuple #[.agg #[vXs1, vYs1, .int .i64 ss1.val, .int .i64 ss1.den], .int .i64 es1]), (49, .agg #[vXs1, vYs1, .int .i64 ss1.val, .int .i64 ss1.den]), (50, .int .i64 es1), (7, .pointer (some ⟨g3, 0, none⟩)), (8, .int .i64 es1), (51, .int .i64 es1), (52, B (es1 ≠ 0)), (53, .pointer (some ⟨g2, 0, none⟩)), (54, .int .u8 by0), (55, .int .i64 by0), (56, .pointer (some ⟨g1, 1, none⟩)), (57, vA), (58, .int .i64 p.m), (59, .int .i64 (Int.tmod by0 p.m)), (9, .int .i64 (Int.tmod by0 p.m)), (60, .agg #[vc, vA, vb]), (10, .pointer (some ⟨g4, 0, none⟩)), (62, .pointer (some ⟨g1, 1, none⟩)), (63, vA), (65, .pointer (some ⟨g1, 1, none⟩)), (66, vA), (67, .int .i64 (Int.tmod by0 p.m)), (68, .pointer (some (cad vA (Int.tmod by0 p.m)))), (69, (vq (Int.tmod by0 p.m))), (73, .pointer (some ⟨g1, 2, none⟩)), (74, vb), (76, .pointer (some ⟨g1, 2, none⟩)), (77, vb), (78, .int .i64 (Int.tmod by0 p.m)), (79, .pointer (some (cad vb (Int.tmod by0 p.m)))), (80, .int .i64 (p.b (Int.tmod by0 p.m))), (61, v1), (64, v2), (70, v3), (71, v4), (83, .pointer (some ⟨g4, 1, none⟩)), (72, v5), (75, v6), (81, v7), (82, v8), (84, .pointer (some ⟨g4, 2, none⟩)), (110, vr), (111, .int .i64 nr), (112, .pointer (some ⟨g1, 0, none⟩)), (113, vc), (114, .int .i64 p.n), (115, .int .i64 (p.n + 1)), (116, B (nr = p.n + 1)), (118, .pointer (some ⟨g1, 1, none⟩)), (119, vA), (121, vr), (122, (sufV vr 1)), (126, .pointer (some ⟨g1, 2, none⟩)), (127, vb), (129, vr), (130, .pointer (some (cad vr 0))), (131, .int .i64 (fr 0)), (125, v9), (132, v10)] ∧ Sat w0 w [.blk g1 [vc, vA, vb], .blk g2 [.int .u8 by0, .int .u8 by1], .own vXs1 1 3 ss1.n (ints ss1.X), .own vYs1 1 3 ss1.m (ints ss1.Y), .blk g3 [vXs1, vYs1, .int .i64 ss1.val, .int .i64 ss1.den], .blk g4 [vc, v4, v8], .own v3 1 22 1 (fun _ => (vq (Int.tmod by0 p.m))), .own v7 1 3 1 (ints (fun _ => (p.b (Int.tmod by0 p.m)))), .own v9 1 3 0 (ints (fun _ => 0)), .own v10 1 3 1 (ints (fun _ => (fr 0)))]) #[false, true, true, false, true, true, false, false, true, true, true, false, true, true, true, true, false, false, false, false, false] 10 ?_ ?_
     ·
      rintro M w ⟨v9, v10, hv9, hv10, rfl, hS⟩
      refine zdfk (r := [0, 6]) ((zdn1 ?_ (zdn1 ?_ zdn0)))
      ·
       refine zka (xl0 (c := ints (fun _ => 0)) sl_23 hS) ?_; rintro v11 w ⟨hS, hv11⟩
       replace hS := hS.n11
       refine ⟨⟨fun _ => hS.pk [0, 1, 4, 5], hS.pk [0, 1, 4]⟩, ?_⟩
       exact zmus hMm34 ⟨v11, v9, v10, hv11, hv9, hv10, rfl, hS.pk [0, 1, 2, 3, 4, 5, 6, 7, 10, 8, 9]⟩
      refine zka (xli (n := 1) (len := 1) (pv := [(0, (sufV vr 1))]) (cs := [(sufV vr 1)]) (c := (fun _ => (sufV vr 1))) sl_23 el_22 hS (hf := by have hz := (suf_of (q := 1) hR9.slh hroom (by omega)).slh; revert hz; generalize (sufV vr 1) = z; rintro ⟨_, _, _, _, rfl, _⟩; show _ = _; kernel_rfl)) ?_; rintro v11 w ⟨hS, hv11⟩
      replace hS := hS.n11
      refine ⟨⟨fun _ => hS.pk [0, 1, 4, 5], hS.pk [0, 1, 4]⟩, ?_⟩
      exact zmus hMm38 ⟨v11, v9, v10, hv11, hv9, hv10, rfl, hS.pk [0, 1, 2, 3, 4, 5, 6, 7, 10, 8, 9]⟩
     intro hMm41
     refine zmem (fun M w => ∃ (v9 : Value), (Slh v9 0) ∧ M = [(0, .agg #[vc, vA, vb]), (1, vr), (2, .agg #[.int .u8 by0, .int .u8 by1]), (3, .pointer (some ⟨g1, 0, none⟩)), (5, .pointer (some ⟨g2, 0, none⟩)), (6, .bool false), (20, .bool true), (21, .bool false), (22, .bool false), (23, .agg #[vc, vA, vb]), (24, B (FewP p)), (25, B (¬ (FewP p))), (26, B (¬ (FewP p))), (27, .bool false), (28, .agg #[vc, vA, vb]), (29, B (LOk p)), (30, B (¬ (LOk p))), (31, B (¬ (LOk p))), (32, .bool false), (33, .pointer (some ⟨g1, 1, none⟩)), (34, vA), (35, .int .i64 p.m), (36, B (p.m = 0)), (37, B (p.m = 0)), (38, .bool false), (39, .pointer (some ⟨g1, 1, none⟩)), (40, vA), (41, .int .i64 p.m), (42, B (7 < p.m)), (43, B (7 < p.m)), (46, .agg #[vc, vA, vb]), (47, .agg #[vc, vA, vb]), (48, .tuple #[.agg #[vXs1, vYs1, .int .i64 ss1.val, .int .i64 ss1.den], .int .i64 es1]), (45, .tuple #[.agg #[vXs1, vYs1, .int .i64 ss1.val, .int .i64 ss1.den], .int .i64 es1]), (49, .agg #[vXs1, vYs1, .int .i64 ss1.val, .int .i64 ss1.den]), (50, .int .i64 es1), (7, .pointer (some ⟨g3, 0, none⟩)), (8, .int .i64 es1), (51, .int .i64 es1), (52, B (es1 ≠ 0)), (53, .pointer (some ⟨g2, 0, none⟩)), (54, .int .u8 by0), (55, .int .i64 by0), (56, .pointer (some ⟨g1, 1, none⟩)), (57, vA), (58, .int .i64 p.m), (59, .int .i64 (Int.tmod by0 p.m)), (9, .int .i64 (Int.tmod by0 p.m)), (60, .agg #[vc, vA, vb]), (10, .pointer (some ⟨g4, 0, none⟩)), (62, .pointer (some ⟨g1, 1, none⟩)), (63, vA), (65, .pointer (some ⟨g1, 1, none⟩)), (66, vA), (67, .int .i64 (Int.tmod by0 p.m)), (68, .pointer (some (cad vA (Int.tmod by0 p.m)))), (69, (vq (Int.tmod by0 p.m))), (73, .pointer (some ⟨g1, 2, none⟩)), (74, vb), (76, .pointer (some ⟨g1, 2, none⟩)), (77, vb), (78, .int .i64 (Int.tmod by0 p.m)), (79, .pointer (some (cad vb (Int.tmod by0 p.m)))), (80, .int .i64 (p.b (Int.tmod by0 p.m))), (61, v1), (64, v2), (70, v3), (71, v4), (83, .pointer (some ⟨g4, 1, none⟩)), (72, v5), (75, v6), (81, v7), (82, v8), (84, .pointer (some ⟨g4, 2, none⟩)), (110, vr), (111, .int .i64 nr), (112, .pointer (some ⟨g1, 0, none⟩)), (113, vc), (114, .int .i64 p.n), (115, .int .i64 (p.n + 1)), (116, B (nr = p.n + 1)), (118, .pointer (some ⟨g1, 1, none⟩)), (119, vA), (121, vr), (122, (sufV vr 1)), (126, .pointer (some ⟨g1, 2, none⟩)), (127, vb), (129, vr), (130, .pointer (some (cad vr 0))), (131, .int .i64 (fr 0)), (125, v9)] ∧ Sat w0 w [.blk g1 [vc, vA, vb], .blk g2 [.int .u8 by0, .int .u8 by1], .own vXs1 1 3 ss1.n (ints ss1.X), .own vYs1 1 3 ss1.m (ints ss1.Y), .blk g3 [vXs1, vYs1, .int .i64 ss1.val, .int .i64 ss1.den], .blk g4 [vc, v4, v8], .own v3 1 22 1 (fun _ => (vq (Int.tmod by0 p.m))), .own v7 1 3 1 (ints (fun _ => (p.b (Int.tmod by0 p.m)))), .own v9 1 3 0 (ints (fun _ => 0))]) #[false, true, true, false, true, true, false, false, true, true, true, false, true, true, true, false, false, false, false, false, false] 11 ?_ ?_
     ·
      rintro M w ⟨v9, hv9, rfl, hS⟩
      refine zdfk (r := [0, 6, 15]) ((zdn1 ?_ (zdn1 ?_ (zdn1 ?_ zdn0))))
      ·
       refine zka (xl0 (c := ints (fun _ => 0)) sl_23 hS) ?_; rintro v10 w ⟨hS, hv10⟩
       replace hS := hS.n10
       refine ⟨⟨fun _ => hS.pk [0, 1, 4, 5], hS.pk [0, 1, 4]⟩, ?_⟩
       exact zmus hMm33 ⟨v10, v9, hv10, hv9, rfl, hS.pk [0, 1, 2, 3, 4, 5, 6, 7, 9, 8]⟩
      ·
       refine zka (xli (n := 1) (len := 1) (pv := [(0, (sufV vr 1))]) (cs := [(sufV vr 1)]) (c := (fun _ => (sufV vr 1))) sl_23 el_22 hS (hf := by have hz := (suf_of (q := 1) hR9.slh hroom (by omega)).slh; revert hz; generalize (sufV vr 1) = z; rintro ⟨_, _, _, _, rfl, _⟩; show _ = _; kernel_rfl)) ?_; rintro v10 w ⟨hS, hv10⟩
       replace hS := hS.n10
       refine ⟨⟨fun _ => hS.pk [0, 1, 4, 5], hS.pk [0, 1, 4]⟩, ?_⟩
       exact zmus hMm37 ⟨v10, v9, hv10, hv9, rfl, hS.pk [0, 1, 2, 3, 4, 5, 6, 7, 9, 8]⟩
      refine zka (xli (n := 1) (len := 1) (pv := [(0, .int .i64 (fr 0))]) (cs := [.int .i64 (fr 0)]) (c := ints (fun _ => (fr 0))) sl_22 el_3 hS) ?_; rintro v10 w ⟨hS, hv10⟩
      replace hS := hS.n10
      refine ⟨⟨fun _ => hS.pk [0, 1, 4, 5], hS.pk [0, 1, 4]⟩, ?_⟩
      exact zmus hMm41 ⟨v9, v10, hv9, hv10, rfl, hS⟩
     intro hMm40
     refine zmem (fun M w => ∃ (v9 : Value), (Slh v9 1) ∧ M = [(0, .agg #[vc, vA, vb]), (1, vr), (2, .agg #[.int .u8 by0, .int .u8 by1]), (3, .pointer (some ⟨g1, 0, none⟩)), (5, .pointer (some ⟨g2, 0, none⟩)), (6, .bool false), (20, .bool true), (21, .bool false), (22, .bool false), (23, .agg #[vc, vA, vb]), (24, B (FewP p)), (25, B (¬ (FewP p))), (26, B (¬ (FewP p))), (27, .bool false), (28, .agg #[vc, vA, vb]), (29, B (LOk p)), (30, B (¬ (LOk p))), (31, B (¬ (LOk p))), (32, .bool false), (33, .pointer (some ⟨g1, 1, none⟩)), (34, vA), (35, .int .i64 p.m), (36, B (p.m = 0)), (37, B (p.m = 0)), (38, .bool false), (39, .pointer (some ⟨g1, 1, none⟩)), (40, vA), (41, .int .i64 p.m), (42, B (7 < p.m)), (43, B (7 < p.m)), (46, .agg #[vc, vA, vb]), (47, .agg #[vc, vA, vb]), (48, .tuple #[.agg #[vXs1, vYs1, .int .i64 ss1.val, .int .i64 ss1.den], .int .i64 es1]), (45, .tuple #[.agg #[vXs1, vYs1, .int .i64 ss1.val, .int .i64 ss1.den], .int .i64 es1]), (49, .agg #[vXs1, vYs1, .int .i64 ss1.val, .int .i64 ss1.den]), (50, .int .i64 es1), (7, .pointer (some ⟨g3, 0, none⟩)), (8, .int .i64 es1), (51, .int .i64 es1), (52, B (es1 ≠ 0)), (53, .pointer (some ⟨g2, 0, none⟩)), (54, .int .u8 by0), (55, .int .i64 by0), (56, .pointer (some ⟨g1, 1, none⟩)), (57, vA), (58, .int .i64 p.m), (59, .int .i64 (Int.tmod by0 p.m)), (9, .int .i64 (Int.tmod by0 p.m)), (60, .agg #[vc, vA, vb]), (10, .pointer (some ⟨g4, 0, none⟩)), (62, .pointer (some ⟨g1, 1, none⟩)), (63, vA), (65, .pointer (some ⟨g1, 1, none⟩)), (66, vA), (67, .int .i64 (Int.tmod by0 p.m)), (68, .pointer (some (cad vA (Int.tmod by0 p.m)))), (69, (vq (Int.tmod by0 p.m))), (73, .pointer (some ⟨g1, 2, none⟩)), (74, vb), (76, .pointer (some ⟨g1, 2, none⟩)), (77, vb), (78, .int .i64 (Int.tmod by0 p.m)), (79, .pointer (some (cad vb (Int.tmod by0 p.m)))), (80, .int .i64 (p.b (Int.tmod by0 p.m))), (61, v1), (64, v2), (70, v3), (71, v4), (83, .pointer (some ⟨g4, 1, none⟩)), (72, v5), (75, v6), (81, v7), (82, v8), (84, .pointer (some ⟨g4, 2, none⟩)), (110, vr), (111, .int .i64 nr), (112, .pointer (some ⟨g1, 0, none⟩)), (113, vc), (114, .int .i64 p.n), (115, .int .i64 (p.n + 1)), (116, B (nr = p.n + 1)), (118, .pointer (some ⟨g1, 1, none⟩)), (119, vA), (121, vr), (122, (sufV vr 1)), (126, .pointer (some ⟨g1, 2, none⟩)), (127, vb), (129, vr), (130, .pointer (some (cad vr 0))), (131, .int .i64 (fr 0)), (132, v9)] ∧ Sat w0 w [.blk g1 [vc, vA, vb], .blk g2 [.int .u8 by0, .int .u8 by1], .own vXs1 1 3 ss1.n (ints ss1.X), .own vYs1 1 3 ss1.m (ints ss1.Y), .blk g3 [vXs1, vYs1, .int .i64 ss1.val, .int .i64 ss1.den], .blk g4 [vc, v4, v8], .own v3 1 22 1 (fun _ => (vq (Int.tmod by0 p.m))), .own v7 1 3 1 (ints (fun _ => (p.b (Int.tmod by0 p.m)))), .own v9 1 3 1 (ints (fun _ => (fr 0)))]) #[false, true, true, false, true, true, false, false, false, true, true, false, true, true, true, true, false, false, false, false, false] 11 ?_ ?_
     ·
      rintro M w ⟨v9, hv9, rfl, hS⟩
      refine zdfk (r := [0, 6, 8]) ((zdn1 ?_ (zdn1 ?_ (zdn1 ?_ zdn0))))
      ·
       refine zka (xl0 (c := ints (fun _ => 0)) sl_23 hS) ?_; rintro v10 w ⟨hS, hv10⟩
       replace hS := hS.n10
       refine ⟨⟨fun _ => hS.pk [0, 1, 4, 5], hS.pk [0, 1, 4]⟩, ?_⟩
       exact zmus hMm35 ⟨v10, v9, hv10, hv9, rfl, hS.pk [0, 1, 2, 3, 4, 5, 6, 7, 9, 8]⟩
      ·
       refine zka (xli (n := 1) (len := 1) (pv := [(0, (sufV vr 1))]) (cs := [(sufV vr 1)]) (c := (fun _ => (sufV vr 1))) sl_23 el_22 hS (hf := by have hz := (suf_of (q := 1) hR9.slh hroom (by omega)).slh; revert hz; generalize (sufV vr 1) = z; rintro ⟨_, _, _, _, rfl, _⟩; show _ = _; kernel_rfl)) ?_; rintro v10 w ⟨hS, hv10⟩
       replace hS := hS.n10
       refine ⟨⟨fun _ => hS.pk [0, 1, 4, 5], hS.pk [0, 1, 4]⟩, ?_⟩
       exact zmus hMm39 ⟨v10, v9, hv10, hv9, rfl, hS.pk [0, 1, 2, 3, 4, 5, 6, 7, 9, 8]⟩
      refine zka (xl0 (c := ints (fun _ => 0)) sl_22 hS) ?_; rintro v10 w ⟨hS, hv10⟩
      replace hS := hS.n10
      refine ⟨⟨fun _ => hS.pk [0, 1, 4, 5], hS.pk [0, 1, 4]⟩, ?_⟩
      exact zmus hMm41 ⟨v10, v9, hv10, hv9, rfl, hS.pk [0, 1, 2, 3, 4, 5, 6, 7, 9, 8]⟩
     intro hMm42
     refine zmem (fun M w => M = [(0, .agg #[vc, vA, vb]), (1, vr), (2, .agg #[.int .u8 by0, .int .u8 by1]), (3, .pointer (some ⟨g1, 0, none⟩)), (5, .pointer (some ⟨g2, 0, none⟩)), (6, .bool false), (20, .bool true), (21, .bool false), (22, .bool false), (23, .agg #[vc, vA, vb]), (24, B (FewP p)), (25, B (¬ (FewP p))), (26, B (¬ (FewP p))), (27, .bool false), (28, .agg #[vc, vA, vb]), (29, B (LOk p)), (30, B (¬ (LOk p))), (31, B (¬ (LOk p))), (32, .bool false), (33, .pointer (some ⟨g1, 1, none⟩)), (34, vA), (35, .int .i64 p.m), (36, B (p.m = 0)), (37, B (p.m = 0)), (38, .bool false), (39, .pointer (some ⟨g1, 1, none⟩)), (40, vA), (41, .int .i64 p.m), (42, B (7 < p.m)), (43, B (7 < p.m)), (46, .agg #[vc, vA, vb]), (47, .agg #[vc, vA, vb]), (48, .tuple #[.agg #[vXs1, vYs1, .int .i64 ss1.val, .int .i64 ss1.den], .int .i64 es1]), (45, .tuple #[.agg #[vXs1, vYs1, .int .i64 ss1.val, .int .i64 ss1.den], .int .i64 es1]), (49, .agg #[vXs1, vYs1, .int .i64 ss1.val, .int .i64 ss1.den]), (50, .int .i64 es1), (7, .pointer (some ⟨g3, 0, none⟩)), (8, .int .i64 es1), (51, .int .i64 es1), (52, B (es1 ≠ 0)), (53, .pointer (some ⟨g2, 0, none⟩)), (54, .int .u8 by0), (55, .int .i64 by0), (56, .pointer (some ⟨g1, 1, none⟩)), (57, vA), (58, .int .i64 p.m), (59, .int .i64 (Int.tmod by0 p.m)), (9, .int .i64 (Int.tmod by0 p.m)), (60, .agg #[vc, vA, vb]), (10, .pointer (some ⟨g4, 0, none⟩)), (62, .pointer (some ⟨g1, 1, none⟩)), (63, vA), (65, .pointer (some ⟨g1, 1, none⟩)), (66, vA), (67, .int .i64 (Int.tmod by0 p.m)), (68, .pointer (some (cad vA (Int.tmod by0 p.m)))), (69, (vq (Int.tmod by0 p.m))), (73, .pointer (some ⟨g1, 2, none⟩)), (74, vb), (76, .pointer (some ⟨g1, 2, none⟩)), (77, vb), (78, .int .i64 (Int.tmod by0 p.m)), (79, .pointer (some (cad vb (Int.tmod by0 p.m)))), (80, .int .i64 (p.b (Int.tmod by0 p.m))), (61, v1), (64, v2), (70, v3), (71, v4), (83, .pointer (some ⟨g4, 1, none⟩)), (72, v5), (75, v6), (81, v7), (82, v8), (84, .pointer (some ⟨g4, 2, none⟩)), (110, vr), (111, .int .i64 nr), (112, .pointer (some ⟨g1, 0, none⟩)), (113, vc), (114, .int .i64 p.n), (115, .int .i64 (p.n + 1)), (116, B (nr = p.n + 1)), (118, .pointer (some ⟨g1, 1, none⟩)), (119, vA), (121, vr), (122, (sufV vr 1)), (126, .pointer (some ⟨g1, 2, none⟩)), (127, vb), (129, vr), (130, .pointer (some (cad vr 0))), (131, .int .i64 (fr 0))] ∧ Sat w0 w [.blk g1 [vc, vA, vb], .blk g2 [.int .u8 by0, .int .u8 by1], .own vXs1 1 3 ss1.n (ints ss1.X), .own vYs1 1 3 ss1.m (ints ss1.Y), .blk g3 [vXs1, vYs1, .int .i64 ss1.val, .int .i64 ss1.den], .blk g4 [vc, v4, v8], .own v3 1 22 1 (fun _ => (vq (Int.tmod by0 p.m))), .own v7 1 3 1 (ints (fun _ => (p.b (Int.tmod by0 p.m))))]) #[false, true, true, false, true, true, false, false, false, true, true, false, true, true, true, false, false, false, false, false, false] 12 ?_ ?_
     ·
      rintro M w ⟨rfl, hS⟩
      refine zdfk (r := [0, 6, 8, 15]) ((zdn1 ?_ (zdn1 ?_ (zdn1 ?_ (zdn1 ?_ zdn0)))))
      ·
       refine zka (xl0 (c := ints (fun _ => 0)) sl_23 hS) ?_; rintro v9 w ⟨hS, hv9⟩
       replace hS := hS.n9
       refine ⟨⟨fun _ => hS.pk [0, 1, 4, 5], hS.pk [0, 1, 4]⟩, ?_⟩
       exact zmus hMm12 ⟨v9, hv9, rfl, hS⟩
      ·
       refine zka (xli (n := 1) (len := 1) (pv := [(0, (sufV vr 1))]) (cs := [(sufV vr 1)]) (c := (fun _ => (sufV vr 1))) sl_23 el_22 hS (hf := by have hz := (suf_of (q := 1) hR9.slh hroom (by omega)).slh; revert hz; generalize (sufV vr 1) = z; rintro ⟨_, _, _, _, rfl, _⟩; show _ = _; kernel_rfl)) ?_; rintro v9 w ⟨hS, hv9⟩
       replace hS := hS.n9
       refine ⟨⟨fun _ => hS.pk [0, 1, 4, 5], hS.pk [0, 1, 4]⟩, ?_⟩
       exact zmus hMm36 ⟨v9, hv9, rfl, hS⟩
      ·
       refine zka (xl0 (c := ints (fun _ => 0)) sl_22 hS) ?_; rintro v9 w ⟨hS, hv9⟩
       replace hS := hS.n9
       refine ⟨⟨fun _ => hS.pk [0, 1, 4, 5], hS.pk [0, 1, 4]⟩, ?_⟩
       exact zmus hMm40 ⟨v9, hv9, rfl, hS⟩
      refine zka (xli (n := 1) (len := 1) (pv := [(0, .int .i64 (fr 0))]) (cs := [.int .i64 (fr 0)]) (c := ints (fun _ => (fr 0))) sl_22 el_3 hS) ?_; rintro v9 w ⟨hS, hv9⟩
      replace hS := hS.n9
      refine ⟨⟨fun _ => hS.pk [0, 1, 4, 5], hS.pk [0, 1, 4]⟩, ?_⟩
      exact zmus hMm42 ⟨v9, hv9, rfl, hS⟩
     intro hMm11
     refine zdv 1 (fun _ => (xfb 1 fd_25_1)) ?_
     refine zdla 2 (fun w hS => (xlb 0 pl_23 hS)) ?_
     refine zdv 4 (fun _ => xmv) ?_
     refine zdvr 5 rfl rfl rfl rfl (by kernel_rfl) rfl (fun w => (ex_slice_lo (q := 1) rfl sl_22 rfl rfl rfl hR9.slh rfl (by omega) (by omega))) ?_
     refine zdv 9 (fun _ => (xfb 2 fd_25_2)) ?_
     refine zdla 10 (fun w hS => (xlb 0 pl_22 hS)) ?_
     refine zdv 12 (fun _ => xmv) ?_
     refine zdv 13 (fun _ => (xix (kk := 0) sl_22 hR9.slh)) ?_
     refine zdla 14 (fun w hS => (xlr (u := .int .i64 (fr 0)) pl_3 (hR9.below hS.below))) ?_
     exact zmus hMm11 ⟨rfl, hS⟩
    refine zsk <| zgj ⟨rfl, hS.pk [0, 1, 2, 3, 4, 6, 7]⟩
   clear hS w; rintro M w ⟨rfl, hS⟩
   refine ztn <| zsr ?_
   refine zlvr rfl rfl rfl (ex_indexArr (b := ⟨g2, 1, none⟩) rfl ar_38 rfl rfl (by omega) (by omega) rfl) ?_
   refine zlv (xlb 1 pl_5 hS) ?_
   refine zlv (xcv so_5 it_3) ?_
   have hn90 := Int.tmod_nonneg 10 hb1.1; have hn91 := Int.tmod_lt_of_pos by1 (show (0 : Int) < 10 by omega)
   refine zlv (xrem (r := (Int.tmod by1 10))) ?_
   refine zlv xas ?_
   refine zlz ?_
   refine zlv (xls 0 st_25 hS) ?_
   refine zla (xal (cs := [_, _, _]) el_25 hS) ?_; rintro _ w ⟨g5, rfl, hS⟩
   replace hS := hS.n8
   refine zle (xsw 7 st_25 hS (hd := (ones_cons hL.c.slh.one (ones_cons hL.A.row.slh.one (ones_cons hL.b.slh.one ones_nil))))) ?_; clear hS; rintro w hS
   replace hS := hS.n8
   refine zlz ?_
   refine zla (xl0 (c := ints (fun _ => 0)) sl_22 hS) ?_; rintro v9 w ⟨hS, hv9⟩
   replace hS := hS.n9
   refine zlv (xfb 0 fd_25_0) ?_
   refine zlv (xlb 0 pl_22 hS) ?_
   refine zla (xap 8 (r := p.n) (f := cat (0 * 1) (ints (fun _ => 0)) (ints p.c)) sl_22 el_3 hS (hL.c.below hS.below) rfl) ?_; rintro v10 w ⟨hS, hv10⟩
   replace hS := hS.n9
   refine zlv (xfb 0 fd_25_0) ?_
   refine zle (xsb 7 pl_22 hS (hv := hv10.one)) ?_; clear hS; rintro w hS
   replace hS := hS.n9
   refine zlt <| zsq <| zsr ?_
   refine zlv (xfb 0 fd_25_0) ?_
   refine zlv (xlb 7 pl_22 hS) ?_
   refine zlv (xln sl_22 hv10) ?_
   refine zlv xmv ?_
   refine zlt <| zbk ?_
   replace hS := hS.recont 8 rfl (d := ints p.c) (fun k k0 k1 => by unfold cat; rw [if_neg (by omega), show k - 0 * 1 = k by omega])
   replace hS := hS.n9
   refine zlp (fun mm M w => ∃ (j : Int) (fc : Int → Int), mm = ((p.n - j).toNat) ∧ (0 ≤ j) ∧ (j ≤ p.n) ∧ (∀ q, 0 ≤ q → q < p.n → fc q = if q < j then p.c q * (by1.tmod 10) else p.c q) ∧ M = [(6, .bool false), (7, .pointer (some ⟨g3, 0, none⟩)), (15, .int .i64 (Int.tmod by1 10)), (16, .pointer (some ⟨g5, 0, none⟩)), (169, .int .i64 p.n), (170, .int .i64 j)] ∧ Sat w0 w [.blk g1 [vc, vA, vb], .blk g2 [.int .u8 by0, .int .u8 by1], .own vXs1 1 3 ss1.n (ints ss1.X), .own vYs1 1 3 ss1.m (ints ss1.Y), .blk g3 [vXs1, vYs1, .int .i64 ss1.val, .int .i64 ss1.den], .own v3 1 22 1 (fun _ => (vq (Int.tmod by0 p.m))), .own v7 1 3 1 (ints (fun _ => (p.b (Int.tmod by0 p.m)))), .blk g5 [v10, vA, vb], .own v10 1 3 p.n (ints fc)]) ⟨0, p.c, rfl, (by omega), (by omega), ?_, rfl, hS⟩ ?_
   ·
    intro q q0 q1; rw [if_neg (by omega)]
   clear hS w
   rintro mm M w ⟨j, fc, rfl, j0, j1, hfc, rfl, hS⟩
   refine zsr ?_
   refine zlv xlss ?_
   refine zlt <| zsq ?_
   refine zcif ?_ ?_ <;> intro hc
   ·
    refine zsk <| ztn <| zsq <| zbk <| zsr ?_
    refine zs2 ?_
    refine zlt <| zrg ?_
    refine zlv (xfb 0 fd_25_0) ?_
    refine zlv (xlb 7 pl_22 hS) ?_
    refine zlv xmv ?_
    refine zlv (xix (kk := j) sl_22 hv10) ?_
    refine zlv (xlr (u := .int .i64 (fc j)) pl_3 (hS.rowN 8 rfl)) ?_
    have hcj := hfc j j0 (by omega); rw [if_neg (by omega)] at hcj
    have hcl := hl.c j j0 (by omega)
    have hmm := mul_abs (a := fc j) (b := (by1.tmod 10)) (A := 1000000) (B := 9) (by omega) (by omega)
    refine zlv xmv ?_
    refine zlv (xmul (r := ((fc j) * (Int.tmod by1 10))) (e := rfl)) ?_
    refine zlv (xix (kk := j) sl_22 hv10) ?_
    refine zle (xso 8 pl_3 hS (upd_ints _ _ _)) ?_; clear hS; rintro w hS
    replace hS := hS.n9
    refine zln <| zbn <| ztn <| zrg ?_
    refine zlv (xadd (r := j + 1)) ?_
    refine zlv xmv ?_
    refine zln <| zlq ⟨j + 1, (upd fc j ((fc j) * (Int.tmod by1 10))), rfl, (by omega), (by omega), ?_, rfl, hS⟩
    ·
     intro q q0 q1; by_cases e : q = j
     · rw [e, upd_self, if_pos (by omega), hcj]
     · rw [upd_ne _ _ e, hfc q q0 q1]
       by_cases e2 : q < j
       · rw [if_pos e2, if_pos (by omega)]
       · rw [if_neg e2, if_neg (by omega)]
   refine zxt <| ztx <| ztx <| zbh <| ztn <| zsr ?_
   refine zlv (xls 7 st_25 hS) ?_
   replace hS := hS.recont 8 rfl (d := ints (fun q => p.c q * (by1.tmod 10))) (fun k k0 k1 => by unfold ints; rw [hfc k k0 (by simp at k1; omega), if_pos (by simp at k1; omega)])
   replace hS := hS.n9
   refine zlc (xc0 cl_9) (c_own (p := (dearP p (by1.tmod 10))) w (⟨(hS.rowN 8 rfl), (hL.A.below hS.below), (hL.b.below hS.below)⟩ : LAt _ v10 vA vb vq (dearP p (by1.tmod 10)))) ?_; rintro _ w ⟨rfl, hS'⟩
   replace hS := hS.cmp hS'; clear hS'
   refine zlc (xc0 cl_11) (c_solve (p := (dearP p (by1.tmod 10))) w (⟨(hS.rowN 8 rfl), (hL.A.below hS.below), (hL.b.below hS.below)⟩ : LAt _ v10 vA vb vq (dearP p (by1.tmod 10)))) ?_; rintro _ w ⟨vXs2, vYs2, ss2, es2, rfl, hsos2, hvXs2, hvYs2, hS'⟩
   replace hS : Sat w0 w [.blk g1 [vc, vA, vb], .blk g2 [.int .u8 by0, .int .u8 by1], .own vXs1 1 3 ss1.n (ints ss1.X), .own vYs1 1 3 ss1.m (ints ss1.Y), .blk g3 [vXs1, vYs1, .int .i64 ss1.val, .int .i64 ss1.den], .own v3 1 22 1 (fun _ => (vq (Int.tmod by0 p.m))), .own v7 1 3 1 (ints (fun _ => (p.b (Int.tmod by0 p.m)))), .blk g5 [v10, vA, vb], .own v10 1 3 p.n (ints (fun q => p.c q * (by1.tmod 10))), .own vXs2 1 3 ss2.n (ints ss2.X), .own vYs2 1 3 ss2.m (ints ss2.Y)] := hS.comp hS'; clear hS'
   refine zs3 ?_
   refine zla (xal (cs := [_, _, _, _]) el_40 hS) ?_; rintro _ w ⟨g6, rfl, hS⟩
   replace hS := hS.n12
   refine zle (xsw 11 st_40 hS (hd := (ones_cons hvXs2.one (ones_cons hvYs2.one (ones_cons rfl (ones_cons rfl ones_nil)))))) ?_; clear hS; rintro w hS
   replace hS := hS.n12
   refine zlv xas ?_
   refine zlz ?_
   refine zs3 ?_
   refine zlb 190 ?_ ?_ <;> intro hc
   ·
    refine zs4 ?_
    refine zlb 194 ?_ ?_ <;> intro hc
    ·
     iterate 17 refine zlo ?_
     refine zs2 ?_
     refine zlt <| zrt <| zf1 ⟨_, rfl, ?_⟩
     exact ⟨rfl, hS.nl⟩
    refine zlv xmv ?_
    refine zlv (xkf xeql) ?_
    refine zlv xmv ?_
    iterate 13 refine zlo ?_
    refine zs3 ?_
    refine zlt <| zrt <| zf1 ⟨_, rfl, ?_⟩
    exfalso
    first
    | omega
    | (have h9 := row_up (by omega) hcs ht; have h8 := row_dn hk0 hk1 hcs ht; omega)
    | (have h9 := row_up (by omega) hcs ht; omega)
    | (have h9 : es2 = 19 := by omega
       rw [h9] at hsos2
       first | exact row_no hk0 hk1 hcs hsos2 | exact dear_no (by omega) hcs hsos2)
   iterate 2 refine zlo ?_
   refine zs3 ?_
   refine zlv (xkt xeql) ?_
   refine zlv xmv ?_
   refine zlv (xfb 2 fd_40_2) ?_
   have ht := SolveR.chk (p := (dearP p (by1.tmod 10))) (by first | (show 0 ≤ p.m + 1; omega) | (show 0 ≤ p.m; omega)) hsos2 (by omega)
   have ht0 := ht.v; have ht1 := ht.d1; have ht2 := ht.d2
   have hq1 := mul_abs (a := ss2.val) (b := ss1.den) (A := 1073741824) (B := 1073741824) (by omega) (by omega)
   have hq2 := mul_abs (a := ss1.val) (b := ss2.den) (A := 1073741824) (B := 1073741824) (by omega) (by omega)
   have hde := dear_eq hn90 (by omega) hcs ht
   refine zlv (xlb 11 pl_3 hS) ?_
   refine zlv (xfb 3 fd_40_3) ?_
   refine zlv (xlb 4 pl_3 hS) ?_
   refine zlv (xmul (r := (ss2.val * ss1.den)) (e := rfl)) ?_
   refine zlv xmv ?_
   refine zlv (xfb 2 fd_40_2) ?_
   refine zlv (xlb 4 pl_3 hS) ?_
   have hq3 := mul_abs (a := (by1.tmod 10)) (b := ss1.val) (A := 9) (B := 1073741824) (by omega) (by omega)
   refine zlv (xmul (r := ((Int.tmod by1 10) * ss1.val)) (e := rfl)) ?_
   refine zlv (xfb 3 fd_40_3) ?_
   refine zlv (xlb 11 pl_3 hS) ?_
   refine zlv (xmul (r := (((Int.tmod by1 10) * ss1.val) * ss2.den)) (e := rfl)) ?_
   refine zs4 ?_
   refine zlt <| zrt <| zf1 ⟨_, rfl, ?_⟩
   exact ⟨(true_B (by first | exact hde | omega)).symm, hS.nl⟩
  intro hMm10
  refine zmem (fun M w => ∃ (v1 : Value) (v2 : Value) (v3 : Value) (v4 : Value) (v5 : Value) (v6 : Value) (v7 : Value) (v8 : Value), (Slh v4 (p.m + 1)) ∧ (Slh v3 1) ∧ (Slh v8 (p.k + 1)) ∧ (Slh v7 1) ∧ M = [(0, .agg #[vc, vA, vb]), (1, vr), (2, .agg #[.int .u8 by0, .int .u8 by1]), (3, .pointer (some ⟨g1, 0, none⟩)), (5, .pointer (some ⟨g2, 0, none⟩)), (6, .bool false), (20, .bool true), (21, .bool false), (22, .bool false), (23, .agg #[vc, vA, vb]), (24, B (FewP p)), (25, B (¬ (FewP p))), (26, B (¬ (FewP p))), (27, .bool false), (28, .agg #[vc, vA, vb]), (29, B (LOk p)), (30, B (¬ (LOk p))), (31, B (¬ (LOk p))), (32, .bool false), (33, .pointer (some ⟨g1, 1, none⟩)), (34, vA), (35, .int .i64 p.m), (36, B (p.m = 0)), (37, B (p.m = 0)), (38, .bool false), (39, .pointer (some ⟨g1, 1, none⟩)), (40, vA), (41, .int .i64 p.m), (42, B (7 < p.m)), (43, B (7 < p.m)), (46, .agg #[vc, vA, vb]), (47, .agg #[vc, vA, vb]), (48, .tuple #[.agg #[vXs1, vYs1, .int .i64 ss1.val, .int .i64 ss1.den], .int .i64 es1]), (45, .tuple #[.agg #[vXs1, vYs1, .int .i64 ss1.val, .int .i64 ss1.den], .int .i64 es1]), (49, .agg #[vXs1, vYs1, .int .i64 ss1.val, .int .i64 ss1.den]), (50, .int .i64 es1), (7, .pointer (some ⟨g3, 0, none⟩)), (8, .int .i64 es1), (51, .int .i64 es1), (52, B (es1 ≠ 0)), (53, .pointer (some ⟨g2, 0, none⟩)), (54, .int .u8 by0), (55, .int .i64 by0), (56, .pointer (some ⟨g1, 1, none⟩)), (57, vA), (58, .int .i64 p.m), (59, .int .i64 (Int.tmod by0 p.m)), (9, .int .i64 (Int.tmod by0 p.m)), (60, .agg #[vc, vA, vb]), (10, .pointer (some ⟨g4, 0, none⟩)), (62, .pointer (some ⟨g1, 1, none⟩)), (63, vA), (65, .pointer (some ⟨g1, 1, none⟩)), (66, vA), (67, .int .i64 (Int.tmod by0 p.m)), (68, .pointer (some (cad vA (Int.tmod by0 p.m)))), (69, (vq (Int.tmod by0 p.m))), (73, .pointer (some ⟨g1, 2, none⟩)), (74, vb), (76, .pointer (some ⟨g1, 2, none⟩)), (77, vb), (78, .int .i64 (Int.tmod by0 p.m)), (79, .pointer (some (cad vb (Int.tmod by0 p.m)))), (80, .int .i64 (p.b (Int.tmod by0 p.m))), (61, v1), (64, v2), (70, v3), (71, v4), (83, .pointer (some ⟨g4, 1, none⟩)), (72, v5), (75, v6), (81, v7), (82, v8)] ∧ Sat w0 w [.blk g1 [vc, vA, vb], .blk g2 [.int .u8 by0, .int .u8 by1], .own vXs1 1 3 ss1.n (ints ss1.X), .own vYs1 1 3 ss1.m (ints ss1.Y), .blk g3 [vXs1, vYs1, .int .i64 ss1.val, .int .i64 ss1.den], .blk g4 [vc, vA, vb], .own v4 1 22 (p.m + 1) (gsn (cat (0 * 1) (ints (fun _ => 0)) vq) p.m (vq (Int.tmod by0 p.m))), .own v3 1 22 1 (fun _ => (vq (Int.tmod by0 p.m))), .own v8 1 3 (p.k + 1) (cat (p.k * 1) (cat (0 * 1) (ints (fun _ => 0)) (ints p.b)) (ints (fun _ => (p.b (Int.tmod by0 p.m))))), .own v7 1 3 1 (ints (fun _ => (p.b (Int.tmod by0 p.m))))]) #[true, true, true, true, true, true, true, true, true, true, true, true, true, true, true, true, true, true, true, true, true, true, true, false, false, false] 3 ?_ ?_
  ·
   rintro M w ⟨v1, v2, v3, v4, v5, v6, v7, v8, hv4, hv3, hv8, hv7, rfl, hS⟩
   refine zde 23 (xsb 5 pl_23 hS (hv := hv4.one)) ?_; clear hS; rintro w hS
   replace hS := hS.n10
   refine ⟨⟨fun h => absurd h (by decide), hS.pk [0, 1, 4]⟩, ?_⟩
   refine zdv 24 (fun _ => (xfb 2 fd_25_2)) ?_
   exact zmus hMm10 ⟨v1, v2, v3, v4, v5, v6, v7, v8, hv4, hv3, hv8, hv7, rfl, hS⟩
  intro hMm9
  refine zmem (fun M w => ∃ (v1 : Value) (v2 : Value) (v3 : Value) (v4 : Value) (v5 : Value) (v6 : Value) (v7 : Value), (Slh v4 (p.m + 1)) ∧ (Slh v3 1) ∧ (Slh v6 p.k) ∧ (Slh v7 1) ∧ M = [(0, .agg #[vc, vA, vb]), (1, vr), (2, .agg #[.int .u8 by0, .int .u8 by1]), (3, .pointer (some ⟨g1, 0, none⟩)), (5, .pointer (some ⟨g2, 0, none⟩)), (6, .bool false), (20, .bool true), (21, .bool false), (22, .bool false), (23, .agg #[vc, vA, vb]), (24, B (FewP p)), (25, B (¬ (FewP p))), (26, B (¬ (FewP p))), (27, .bool false), (28, .agg #[vc, vA, vb]), (29, B (LOk p)), (30, B (¬ (LOk p))), (31, B (¬ (LOk p))), (32, .bool false), (33, .pointer (some ⟨g1, 1, none⟩)), (34, vA), (35, .int .i64 p.m), (36, B (p.m = 0)), (37, B (p.m = 0)), (38, .bool false), (39, .pointer (some ⟨g1, 1, none⟩)), (40, vA), (41, .int .i64 p.m), (42, B (7 < p.m)), (43, B (7 < p.m)), (46, .agg #[vc, vA, vb]), (47, .agg #[vc, vA, vb]), (48, .tuple #[.agg #[vXs1, vYs1, .int .i64 ss1.val, .int .i64 ss1.den], .int .i64 es1]), (45, .tuple #[.agg #[vXs1, vYs1, .int .i64 ss1.val, .int .i64 ss1.den], .int .i64 es1]), (49, .agg #[vXs1, vYs1, .int .i64 ss1.val, .int .i64 ss1.den]), (50, .int .i64 es1), (7, .pointer (some ⟨g3, 0, none⟩)), (8, .int .i64 es1), (51, .int .i64 es1), (52, B (es1 ≠ 0)), (53, .pointer (some ⟨g2, 0, none⟩)), (54, .int .u8 by0), (55, .int .i64 by0), (56, .pointer (some ⟨g1, 1, none⟩)), (57, vA), (58, .int .i64 p.m), (59, .int .i64 (Int.tmod by0 p.m)), (9, .int .i64 (Int.tmod by0 p.m)), (60, .agg #[vc, vA, vb]), (10, .pointer (some ⟨g4, 0, none⟩)), (62, .pointer (some ⟨g1, 1, none⟩)), (63, vA), (65, .pointer (some ⟨g1, 1, none⟩)), (66, vA), (67, .int .i64 (Int.tmod by0 p.m)), (68, .pointer (some (cad vA (Int.tmod by0 p.m)))), (69, (vq (Int.tmod by0 p.m))), (73, .pointer (some ⟨g1, 2, none⟩)), (74, vb), (76, .pointer (some ⟨g1, 2, none⟩)), (77, vb), (78, .int .i64 (Int.tmod by0 p.m)), (79, .pointer (some (cad vb (Int.tmod by0 p.m)))), (80, .int .i64 (p.b (Int.tmod by0 p.m))), (61, v1), (64, v2), (70, v3), (71, v4), (83, .pointer (some ⟨g4, 1, none⟩)), (72, v5), (75, v6), (81, v7)] ∧ Sat w0 w [.blk g1 [vc, vA, vb], .blk g2 [.int .u8 by0, .int .u8 by1], .own vXs1 1 3 ss1.n (ints ss1.X), .own vYs1 1 3 ss1.m (ints ss1.Y), .blk g3 [vXs1, vYs1, .int .i64 ss1.val, .int .i64 ss1.den], .blk g4 [vc, vA, vb], .own v4 1 22 (p.m + 1) (gsn (cat (0 * 1) (ints (fun _ => 0)) vq) p.m (vq (Int.tmod by0 p.m))), .own v3 1 22 1 (fun _ => (vq (Int.tmod by0 p.m))), .own v6 1 3 p.k (cat (0 * 1) (ints (fun _ => 0)) (ints p.b)), .own v7 1 3 1 (ints (fun _ => (p.b (Int.tmod by0 p.m))))]) #[true, true, true, true, true, true, true, true, true, true, true, true, true, true, true, true, true, true, true, true, true, false, true, false, false, false] 4 ?_ ?_
  ·
   rintro M w ⟨v1, v2, v3, v4, v5, v6, v7, hv4, hv3, hv6, hv7, rfl, hS⟩
   refine zda 21 (xap 8 (r := p.k + 1) (f := cat (p.k * 1) (cat (0 * 1) (ints (fun _ => 0)) (ints p.b)) (ints (fun _ => (p.b (Int.tmod by0 p.m))))) sl_22 el_3 hS (hS.rowN 9 rfl) rfl) ?_; rintro v8 w ⟨hS, hv8⟩
   replace hS := hS.n10
   refine ⟨⟨fun _ => hS.pk [0, 1, 4, 5], hS.pk [0, 1, 4]⟩, ?_⟩
   exact zmus hMm9 ⟨v1, v2, v3, v4, v5, v6, v7, v8, hv4, hv3, hv8, hv7, rfl, hS⟩
  intro hMm8
  refine zmem (fun M w => ∃ (v1 : Value) (v2 : Value) (v3 : Value) (v4 : Value) (v5 : Value) (v6 : Value), (Slh v4 (p.m + 1)) ∧ (Slh v3 1) ∧ (Slh v6 p.k) ∧ M = [(0, .agg #[vc, vA, vb]), (1, vr), (2, .agg #[.int .u8 by0, .int .u8 by1]), (3, .pointer (some ⟨g1, 0, none⟩)), (5, .pointer (some ⟨g2, 0, none⟩)), (6, .bool false), (20, .bool true), (21, .bool false), (22, .bool false), (23, .agg #[vc, vA, vb]), (24, B (FewP p)), (25, B (¬ (FewP p))), (26, B (¬ (FewP p))), (27, .bool false), (28, .agg #[vc, vA, vb]), (29, B (LOk p)), (30, B (¬ (LOk p))), (31, B (¬ (LOk p))), (32, .bool false), (33, .pointer (some ⟨g1, 1, none⟩)), (34, vA), (35, .int .i64 p.m), (36, B (p.m = 0)), (37, B (p.m = 0)), (38, .bool false), (39, .pointer (some ⟨g1, 1, none⟩)), (40, vA), (41, .int .i64 p.m), (42, B (7 < p.m)), (43, B (7 < p.m)), (46, .agg #[vc, vA, vb]), (47, .agg #[vc, vA, vb]), (48, .tuple #[.agg #[vXs1, vYs1, .int .i64 ss1.val, .int .i64 ss1.den], .int .i64 es1]), (45, .tuple #[.agg #[vXs1, vYs1, .int .i64 ss1.val, .int .i64 ss1.den], .int .i64 es1]), (49, .agg #[vXs1, vYs1, .int .i64 ss1.val, .int .i64 ss1.den]), (50, .int .i64 es1), (7, .pointer (some ⟨g3, 0, none⟩)), (8, .int .i64 es1), (51, .int .i64 es1), (52, B (es1 ≠ 0)), (53, .pointer (some ⟨g2, 0, none⟩)), (54, .int .u8 by0), (55, .int .i64 by0), (56, .pointer (some ⟨g1, 1, none⟩)), (57, vA), (58, .int .i64 p.m), (59, .int .i64 (Int.tmod by0 p.m)), (9, .int .i64 (Int.tmod by0 p.m)), (60, .agg #[vc, vA, vb]), (10, .pointer (some ⟨g4, 0, none⟩)), (62, .pointer (some ⟨g1, 1, none⟩)), (63, vA), (65, .pointer (some ⟨g1, 1, none⟩)), (66, vA), (67, .int .i64 (Int.tmod by0 p.m)), (68, .pointer (some (cad vA (Int.tmod by0 p.m)))), (69, (vq (Int.tmod by0 p.m))), (73, .pointer (some ⟨g1, 2, none⟩)), (74, vb), (76, .pointer (some ⟨g1, 2, none⟩)), (77, vb), (78, .int .i64 (Int.tmod by0 p.m)), (79, .pointer (some (cad vb (Int.tmod by0 p.m)))), (80, .int .i64 (p.b (Int.tmod by0 p.m))), (61, v1), (64, v2), (70, v3), (71, v4), (83, .pointer (some ⟨g4, 1, none⟩)), (72, v5), (75, v6)] ∧ Sat w0 w [.blk g1 [vc, vA, vb], .blk g2 [.int .u8 by0, .int .u8 by1], .own vXs1 1 3 ss1.n (ints ss1.X), .own vYs1 1 3 ss1.m (ints ss1.Y), .blk g3 [vXs1, vYs1, .int .i64 ss1.val, .int .i64 ss1.den], .blk g4 [vc, vA, vb], .own v4 1 22 (p.m + 1) (gsn (cat (0 * 1) (ints (fun _ => 0)) vq) p.m (vq (Int.tmod by0 p.m))), .own v3 1 22 1 (fun _ => (vq (Int.tmod by0 p.m))), .own v6 1 3 p.k (cat (0 * 1) (ints (fun _ => 0)) (ints p.b))]) #[true, true, true, true, true, true, true, true, true, true, true, true, true, true, true, true, true, true, true, true, false, false, true, false, false, false] 5 ?_ ?_
  ·
   rintro M w ⟨v1, v2, v3, v4, v5, v6, hv4, hv3, hv6, rfl, hS⟩
   refine zda 20 (xli (n := 1) (len := 1) (pv := [(0, .int .i64 (p.b (Int.tmod by0 p.m)))]) (cs := [.int .i64 (p.b (Int.tmod by0 p.m))]) (c := ints (fun _ => (p.b (Int.tmod by0 p.m)))) sl_22 el_3 hS) ?_; rintro v7 w ⟨hS, hv7⟩
   replace hS := hS.n10
   refine ⟨⟨fun _ => hS.pk [0, 1, 4, 5], hS.pk [0, 1, 4]⟩, ?_⟩
   exact zmus hMm8 ⟨v1, v2, v3, v4, v5, v6, v7, hv4, hv3, hv6, hv7, rfl, hS⟩
  intro hMm7
  refine zmem (fun M w => ∃ (v1 : Value) (v2 : Value) (v3 : Value) (v4 : Value) (v5 : Value) (v6 : Value), (Slh v4 (p.m + 1)) ∧ (Slh v3 1) ∧ (Slh v5 0) ∧ (Slh v6 1) ∧ M = [(0, .agg #[vc, vA, vb]), (1, vr), (2, .agg #[.int .u8 by0, .int .u8 by1]), (3, .pointer (some ⟨g1, 0, none⟩)), (5, .pointer (some ⟨g2, 0, none⟩)), (6, .bool false), (20, .bool true), (21, .bool false), (22, .bool false), (23, .agg #[vc, vA, vb]), (24, B (FewP p)), (25, B (¬ (FewP p))), (26, B (¬ (FewP p))), (27, .bool false), (28, .agg #[vc, vA, vb]), (29, B (LOk p)), (30, B (¬ (LOk p))), (31, B (¬ (LOk p))), (32, .bool false), (33, .pointer (some ⟨g1, 1, none⟩)), (34, vA), (35, .int .i64 p.m), (36, B (p.m = 0)), (37, B (p.m = 0)), (38, .bool false), (39, .pointer (some ⟨g1, 1, none⟩)), (40, vA), (41, .int .i64 p.m), (42, B (7 < p.m)), (43, B (7 < p.m)), (46, .agg #[vc, vA, vb]), (47, .agg #[vc, vA, vb]), (48, .tuple #[.agg #[vXs1, vYs1, .int .i64 ss1.val, .int .i64 ss1.den], .int .i64 es1]), (45, .tuple #[.agg #[vXs1, vYs1, .int .i64 ss1.val, .int .i64 ss1.den], .int .i64 es1]), (49, .agg #[vXs1, vYs1, .int .i64 ss1.val, .int .i64 ss1.den]), (50, .int .i64 es1), (7, .pointer (some ⟨g3, 0, none⟩)), (8, .int .i64 es1), (51, .int .i64 es1), (52, B (es1 ≠ 0)), (53, .pointer (some ⟨g2, 0, none⟩)), (54, .int .u8 by0), (55, .int .i64 by0), (56, .pointer (some ⟨g1, 1, none⟩)), (57, vA), (58, .int .i64 p.m), (59, .int .i64 (Int.tmod by0 p.m)), (9, .int .i64 (Int.tmod by0 p.m)), (60, .agg #[vc, vA, vb]), (10, .pointer (some ⟨g4, 0, none⟩)), (62, .pointer (some ⟨g1, 1, none⟩)), (63, vA), (65, .pointer (some ⟨g1, 1, none⟩)), (66, vA), (67, .int .i64 (Int.tmod by0 p.m)), (68, .pointer (some (cad vA (Int.tmod by0 p.m)))), (69, (vq (Int.tmod by0 p.m))), (73, .pointer (some ⟨g1, 2, none⟩)), (74, vb), (76, .pointer (some ⟨g1, 2, none⟩)), (77, vb), (78, .int .i64 (Int.tmod by0 p.m)), (79, .pointer (some (cad vb (Int.tmod by0 p.m)))), (80, .int .i64 (p.b (Int.tmod by0 p.m))), (61, v1), (64, v2), (70, v3), (71, v4), (83, .pointer (some ⟨g4, 1, none⟩)), (72, v5), (81, v6)] ∧ Sat w0 w [.blk g1 [vc, vA, vb], .blk g2 [.int .u8 by0, .int .u8 by1], .own vXs1 1 3 ss1.n (ints ss1.X), .own vYs1 1 3 ss1.m (ints ss1.Y), .blk g3 [vXs1, vYs1, .int .i64 ss1.val, .int .i64 ss1.den], .blk g4 [vc, vA, vb], .own v4 1 22 (p.m + 1) (gsn (cat (0 * 1) (ints (fun _ => 0)) vq) p.m (vq (Int.tmod by0 p.m))), .own v3 1 22 1 (fun _ => (vq (Int.tmod by0 p.m))), .own v5 1 3 0 (ints (fun _ => 0)), .own v6 1 3 1 (ints (fun _ => (p.b (Int.tmod by0 p.m))))]) #[true, true, true, true, true, true, true, true, true, true, true, true, true, true, false, true, true, true, true, true, true, false, true, false, false, false] 5 ?_ ?_
  ·
   rintro M w ⟨v1, v2, v3, v4, v5, v6, hv4, hv3, hv5, hv6, rfl, hS⟩
   refine zda 14 (xap 8 (r := p.k) (f := cat (0 * 1) (ints (fun _ => 0)) (ints p.b)) sl_22 el_3 hS (hL.b.below hS.below) rfl) ?_; rintro v7 w ⟨hS, hv7⟩
   replace hS := hS.n10
   refine ⟨⟨fun _ => hS.pk [0, 1, 4, 5], hS.pk [0, 1, 4]⟩, ?_⟩
   exact zmus hMm8 ⟨v1, v2, v3, v4, v5, v7, v6, hv4, hv3, hv7, hv6, rfl, hS⟩
  intro hMm11
  refine zmem (fun M w => ∃ (v1 : Value) (v2 : Value) (v3 : Value) (v4 : Value) (v5 : Value), (Slh v4 (p.m + 1)) ∧ (Slh v3 1) ∧ (Slh v5 0) ∧ M = [(0, .agg #[vc, vA, vb]), (1, vr), (2, .agg #[.int .u8 by0, .int .u8 by1]), (3, .pointer (some ⟨g1, 0, none⟩)), (5, .pointer (some ⟨g2, 0, none⟩)), (6, .bool false), (20, .bool true), (21, .bool false), (22, .bool false), (23, .agg #[vc, vA, vb]), (24, B (FewP p)), (25, B (¬ (FewP p))), (26, B (¬ (FewP p))), (27, .bool false), (28, .agg #[vc, vA, vb]), (29, B (LOk p)), (30, B (¬ (LOk p))), (31, B (¬ (LOk p))), (32, .bool false), (33, .pointer (some ⟨g1, 1, none⟩)), (34, vA), (35, .int .i64 p.m), (36, B (p.m = 0)), (37, B (p.m = 0)), (38, .bool false), (39, .pointer (some ⟨g1, 1, none⟩)), (40, vA), (41, .int .i64 p.m), (42, B (7 < p.m)), (43, B (7 < p.m)), (46, .agg #[vc, vA, vb]), (47, .agg #[vc, vA, vb]), (48, .tuple #[.agg #[vXs1, vYs1, .int .i64 ss1.val, .int .i64 ss1.den], .int .i64 es1]), (45, .tuple #[.agg #[vXs1, vYs1, .int .i64 ss1.val, .int .i64 ss1.den], .int .i64 es1]), (49, .agg #[vXs1, vYs1, .int .i64 ss1.val, .int .i64 ss1.den]), (50, .int .i64 es1), (7, .pointer (some ⟨g3, 0, none⟩)), (8, .int .i64 es1), (51, .int .i64 es1), (52, B (es1 ≠ 0)), (53, .pointer (some ⟨g2, 0, none⟩)), (54, .int .u8 by0), (55, .int .i64 by0), (56, .pointer (some ⟨g1, 1, none⟩)), (57, vA), (58, .int .i64 p.m), (59, .int .i64 (Int.tmod by0 p.m)), (9, .int .i64 (Int.tmod by0 p.m)), (60, .agg #[vc, vA, vb]), (10, .pointer (some ⟨g4, 0, none⟩)), (62, .pointer (some ⟨g1, 1, none⟩)), (63, vA), (65, .pointer (some ⟨g1, 1, none⟩)), (66, vA), (67, .int .i64 (Int.tmod by0 p.m)), (68, .pointer (some (cad vA (Int.tmod by0 p.m)))), (69, (vq (Int.tmod by0 p.m))), (73, .pointer (some ⟨g1, 2, none⟩)), (74, vb), (76, .pointer (some ⟨g1, 2, none⟩)), (77, vb), (78, .int .i64 (Int.tmod by0 p.m)), (79, .pointer (some (cad vb (Int.tmod by0 p.m)))), (80, .int .i64 (p.b (Int.tmod by0 p.m))), (61, v1), (64, v2), (70, v3), (71, v4), (83, .pointer (some ⟨g4, 1, none⟩)), (72, v5)] ∧ Sat w0 w [.blk g1 [vc, vA, vb], .blk g2 [.int .u8 by0, .int .u8 by1], .own vXs1 1 3 ss1.n (ints ss1.X), .own vYs1 1 3 ss1.m (ints ss1.Y), .blk g3 [vXs1, vYs1, .int .i64 ss1.val, .int .i64 ss1.den], .blk g4 [vc, vA, vb], .own v4 1 22 (p.m + 1) (gsn (cat (0 * 1) (ints (fun _ => 0)) vq) p.m (vq (Int.tmod by0 p.m))), .own v3 1 22 1 (fun _ => (vq (Int.tmod by0 p.m))), .own v5 1 3 0 (ints (fun _ => 0))]) #[true, true, true, true, true, true, true, true, true, true, true, true, true, true, false, true, true, true, true, true, false, false, true, false, false, false] 6 ?_ ?_
  ·
   rintro M w ⟨v1, v2, v3, v4, v5, hv4, hv3, hv5, rfl, hS⟩
   refine zdfk (r := [14, 20]) ((zdn1 ?_ (zdn1 ?_ zdn0)))
   ·
    refine zka (xap 8 (r := p.k) (f := cat (0 * 1) (ints (fun _ => 0)) (ints p.b)) sl_22 el_3 hS (hL.b.below hS.below) rfl) ?_; rintro v6 w ⟨hS, hv6⟩
    replace hS := hS.n9
    refine ⟨⟨fun _ => hS.pk [0, 1, 4, 5], hS.pk [0, 1, 4]⟩, ?_⟩
    exact zmus hMm7 ⟨v1, v2, v3, v4, v5, v6, hv4, hv3, hv6, rfl, hS⟩
   refine zka (xli (n := 1) (len := 1) (pv := [(0, .int .i64 (p.b (Int.tmod by0 p.m)))]) (cs := [.int .i64 (p.b (Int.tmod by0 p.m))]) (c := ints (fun _ => (p.b (Int.tmod by0 p.m)))) sl_22 el_3 hS) ?_; rintro v6 w ⟨hS, hv6⟩
   replace hS := hS.n10
   refine ⟨⟨fun _ => hS.pk [0, 1, 4, 5], hS.pk [0, 1, 4]⟩, ?_⟩
   exact zmus hMm11 ⟨v1, v2, v3, v4, v5, v6, hv4, hv3, hv5, hv6, rfl, hS⟩
  intro hMm6
  refine zmem (fun M w => ∃ (v1 : Value) (v2 : Value) (v3 : Value) (v4 : Value) (v5 : Value), (Slh v4 (p.m + 1)) ∧ (Slh v3 1) ∧ (Slh v5 1) ∧ M = [(0, .agg #[vc, vA, vb]), (1, vr), (2, .agg #[.int .u8 by0, .int .u8 by1]), (3, .pointer (some ⟨g1, 0, none⟩)), (5, .pointer (some ⟨g2, 0, none⟩)), (6, .bool false), (20, .bool true), (21, .bool false), (22, .bool false), (23, .agg #[vc, vA, vb]), (24, B (FewP p)), (25, B (¬ (FewP p))), (26, B (¬ (FewP p))), (27, .bool false), (28, .agg #[vc, vA, vb]), (29, B (LOk p)), (30, B (¬ (LOk p))), (31, B (¬ (LOk p))), (32, .bool false), (33, .pointer (some ⟨g1, 1, none⟩)), (34, vA), (35, .int .i64 p.m), (36, B (p.m = 0)), (37, B (p.m = 0)), (38, .bool false), (39, .pointer (some ⟨g1, 1, none⟩)), (40, vA), (41, .int .i64 p.m), (42, B (7 < p.m)), (43, B (7 < p.m)), (46, .agg #[vc, vA, vb]), (47, .agg #[vc, vA, vb]), (48, .tuple #[.agg #[vXs1, vYs1, .int .i64 ss1.val, .int .i64 ss1.den], .int .i64 es1]), (45, .tuple #[.agg #[vXs1, vYs1, .int .i64 ss1.val, .int .i64 ss1.den], .int .i64 es1]), (49, .agg #[vXs1, vYs1, .int .i64 ss1.val, .int .i64 ss1.den]), (50, .int .i64 es1), (7, .pointer (some ⟨g3, 0, none⟩)), (8, .int .i64 es1), (51, .int .i64 es1), (52, B (es1 ≠ 0)), (53, .pointer (some ⟨g2, 0, none⟩)), (54, .int .u8 by0), (55, .int .i64 by0), (56, .pointer (some ⟨g1, 1, none⟩)), (57, vA), (58, .int .i64 p.m), (59, .int .i64 (Int.tmod by0 p.m)), (9, .int .i64 (Int.tmod by0 p.m)), (60, .agg #[vc, vA, vb]), (10, .pointer (some ⟨g4, 0, none⟩)), (62, .pointer (some ⟨g1, 1, none⟩)), (63, vA), (65, .pointer (some ⟨g1, 1, none⟩)), (66, vA), (67, .int .i64 (Int.tmod by0 p.m)), (68, .pointer (some (cad vA (Int.tmod by0 p.m)))), (69, (vq (Int.tmod by0 p.m))), (73, .pointer (some ⟨g1, 2, none⟩)), (74, vb), (76, .pointer (some ⟨g1, 2, none⟩)), (77, vb), (78, .int .i64 (Int.tmod by0 p.m)), (79, .pointer (some (cad vb (Int.tmod by0 p.m)))), (80, .int .i64 (p.b (Int.tmod by0 p.m))), (61, v1), (64, v2), (70, v3), (71, v4), (83, .pointer (some ⟨g4, 1, none⟩)), (81, v5)] ∧ Sat w0 w [.blk g1 [vc, vA, vb], .blk g2 [.int .u8 by0, .int .u8 by1], .own vXs1 1 3 ss1.n (ints ss1.X), .own vYs1 1 3 ss1.m (ints ss1.Y), .blk g3 [vXs1, vYs1, .int .i64 ss1.val, .int .i64 ss1.den], .blk g4 [vc, vA, vb], .own v4 1 22 (p.m + 1) (gsn (cat (0 * 1) (ints (fun _ => 0)) vq) p.m (vq (Int.tmod by0 p.m))), .own v3 1 22 1 (fun _ => (vq (Int.tmod by0 p.m))), .own v5 1 3 1 (ints (fun _ => (p.b (Int.tmod by0 p.m))))]) #[true, true, true, true, true, true, true, true, true, true, true, false, true, true, false, true, true, true, true, true, true, false, true, false, false, false] 6 ?_ ?_
  ·
   rintro M w ⟨v1, v2, v3, v4, v5, hv4, hv3, hv5, rfl, hS⟩
   refine zda 11 (xl0 (c := ints (fun _ => 0)) sl_22 hS) ?_; rintro v6 w ⟨hS, hv6⟩
   replace hS := hS.n10
   refine ⟨⟨fun _ => hS.pk [0, 1, 4, 5], hS.pk [0, 1, 4]⟩, ?_⟩
   exact zmus hMm11 ⟨v1, v2, v3, v4, v6, v5, hv4, hv3, hv6, hv5, rfl, hS.pk [0, 1, 2, 3, 4, 5, 6, 7, 9, 8]⟩
  intro hMm12
  refine zmem (fun M w => ∃ (v1 : Value) (v2 : Value) (v3 : Value) (v4 : Value), (Slh v4 (p.m + 1)) ∧ (Slh v3 1) ∧ M = [(0, .agg #[vc, vA, vb]), (1, vr), (2, .agg #[.int .u8 by0, .int .u8 by1]), (3, .pointer (some ⟨g1, 0, none⟩)), (5, .pointer (some ⟨g2, 0, none⟩)), (6, .bool false), (20, .bool true), (21, .bool false), (22, .bool false), (23, .agg #[vc, vA, vb]), (24, B (FewP p)), (25, B (¬ (FewP p))), (26, B (¬ (FewP p))), (27, .bool false), (28, .agg #[vc, vA, vb]), (29, B (LOk p)), (30, B (¬ (LOk p))), (31, B (¬ (LOk p))), (32, .bool false), (33, .pointer (some ⟨g1, 1, none⟩)), (34, vA), (35, .int .i64 p.m), (36, B (p.m = 0)), (37, B (p.m = 0)), (38, .bool false), (39, .pointer (some ⟨g1, 1, none⟩)), (40, vA), (41, .int .i64 p.m), (42, B (7 < p.m)), (43, B (7 < p.m)), (46, .agg #[vc, vA, vb]), (47, .agg #[vc, vA, vb]), (48, .tuple #[.agg #[vXs1, vYs1, .int .i64 ss1.val, .int .i64 ss1.den], .int .i64 es1]), (45, .tuple #[.agg #[vXs1, vYs1, .int .i64 ss1.val, .int .i64 ss1.den], .int .i64 es1]), (49, .agg #[vXs1, vYs1, .int .i64 ss1.val, .int .i64 ss1.den]), (50, .int .i64 es1), (7, .pointer (some ⟨g3, 0, none⟩)), (8, .int .i64 es1), (51, .int .i64 es1), (52, B (es1 ≠ 0)), (53, .pointer (some ⟨g2, 0, none⟩)), (54, .int .u8 by0), (55, .int .i64 by0), (56, .pointer (some ⟨g1, 1, none⟩)), (57, vA), (58, .int .i64 p.m), (59, .int .i64 (Int.tmod by0 p.m)), (9, .int .i64 (Int.tmod by0 p.m)), (60, .agg #[vc, vA, vb]), (10, .pointer (some ⟨g4, 0, none⟩)), (62, .pointer (some ⟨g1, 1, none⟩)), (63, vA), (65, .pointer (some ⟨g1, 1, none⟩)), (66, vA), (67, .int .i64 (Int.tmod by0 p.m)), (68, .pointer (some (cad vA (Int.tmod by0 p.m)))), (69, (vq (Int.tmod by0 p.m))), (73, .pointer (some ⟨g1, 2, none⟩)), (74, vb), (76, .pointer (some ⟨g1, 2, none⟩)), (77, vb), (78, .int .i64 (Int.tmod by0 p.m)), (79, .pointer (some (cad vb (Int.tmod by0 p.m)))), (80, .int .i64 (p.b (Int.tmod by0 p.m))), (61, v1), (64, v2), (70, v3), (71, v4), (83, .pointer (some ⟨g4, 1, none⟩))] ∧ Sat w0 w [.blk g1 [vc, vA, vb], .blk g2 [.int .u8 by0, .int .u8 by1], .own vXs1 1 3 ss1.n (ints ss1.X), .own vYs1 1 3 ss1.m (ints ss1.Y), .blk g3 [vXs1, vYs1, .int .i64 ss1.val, .int .i64 ss1.den], .blk g4 [vc, vA, vb], .own v4 1 22 (p.m + 1) (gsn (cat (0 * 1) (ints (fun _ => 0)) vq) p.m (vq (Int.tmod by0 p.m))), .own v3 1 22 1 (fun _ => (vq (Int.tmod by0 p.m)))]) #[true, true, true, true, true, true, true, true, true, true, true, false, true, true, false, true, true, true, true, true, false, false, true, false, false, false] 7 ?_ ?_
  ·
   rintro M w ⟨v1, v2, v3, v4, hv4, hv3, rfl, hS⟩
   refine zdfk (r := [11, 20]) ((zdn1 ?_ (zdn1 ?_ zdn0)))
   ·
    refine zka (xl0 (c := ints (fun _ => 0)) sl_22 hS) ?_; rintro v5 w ⟨hS, hv5⟩
    replace hS := hS.n9
    refine ⟨⟨fun _ => hS.pk [0, 1, 4, 5], hS.pk [0, 1, 4]⟩, ?_⟩
    exact zmus hMm6 ⟨v1, v2, v3, v4, v5, hv4, hv3, hv5, rfl, hS⟩
   refine zka (xli (n := 1) (len := 1) (pv := [(0, .int .i64 (p.b (Int.tmod by0 p.m)))]) (cs := [.int .i64 (p.b (Int.tmod by0 p.m))]) (c := ints (fun _ => (p.b (Int.tmod by0 p.m)))) sl_22 el_3 hS) ?_; rintro v5 w ⟨hS, hv5⟩
   replace hS := hS.n9
   refine ⟨⟨fun _ => hS.pk [0, 1, 4, 5], hS.pk [0, 1, 4]⟩, ?_⟩
   exact zmus hMm12 ⟨v1, v2, v3, v4, v5, hv4, hv3, hv5, rfl, hS⟩
  intro hMm5
  refine zmem (fun M w => ∃ (v1 : Value) (v2 : Value) (v3 : Value) (v4 : Value) (v5 : Value), (Slh v2 p.m) ∧ (Slh v3 1) ∧ (Slh v4 0) ∧ (Slh v5 1) ∧ M = [(0, .agg #[vc, vA, vb]), (1, vr), (2, .agg #[.int .u8 by0, .int .u8 by1]), (3, .pointer (some ⟨g1, 0, none⟩)), (5, .pointer (some ⟨g2, 0, none⟩)), (6, .bool false), (20, .bool true), (21, .bool false), (22, .bool false), (23, .agg #[vc, vA, vb]), (24, B (FewP p)), (25, B (¬ (FewP p))), (26, B (¬ (FewP p))), (27, .bool false), (28, .agg #[vc, vA, vb]), (29, B (LOk p)), (30, B (¬ (LOk p))), (31, B (¬ (LOk p))), (32, .bool false), (33, .pointer (some ⟨g1, 1, none⟩)), (34, vA), (35, .int .i64 p.m), (36, B (p.m = 0)), (37, B (p.m = 0)), (38, .bool false), (39, .pointer (some ⟨g1, 1, none⟩)), (40, vA), (41, .int .i64 p.m), (42, B (7 < p.m)), (43, B (7 < p.m)), (46, .agg #[vc, vA, vb]), (47, .agg #[vc, vA, vb]), (48, .tuple #[.agg #[vXs1, vYs1, .int .i64 ss1.val, .int .i64 ss1.den], .int .i64 es1]), (45, .tuple #[.agg #[vXs1, vYs1, .int .i64 ss1.val, .int .i64 ss1.den], .int .i64 es1]), (49, .agg #[vXs1, vYs1, .int .i64 ss1.val, .int .i64 ss1.den]), (50, .int .i64 es1), (7, .pointer (some ⟨g3, 0, none⟩)), (8, .int .i64 es1), (51, .int .i64 es1), (52, B (es1 ≠ 0)), (53, .pointer (some ⟨g2, 0, none⟩)), (54, .int .u8 by0), (55, .int .i64 by0), (56, .pointer (some ⟨g1, 1, none⟩)), (57, vA), (58, .int .i64 p.m), (59, .int .i64 (Int.tmod by0 p.m)), (9, .int .i64 (Int.tmod by0 p.m)), (60, .agg #[vc, vA, vb]), (10, .pointer (some ⟨g4, 0, none⟩)), (62, .pointer (some ⟨g1, 1, none⟩)), (63, vA), (65, .pointer (some ⟨g1, 1, none⟩)), (66, vA), (67, .int .i64 (Int.tmod by0 p.m)), (68, .pointer (some (cad vA (Int.tmod by0 p.m)))), (69, (vq (Int.tmod by0 p.m))), (73, .pointer (some ⟨g1, 2, none⟩)), (74, vb), (76, .pointer (some ⟨g1, 2, none⟩)), (77, vb), (78, .int .i64 (Int.tmod by0 p.m)), (79, .pointer (some (cad vb (Int.tmod by0 p.m)))), (80, .int .i64 (p.b (Int.tmod by0 p.m))), (61, v1), (64, v2), (70, v3), (72, v4), (81, v5)] ∧ Sat w0 w [.blk g1 [vc, vA, vb], .blk g2 [.int .u8 by0, .int .u8 by1], .own vXs1 1 3 ss1.n (ints ss1.X), .own vYs1 1 3 ss1.m (ints ss1.Y), .blk g3 [vXs1, vYs1, .int .i64 ss1.val, .int .i64 ss1.den], .blk g4 [vc, vA, vb], .own v2 1 22 p.m (cat (0 * 1) (ints (fun _ => 0)) vq), .own v3 1 22 1 (fun _ => (vq (Int.tmod by0 p.m))), .own v4 1 3 0 (ints (fun _ => 0)), .own v5 1 3 1 (ints (fun _ => (p.b (Int.tmod by0 p.m))))]) #[true, true, true, true, true, true, true, true, true, true, false, true, true, true, false, true, true, true, true, true, true, false, false, false, false, false] 7 ?_ ?_
  ·
   rintro M w ⟨v1, v2, v3, v4, v5, hv2, hv3, hv4, hv5, rfl, hS⟩
   refine zda 10 (xap 6 (r := p.m + 1) sl_23 el_22 hS (hS.rowN 7 rfl) (cat_gsn _ _ _) (h1 := fun _ _ _ => (hL.A.p (Int.tmod by0 p.m) (by omega) (by omega)).slh.one)) ?_; rintro v6 w ⟨hS, hv6⟩
   replace hS := hS.n10
   refine ⟨⟨fun _ => hS.pk [0, 1, 4, 5], hS.pk [0, 1, 4]⟩, ?_⟩
   refine zdv 22 (fun _ => (xfb 1 fd_25_1)) ?_
   exact zmus hMm11 ⟨v1, v2, v3, v6, v4, v5, hv6, hv3, hv4, hv5, rfl, hS⟩
  intro hMm14
  refine zmem (fun M w => ∃ (v1 : Value) (v2 : Value) (v3 : Value) (v4 : Value), (Slh v2 p.m) ∧ (Slh v3 1) ∧ (Slh v4 0) ∧ M = [(0, .agg #[vc, vA, vb]), (1, vr), (2, .agg #[.int .u8 by0, .int .u8 by1]), (3, .pointer (some ⟨g1, 0, none⟩)), (5, .pointer (some ⟨g2, 0, none⟩)), (6, .bool false), (20, .bool true), (21, .bool false), (22, .bool false), (23, .agg #[vc, vA, vb]), (24, B (FewP p)), (25, B (¬ (FewP p))), (26, B (¬ (FewP p))), (27, .bool false), (28, .agg #[vc, vA, vb]), (29, B (LOk p)), (30, B (¬ (LOk p))), (31, B (¬ (LOk p))), (32, .bool false), (33, .pointer (some ⟨g1, 1, none⟩)), (34, vA), (35, .int .i64 p.m), (36, B (p.m = 0)), (37, B (p.m = 0)), (38, .bool false), (39, .pointer (some ⟨g1, 1, none⟩)), (40, vA), (41, .int .i64 p.m), (42, B (7 < p.m)), (43, B (7 < p.m)), (46, .agg #[vc, vA, vb]), (47, .agg #[vc, vA, vb]), (48, .tuple #[.agg #[vXs1, vYs1, .int .i64 ss1.val, .int .i64 ss1.den], .int .i64 es1]), (45, .tuple #[.agg #[vXs1, vYs1, .int .i64 ss1.val, .int .i64 ss1.den], .int .i64 es1]), (49, .agg #[vXs1, vYs1, .int .i64 ss1.val, .int .i64 ss1.den]), (50, .int .i64 es1), (7, .pointer (some ⟨g3, 0, none⟩)), (8, .int .i64 es1), (51, .int .i64 es1), (52, B (es1 ≠ 0)), (53, .pointer (some ⟨g2, 0, none⟩)), (54, .int .u8 by0), (55, .int .i64 by0), (56, .pointer (some ⟨g1, 1, none⟩)), (57, vA), (58, .int .i64 p.m), (59, .int .i64 (Int.tmod by0 p.m)), (9, .int .i64 (Int.tmod by0 p.m)), (60, .agg #[vc, vA, vb]), (10, .pointer (some ⟨g4, 0, none⟩)), (62, .pointer (some ⟨g1, 1, none⟩)), (63, vA), (65, .pointer (some ⟨g1, 1, none⟩)), (66, vA), (67, .int .i64 (Int.tmod by0 p.m)), (68, .pointer (some (cad vA (Int.tmod by0 p.m)))), (69, (vq (Int.tmod by0 p.m))), (73, .pointer (some ⟨g1, 2, none⟩)), (74, vb), (76, .pointer (some ⟨g1, 2, none⟩)), (77, vb), (78, .int .i64 (Int.tmod by0 p.m)), (79, .pointer (some (cad vb (Int.tmod by0 p.m)))), (80, .int .i64 (p.b (Int.tmod by0 p.m))), (61, v1), (64, v2), (70, v3), (72, v4)] ∧ Sat w0 w [.blk g1 [vc, vA, vb], .blk g2 [.int .u8 by0, .int .u8 by1], .own vXs1 1 3 ss1.n (ints ss1.X), .own vYs1 1 3 ss1.m (ints ss1.Y), .blk g3 [vXs1, vYs1, .int .i64 ss1.val, .int .i64 ss1.den], .blk g4 [vc, vA, vb], .own v2 1 22 p.m (cat (0 * 1) (ints (fun _ => 0)) vq), .own v3 1 22 1 (fun _ => (vq (Int.tmod by0 p.m))), .own v4 1 3 0 (ints (fun _ => 0))]) #[true, true, true, true, true, true, true, true, true, true, false, true, true, true, false, true, true, true, true, true, false, false, false, false, false, false] 8 ?_ ?_
  ·
   rintro M w ⟨v1, v2, v3, v4, hv2, hv3, hv4, rfl, hS⟩
   refine zdfk (r := [10, 20]) ((zdn1 ?_ (zdn1 ?_ zdn0)))
   ·
    refine zka (xap 6 (r := p.m + 1) sl_23 el_22 hS (hS.rowN 7 rfl) (cat_gsn _ _ _) (h1 := fun _ _ _ => (hL.A.p (Int.tmod by0 p.m) (by omega) (by omega)).slh.one)) ?_; rintro v5 w ⟨hS, hv5⟩
    replace hS := hS.n9
    refine ⟨⟨fun _ => hS.pk [0, 1, 4, 5], hS.pk [0, 1, 4]⟩, ?_⟩
    refine zdv 22 (fun _ => (xfb 1 fd_25_1)) ?_
    exact zmus hMm6 ⟨v1, v2, v3, v5, v4, hv5, hv3, hv4, rfl, hS⟩
   refine zka (xli (n := 1) (len := 1) (pv := [(0, .int .i64 (p.b (Int.tmod by0 p.m)))]) (cs := [.int .i64 (p.b (Int.tmod by0 p.m))]) (c := ints (fun _ => (p.b (Int.tmod by0 p.m)))) sl_22 el_3 hS) ?_; rintro v5 w ⟨hS, hv5⟩
   replace hS := hS.n10
   refine ⟨⟨fun _ => hS.pk [0, 1, 4, 5], hS.pk [0, 1, 4]⟩, ?_⟩
   exact zmus hMm14 ⟨v1, v2, v3, v4, v5, hv2, hv3, hv4, hv5, rfl, hS⟩
  intro hMm13
  refine zmem (fun M w => ∃ (v1 : Value) (v2 : Value) (v3 : Value) (v4 : Value), (Slh v2 p.m) ∧ (Slh v3 1) ∧ (Slh v4 1) ∧ M = [(0, .agg #[vc, vA, vb]), (1, vr), (2, .agg #[.int .u8 by0, .int .u8 by1]), (3, .pointer (some ⟨g1, 0, none⟩)), (5, .pointer (some ⟨g2, 0, none⟩)), (6, .bool false), (20, .bool true), (21, .bool false), (22, .bool false), (23, .agg #[vc, vA, vb]), (24, B (FewP p)), (25, B (¬ (FewP p))), (26, B (¬ (FewP p))), (27, .bool false), (28, .agg #[vc, vA, vb]), (29, B (LOk p)), (30, B (¬ (LOk p))), (31, B (¬ (LOk p))), (32, .bool false), (33, .pointer (some ⟨g1, 1, none⟩)), (34, vA), (35, .int .i64 p.m), (36, B (p.m = 0)), (37, B (p.m = 0)), (38, .bool false), (39, .pointer (some ⟨g1, 1, none⟩)), (40, vA), (41, .int .i64 p.m), (42, B (7 < p.m)), (43, B (7 < p.m)), (46, .agg #[vc, vA, vb]), (47, .agg #[vc, vA, vb]), (48, .tuple #[.agg #[vXs1, vYs1, .int .i64 ss1.val, .int .i64 ss1.den], .int .i64 es1]), (45, .tuple #[.agg #[vXs1, vYs1, .int .i64 ss1.val, .int .i64 ss1.den], .int .i64 es1]), (49, .agg #[vXs1, vYs1, .int .i64 ss1.val, .int .i64 ss1.den]), (50, .int .i64 es1), (7, .pointer (some ⟨g3, 0, none⟩)), (8, .int .i64 es1), (51, .int .i64 es1), (52, B (es1 ≠ 0)), (53, .pointer (some ⟨g2, 0, none⟩)), (54, .int .u8 by0), (55, .int .i64 by0), (56, .pointer (some ⟨g1, 1, none⟩)), (57, vA), (58, .int .i64 p.m), (59, .int .i64 (Int.tmod by0 p.m)), (9, .int .i64 (Int.tmod by0 p.m)), (60, .agg #[vc, vA, vb]), (10, .pointer (some ⟨g4, 0, none⟩)), (62, .pointer (some ⟨g1, 1, none⟩)), (63, vA), (65, .pointer (some ⟨g1, 1, none⟩)), (66, vA), (67, .int .i64 (Int.tmod by0 p.m)), (68, .pointer (some (cad vA (Int.tmod by0 p.m)))), (69, (vq (Int.tmod by0 p.m))), (73, .pointer (some ⟨g1, 2, none⟩)), (74, vb), (76, .pointer (some ⟨g1, 2, none⟩)), (77, vb), (78, .int .i64 (Int.tmod by0 p.m)), (79, .pointer (some (cad vb (Int.tmod by0 p.m)))), (80, .int .i64 (p.b (Int.tmod by0 p.m))), (61, v1), (64, v2), (70, v3), (81, v4)] ∧ Sat w0 w [.blk g1 [vc, vA, vb], .blk g2 [.int .u8 by0, .int .u8 by1], .own vXs1 1 3 ss1.n (ints ss1.X), .own vYs1 1 3 ss1.m (ints ss1.Y), .blk g3 [vXs1, vYs1, .int .i64 ss1.val, .int .i64 ss1.den], .blk g4 [vc, vA, vb], .own v2 1 22 p.m (cat (0 * 1) (ints (fun _ => 0)) vq), .own v3 1 22 1 (fun _ => (vq (Int.tmod by0 p.m))), .own v4 1 3 1 (ints (fun _ => (p.b (Int.tmod by0 p.m))))]) #[true, true, true, true, true, true, true, true, true, true, false, false, true, true, false, true, true, true, true, true, true, false, false, false, false, false] 8 ?_ ?_
  ·
   rintro M w ⟨v1, v2, v3, v4, hv2, hv3, hv4, rfl, hS⟩
   refine zdfk (r := [10, 11]) ((zdn1 ?_ (zdn1 ?_ zdn0)))
   ·
    refine zka (xap 6 (r := p.m + 1) sl_23 el_22 hS (hS.rowN 7 rfl) (cat_gsn _ _ _) (h1 := fun _ _ _ => (hL.A.p (Int.tmod by0 p.m) (by omega) (by omega)).slh.one)) ?_; rintro v5 w ⟨hS, hv5⟩
    replace hS := hS.n9
    refine ⟨⟨fun _ => hS.pk [0, 1, 4, 5], hS.pk [0, 1, 4]⟩, ?_⟩
    refine zdv 22 (fun _ => (xfb 1 fd_25_1)) ?_
    exact zmus hMm12 ⟨v1, v2, v3, v5, v4, hv5, hv3, hv4, rfl, hS⟩
   refine zka (xl0 (c := ints (fun _ => 0)) sl_22 hS) ?_; rintro v5 w ⟨hS, hv5⟩
   replace hS := hS.n10
   refine ⟨⟨fun _ => hS.pk [0, 1, 4, 5], hS.pk [0, 1, 4]⟩, ?_⟩
   exact zmus hMm14 ⟨v1, v2, v3, v5, v4, hv2, hv3, hv5, hv4, rfl, hS.pk [0, 1, 2, 3, 4, 5, 6, 7, 9, 8]⟩
  intro hMm15
  refine zmem (fun M w => ∃ (v1 : Value) (v2 : Value) (v3 : Value), (Slh v2 p.m) ∧ (Slh v3 1) ∧ M = [(0, .agg #[vc, vA, vb]), (1, vr), (2, .agg #[.int .u8 by0, .int .u8 by1]), (3, .pointer (some ⟨g1, 0, none⟩)), (5, .pointer (some ⟨g2, 0, none⟩)), (6, .bool false), (20, .bool true), (21, .bool false), (22, .bool false), (23, .agg #[vc, vA, vb]), (24, B (FewP p)), (25, B (¬ (FewP p))), (26, B (¬ (FewP p))), (27, .bool false), (28, .agg #[vc, vA, vb]), (29, B (LOk p)), (30, B (¬ (LOk p))), (31, B (¬ (LOk p))), (32, .bool false), (33, .pointer (some ⟨g1, 1, none⟩)), (34, vA), (35, .int .i64 p.m), (36, B (p.m = 0)), (37, B (p.m = 0)), (38, .bool false), (39, .pointer (some ⟨g1, 1, none⟩)), (40, vA), (41, .int .i64 p.m), (42, B (7 < p.m)), (43, B (7 < p.m)), (46, .agg #[vc, vA, vb]), (47, .agg #[vc, vA, vb]), (48, .tuple #[.agg #[vXs1, vYs1, .int .i64 ss1.val, .int .i64 ss1.den], .int .i64 es1]), (45, .tuple #[.agg #[vXs1, vYs1, .int .i64 ss1.val, .int .i64 ss1.den], .int .i64 es1]), (49, .agg #[vXs1, vYs1, .int .i64 ss1.val, .int .i64 ss1.den]), (50, .int .i64 es1), (7, .pointer (some ⟨g3, 0, none⟩)), (8, .int .i64 es1), (51, .int .i64 es1), (52, B (es1 ≠ 0)), (53, .pointer (some ⟨g2, 0, none⟩)), (54, .int .u8 by0), (55, .int .i64 by0), (56, .pointer (some ⟨g1, 1, none⟩)), (57, vA), (58, .int .i64 p.m), (59, .int .i64 (Int.tmod by0 p.m)), (9, .int .i64 (Int.tmod by0 p.m)), (60, .agg #[vc, vA, vb]), (10, .pointer (some ⟨g4, 0, none⟩)), (62, .pointer (some ⟨g1, 1, none⟩)), (63, vA), (65, .pointer (some ⟨g1, 1, none⟩)), (66, vA), (67, .int .i64 (Int.tmod by0 p.m)), (68, .pointer (some (cad vA (Int.tmod by0 p.m)))), (69, (vq (Int.tmod by0 p.m))), (73, .pointer (some ⟨g1, 2, none⟩)), (74, vb), (76, .pointer (some ⟨g1, 2, none⟩)), (77, vb), (78, .int .i64 (Int.tmod by0 p.m)), (79, .pointer (some (cad vb (Int.tmod by0 p.m)))), (80, .int .i64 (p.b (Int.tmod by0 p.m))), (61, v1), (64, v2), (70, v3)] ∧ Sat w0 w [.blk g1 [vc, vA, vb], .blk g2 [.int .u8 by0, .int .u8 by1], .own vXs1 1 3 ss1.n (ints ss1.X), .own vYs1 1 3 ss1.m (ints ss1.Y), .blk g3 [vXs1, vYs1, .int .i64 ss1.val, .int .i64 ss1.den], .blk g4 [vc, vA, vb], .own v2 1 22 p.m (cat (0 * 1) (ints (fun _ => 0)) vq), .own v3 1 22 1 (fun _ => (vq (Int.tmod by0 p.m)))]) #[true, true, true, true, true, true, true, true, true, true, false, false, true, true, false, true, true, true, true, true, false, false, false, false, false, false] 9 ?_ ?_
  ·
   rintro M w ⟨v1, v2, v3, hv2, hv3, rfl, hS⟩
   refine zdfk (r := [10, 11, 20]) ((zdn1 ?_ (zdn1 ?_ (zdn1 ?_ zdn0))))
   ·
    refine zka (xap 6 (r := p.m + 1) sl_23 el_22 hS (hS.rowN 7 rfl) (cat_gsn _ _ _) (h1 := fun _ _ _ => (hL.A.p (Int.tmod by0 p.m) (by omega) (by omega)).slh.one)) ?_; rintro v4 w ⟨hS, hv4⟩
    replace hS := hS.n8
    refine ⟨⟨fun _ => hS.pk [0, 1, 4, 5], hS.pk [0, 1, 4]⟩, ?_⟩
    refine zdv 22 (fun _ => (xfb 1 fd_25_1)) ?_
    exact zmus hMm5 ⟨v1, v2, v3, v4, hv4, hv3, rfl, hS⟩
   ·
    refine zka (xl0 (c := ints (fun _ => 0)) sl_22 hS) ?_; rintro v4 w ⟨hS, hv4⟩
    replace hS := hS.n9
    refine ⟨⟨fun _ => hS.pk [0, 1, 4, 5], hS.pk [0, 1, 4]⟩, ?_⟩
    exact zmus hMm13 ⟨v1, v2, v3, v4, hv2, hv3, hv4, rfl, hS⟩
   refine zka (xli (n := 1) (len := 1) (pv := [(0, .int .i64 (p.b (Int.tmod by0 p.m)))]) (cs := [.int .i64 (p.b (Int.tmod by0 p.m))]) (c := ints (fun _ => (p.b (Int.tmod by0 p.m)))) sl_22 el_3 hS) ?_; rintro v4 w ⟨hS, hv4⟩
   replace hS := hS.n9
   refine ⟨⟨fun _ => hS.pk [0, 1, 4, 5], hS.pk [0, 1, 4]⟩, ?_⟩
   exact zmus hMm15 ⟨v1, v2, v3, v4, hv2, hv3, hv4, rfl, hS⟩
  intro hMm4
  refine zmem (fun M w => ∃ (v1 : Value) (v2 : Value) (v3 : Value) (v4 : Value), (Slh v2 p.m) ∧ (Slh v3 0) ∧ (Slh v4 1) ∧ M = [(0, .agg #[vc, vA, vb]), (1, vr), (2, .agg #[.int .u8 by0, .int .u8 by1]), (3, .pointer (some ⟨g1, 0, none⟩)), (5, .pointer (some ⟨g2, 0, none⟩)), (6, .bool false), (20, .bool true), (21, .bool false), (22, .bool false), (23, .agg #[vc, vA, vb]), (24, B (FewP p)), (25, B (¬ (FewP p))), (26, B (¬ (FewP p))), (27, .bool false), (28, .agg #[vc, vA, vb]), (29, B (LOk p)), (30, B (¬ (LOk p))), (31, B (¬ (LOk p))), (32, .bool false), (33, .pointer (some ⟨g1, 1, none⟩)), (34, vA), (35, .int .i64 p.m), (36, B (p.m = 0)), (37, B (p.m = 0)), (38, .bool false), (39, .pointer (some ⟨g1, 1, none⟩)), (40, vA), (41, .int .i64 p.m), (42, B (7 < p.m)), (43, B (7 < p.m)), (46, .agg #[vc, vA, vb]), (47, .agg #[vc, vA, vb]), (48, .tuple #[.agg #[vXs1, vYs1, .int .i64 ss1.val, .int .i64 ss1.den], .int .i64 es1]), (45, .tuple #[.agg #[vXs1, vYs1, .int .i64 ss1.val, .int .i64 ss1.den], .int .i64 es1]), (49, .agg #[vXs1, vYs1, .int .i64 ss1.val, .int .i64 ss1.den]), (50, .int .i64 es1), (7, .pointer (some ⟨g3, 0, none⟩)), (8, .int .i64 es1), (51, .int .i64 es1), (52, B (es1 ≠ 0)), (53, .pointer (some ⟨g2, 0, none⟩)), (54, .int .u8 by0), (55, .int .i64 by0), (56, .pointer (some ⟨g1, 1, none⟩)), (57, vA), (58, .int .i64 p.m), (59, .int .i64 (Int.tmod by0 p.m)), (9, .int .i64 (Int.tmod by0 p.m)), (60, .agg #[vc, vA, vb]), (10, .pointer (some ⟨g4, 0, none⟩)), (62, .pointer (some ⟨g1, 1, none⟩)), (63, vA), (65, .pointer (some ⟨g1, 1, none⟩)), (66, vA), (67, .int .i64 (Int.tmod by0 p.m)), (68, .pointer (some (cad vA (Int.tmod by0 p.m)))), (69, (vq (Int.tmod by0 p.m))), (73, .pointer (some ⟨g1, 2, none⟩)), (74, vb), (76, .pointer (some ⟨g1, 2, none⟩)), (77, vb), (78, .int .i64 (Int.tmod by0 p.m)), (79, .pointer (some (cad vb (Int.tmod by0 p.m)))), (80, .int .i64 (p.b (Int.tmod by0 p.m))), (61, v1), (64, v2), (72, v3), (81, v4)] ∧ Sat w0 w [.blk g1 [vc, vA, vb], .blk g2 [.int .u8 by0, .int .u8 by1], .own vXs1 1 3 ss1.n (ints ss1.X), .own vYs1 1 3 ss1.m (ints ss1.Y), .blk g3 [vXs1, vYs1, .int .i64 ss1.val, .int .i64 ss1.den], .blk g4 [vc, vA, vb], .own v2 1 22 p.m (cat (0 * 1) (ints (fun _ => 0)) vq), .own v3 1 3 0 (ints (fun _ => 0)), .own v4 1 3 1 (ints (fun _ => (p.b (Int.tmod by0 p.m))))]) #[true, true, true, true, true, true, true, true, true, false, false, true, true, true, false, true, true, true, true, true, true, false, false, false, false, false] 8 ?_ ?_
  ·
   rintro M w ⟨v1, v2, v3, v4, hv2, hv3, hv4, rfl, hS⟩
   refine zda 9 (xli (n := 1) (len := 1) (pv := [(0, (vq (Int.tmod by0 p.m)))]) (cs := [(vq (Int.tmod by0 p.m))]) (c := (fun _ => (vq (Int.tmod by0 p.m)))) sl_23 el_22 hS (hf := by have hz := (hL.A.p (Int.tmod by0 p.m) (by omega) (by omega)).slh; revert hz; generalize (vq (Int.tmod by0 p.m)) = z; rintro ⟨_, _, _, _, rfl, _⟩; show _ = _; kernel_rfl)) ?_; rintro v5 w ⟨hS, hv5⟩
   replace hS := hS.n10
   refine ⟨⟨fun _ => hS.pk [0, 1, 4, 5], hS.pk [0, 1, 4]⟩, ?_⟩
   exact zmus hMm14 ⟨v1, v2, v5, v3, v4, hv2, hv5, hv3, hv4, rfl, hS.pk [0, 1, 2, 3, 4, 5, 6, 9, 7, 8]⟩
  intro hMm17
  refine zmem (fun M w => ∃ (v1 : Value) (v2 : Value) (v3 : Value), (Slh v2 p.m) ∧ (Slh v3 0) ∧ M = [(0, .agg #[vc, vA, vb]), (1, vr), (2, .agg #[.int .u8 by0, .int .u8 by1]), (3, .pointer (some ⟨g1, 0, none⟩)), (5, .pointer (some ⟨g2, 0, none⟩)), (6, .bool false), (20, .bool true), (21, .bool false), (22, .bool false), (23, .agg #[vc, vA, vb]), (24, B (FewP p)), (25, B (¬ (FewP p))), (26, B (¬ (FewP p))), (27, .bool false), (28, .agg #[vc, vA, vb]), (29, B (LOk p)), (30, B (¬ (LOk p))), (31, B (¬ (LOk p))), (32, .bool false), (33, .pointer (some ⟨g1, 1, none⟩)), (34, vA), (35, .int .i64 p.m), (36, B (p.m = 0)), (37, B (p.m = 0)), (38, .bool false), (39, .pointer (some ⟨g1, 1, none⟩)), (40, vA), (41, .int .i64 p.m), (42, B (7 < p.m)), (43, B (7 < p.m)), (46, .agg #[vc, vA, vb]), (47, .agg #[vc, vA, vb]), (48, .tuple #[.agg #[vXs1, vYs1, .int .i64 ss1.val, .int .i64 ss1.den], .int .i64 es1]), (45, .tuple #[.agg #[vXs1, vYs1, .int .i64 ss1.val, .int .i64 ss1.den], .int .i64 es1]), (49, .agg #[vXs1, vYs1, .int .i64 ss1.val, .int .i64 ss1.den]), (50, .int .i64 es1), (7, .pointer (some ⟨g3, 0, none⟩)), (8, .int .i64 es1), (51, .int .i64 es1), (52, B (es1 ≠ 0)), (53, .pointer (some ⟨g2, 0, none⟩)), (54, .int .u8 by0), (55, .int .i64 by0), (56, .pointer (some ⟨g1, 1, none⟩)), (57, vA), (58, .int .i64 p.m), (59, .int .i64 (Int.tmod by0 p.m)), (9, .int .i64 (Int.tmod by0 p.m)), (60, .agg #[vc, vA, vb]), (10, .pointer (some ⟨g4, 0, none⟩)), (62, .pointer (some ⟨g1, 1, none⟩)), (63, vA), (65, .pointer (some ⟨g1, 1, none⟩)), (66, vA), (67, .int .i64 (Int.tmod by0 p.m)), (68, .pointer (some (cad vA (Int.tmod by0 p.m)))), (69, (vq (Int.tmod by0 p.m))), (73, .pointer (some ⟨g1, 2, none⟩)), (74, vb), (76, .pointer (some ⟨g1, 2, none⟩)), (77, vb), (78, .int .i64 (Int.tmod by0 p.m)), (79, .pointer (some (cad vb (Int.tmod by0 p.m)))), (80, .int .i64 (p.b (Int.tmod by0 p.m))), (61, v1), (64, v2), (72, v3)] ∧ Sat w0 w [.blk g1 [vc, vA, vb], .blk g2 [.int .u8 by0, .int .u8 by1], .own vXs1 1 3 ss1.n (ints ss1.X), .own vYs1 1 3 ss1.m (ints ss1.Y), .blk g3 [vXs1, vYs1, .int .i64 ss1.val, .int .i64 ss1.den], .blk g4 [vc, vA, vb], .own v2 1 22 p.m (cat (0 * 1) (ints (fun _ => 0)) vq), .own v3 1 3 0 (ints (fun _ => 0))]) #[true, true, true, true, true, true, true, true, true, false, false, true, true, true, false, true, true, true, true, true, false, false, false, false, false, false] 9 ?_ ?_
  ·
   rintro M w ⟨v1, v2, v3, hv2, hv3, rfl, hS⟩
   refine zdfk (r := [9, 20]) ((zdn1 ?_ (zdn1 ?_ zdn0)))
   ·
    refine zka (xli (n := 1) (len := 1) (pv := [(0, (vq (Int.tmod by0 p.m)))]) (cs := [(vq (Int.tmod by0 p.m))]) (c := (fun _ => (vq (Int.tmod by0 p.m)))) sl_23 el_22 hS (hf := by have hz := (hL.A.p (Int.tmod by0 p.m) (by omega) (by omega)).slh; revert hz; generalize (vq (Int.tmod by0 p.m)) = z; rintro ⟨_, _, _, _, rfl, _⟩; show _ = _; kernel_rfl)) ?_; rintro v4 w ⟨hS, hv4⟩
    replace hS := hS.n9
    refine ⟨⟨fun _ => hS.pk [0, 1, 4, 5], hS.pk [0, 1, 4]⟩, ?_⟩
    exact zmus hMm13 ⟨v1, v2, v4, v3, hv2, hv4, hv3, rfl, hS.pk [0, 1, 2, 3, 4, 5, 6, 8, 7]⟩
   refine zka (xli (n := 1) (len := 1) (pv := [(0, .int .i64 (p.b (Int.tmod by0 p.m)))]) (cs := [.int .i64 (p.b (Int.tmod by0 p.m))]) (c := ints (fun _ => (p.b (Int.tmod by0 p.m)))) sl_22 el_3 hS) ?_; rintro v4 w ⟨hS, hv4⟩
   replace hS := hS.n9
   refine ⟨⟨fun _ => hS.pk [0, 1, 4, 5], hS.pk [0, 1, 4]⟩, ?_⟩
   exact zmus hMm17 ⟨v1, v2, v3, v4, hv2, hv3, hv4, rfl, hS⟩
  intro hMm16
  refine zmem (fun M w => ∃ (v1 : Value) (v2 : Value) (v3 : Value), (Slh v2 p.m) ∧ (Slh v3 1) ∧ M = [(0, .agg #[vc, vA, vb]), (1, vr), (2, .agg #[.int .u8 by0, .int .u8 by1]), (3, .pointer (some ⟨g1, 0, none⟩)), (5, .pointer (some ⟨g2, 0, none⟩)), (6, .bool false), (20, .bool true), (21, .bool false), (22, .bool false), (23, .agg #[vc, vA, vb]), (24, B (FewP p)), (25, B (¬ (FewP p))), (26, B (¬ (FewP p))), (27, .bool false), (28, .agg #[vc, vA, vb]), (29, B (LOk p)), (30, B (¬ (LOk p))), (31, B (¬ (LOk p))), (32, .bool false), (33, .pointer (some ⟨g1, 1, none⟩)), (34, vA), (35, .int .i64 p.m), (36, B (p.m = 0)), (37, B (p.m = 0)), (38, .bool false), (39, .pointer (some ⟨g1, 1, none⟩)), (40, vA), (41, .int .i64 p.m), (42, B (7 < p.m)), (43, B (7 < p.m)), (46, .agg #[vc, vA, vb]), (47, .agg #[vc, vA, vb]), (48, .tuple #[.agg #[vXs1, vYs1, .int .i64 ss1.val, .int .i64 ss1.den], .int .i64 es1]), (45, .tuple #[.agg #[vXs1, vYs1, .int .i64 ss1.val, .int .i64 ss1.den], .int .i64 es1]), (49, .agg #[vXs1, vYs1, .int .i64 ss1.val, .int .i64 ss1.den]), (50, .int .i64 es1), (7, .pointer (some ⟨g3, 0, none⟩)), (8, .int .i64 es1), (51, .int .i64 es1), (52, B (es1 ≠ 0)), (53, .pointer (some ⟨g2, 0, none⟩)), (54, .int .u8 by0), (55, .int .i64 by0), (56, .pointer (some ⟨g1, 1, none⟩)), (57, vA), (58, .int .i64 p.m), (59, .int .i64 (Int.tmod by0 p.m)), (9, .int .i64 (Int.tmod by0 p.m)), (60, .agg #[vc, vA, vb]), (10, .pointer (some ⟨g4, 0, none⟩)), (62, .pointer (some ⟨g1, 1, none⟩)), (63, vA), (65, .pointer (some ⟨g1, 1, none⟩)), (66, vA), (67, .int .i64 (Int.tmod by0 p.m)), (68, .pointer (some (cad vA (Int.tmod by0 p.m)))), (69, (vq (Int.tmod by0 p.m))), (73, .pointer (some ⟨g1, 2, none⟩)), (74, vb), (76, .pointer (some ⟨g1, 2, none⟩)), (77, vb), (78, .int .i64 (Int.tmod by0 p.m)), (79, .pointer (some (cad vb (Int.tmod by0 p.m)))), (80, .int .i64 (p.b (Int.tmod by0 p.m))), (61, v1), (64, v2), (81, v3)] ∧ Sat w0 w [.blk g1 [vc, vA, vb], .blk g2 [.int .u8 by0, .int .u8 by1], .own vXs1 1 3 ss1.n (ints ss1.X), .own vYs1 1 3 ss1.m (ints ss1.Y), .blk g3 [vXs1, vYs1, .int .i64 ss1.val, .int .i64 ss1.den], .blk g4 [vc, vA, vb], .own v2 1 22 p.m (cat (0 * 1) (ints (fun _ => 0)) vq), .own v3 1 3 1 (ints (fun _ => (p.b (Int.tmod by0 p.m))))]) #[true, true, true, true, true, true, true, true, true, false, false, false, true, true, false, true, true, true, true, true, true, false, false, false, false, false] 9 ?_ ?_
  ·
   rintro M w ⟨v1, v2, v3, hv2, hv3, rfl, hS⟩
   refine zdfk (r := [9, 11]) ((zdn1 ?_ (zdn1 ?_ zdn0)))
   ·
    refine zka (xli (n := 1) (len := 1) (pv := [(0, (vq (Int.tmod by0 p.m)))]) (cs := [(vq (Int.tmod by0 p.m))]) (c := (fun _ => (vq (Int.tmod by0 p.m)))) sl_23 el_22 hS (hf := by have hz := (hL.A.p (Int.tmod by0 p.m) (by omega) (by omega)).slh; revert hz; generalize (vq (Int.tmod by0 p.m)) = z; rintro ⟨_, _, _, _, rfl, _⟩; show _ = _; kernel_rfl)) ?_; rintro v4 w ⟨hS, hv4⟩
    replace hS := hS.n9
    refine ⟨⟨fun _ => hS.pk [0, 1, 4, 5], hS.pk [0, 1, 4]⟩, ?_⟩
    exact zmus hMm15 ⟨v1, v2, v4, v3, hv2, hv4, hv3, rfl, hS.pk [0, 1, 2, 3, 4, 5, 6, 8, 7]⟩
   refine zka (xl0 (c := ints (fun _ => 0)) sl_22 hS) ?_; rintro v4 w ⟨hS, hv4⟩
   replace hS := hS.n9
   refine ⟨⟨fun _ => hS.pk [0, 1, 4, 5], hS.pk [0, 1, 4]⟩, ?_⟩
   exact zmus hMm17 ⟨v1, v2, v4, v3, hv2, hv4, hv3, rfl, hS.pk [0, 1, 2, 3, 4, 5, 6, 8, 7]⟩
  intro hMm18
  refine zmem (fun M w => ∃ (v1 : Value) (v2 : Value), (Slh v2 p.m) ∧ M = [(0, .agg #[vc, vA, vb]), (1, vr), (2, .agg #[.int .u8 by0, .int .u8 by1]), (3, .pointer (some ⟨g1, 0, none⟩)), (5, .pointer (some ⟨g2, 0, none⟩)), (6, .bool false), (20, .bool true), (21, .bool false), (22, .bool false), (23, .agg #[vc, vA, vb]), (24, B (FewP p)), (25, B (¬ (FewP p))), (26, B (¬ (FewP p))), (27, .bool false), (28, .agg #[vc, vA, vb]), (29, B (LOk p)), (30, B (¬ (LOk p))), (31, B (¬ (LOk p))), (32, .bool false), (33, .pointer (some ⟨g1, 1, none⟩)), (34, vA), (35, .int .i64 p.m), (36, B (p.m = 0)), (37, B (p.m = 0)), (38, .bool false), (39, .pointer (some ⟨g1, 1, none⟩)), (40, vA), (41, .int .i64 p.m), (42, B (7 < p.m)), (43, B (7 < p.m)), (46, .agg #[vc, vA, vb]), (47, .agg #[vc, vA, vb]), (48, .tuple #[.agg #[vXs1, vYs1, .int .i64 ss1.val, .int .i64 ss1.den], .int .i64 es1]), (45, .tuple #[.agg #[vXs1, vYs1, .int .i64 ss1.val, .int .i64 ss1.den], .int .i64 es1]), (49, .agg #[vXs1, vYs1, .int .i64 ss1.val, .int .i64 ss1.den]), (50, .int .i64 es1), (7, .pointer (some ⟨g3, 0, none⟩)), (8, .int .i64 es1), (51, .int .i64 es1), (52, B (es1 ≠ 0)), (53, .pointer (some ⟨g2, 0, none⟩)), (54, .int .u8 by0), (55, .int .i64 by0), (56, .pointer (some ⟨g1, 1, none⟩)), (57, vA), (58, .int .i64 p.m), (59, .int .i64 (Int.tmod by0 p.m)), (9, .int .i64 (Int.tmod by0 p.m)), (60, .agg #[vc, vA, vb]), (10, .pointer (some ⟨g4, 0, none⟩)), (62, .pointer (some ⟨g1, 1, none⟩)), (63, vA), (65, .pointer (some ⟨g1, 1, none⟩)), (66, vA), (67, .int .i64 (Int.tmod by0 p.m)), (68, .pointer (some (cad vA (Int.tmod by0 p.m)))), (69, (vq (Int.tmod by0 p.m))), (73, .pointer (some ⟨g1, 2, none⟩)), (74, vb), (76, .pointer (some ⟨g1, 2, none⟩)), (77, vb), (78, .int .i64 (Int.tmod by0 p.m)), (79, .pointer (some (cad vb (Int.tmod by0 p.m)))), (80, .int .i64 (p.b (Int.tmod by0 p.m))), (61, v1), (64, v2)] ∧ Sat w0 w [.blk g1 [vc, vA, vb], .blk g2 [.int .u8 by0, .int .u8 by1], .own vXs1 1 3 ss1.n (ints ss1.X), .own vYs1 1 3 ss1.m (ints ss1.Y), .blk g3 [vXs1, vYs1, .int .i64 ss1.val, .int .i64 ss1.den], .blk g4 [vc, vA, vb], .own v2 1 22 p.m (cat (0 * 1) (ints (fun _ => 0)) vq)]) #[true, true, true, true, true, true, true, true, true, false, false, false, true, true, false, true, true, true, true, true, false, false, false, false, false, false] 10 ?_ ?_
  ·
   rintro M w ⟨v1, v2, hv2, rfl, hS⟩
   refine zdfk (r := [9, 11, 20]) ((zdn1 ?_ (zdn1 ?_ (zdn1 ?_ zdn0))))
   ·
    refine zka (xli (n := 1) (len := 1) (pv := [(0, (vq (Int.tmod by0 p.m)))]) (cs := [(vq (Int.tmod by0 p.m))]) (c := (fun _ => (vq (Int.tmod by0 p.m)))) sl_23 el_22 hS (hf := by have hz := (hL.A.p (Int.tmod by0 p.m) (by omega) (by omega)).slh; revert hz; generalize (vq (Int.tmod by0 p.m)) = z; rintro ⟨_, _, _, _, rfl, _⟩; show _ = _; kernel_rfl)) ?_; rintro v3 w ⟨hS, hv3⟩
    replace hS := hS.n8
    refine ⟨⟨fun _ => hS.pk [0, 1, 4, 5], hS.pk [0, 1, 4]⟩, ?_⟩
    exact zmus hMm4 ⟨v1, v2, v3, hv2, hv3, rfl, hS⟩
   ·
    refine zka (xl0 (c := ints (fun _ => 0)) sl_22 hS) ?_; rintro v3 w ⟨hS, hv3⟩
    replace hS := hS.n8
    refine ⟨⟨fun _ => hS.pk [0, 1, 4, 5], hS.pk [0, 1, 4]⟩, ?_⟩
    exact zmus hMm16 ⟨v1, v2, v3, hv2, hv3, rfl, hS⟩
   refine zka (xli (n := 1) (len := 1) (pv := [(0, .int .i64 (p.b (Int.tmod by0 p.m)))]) (cs := [.int .i64 (p.b (Int.tmod by0 p.m))]) (c := ints (fun _ => (p.b (Int.tmod by0 p.m)))) sl_22 el_3 hS) ?_; rintro v3 w ⟨hS, hv3⟩
   replace hS := hS.n8
   refine ⟨⟨fun _ => hS.pk [0, 1, 4, 5], hS.pk [0, 1, 4]⟩, ?_⟩
   exact zmus hMm18 ⟨v1, v2, v3, hv2, hv3, rfl, hS⟩
  intro hMm3
  refine zmem (fun M w => ∃ (v1 : Value) (v2 : Value) (v3 : Value) (v4 : Value), (Slh v1 0) ∧ (Slh v2 1) ∧ (Slh v3 0) ∧ (Slh v4 1) ∧ M = [(0, .agg #[vc, vA, vb]), (1, vr), (2, .agg #[.int .u8 by0, .int .u8 by1]), (3, .pointer (some ⟨g1, 0, none⟩)), (5, .pointer (some ⟨g2, 0, none⟩)), (6, .bool false), (20, .bool true), (21, .bool false), (22, .bool false), (23, .agg #[vc, vA, vb]), (24, B (FewP p)), (25, B (¬ (FewP p))), (26, B (¬ (FewP p))), (27, .bool false), (28, .agg #[vc, vA, vb]), (29, B (LOk p)), (30, B (¬ (LOk p))), (31, B (¬ (LOk p))), (32, .bool false), (33, .pointer (some ⟨g1, 1, none⟩)), (34, vA), (35, .int .i64 p.m), (36, B (p.m = 0)), (37, B (p.m = 0)), (38, .bool false), (39, .pointer (some ⟨g1, 1, none⟩)), (40, vA), (41, .int .i64 p.m), (42, B (7 < p.m)), (43, B (7 < p.m)), (46, .agg #[vc, vA, vb]), (47, .agg #[vc, vA, vb]), (48, .tuple #[.agg #[vXs1, vYs1, .int .i64 ss1.val, .int .i64 ss1.den], .int .i64 es1]), (45, .tuple #[.agg #[vXs1, vYs1, .int .i64 ss1.val, .int .i64 ss1.den], .int .i64 es1]), (49, .agg #[vXs1, vYs1, .int .i64 ss1.val, .int .i64 ss1.den]), (50, .int .i64 es1), (7, .pointer (some ⟨g3, 0, none⟩)), (8, .int .i64 es1), (51, .int .i64 es1), (52, B (es1 ≠ 0)), (53, .pointer (some ⟨g2, 0, none⟩)), (54, .int .u8 by0), (55, .int .i64 by0), (56, .pointer (some ⟨g1, 1, none⟩)), (57, vA), (58, .int .i64 p.m), (59, .int .i64 (Int.tmod by0 p.m)), (9, .int .i64 (Int.tmod by0 p.m)), (60, .agg #[vc, vA, vb]), (10, .pointer (some ⟨g4, 0, none⟩)), (62, .pointer (some ⟨g1, 1, none⟩)), (63, vA), (65, .pointer (some ⟨g1, 1, none⟩)), (66, vA), (67, .int .i64 (Int.tmod by0 p.m)), (68, .pointer (some (cad vA (Int.tmod by0 p.m)))), (69, (vq (Int.tmod by0 p.m))), (73, .pointer (some ⟨g1, 2, none⟩)), (74, vb), (76, .pointer (some ⟨g1, 2, none⟩)), (77, vb), (78, .int .i64 (Int.tmod by0 p.m)), (79, .pointer (some (cad vb (Int.tmod by0 p.m)))), (80, .int .i64 (p.b (Int.tmod by0 p.m))), (61, v1), (70, v2), (72, v3), (81, v4)] ∧ Sat w0 w [.blk g1 [vc, vA, vb], .blk g2 [.int .u8 by0, .int .u8 by1], .own vXs1 1 3 ss1.n (ints ss1.X), .own vYs1 1 3 ss1.m (ints ss1.Y), .blk g3 [vXs1, vYs1, .int .i64 ss1.val, .int .i64 ss1.den], .blk g4 [vc, vA, vb], .own v1 1 22 0 (ints (fun _ => 0)), .own v2 1 22 1 (fun _ => (vq (Int.tmod by0 p.m))), .own v3 1 3 0 (ints (fun _ => 0)), .own v4 1 3 1 (ints (fun _ => (p.b (Int.tmod by0 p.m))))]) #[true, true, true, false, true, true, true, true, true, true, false, true, true, true, false, true, true, true, true, true, true, false, false, false, false, false] 8 ?_ ?_
  ·
   rintro M w ⟨v1, v2, v3, v4, hv1, hv2, hv3, hv4, rfl, hS⟩
   refine zda 3 (xap 6 (r := p.m) (f := cat (0 * 1) (ints (fun _ => 0)) vq) sl_23 el_22 hS (hL.A.row.below hS.below) rfl (h1 := (fun k k0 k1 => (hL.A.p k k0 (by omega)).slh.one))) ?_; rintro v5 w ⟨hS, hv5⟩
   replace hS := hS.n10
   refine ⟨⟨fun _ => hS.pk [0, 1, 4, 5], hS.pk [0, 1, 4]⟩, ?_⟩
   exact zmus hMm14 ⟨v1, v5, v2, v3, v4, hv5, hv2, hv3, hv4, rfl, hS⟩
  intro hMm21
  refine zmem (fun M w => ∃ (v1 : Value) (v2 : Value) (v3 : Value), (Slh v1 0) ∧ (Slh v2 1) ∧ (Slh v3 0) ∧ M = [(0, .agg #[vc, vA, vb]), (1, vr), (2, .agg #[.int .u8 by0, .int .u8 by1]), (3, .pointer (some ⟨g1, 0, none⟩)), (5, .pointer (some ⟨g2, 0, none⟩)), (6, .bool false), (20, .bool true), (21, .bool false), (22, .bool false), (23, .agg #[vc, vA, vb]), (24, B (FewP p)), (25, B (¬ (FewP p))), (26, B (¬ (FewP p))), (27, .bool false), (28, .agg #[vc, vA, vb]), (29, B (LOk p)), (30, B (¬ (LOk p))), (31, B (¬ (LOk p))), (32, .bool false), (33, .pointer (some ⟨g1, 1, none⟩)), (34, vA), (35, .int .i64 p.m), (36, B (p.m = 0)), (37, B (p.m = 0)), (38, .bool false), (39, .pointer (some ⟨g1, 1, none⟩)), (40, vA), (41, .int .i64 p.m), (42, B (7 < p.m)), (43, B (7 < p.m)), (46, .agg #[vc, vA, vb]), (47, .agg #[vc, vA, vb]), (48, .tuple #[.agg #[vXs1, vYs1, .int .i64 ss1.val, .int .i64 ss1.den], .int .i64 es1]), (45, .tuple #[.agg #[vXs1, vYs1, .int .i64 ss1.val, .int .i64 ss1.den], .int .i64 es1]), (49, .agg #[vXs1, vYs1, .int .i64 ss1.val, .int .i64 ss1.den]), (50, .int .i64 es1), (7, .pointer (some ⟨g3, 0, none⟩)), (8, .int .i64 es1), (51, .int .i64 es1), (52, B (es1 ≠ 0)), (53, .pointer (some ⟨g2, 0, none⟩)), (54, .int .u8 by0), (55, .int .i64 by0), (56, .pointer (some ⟨g1, 1, none⟩)), (57, vA), (58, .int .i64 p.m), (59, .int .i64 (Int.tmod by0 p.m)), (9, .int .i64 (Int.tmod by0 p.m)), (60, .agg #[vc, vA, vb]), (10, .pointer (some ⟨g4, 0, none⟩)), (62, .pointer (some ⟨g1, 1, none⟩)), (63, vA), (65, .pointer (some ⟨g1, 1, none⟩)), (66, vA), (67, .int .i64 (Int.tmod by0 p.m)), (68, .pointer (some (cad vA (Int.tmod by0 p.m)))), (69, (vq (Int.tmod by0 p.m))), (73, .pointer (some ⟨g1, 2, none⟩)), (74, vb), (76, .pointer (some ⟨g1, 2, none⟩)), (77, vb), (78, .int .i64 (Int.tmod by0 p.m)), (79, .pointer (some (cad vb (Int.tmod by0 p.m)))), (80, .int .i64 (p.b (Int.tmod by0 p.m))), (61, v1), (70, v2), (72, v3)] ∧ Sat w0 w [.blk g1 [vc, vA, vb], .blk g2 [.int .u8 by0, .int .u8 by1], .own vXs1 1 3 ss1.n (ints ss1.X), .own vYs1 1 3 ss1.m (ints ss1.Y), .blk g3 [vXs1, vYs1, .int .i64 ss1.val, .int .i64 ss1.den], .blk g4 [vc, vA, vb], .own v1 1 22 0 (ints (fun _ => 0)), .own v2 1 22 1 (fun _ => (vq (Int.tmod by0 p.m))), .own v3 1 3 0 (ints (fun _ => 0))]) #[true, true, true, false, true, true, true, true, true, true, false, true, true, true, false, true, true, true, true, true, false, false, false, false, false, false] 9 ?_ ?_
  ·
   rintro M w ⟨v1, v2, v3, hv1, hv2, hv3, rfl, hS⟩
   refine zdfk (r := [3, 20]) ((zdn1 ?_ (zdn1 ?_ zdn0)))
   ·
    refine zka (xap 6 (r := p.m) (f := cat (0 * 1) (ints (fun _ => 0)) vq) sl_23 el_22 hS (hL.A.row.below hS.below) rfl (h1 := (fun k k0 k1 => (hL.A.p k k0 (by omega)).slh.one))) ?_; rintro v4 w ⟨hS, hv4⟩
    replace hS := hS.n9
    refine ⟨⟨fun _ => hS.pk [0, 1, 4, 5], hS.pk [0, 1, 4]⟩, ?_⟩
    exact zmus hMm13 ⟨v1, v4, v2, v3, hv4, hv2, hv3, rfl, hS⟩
   refine zka (xli (n := 1) (len := 1) (pv := [(0, .int .i64 (p.b (Int.tmod by0 p.m)))]) (cs := [.int .i64 (p.b (Int.tmod by0 p.m))]) (c := ints (fun _ => (p.b (Int.tmod by0 p.m)))) sl_22 el_3 hS) ?_; rintro v4 w ⟨hS, hv4⟩
   replace hS := hS.n10
   refine ⟨⟨fun _ => hS.pk [0, 1, 4, 5], hS.pk [0, 1, 4]⟩, ?_⟩
   exact zmus hMm21 ⟨v1, v2, v3, v4, hv1, hv2, hv3, hv4, rfl, hS⟩
  intro hMm20
  refine zmem (fun M w => ∃ (v1 : Value) (v2 : Value) (v3 : Value), (Slh v1 0) ∧ (Slh v2 1) ∧ (Slh v3 1) ∧ M = [(0, .agg #[vc, vA, vb]), (1, vr), (2, .agg #[.int .u8 by0, .int .u8 by1]), (3, .pointer (some ⟨g1, 0, none⟩)), (5, .pointer (some ⟨g2, 0, none⟩)), (6, .bool false), (20, .bool true), (21, .bool false), (22, .bool false), (23, .agg #[vc, vA, vb]), (24, B (FewP p)), (25, B (¬ (FewP p))), (26, B (¬ (FewP p))), (27, .bool false), (28, .agg #[vc, vA, vb]), (29, B (LOk p)), (30, B (¬ (LOk p))), (31, B (¬ (LOk p))), (32, .bool false), (33, .pointer (some ⟨g1, 1, none⟩)), (34, vA), (35, .int .i64 p.m), (36, B (p.m = 0)), (37, B (p.m = 0)), (38, .bool false), (39, .pointer (some ⟨g1, 1, none⟩)), (40, vA), (41, .int .i64 p.m), (42, B (7 < p.m)), (43, B (7 < p.m)), (46, .agg #[vc, vA, vb]), (47, .agg #[vc, vA, vb]), (48, .tuple #[.agg #[vXs1, vYs1, .int .i64 ss1.val, .int .i64 ss1.den], .int .i64 es1]), (45, .tuple #[.agg #[vXs1, vYs1, .int .i64 ss1.val, .int .i64 ss1.den], .int .i64 es1]), (49, .agg #[vXs1, vYs1, .int .i64 ss1.val, .int .i64 ss1.den]), (50, .int .i64 es1), (7, .pointer (some ⟨g3, 0, none⟩)), (8, .int .i64 es1), (51, .int .i64 es1), (52, B (es1 ≠ 0)), (53, .pointer (some ⟨g2, 0, none⟩)), (54, .int .u8 by0), (55, .int .i64 by0), (56, .pointer (some ⟨g1, 1, none⟩)), (57, vA), (58, .int .i64 p.m), (59, .int .i64 (Int.tmod by0 p.m)), (9, .int .i64 (Int.tmod by0 p.m)), (60, .agg #[vc, vA, vb]), (10, .pointer (some ⟨g4, 0, none⟩)), (62, .pointer (some ⟨g1, 1, none⟩)), (63, vA), (65, .pointer (some ⟨g1, 1, none⟩)), (66, vA), (67, .int .i64 (Int.tmod by0 p.m)), (68, .pointer (some (cad vA (Int.tmod by0 p.m)))), (69, (vq (Int.tmod by0 p.m))), (73, .pointer (some ⟨g1, 2, none⟩)), (74, vb), (76, .pointer (some ⟨g1, 2, none⟩)), (77, vb), (78, .int .i64 (Int.tmod by0 p.m)), (79, .pointer (some (cad vb (Int.tmod by0 p.m)))), (80, .int .i64 (p.b (Int.tmod by0 p.m))), (61, v1), (70, v2), (81, v3)] ∧ Sat w0 w [.blk g1 [vc, vA, vb], .blk g2 [.int .u8 by0, .int .u8 by1], .own vXs1 1 3 ss1.n (ints ss1.X), .own vYs1 1 3 ss1.m (ints ss1.Y), .blk g3 [vXs1, vYs1, .int .i64 ss1.val, .int .i64 ss1.den], .blk g4 [vc, vA, vb], .own v1 1 22 0 (ints (fun _ => 0)), .own v2 1 22 1 (fun _ => (vq (Int.tmod by0 p.m))), .own v3 1 3 1 (ints (fun _ => (p.b (Int.tmod by0 p.m))))]) #[true, true, true, false, true, true, true, true, true, true, false, false, true, true, false, true, true, true, true, true, true, false, false, false, false, false] 9 ?_ ?_
  ·
   rintro M w ⟨v1, v2, v3, hv1, hv2, hv3, rfl, hS⟩
   refine zdfk (r := [3, 11]) ((zdn1 ?_ (zdn1 ?_ zdn0)))
   ·
    refine zka (xap 6 (r := p.m) (f := cat (0 * 1) (ints (fun _ => 0)) vq) sl_23 el_22 hS (hL.A.row.below hS.below) rfl (h1 := (fun k k0 k1 => (hL.A.p k k0 (by omega)).slh.one))) ?_; rintro v4 w ⟨hS, hv4⟩
    replace hS := hS.n9
    refine ⟨⟨fun _ => hS.pk [0, 1, 4, 5], hS.pk [0, 1, 4]⟩, ?_⟩
    exact zmus hMm15 ⟨v1, v4, v2, v3, hv4, hv2, hv3, rfl, hS⟩
   refine zka (xl0 (c := ints (fun _ => 0)) sl_22 hS) ?_; rintro v4 w ⟨hS, hv4⟩
   replace hS := hS.n10
   refine ⟨⟨fun _ => hS.pk [0, 1, 4, 5], hS.pk [0, 1, 4]⟩, ?_⟩
   exact zmus hMm21 ⟨v1, v2, v4, v3, hv1, hv2, hv4, hv3, rfl, hS.pk [0, 1, 2, 3, 4, 5, 6, 7, 9, 8]⟩
  intro hMm22
  refine zmem (fun M w => ∃ (v1 : Value) (v2 : Value), (Slh v1 0) ∧ (Slh v2 1) ∧ M = [(0, .agg #[vc, vA, vb]), (1, vr), (2, .agg #[.int .u8 by0, .int .u8 by1]), (3, .pointer (some ⟨g1, 0, none⟩)), (5, .pointer (some ⟨g2, 0, none⟩)), (6, .bool false), (20, .bool true), (21, .bool false), (22, .bool false), (23, .agg #[vc, vA, vb]), (24, B (FewP p)), (25, B (¬ (FewP p))), (26, B (¬ (FewP p))), (27, .bool false), (28, .agg #[vc, vA, vb]), (29, B (LOk p)), (30, B (¬ (LOk p))), (31, B (¬ (LOk p))), (32, .bool false), (33, .pointer (some ⟨g1, 1, none⟩)), (34, vA), (35, .int .i64 p.m), (36, B (p.m = 0)), (37, B (p.m = 0)), (38, .bool false), (39, .pointer (some ⟨g1, 1, none⟩)), (40, vA), (41, .int .i64 p.m), (42, B (7 < p.m)), (43, B (7 < p.m)), (46, .agg #[vc, vA, vb]), (47, .agg #[vc, vA, vb]), (48, .tuple #[.agg #[vXs1, vYs1, .int .i64 ss1.val, .int .i64 ss1.den], .int .i64 es1]), (45, .tuple #[.agg #[vXs1, vYs1, .int .i64 ss1.val, .int .i64 ss1.den], .int .i64 es1]), (49, .agg #[vXs1, vYs1, .int .i64 ss1.val, .int .i64 ss1.den]), (50, .int .i64 es1), (7, .pointer (some ⟨g3, 0, none⟩)), (8, .int .i64 es1), (51, .int .i64 es1), (52, B (es1 ≠ 0)), (53, .pointer (some ⟨g2, 0, none⟩)), (54, .int .u8 by0), (55, .int .i64 by0), (56, .pointer (some ⟨g1, 1, none⟩)), (57, vA), (58, .int .i64 p.m), (59, .int .i64 (Int.tmod by0 p.m)), (9, .int .i64 (Int.tmod by0 p.m)), (60, .agg #[vc, vA, vb]), (10, .pointer (some ⟨g4, 0, none⟩)), (62, .pointer (some ⟨g1, 1, none⟩)), (63, vA), (65, .pointer (some ⟨g1, 1, none⟩)), (66, vA), (67, .int .i64 (Int.tmod by0 p.m)), (68, .pointer (some (cad vA (Int.tmod by0 p.m)))), (69, (vq (Int.tmod by0 p.m))), (73, .pointer (some ⟨g1, 2, none⟩)), (74, vb), (76, .pointer (some ⟨g1, 2, none⟩)), (77, vb), (78, .int .i64 (Int.tmod by0 p.m)), (79, .pointer (some (cad vb (Int.tmod by0 p.m)))), (80, .int .i64 (p.b (Int.tmod by0 p.m))), (61, v1), (70, v2)] ∧ Sat w0 w [.blk g1 [vc, vA, vb], .blk g2 [.int .u8 by0, .int .u8 by1], .own vXs1 1 3 ss1.n (ints ss1.X), .own vYs1 1 3 ss1.m (ints ss1.Y), .blk g3 [vXs1, vYs1, .int .i64 ss1.val, .int .i64 ss1.den], .blk g4 [vc, vA, vb], .own v1 1 22 0 (ints (fun _ => 0)), .own v2 1 22 1 (fun _ => (vq (Int.tmod by0 p.m)))]) #[true, true, true, false, true, true, true, true, true, true, false, false, true, true, false, true, true, true, true, true, false, false, false, false, false, false] 10 ?_ ?_
  ·
   rintro M w ⟨v1, v2, hv1, hv2, rfl, hS⟩
   refine zdfk (r := [3, 11, 20]) ((zdn1 ?_ (zdn1 ?_ (zdn1 ?_ zdn0))))
   ·
    refine zka (xap 6 (r := p.m) (f := cat (0 * 1) (ints (fun _ => 0)) vq) sl_23 el_22 hS (hL.A.row.below hS.below) rfl (h1 := (fun k k0 k1 => (hL.A.p k k0 (by omega)).slh.one))) ?_; rintro v3 w ⟨hS, hv3⟩
    replace hS := hS.n8
    refine ⟨⟨fun _ => hS.pk [0, 1, 4, 5], hS.pk [0, 1, 4]⟩, ?_⟩
    exact zmus hMm4 ⟨v1, v3, v2, hv3, hv2, rfl, hS⟩
   ·
    refine zka (xl0 (c := ints (fun _ => 0)) sl_22 hS) ?_; rintro v3 w ⟨hS, hv3⟩
    replace hS := hS.n9
    refine ⟨⟨fun _ => hS.pk [0, 1, 4, 5], hS.pk [0, 1, 4]⟩, ?_⟩
    exact zmus hMm20 ⟨v1, v2, v3, hv1, hv2, hv3, rfl, hS⟩
   refine zka (xli (n := 1) (len := 1) (pv := [(0, .int .i64 (p.b (Int.tmod by0 p.m)))]) (cs := [.int .i64 (p.b (Int.tmod by0 p.m))]) (c := ints (fun _ => (p.b (Int.tmod by0 p.m)))) sl_22 el_3 hS) ?_; rintro v3 w ⟨hS, hv3⟩
   replace hS := hS.n9
   refine ⟨⟨fun _ => hS.pk [0, 1, 4, 5], hS.pk [0, 1, 4]⟩, ?_⟩
   exact zmus hMm22 ⟨v1, v2, v3, hv1, hv2, hv3, rfl, hS⟩
  intro hMm19
  refine zmem (fun M w => ∃ (v1 : Value) (v2 : Value) (v3 : Value), (Slh v1 0) ∧ (Slh v2 0) ∧ (Slh v3 1) ∧ M = [(0, .agg #[vc, vA, vb]), (1, vr), (2, .agg #[.int .u8 by0, .int .u8 by1]), (3, .pointer (some ⟨g1, 0, none⟩)), (5, .pointer (some ⟨g2, 0, none⟩)), (6, .bool false), (20, .bool true), (21, .bool false), (22, .bool false), (23, .agg #[vc, vA, vb]), (24, B (FewP p)), (25, B (¬ (FewP p))), (26, B (¬ (FewP p))), (27, .bool false), (28, .agg #[vc, vA, vb]), (29, B (LOk p)), (30, B (¬ (LOk p))), (31, B (¬ (LOk p))), (32, .bool false), (33, .pointer (some ⟨g1, 1, none⟩)), (34, vA), (35, .int .i64 p.m), (36, B (p.m = 0)), (37, B (p.m = 0)), (38, .bool false), (39, .pointer (some ⟨g1, 1, none⟩)), (40, vA), (41, .int .i64 p.m), (42, B (7 < p.m)), (43, B (7 < p.m)), (46, .agg #[vc, vA, vb]), (47, .agg #[vc, vA, vb]), (48, .tuple #[.agg #[vXs1, vYs1, .int .i64 ss1.val, .int .i64 ss1.den], .int .i64 es1]), (45, .tuple #[.agg #[vXs1, vYs1, .int .i64 ss1.val, .int .i64 ss1.den], .int .i64 es1]), (49, .agg #[vXs1, vYs1, .int .i64 ss1.val, .int .i64 ss1.den]), (50, .int .i64 es1), (7, .pointer (some ⟨g3, 0, none⟩)), (8, .int .i64 es1), (51, .int .i64 es1), (52, B (es1 ≠ 0)), (53, .pointer (some ⟨g2, 0, none⟩)), (54, .int .u8 by0), (55, .int .i64 by0), (56, .pointer (some ⟨g1, 1, none⟩)), (57, vA), (58, .int .i64 p.m), (59, .int .i64 (Int.tmod by0 p.m)), (9, .int .i64 (Int.tmod by0 p.m)), (60, .agg #[vc, vA, vb]), (10, .pointer (some ⟨g4, 0, none⟩)), (62, .pointer (some ⟨g1, 1, none⟩)), (63, vA), (65, .pointer (some ⟨g1, 1, none⟩)), (66, vA), (67, .int .i64 (Int.tmod by0 p.m)), (68, .pointer (some (cad vA (Int.tmod by0 p.m)))), (69, (vq (Int.tmod by0 p.m))), (73, .pointer (some ⟨g1, 2, none⟩)), (74, vb), (76, .pointer (some ⟨g1, 2, none⟩)), (77, vb), (78, .int .i64 (Int.tmod by0 p.m)), (79, .pointer (some (cad vb (Int.tmod by0 p.m)))), (80, .int .i64 (p.b (Int.tmod by0 p.m))), (61, v1), (72, v2), (81, v3)] ∧ Sat w0 w [.blk g1 [vc, vA, vb], .blk g2 [.int .u8 by0, .int .u8 by1], .own vXs1 1 3 ss1.n (ints ss1.X), .own vYs1 1 3 ss1.m (ints ss1.Y), .blk g3 [vXs1, vYs1, .int .i64 ss1.val, .int .i64 ss1.den], .blk g4 [vc, vA, vb], .own v1 1 22 0 (ints (fun _ => 0)), .own v2 1 3 0 (ints (fun _ => 0)), .own v3 1 3 1 (ints (fun _ => (p.b (Int.tmod by0 p.m))))]) #[true, true, true, false, true, true, true, true, true, false, false, true, true, true, false, true, true, true, true, true, true, false, false, false, false, false] 9 ?_ ?_
  ·
   rintro M w ⟨v1, v2, v3, hv1, hv2, hv3, rfl, hS⟩
   refine zdfk (r := [3, 9]) ((zdn1 ?_ (zdn1 ?_ zdn0)))
   ·
    refine zka (xap 6 (r := p.m) (f := cat (0 * 1) (ints (fun _ => 0)) vq) sl_23 el_22 hS (hL.A.row.below hS.below) rfl (h1 := (fun k k0 k1 => (hL.A.p k k0 (by omega)).slh.one))) ?_; rintro v4 w ⟨hS, hv4⟩
    replace hS := hS.n9
    refine ⟨⟨fun _ => hS.pk [0, 1, 4, 5], hS.pk [0, 1, 4]⟩, ?_⟩
    exact zmus hMm17 ⟨v1, v4, v2, v3, hv4, hv2, hv3, rfl, hS⟩
   refine zka (xli (n := 1) (len := 1) (pv := [(0, (vq (Int.tmod by0 p.m)))]) (cs := [(vq (Int.tmod by0 p.m))]) (c := (fun _ => (vq (Int.tmod by0 p.m)))) sl_23 el_22 hS (hf := by have hz := (hL.A.p (Int.tmod by0 p.m) (by omega) (by omega)).slh; revert hz; generalize (vq (Int.tmod by0 p.m)) = z; rintro ⟨_, _, _, _, rfl, _⟩; show _ = _; kernel_rfl)) ?_; rintro v4 w ⟨hS, hv4⟩
   replace hS := hS.n10
   refine ⟨⟨fun _ => hS.pk [0, 1, 4, 5], hS.pk [0, 1, 4]⟩, ?_⟩
   exact zmus hMm21 ⟨v1, v4, v2, v3, hv1, hv4, hv2, hv3, rfl, hS.pk [0, 1, 2, 3, 4, 5, 6, 9, 7, 8]⟩
  intro hMm24
  refine zmem (fun M w => ∃ (v1 : Value) (v2 : Value), (Slh v1 0) ∧ (Slh v2 0) ∧ M = [(0, .agg #[vc, vA, vb]), (1, vr), (2, .agg #[.int .u8 by0, .int .u8 by1]), (3, .pointer (some ⟨g1, 0, none⟩)), (5, .pointer (some ⟨g2, 0, none⟩)), (6, .bool false), (20, .bool true), (21, .bool false), (22, .bool false), (23, .agg #[vc, vA, vb]), (24, B (FewP p)), (25, B (¬ (FewP p))), (26, B (¬ (FewP p))), (27, .bool false), (28, .agg #[vc, vA, vb]), (29, B (LOk p)), (30, B (¬ (LOk p))), (31, B (¬ (LOk p))), (32, .bool false), (33, .pointer (some ⟨g1, 1, none⟩)), (34, vA), (35, .int .i64 p.m), (36, B (p.m = 0)), (37, B (p.m = 0)), (38, .bool false), (39, .pointer (some ⟨g1, 1, none⟩)), (40, vA), (41, .int .i64 p.m), (42, B (7 < p.m)), (43, B (7 < p.m)), (46, .agg #[vc, vA, vb]), (47, .agg #[vc, vA, vb]), (48, .tuple #[.agg #[vXs1, vYs1, .int .i64 ss1.val, .int .i64 ss1.den], .int .i64 es1]), (45, .tuple #[.agg #[vXs1, vYs1, .int .i64 ss1.val, .int .i64 ss1.den], .int .i64 es1]), (49, .agg #[vXs1, vYs1, .int .i64 ss1.val, .int .i64 ss1.den]), (50, .int .i64 es1), (7, .pointer (some ⟨g3, 0, none⟩)), (8, .int .i64 es1), (51, .int .i64 es1), (52, B (es1 ≠ 0)), (53, .pointer (some ⟨g2, 0, none⟩)), (54, .int .u8 by0), (55, .int .i64 by0), (56, .pointer (some ⟨g1, 1, none⟩)), (57, vA), (58, .int .i64 p.m), (59, .int .i64 (Int.tmod by0 p.m)), (9, .int .i64 (Int.tmod by0 p.m)), (60, .agg #[vc, vA, vb]), (10, .pointer (some ⟨g4, 0, none⟩)), (62, .pointer (some ⟨g1, 1, none⟩)), (63, vA), (65, .pointer (some ⟨g1, 1, none⟩)), (66, vA), (67, .int .i64 (Int.tmod by0 p.m)), (68, .pointer (some (cad vA (Int.tmod by0 p.m)))), (69, (vq (Int.tmod by0 p.m))), (73, .pointer (some ⟨g1, 2, none⟩)), (74, vb), (76, .pointer (some ⟨g1, 2, none⟩)), (77, vb), (78, .int .i64 (Int.tmod by0 p.m)), (79, .pointer (some (cad vb (Int.tmod by0 p.m)))), (80, .int .i64 (p.b (Int.tmod by0 p.m))), (61, v1), (72, v2)] ∧ Sat w0 w [.blk g1 [vc, vA, vb], .blk g2 [.int .u8 by0, .int .u8 by1], .own vXs1 1 3 ss1.n (ints ss1.X), .own vYs1 1 3 ss1.m (ints ss1.Y), .blk g3 [vXs1, vYs1, .int .i64 ss1.val, .int .i64 ss1.den], .blk g4 [vc, vA, vb], .own v1 1 22 0 (ints (fun _ => 0)), .own v2 1 3 0 (ints (fun _ => 0))]) #[true, true, true, false, true, true, true, true, true, false, false, true, true, true, false, true, true, true, true, true, false, false, false, false, false, false] 10 ?_ ?_
  ·
   rintro M w ⟨v1, v2, hv1, hv2, rfl, hS⟩
   refine zdfk (r := [3, 9, 20]) ((zdn1 ?_ (zdn1 ?_ (zdn1 ?_ zdn0))))
   ·
    refine zka (xap 6 (r := p.m) (f := cat (0 * 1) (ints (fun _ => 0)) vq) sl_23 el_22 hS (hL.A.row.below hS.below) rfl (h1 := (fun k k0 k1 => (hL.A.p k k0 (by omega)).slh.one))) ?_; rintro v3 w ⟨hS, hv3⟩
    replace hS := hS.n8
    refine ⟨⟨fun _ => hS.pk [0, 1, 4, 5], hS.pk [0, 1, 4]⟩, ?_⟩
    exact zmus hMm16 ⟨v1, v3, v2, hv3, hv2, rfl, hS⟩
   ·
    refine zka (xli (n := 1) (len := 1) (pv := [(0, (vq (Int.tmod by0 p.m)))]) (cs := [(vq (Int.tmod by0 p.m))]) (c := (fun _ => (vq (Int.tmod by0 p.m)))) sl_23 el_22 hS (hf := by have hz := (hL.A.p (Int.tmod by0 p.m) (by omega) (by omega)).slh; revert hz; generalize (vq (Int.tmod by0 p.m)) = z; rintro ⟨_, _, _, _, rfl, _⟩; show _ = _; kernel_rfl)) ?_; rintro v3 w ⟨hS, hv3⟩
    replace hS := hS.n9
    refine ⟨⟨fun _ => hS.pk [0, 1, 4, 5], hS.pk [0, 1, 4]⟩, ?_⟩
    exact zmus hMm20 ⟨v1, v3, v2, hv1, hv3, hv2, rfl, hS.pk [0, 1, 2, 3, 4, 5, 6, 8, 7]⟩
   refine zka (xli (n := 1) (len := 1) (pv := [(0, .int .i64 (p.b (Int.tmod by0 p.m)))]) (cs := [.int .i64 (p.b (Int.tmod by0 p.m))]) (c := ints (fun _ => (p.b (Int.tmod by0 p.m)))) sl_22 el_3 hS) ?_; rintro v3 w ⟨hS, hv3⟩
   replace hS := hS.n9
   refine ⟨⟨fun _ => hS.pk [0, 1, 4, 5], hS.pk [0, 1, 4]⟩, ?_⟩
   exact zmus hMm24 ⟨v1, v2, v3, hv1, hv2, hv3, rfl, hS⟩
  intro hMm23
  refine zmem (fun M w => ∃ (v1 : Value) (v2 : Value), (Slh v1 0) ∧ (Slh v2 1) ∧ M = [(0, .agg #[vc, vA, vb]), (1, vr), (2, .agg #[.int .u8 by0, .int .u8 by1]), (3, .pointer (some ⟨g1, 0, none⟩)), (5, .pointer (some ⟨g2, 0, none⟩)), (6, .bool false), (20, .bool true), (21, .bool false), (22, .bool false), (23, .agg #[vc, vA, vb]), (24, B (FewP p)), (25, B (¬ (FewP p))), (26, B (¬ (FewP p))), (27, .bool false), (28, .agg #[vc, vA, vb]), (29, B (LOk p)), (30, B (¬ (LOk p))), (31, B (¬ (LOk p))), (32, .bool false), (33, .pointer (some ⟨g1, 1, none⟩)), (34, vA), (35, .int .i64 p.m), (36, B (p.m = 0)), (37, B (p.m = 0)), (38, .bool false), (39, .pointer (some ⟨g1, 1, none⟩)), (40, vA), (41, .int .i64 p.m), (42, B (7 < p.m)), (43, B (7 < p.m)), (46, .agg #[vc, vA, vb]), (47, .agg #[vc, vA, vb]), (48, .tuple #[.agg #[vXs1, vYs1, .int .i64 ss1.val, .int .i64 ss1.den], .int .i64 es1]), (45, .tuple #[.agg #[vXs1, vYs1, .int .i64 ss1.val, .int .i64 ss1.den], .int .i64 es1]), (49, .agg #[vXs1, vYs1, .int .i64 ss1.val, .int .i64 ss1.den]), (50, .int .i64 es1), (7, .pointer (some ⟨g3, 0, none⟩)), (8, .int .i64 es1), (51, .int .i64 es1), (52, B (es1 ≠ 0)), (53, .pointer (some ⟨g2, 0, none⟩)), (54, .int .u8 by0), (55, .int .i64 by0), (56, .pointer (some ⟨g1, 1, none⟩)), (57, vA), (58, .int .i64 p.m), (59, .int .i64 (Int.tmod by0 p.m)), (9, .int .i64 (Int.tmod by0 p.m)), (60, .agg #[vc, vA, vb]), (10, .pointer (some ⟨g4, 0, none⟩)), (62, .pointer (some ⟨g1, 1, none⟩)), (63, vA), (65, .pointer (some ⟨g1, 1, none⟩)), (66, vA), (67, .int .i64 (Int.tmod by0 p.m)), (68, .pointer (some (cad vA (Int.tmod by0 p.m)))), (69, (vq (Int.tmod by0 p.m))), (73, .pointer (some ⟨g1, 2, none⟩)), (74, vb), (76, .pointer (some ⟨g1, 2, none⟩)), (77, vb), (78, .int .i64 (Int.tmod by0 p.m)), (79, .pointer (some (cad vb (Int.tmod by0 p.m)))), (80, .int .i64 (p.b (Int.tmod by0 p.m))), (61, v1), (81, v2)] ∧ Sat w0 w [.blk g1 [vc, vA, vb], .blk g2 [.int .u8 by0, .int .u8 by1], .own vXs1 1 3 ss1.n (ints ss1.X), .own vYs1 1 3 ss1.m (ints ss1.Y), .blk g3 [vXs1, vYs1, .int .i64 ss1.val, .int .i64 ss1.den], .blk g4 [vc, vA, vb], .own v1 1 22 0 (ints (fun _ => 0)), .own v2 1 3 1 (ints (fun _ => (p.b (Int.tmod by0 p.m))))]) #[true, true, true, false, true, true, true, true, true, false, false, false, true, true, false, true, true, true, true, true, true, false, false, false, false, false] 10 ?_ ?_
  ·
   rintro M w ⟨v1, v2, hv1, hv2, rfl, hS⟩
   refine zdfk (r := [3, 9, 11]) ((zdn1 ?_ (zdn1 ?_ (zdn1 ?_ zdn0))))
   ·
    refine zka (xap 6 (r := p.m) (f := cat (0 * 1) (ints (fun _ => 0)) vq) sl_23 el_22 hS (hL.A.row.below hS.below) rfl (h1 := (fun k k0 k1 => (hL.A.p k k0 (by omega)).slh.one))) ?_; rintro v3 w ⟨hS, hv3⟩
    replace hS := hS.n8
    refine ⟨⟨fun _ => hS.pk [0, 1, 4, 5], hS.pk [0, 1, 4]⟩, ?_⟩
    exact zmus hMm18 ⟨v1, v3, v2, hv3, hv2, rfl, hS⟩
   ·
    refine zka (xli (n := 1) (len := 1) (pv := [(0, (vq (Int.tmod by0 p.m)))]) (cs := [(vq (Int.tmod by0 p.m))]) (c := (fun _ => (vq (Int.tmod by0 p.m)))) sl_23 el_22 hS (hf := by have hz := (hL.A.p (Int.tmod by0 p.m) (by omega) (by omega)).slh; revert hz; generalize (vq (Int.tmod by0 p.m)) = z; rintro ⟨_, _, _, _, rfl, _⟩; show _ = _; kernel_rfl)) ?_; rintro v3 w ⟨hS, hv3⟩
    replace hS := hS.n9
    refine ⟨⟨fun _ => hS.pk [0, 1, 4, 5], hS.pk [0, 1, 4]⟩, ?_⟩
    exact zmus hMm22 ⟨v1, v3, v2, hv1, hv3, hv2, rfl, hS.pk [0, 1, 2, 3, 4, 5, 6, 8, 7]⟩
   refine zka (xl0 (c := ints (fun _ => 0)) sl_22 hS) ?_; rintro v3 w ⟨hS, hv3⟩
   replace hS := hS.n9
   refine ⟨⟨fun _ => hS.pk [0, 1, 4, 5], hS.pk [0, 1, 4]⟩, ?_⟩
   exact zmus hMm24 ⟨v1, v3, v2, hv1, hv3, hv2, rfl, hS.pk [0, 1, 2, 3, 4, 5, 6, 8, 7]⟩
  intro hMm25
  refine zmem (fun M w => ∃ (v1 : Value), (Slh v1 0) ∧ M = [(0, .agg #[vc, vA, vb]), (1, vr), (2, .agg #[.int .u8 by0, .int .u8 by1]), (3, .pointer (some ⟨g1, 0, none⟩)), (5, .pointer (some ⟨g2, 0, none⟩)), (6, .bool false), (20, .bool true), (21, .bool false), (22, .bool false), (23, .agg #[vc, vA, vb]), (24, B (FewP p)), (25, B (¬ (FewP p))), (26, B (¬ (FewP p))), (27, .bool false), (28, .agg #[vc, vA, vb]), (29, B (LOk p)), (30, B (¬ (LOk p))), (31, B (¬ (LOk p))), (32, .bool false), (33, .pointer (some ⟨g1, 1, none⟩)), (34, vA), (35, .int .i64 p.m), (36, B (p.m = 0)), (37, B (p.m = 0)), (38, .bool false), (39, .pointer (some ⟨g1, 1, none⟩)), (40, vA), (41, .int .i64 p.m), (42, B (7 < p.m)), (43, B (7 < p.m)), (46, .agg #[vc, vA, vb]), (47, .agg #[vc, vA, vb]), (48, .tuple #[.agg #[vXs1, vYs1, .int .i64 ss1.val, .int .i64 ss1.den], .int .i64 es1]), (45, .tuple #[.agg #[vXs1, vYs1, .int .i64 ss1.val, .int .i64 ss1.den], .int .i64 es1]), (49, .agg #[vXs1, vYs1, .int .i64 ss1.val, .int .i64 ss1.den]), (50, .int .i64 es1), (7, .pointer (some ⟨g3, 0, none⟩)), (8, .int .i64 es1), (51, .int .i64 es1), (52, B (es1 ≠ 0)), (53, .pointer (some ⟨g2, 0, none⟩)), (54, .int .u8 by0), (55, .int .i64 by0), (56, .pointer (some ⟨g1, 1, none⟩)), (57, vA), (58, .int .i64 p.m), (59, .int .i64 (Int.tmod by0 p.m)), (9, .int .i64 (Int.tmod by0 p.m)), (60, .agg #[vc, vA, vb]), (10, .pointer (some ⟨g4, 0, none⟩)), (62, .pointer (some ⟨g1, 1, none⟩)), (63, vA), (65, .pointer (some ⟨g1, 1, none⟩)), (66, vA), (67, .int .i64 (Int.tmod by0 p.m)), (68, .pointer (some (cad vA (Int.tmod by0 p.m)))), (69, (vq (Int.tmod by0 p.m))), (73, .pointer (some ⟨g1, 2, none⟩)), (74, vb), (76, .pointer (some ⟨g1, 2, none⟩)), (77, vb), (78, .int .i64 (Int.tmod by0 p.m)), (79, .pointer (some (cad vb (Int.tmod by0 p.m)))), (80, .int .i64 (p.b (Int.tmod by0 p.m))), (61, v1)] ∧ Sat w0 w [.blk g1 [vc, vA, vb], .blk g2 [.int .u8 by0, .int .u8 by1], .own vXs1 1 3 ss1.n (ints ss1.X), .own vYs1 1 3 ss1.m (ints ss1.Y), .blk g3 [vXs1, vYs1, .int .i64 ss1.val, .int .i64 ss1.den], .blk g4 [vc, vA, vb], .own v1 1 22 0 (ints (fun _ => 0))]) #[true, true, true, false, true, true, true, true, true, false, false, false, true, true, false, true, true, true, true, true, false, false, false, false, false, false] 11 ?_ ?_
  ·
   rintro M w ⟨v1, hv1, rfl, hS⟩
   refine zdfk (r := [3, 9, 11, 20]) ((zdn1 ?_ (zdn1 ?_ (zdn1 ?_ (zdn1 ?_ zdn0)))))
   ·
    refine zka (xap 6 (r := p.m) (f := cat (0 * 1) (ints (fun _ => 0)) vq) sl_23 el_22 hS (hL.A.row.below hS.below) rfl (h1 := (fun k k0 k1 => (hL.A.p k k0 (by omega)).slh.one))) ?_; rintro v2 w ⟨hS, hv2⟩
    replace hS := hS.n7
    refine ⟨⟨fun _ => hS.pk [0, 1, 4, 5], hS.pk [0, 1, 4]⟩, ?_⟩
    exact zmus hMm3 ⟨v1, v2, hv2, rfl, hS⟩
   ·
    refine zka (xli (n := 1) (len := 1) (pv := [(0, (vq (Int.tmod by0 p.m)))]) (cs := [(vq (Int.tmod by0 p.m))]) (c := (fun _ => (vq (Int.tmod by0 p.m)))) sl_23 el_22 hS (hf := by have hz := (hL.A.p (Int.tmod by0 p.m) (by omega) (by omega)).slh; revert hz; generalize (vq (Int.tmod by0 p.m)) = z; rintro ⟨_, _, _, _, rfl, _⟩; show _ = _; kernel_rfl)) ?_; rintro v2 w ⟨hS, hv2⟩
    replace hS := hS.n8
    refine ⟨⟨fun _ => hS.pk [0, 1, 4, 5], hS.pk [0, 1, 4]⟩, ?_⟩
    exact zmus hMm19 ⟨v1, v2, hv1, hv2, rfl, hS⟩
   ·
    refine zka (xl0 (c := ints (fun _ => 0)) sl_22 hS) ?_; rintro v2 w ⟨hS, hv2⟩
    replace hS := hS.n8
    refine ⟨⟨fun _ => hS.pk [0, 1, 4, 5], hS.pk [0, 1, 4]⟩, ?_⟩
    exact zmus hMm23 ⟨v1, v2, hv1, hv2, rfl, hS⟩
   refine zka (xli (n := 1) (len := 1) (pv := [(0, .int .i64 (p.b (Int.tmod by0 p.m)))]) (cs := [.int .i64 (p.b (Int.tmod by0 p.m))]) (c := ints (fun _ => (p.b (Int.tmod by0 p.m)))) sl_22 el_3 hS) ?_; rintro v2 w ⟨hS, hv2⟩
   replace hS := hS.n8
   refine ⟨⟨fun _ => hS.pk [0, 1, 4, 5], hS.pk [0, 1, 4]⟩, ?_⟩
   exact zmus hMm25 ⟨v1, v2, hv1, hv2, rfl, hS⟩
  intro hMm2
  refine zmem (fun M w => ∃ (v1 : Value) (v2 : Value) (v3 : Value), (Slh v1 1) ∧ (Slh v2 0) ∧ (Slh v3 1) ∧ M = [(0, .agg #[vc, vA, vb]), (1, vr), (2, .agg #[.int .u8 by0, .int .u8 by1]), (3, .pointer (some ⟨g1, 0, none⟩)), (5, .pointer (some ⟨g2, 0, none⟩)), (6, .bool false), (20, .bool true), (21, .bool false), (22, .bool false), (23, .agg #[vc, vA, vb]), (24, B (FewP p)), (25, B (¬ (FewP p))), (26, B (¬ (FewP p))), (27, .bool false), (28, .agg #[vc, vA, vb]), (29, B (LOk p)), (30, B (¬ (LOk p))), (31, B (¬ (LOk p))), (32, .bool false), (33, .pointer (some ⟨g1, 1, none⟩)), (34, vA), (35, .int .i64 p.m), (36, B (p.m = 0)), (37, B (p.m = 0)), (38, .bool false), (39, .pointer (some ⟨g1, 1, none⟩)), (40, vA), (41, .int .i64 p.m), (42, B (7 < p.m)), (43, B (7 < p.m)), (46, .agg #[vc, vA, vb]), (47, .agg #[vc, vA, vb]), (48, .tuple #[.agg #[vXs1, vYs1, .int .i64 ss1.val, .int .i64 ss1.den], .int .i64 es1]), (45, .tuple #[.agg #[vXs1, vYs1, .int .i64 ss1.val, .int .i64 ss1.den], .int .i64 es1]), (49, .agg #[vXs1, vYs1, .int .i64 ss1.val, .int .i64 ss1.den]), (50, .int .i64 es1), (7, .pointer (some ⟨g3, 0, none⟩)), (8, .int .i64 es1), (51, .int .i64 es1), (52, B (es1 ≠ 0)), (53, .pointer (some ⟨g2, 0, none⟩)), (54, .int .u8 by0), (55, .int .i64 by0), (56, .pointer (some ⟨g1, 1, none⟩)), (57, vA), (58, .int .i64 p.m), (59, .int .i64 (Int.tmod by0 p.m)), (9, .int .i64 (Int.tmod by0 p.m)), (60, .agg #[vc, vA, vb]), (10, .pointer (some ⟨g4, 0, none⟩)), (62, .pointer (some ⟨g1, 1, none⟩)), (63, vA), (65, .pointer (some ⟨g1, 1, none⟩)), (66, vA), (67, .int .i64 (Int.tmod by0 p.m)), (68, .pointer (some (cad vA (Int.tmod by0 p.m)))), (69, (vq (Int.tmod by0 p.m))), (73, .pointer (some ⟨g1, 2, none⟩)), (74, vb), (76, .pointer (some ⟨g1, 2, none⟩)), (77, vb), (78, .int .i64 (Int.tmod by0 p.m)), (79, .pointer (some (cad vb (Int.tmod by0 p.m)))), (80, .int .i64 (p.b (Int.tmod by0 p.m))), (70, v1), (72, v2), (81, v3)] ∧ Sat w0 w [.blk g1 [vc, vA, vb], .blk g2 [.int .u8 by0, .int .u8 by1], .own vXs1 1 3 ss1.n (ints ss1.X), .own vYs1 1 3 ss1.m (ints ss1.Y), .blk g3 [vXs1, vYs1, .int .i64 ss1.val, .int .i64 ss1.den], .blk g4 [vc, vA, vb], .own v1 1 22 1 (fun _ => (vq (Int.tmod by0 p.m))), .own v2 1 3 0 (ints (fun _ => 0)), .own v3 1 3 1 (ints (fun _ => (p.b (Int.tmod by0 p.m))))]) #[false, true, true, false, true, true, true, true, true, true, false, true, true, true, false, true, true, true, true, true, true, false, false, false, false, false] 9 ?_ ?_
  ·
   rintro M w ⟨v1, v2, v3, hv1, hv2, hv3, rfl, hS⟩
   refine zda 0 (xl0 (c := ints (fun _ => 0)) sl_23 hS) ?_; rintro v4 w ⟨hS, hv4⟩
   replace hS := hS.n10
   refine ⟨⟨fun _ => hS.pk [0, 1, 4, 5], hS.pk [0, 1, 4]⟩, ?_⟩
   exact zmus hMm21 ⟨v4, v1, v2, v3, hv4, hv1, hv2, hv3, rfl, hS.pk [0, 1, 2, 3, 4, 5, 9, 6, 7, 8]⟩
  intro hMm28
  refine zmem (fun M w => ∃ (v1 : Value) (v2 : Value), (Slh v1 1) ∧ (Slh v2 0) ∧ M = [(0, .agg #[vc, vA, vb]), (1, vr), (2, .agg #[.int .u8 by0, .int .u8 by1]), (3, .pointer (some ⟨g1, 0, none⟩)), (5, .pointer (some ⟨g2, 0, none⟩)), (6, .bool false), (20, .bool true), (21, .bool false), (22, .bool false), (23, .agg #[vc, vA, vb]), (24, B (FewP p)), (25, B (¬ (FewP p))), (26, B (¬ (FewP p))), (27, .bool false), (28, .agg #[vc, vA, vb]), (29, B (LOk p)), (30, B (¬ (LOk p))), (31, B (¬ (LOk p))), (32, .bool false), (33, .pointer (some ⟨g1, 1, none⟩)), (34, vA), (35, .int .i64 p.m), (36, B (p.m = 0)), (37, B (p.m = 0)), (38, .bool false), (39, .pointer (some ⟨g1, 1, none⟩)), (40, vA), (41, .int .i64 p.m), (42, B (7 < p.m)), (43, B (7 < p.m)), (46, .agg #[vc, vA, vb]), (47, .agg #[vc, vA, vb]), (48, .tuple #[.agg #[vXs1, vYs1, .int .i64 ss1.val, .int .i64 ss1.den], .int .i64 es1]), (45, .tuple #[.agg #[vXs1, vYs1, .int .i64 ss1.val, .int .i64 ss1.den], .int .i64 es1]), (49, .agg #[vXs1, vYs1, .int .i64 ss1.val, .int .i64 ss1.den]), (50, .int .i64 es1), (7, .pointer (some ⟨g3, 0, none⟩)), (8, .int .i64 es1), (51, .int .i64 es1), (52, B (es1 ≠ 0)), (53, .pointer (some ⟨g2, 0, none⟩)), (54, .int .u8 by0), (55, .int .i64 by0), (56, .pointer (some ⟨g1, 1, none⟩)), (57, vA), (58, .int .i64 p.m), (59, .int .i64 (Int.tmod by0 p.m)), (9, .int .i64 (Int.tmod by0 p.m)), (60, .agg #[vc, vA, vb]), (10, .pointer (some ⟨g4, 0, none⟩)), (62, .pointer (some ⟨g1, 1, none⟩)), (63, vA), (65, .pointer (some ⟨g1, 1, none⟩)), (66, vA), (67, .int .i64 (Int.tmod by0 p.m)), (68, .pointer (some (cad vA (Int.tmod by0 p.m)))), (69, (vq (Int.tmod by0 p.m))), (73, .pointer (some ⟨g1, 2, none⟩)), (74, vb), (76, .pointer (some ⟨g1, 2, none⟩)), (77, vb), (78, .int .i64 (Int.tmod by0 p.m)), (79, .pointer (some (cad vb (Int.tmod by0 p.m)))), (80, .int .i64 (p.b (Int.tmod by0 p.m))), (70, v1), (72, v2)] ∧ Sat w0 w [.blk g1 [vc, vA, vb], .blk g2 [.int .u8 by0, .int .u8 by1], .own vXs1 1 3 ss1.n (ints ss1.X), .own vYs1 1 3 ss1.m (ints ss1.Y), .blk g3 [vXs1, vYs1, .int .i64 ss1.val, .int .i64 ss1.den], .blk g4 [vc, vA, vb], .own v1 1 22 1 (fun _ => (vq (Int.tmod by0 p.m))), .own v2 1 3 0 (ints (fun _ => 0))]) #[false, true, true, false, true, true, true, true, true, true, false, true, true, true, false, true, true, true, true, true, false, false, false, false, false, false] 10 ?_ ?_
  ·
   rintro M w ⟨v1, v2, hv1, hv2, rfl, hS⟩
   refine zdfk (r := [0, 20]) ((zdn1 ?_ (zdn1 ?_ zdn0)))
   ·
    refine zka (xl0 (c := ints (fun _ => 0)) sl_23 hS) ?_; rintro v3 w ⟨hS, hv3⟩
    replace hS := hS.n9
    refine ⟨⟨fun _ => hS.pk [0, 1, 4, 5], hS.pk [0, 1, 4]⟩, ?_⟩
    exact zmus hMm20 ⟨v3, v1, v2, hv3, hv1, hv2, rfl, hS.pk [0, 1, 2, 3, 4, 5, 8, 6, 7]⟩
   refine zka (xli (n := 1) (len := 1) (pv := [(0, .int .i64 (p.b (Int.tmod by0 p.m)))]) (cs := [.int .i64 (p.b (Int.tmod by0 p.m))]) (c := ints (fun _ => (p.b (Int.tmod by0 p.m)))) sl_22 el_3 hS) ?_; rintro v3 w ⟨hS, hv3⟩
   replace hS := hS.n9
   refine ⟨⟨fun _ => hS.pk [0, 1, 4, 5], hS.pk [0, 1, 4]⟩, ?_⟩
   exact zmus hMm28 ⟨v1, v2, v3, hv1, hv2, hv3, rfl, hS⟩
  intro hMm27
  refine zmem (fun M w => ∃ (v1 : Value) (v2 : Value), (Slh v1 1) ∧ (Slh v2 1) ∧ M = [(0, .agg #[vc, vA, vb]), (1, vr), (2, .agg #[.int .u8 by0, .int .u8 by1]), (3, .pointer (some ⟨g1, 0, none⟩)), (5, .pointer (some ⟨g2, 0, none⟩)), (6, .bool false), (20, .bool true), (21, .bool false), (22, .bool false), (23, .agg #[vc, vA, vb]), (24, B (FewP p)), (25, B (¬ (FewP p))), (26, B (¬ (FewP p))), (27, .bool false), (28, .agg #[vc, vA, vb]), (29, B (LOk p)), (30, B (¬ (LOk p))), (31, B (¬ (LOk p))), (32, .bool false), (33, .pointer (some ⟨g1, 1, none⟩)), (34, vA), (35, .int .i64 p.m), (36, B (p.m = 0)), (37, B (p.m = 0)), (38, .bool false), (39, .pointer (some ⟨g1, 1, none⟩)), (40, vA), (41, .int .i64 p.m), (42, B (7 < p.m)), (43, B (7 < p.m)), (46, .agg #[vc, vA, vb]), (47, .agg #[vc, vA, vb]), (48, .tuple #[.agg #[vXs1, vYs1, .int .i64 ss1.val, .int .i64 ss1.den], .int .i64 es1]), (45, .tuple #[.agg #[vXs1, vYs1, .int .i64 ss1.val, .int .i64 ss1.den], .int .i64 es1]), (49, .agg #[vXs1, vYs1, .int .i64 ss1.val, .int .i64 ss1.den]), (50, .int .i64 es1), (7, .pointer (some ⟨g3, 0, none⟩)), (8, .int .i64 es1), (51, .int .i64 es1), (52, B (es1 ≠ 0)), (53, .pointer (some ⟨g2, 0, none⟩)), (54, .int .u8 by0), (55, .int .i64 by0), (56, .pointer (some ⟨g1, 1, none⟩)), (57, vA), (58, .int .i64 p.m), (59, .int .i64 (Int.tmod by0 p.m)), (9, .int .i64 (Int.tmod by0 p.m)), (60, .agg #[vc, vA, vb]), (10, .pointer (some ⟨g4, 0, none⟩)), (62, .pointer (some ⟨g1, 1, none⟩)), (63, vA), (65, .pointer (some ⟨g1, 1, none⟩)), (66, vA), (67, .int .i64 (Int.tmod by0 p.m)), (68, .pointer (some (cad vA (Int.tmod by0 p.m)))), (69, (vq (Int.tmod by0 p.m))), (73, .pointer (some ⟨g1, 2, none⟩)), (74, vb), (76, .pointer (some ⟨g1, 2, none⟩)), (77, vb), (78, .int .i64 (Int.tmod by0 p.m)), (79, .pointer (some (cad vb (Int.tmod by0 p.m)))), (80, .int .i64 (p.b (Int.tmod by0 p.m))), (70, v1), (81, v2)] ∧ Sat w0 w [.blk g1 [vc, vA, vb], .blk g2 [.int .u8 by0, .int .u8 by1], .own vXs1 1 3 ss1.n (ints ss1.X), .own vYs1 1 3 ss1.m (ints ss1.Y), .blk g3 [vXs1, vYs1, .int .i64 ss1.val, .int .i64 ss1.den], .blk g4 [vc, vA, vb], .own v1 1 22 1 (fun _ => (vq (Int.tmod by0 p.m))), .own v2 1 3 1 (ints (fun _ => (p.b (Int.tmod by0 p.m))))]) #[false, true, true, false, true, true, true, true, true, true, false, false, true, true, false, true, true, true, true, true, true, false, false, false, false, false] 10 ?_ ?_
  ·
   rintro M w ⟨v1, v2, hv1, hv2, rfl, hS⟩
   refine zdfk (r := [0, 11]) ((zdn1 ?_ (zdn1 ?_ zdn0)))
   ·
    refine zka (xl0 (c := ints (fun _ => 0)) sl_23 hS) ?_; rintro v3 w ⟨hS, hv3⟩
    replace hS := hS.n9
    refine ⟨⟨fun _ => hS.pk [0, 1, 4, 5], hS.pk [0, 1, 4]⟩, ?_⟩
    exact zmus hMm22 ⟨v3, v1, v2, hv3, hv1, hv2, rfl, hS.pk [0, 1, 2, 3, 4, 5, 8, 6, 7]⟩
   refine zka (xl0 (c := ints (fun _ => 0)) sl_22 hS) ?_; rintro v3 w ⟨hS, hv3⟩
   replace hS := hS.n9
   refine ⟨⟨fun _ => hS.pk [0, 1, 4, 5], hS.pk [0, 1, 4]⟩, ?_⟩
   exact zmus hMm28 ⟨v1, v3, v2, hv1, hv3, hv2, rfl, hS.pk [0, 1, 2, 3, 4, 5, 6, 8, 7]⟩
  intro hMm29
  refine zmem (fun M w => ∃ (v1 : Value), (Slh v1 1) ∧ M = [(0, .agg #[vc, vA, vb]), (1, vr), (2, .agg #[.int .u8 by0, .int .u8 by1]), (3, .pointer (some ⟨g1, 0, none⟩)), (5, .pointer (some ⟨g2, 0, none⟩)), (6, .bool false), (20, .bool true), (21, .bool false), (22, .bool false), (23, .agg #[vc, vA, vb]), (24, B (FewP p)), (25, B (¬ (FewP p))), (26, B (¬ (FewP p))), (27, .bool false), (28, .agg #[vc, vA, vb]), (29, B (LOk p)), (30, B (¬ (LOk p))), (31, B (¬ (LOk p))), (32, .bool false), (33, .pointer (some ⟨g1, 1, none⟩)), (34, vA), (35, .int .i64 p.m), (36, B (p.m = 0)), (37, B (p.m = 0)), (38, .bool false), (39, .pointer (some ⟨g1, 1, none⟩)), (40, vA), (41, .int .i64 p.m), (42, B (7 < p.m)), (43, B (7 < p.m)), (46, .agg #[vc, vA, vb]), (47, .agg #[vc, vA, vb]), (48, .tuple #[.agg #[vXs1, vYs1, .int .i64 ss1.val, .int .i64 ss1.den], .int .i64 es1]), (45, .tuple #[.agg #[vXs1, vYs1, .int .i64 ss1.val, .int .i64 ss1.den], .int .i64 es1]), (49, .agg #[vXs1, vYs1, .int .i64 ss1.val, .int .i64 ss1.den]), (50, .int .i64 es1), (7, .pointer (some ⟨g3, 0, none⟩)), (8, .int .i64 es1), (51, .int .i64 es1), (52, B (es1 ≠ 0)), (53, .pointer (some ⟨g2, 0, none⟩)), (54, .int .u8 by0), (55, .int .i64 by0), (56, .pointer (some ⟨g1, 1, none⟩)), (57, vA), (58, .int .i64 p.m), (59, .int .i64 (Int.tmod by0 p.m)), (9, .int .i64 (Int.tmod by0 p.m)), (60, .agg #[vc, vA, vb]), (10, .pointer (some ⟨g4, 0, none⟩)), (62, .pointer (some ⟨g1, 1, none⟩)), (63, vA), (65, .pointer (some ⟨g1, 1, none⟩)), (66, vA), (67, .int .i64 (Int.tmod by0 p.m)), (68, .pointer (some (cad vA (Int.tmod by0 p.m)))), (69, (vq (Int.tmod by0 p.m))), (73, .pointer (some ⟨g1, 2, none⟩)), (74, vb), (76, .pointer (some ⟨g1, 2, none⟩)), (77, vb), (78, .int .i64 (Int.tmod by0 p.m)), (79, .pointer (some (cad vb (Int.tmod by0 p.m)))), (80, .int .i64 (p.b (Int.tmod by0 p.m))), (70, v1)] ∧ Sat w0 w [.blk g1 [vc, vA, vb], .blk g2 [.int .u8 by0, .int .u8 by1], .own vXs1 1 3 ss1.n (ints ss1.X), .own vYs1 1 3 ss1.m (ints ss1.Y), .blk g3 [vXs1, vYs1, .int .i64 ss1.val, .int .i64 ss1.den], .blk g4 [vc, vA, vb], .own v1 1 22 1 (fun _ => (vq (Int.tmod by0 p.m)))]) #[false, true, true, false, true, true, true, true, true, true, false, false, true, true, false, true, true, true, true, true, false, false, false, false, false, false] 11 ?_ ?_
  ·
   rintro M w ⟨v1, hv1, rfl, hS⟩
   refine zdfk (r := [0, 11, 20]) ((zdn1 ?_ (zdn1 ?_ (zdn1 ?_ zdn0))))
   ·
    refine zka (xl0 (c := ints (fun _ => 0)) sl_23 hS) ?_; rintro v2 w ⟨hS, hv2⟩
    replace hS := hS.n8
    refine ⟨⟨fun _ => hS.pk [0, 1, 4, 5], hS.pk [0, 1, 4]⟩, ?_⟩
    exact zmus hMm19 ⟨v2, v1, hv2, hv1, rfl, hS.pk [0, 1, 2, 3, 4, 5, 7, 6]⟩
   ·
    refine zka (xl0 (c := ints (fun _ => 0)) sl_22 hS) ?_; rintro v2 w ⟨hS, hv2⟩
    replace hS := hS.n8
    refine ⟨⟨fun _ => hS.pk [0, 1, 4, 5], hS.pk [0, 1, 4]⟩, ?_⟩
    exact zmus hMm27 ⟨v1, v2, hv1, hv2, rfl, hS⟩
   refine zka (xli (n := 1) (len := 1) (pv := [(0, .int .i64 (p.b (Int.tmod by0 p.m)))]) (cs := [.int .i64 (p.b (Int.tmod by0 p.m))]) (c := ints (fun _ => (p.b (Int.tmod by0 p.m)))) sl_22 el_3 hS) ?_; rintro v2 w ⟨hS, hv2⟩
   replace hS := hS.n8
   refine ⟨⟨fun _ => hS.pk [0, 1, 4, 5], hS.pk [0, 1, 4]⟩, ?_⟩
   exact zmus hMm29 ⟨v1, v2, hv1, hv2, rfl, hS⟩
  intro hMm26
  refine zmem (fun M w => ∃ (v1 : Value) (v2 : Value), (Slh v1 0) ∧ (Slh v2 1) ∧ M = [(0, .agg #[vc, vA, vb]), (1, vr), (2, .agg #[.int .u8 by0, .int .u8 by1]), (3, .pointer (some ⟨g1, 0, none⟩)), (5, .pointer (some ⟨g2, 0, none⟩)), (6, .bool false), (20, .bool true), (21, .bool false), (22, .bool false), (23, .agg #[vc, vA, vb]), (24, B (FewP p)), (25, B (¬ (FewP p))), (26, B (¬ (FewP p))), (27, .bool false), (28, .agg #[vc, vA, vb]), (29, B (LOk p)), (30, B (¬ (LOk p))), (31, B (¬ (LOk p))), (32, .bool false), (33, .pointer (some ⟨g1, 1, none⟩)), (34, vA), (35, .int .i64 p.m), (36, B (p.m = 0)), (37, B (p.m = 0)), (38, .bool false), (39, .pointer (some ⟨g1, 1, none⟩)), (40, vA), (41, .int .i64 p.m), (42, B (7 < p.m)), (43, B (7 < p.m)), (46, .agg #[vc, vA, vb]), (47, .agg #[vc, vA, vb]), (48, .tuple #[.agg #[vXs1, vYs1, .int .i64 ss1.val, .int .i64 ss1.den], .int .i64 es1]), (45, .tuple #[.agg #[vXs1, vYs1, .int .i64 ss1.val, .int .i64 ss1.den], .int .i64 es1]), (49, .agg #[vXs1, vYs1, .int .i64 ss1.val, .int .i64 ss1.den]), (50, .int .i64 es1), (7, .pointer (some ⟨g3, 0, none⟩)), (8, .int .i64 es1), (51, .int .i64 es1), (52, B (es1 ≠ 0)), (53, .pointer (some ⟨g2, 0, none⟩)), (54, .int .u8 by0), (55, .int .i64 by0), (56, .pointer (some ⟨g1, 1, none⟩)), (57, vA), (58, .int .i64 p.m), (59, .int .i64 (Int.tmod by0 p.m)), (9, .int .i64 (Int.tmod by0 p.m)), (60, .agg #[vc, vA, vb]), (10, .pointer (some ⟨g4, 0, none⟩)), (62, .pointer (some ⟨g1, 1, none⟩)), (63, vA), (65, .pointer (some ⟨g1, 1, none⟩)), (66, vA), (67, .int .i64 (Int.tmod by0 p.m)), (68, .pointer (some (cad vA (Int.tmod by0 p.m)))), (69, (vq (Int.tmod by0 p.m))), (73, .pointer (some ⟨g1, 2, none⟩)), (74, vb), (76, .pointer (some ⟨g1, 2, none⟩)), (77, vb), (78, .int .i64 (Int.tmod by0 p.m)), (79, .pointer (some (cad vb (Int.tmod by0 p.m)))), (80, .int .i64 (p.b (Int.tmod by0 p.m))), (72, v1), (81, v2)] ∧ Sat w0 w [.blk g1 [vc, vA, vb], .blk g2 [.int .u8 by0, .int .u8 by1], .own vXs1 1 3 ss1.n (ints ss1.X), .own vYs1 1 3 ss1.m (ints ss1.Y), .blk g3 [vXs1, vYs1, .int .i64 ss1.val, .int .i64 ss1.den], .blk g4 [vc, vA, vb], .own v1 1 3 0 (ints (fun _ => 0)), .own v2 1 3 1 (ints (fun _ => (p.b (Int.tmod by0 p.m))))]) #[false, true, true, false, true, true, true, true, true, false, false, true, true, true, false, true, true, true, true, true, true, false, false, false, false, false] 10 ?_ ?_
  ·
   rintro M w ⟨v1, v2, hv1, hv2, rfl, hS⟩
   refine zdfk (r := [0, 9]) ((zdn1 ?_ (zdn1 ?_ zdn0)))
   ·
    refine zka (xl0 (c := ints (fun _ => 0)) sl_23 hS) ?_; rintro v3 w ⟨hS, hv3⟩
    replace hS := hS.n9
    refine ⟨⟨fun _ => hS.pk [0, 1, 4, 5], hS.pk [0, 1, 4]⟩, ?_⟩
    exact zmus hMm24 ⟨v3, v1, v2, hv3, hv1, hv2, rfl, hS.pk [0, 1, 2, 3, 4, 5, 8, 6, 7]⟩
   refine zka (xli (n := 1) (len := 1) (pv := [(0, (vq (Int.tmod by0 p.m)))]) (cs := [(vq (Int.tmod by0 p.m))]) (c := (fun _ => (vq (Int.tmod by0 p.m)))) sl_23 el_22 hS (hf := by have hz := (hL.A.p (Int.tmod by0 p.m) (by omega) (by omega)).slh; revert hz; generalize (vq (Int.tmod by0 p.m)) = z; rintro ⟨_, _, _, _, rfl, _⟩; show _ = _; kernel_rfl)) ?_; rintro v3 w ⟨hS, hv3⟩
   replace hS := hS.n9
   refine ⟨⟨fun _ => hS.pk [0, 1, 4, 5], hS.pk [0, 1, 4]⟩, ?_⟩
   exact zmus hMm28 ⟨v3, v1, v2, hv3, hv1, hv2, rfl, hS.pk [0, 1, 2, 3, 4, 5, 8, 6, 7]⟩
  intro hMm31
  refine zmem (fun M w => ∃ (v1 : Value), (Slh v1 0) ∧ M = [(0, .agg #[vc, vA, vb]), (1, vr), (2, .agg #[.int .u8 by0, .int .u8 by1]), (3, .pointer (some ⟨g1, 0, none⟩)), (5, .pointer (some ⟨g2, 0, none⟩)), (6, .bool false), (20, .bool true), (21, .bool false), (22, .bool false), (23, .agg #[vc, vA, vb]), (24, B (FewP p)), (25, B (¬ (FewP p))), (26, B (¬ (FewP p))), (27, .bool false), (28, .agg #[vc, vA, vb]), (29, B (LOk p)), (30, B (¬ (LOk p))), (31, B (¬ (LOk p))), (32, .bool false), (33, .pointer (some ⟨g1, 1, none⟩)), (34, vA), (35, .int .i64 p.m), (36, B (p.m = 0)), (37, B (p.m = 0)), (38, .bool false), (39, .pointer (some ⟨g1, 1, none⟩)), (40, vA), (41, .int .i64 p.m), (42, B (7 < p.m)), (43, B (7 < p.m)), (46, .agg #[vc, vA, vb]), (47, .agg #[vc, vA, vb]), (48, .tuple #[.agg #[vXs1, vYs1, .int .i64 ss1.val, .int .i64 ss1.den], .int .i64 es1]), (45, .tuple #[.agg #[vXs1, vYs1, .int .i64 ss1.val, .int .i64 ss1.den], .int .i64 es1]), (49, .agg #[vXs1, vYs1, .int .i64 ss1.val, .int .i64 ss1.den]), (50, .int .i64 es1), (7, .pointer (some ⟨g3, 0, none⟩)), (8, .int .i64 es1), (51, .int .i64 es1), (52, B (es1 ≠ 0)), (53, .pointer (some ⟨g2, 0, none⟩)), (54, .int .u8 by0), (55, .int .i64 by0), (56, .pointer (some ⟨g1, 1, none⟩)), (57, vA), (58, .int .i64 p.m), (59, .int .i64 (Int.tmod by0 p.m)), (9, .int .i64 (Int.tmod by0 p.m)), (60, .agg #[vc, vA, vb]), (10, .pointer (some ⟨g4, 0, none⟩)), (62, .pointer (some ⟨g1, 1, none⟩)), (63, vA), (65, .pointer (some ⟨g1, 1, none⟩)), (66, vA), (67, .int .i64 (Int.tmod by0 p.m)), (68, .pointer (some (cad vA (Int.tmod by0 p.m)))), (69, (vq (Int.tmod by0 p.m))), (73, .pointer (some ⟨g1, 2, none⟩)), (74, vb), (76, .pointer (some ⟨g1, 2, none⟩)), (77, vb), (78, .int .i64 (Int.tmod by0 p.m)), (79, .pointer (some (cad vb (Int.tmod by0 p.m)))), (80, .int .i64 (p.b (Int.tmod by0 p.m))), (72, v1)] ∧ Sat w0 w [.blk g1 [vc, vA, vb], .blk g2 [.int .u8 by0, .int .u8 by1], .own vXs1 1 3 ss1.n (ints ss1.X), .own vYs1 1 3 ss1.m (ints ss1.Y), .blk g3 [vXs1, vYs1, .int .i64 ss1.val, .int .i64 ss1.den], .blk g4 [vc, vA, vb], .own v1 1 3 0 (ints (fun _ => 0))]) #[false, true, true, false, true, true, true, true, true, false, false, true, true, true, false, true, true, true, true, true, false, false, false, false, false, false] 11 ?_ ?_
  ·
   rintro M w ⟨v1, hv1, rfl, hS⟩
   refine zdfk (r := [0, 9, 20]) ((zdn1 ?_ (zdn1 ?_ (zdn1 ?_ zdn0))))
   ·
    refine zka (xl0 (c := ints (fun _ => 0)) sl_23 hS) ?_; rintro v2 w ⟨hS, hv2⟩
    replace hS := hS.n8
    refine ⟨⟨fun _ => hS.pk [0, 1, 4, 5], hS.pk [0, 1, 4]⟩, ?_⟩
    exact zmus hMm23 ⟨v2, v1, hv2, hv1, rfl, hS.pk [0, 1, 2, 3, 4, 5, 7, 6]⟩
   ·
    refine zka (xli (n := 1) (len := 1) (pv := [(0, (vq (Int.tmod by0 p.m)))]) (cs := [(vq (Int.tmod by0 p.m))]) (c := (fun _ => (vq (Int.tmod by0 p.m)))) sl_23 el_22 hS (hf := by have hz := (hL.A.p (Int.tmod by0 p.m) (by omega) (by omega)).slh; revert hz; generalize (vq (Int.tmod by0 p.m)) = z; rintro ⟨_, _, _, _, rfl, _⟩; show _ = _; kernel_rfl)) ?_; rintro v2 w ⟨hS, hv2⟩
    replace hS := hS.n8
    refine ⟨⟨fun _ => hS.pk [0, 1, 4, 5], hS.pk [0, 1, 4]⟩, ?_⟩
    exact zmus hMm27 ⟨v2, v1, hv2, hv1, rfl, hS.pk [0, 1, 2, 3, 4, 5, 7, 6]⟩
   refine zka (xli (n := 1) (len := 1) (pv := [(0, .int .i64 (p.b (Int.tmod by0 p.m)))]) (cs := [.int .i64 (p.b (Int.tmod by0 p.m))]) (c := ints (fun _ => (p.b (Int.tmod by0 p.m)))) sl_22 el_3 hS) ?_; rintro v2 w ⟨hS, hv2⟩
   replace hS := hS.n8
   refine ⟨⟨fun _ => hS.pk [0, 1, 4, 5], hS.pk [0, 1, 4]⟩, ?_⟩
   exact zmus hMm31 ⟨v1, v2, hv1, hv2, rfl, hS⟩
  intro hMm30
  refine zmem (fun M w => ∃ (v1 : Value), (Slh v1 1) ∧ M = [(0, .agg #[vc, vA, vb]), (1, vr), (2, .agg #[.int .u8 by0, .int .u8 by1]), (3, .pointer (some ⟨g1, 0, none⟩)), (5, .pointer (some ⟨g2, 0, none⟩)), (6, .bool false), (20, .bool true), (21, .bool false), (22, .bool false), (23, .agg #[vc, vA, vb]), (24, B (FewP p)), (25, B (¬ (FewP p))), (26, B (¬ (FewP p))), (27, .bool false), (28, .agg #[vc, vA, vb]), (29, B (LOk p)), (30, B (¬ (LOk p))), (31, B (¬ (LOk p))), (32, .bool false), (33, .pointer (some ⟨g1, 1, none⟩)), (34, vA), (35, .int .i64 p.m), (36, B (p.m = 0)), (37, B (p.m = 0)), (38, .bool false), (39, .pointer (some ⟨g1, 1, none⟩)), (40, vA), (41, .int .i64 p.m), (42, B (7 < p.m)), (43, B (7 < p.m)), (46, .agg #[vc, vA, vb]), (47, .agg #[vc, vA, vb]), (48, .tuple #[.agg #[vXs1, vYs1, .int .i64 ss1.val, .int .i64 ss1.den], .int .i64 es1]), (45, .tuple #[.agg #[vXs1, vYs1, .int .i64 ss1.val, .int .i64 ss1.den], .int .i64 es1]), (49, .agg #[vXs1, vYs1, .int .i64 ss1.val, .int .i64 ss1.den]), (50, .int .i64 es1), (7, .pointer (some ⟨g3, 0, none⟩)), (8, .int .i64 es1), (51, .int .i64 es1), (52, B (es1 ≠ 0)), (53, .pointer (some ⟨g2, 0, none⟩)), (54, .int .u8 by0), (55, .int .i64 by0), (56, .pointer (some ⟨g1, 1, none⟩)), (57, vA), (58, .int .i64 p.m), (59, .int .i64 (Int.tmod by0 p.m)), (9, .int .i64 (Int.tmod by0 p.m)), (60, .agg #[vc, vA, vb]), (10, .pointer (some ⟨g4, 0, none⟩)), (62, .pointer (some ⟨g1, 1, none⟩)), (63, vA), (65, .pointer (some ⟨g1, 1, none⟩)), (66, vA), (67, .int .i64 (Int.tmod by0 p.m)), (68, .pointer (some (cad vA (Int.tmod by0 p.m)))), (69, (vq (Int.tmod by0 p.m))), (73, .pointer (some ⟨g1, 2, none⟩)), (74, vb), (76, .pointer (some ⟨g1, 2, none⟩)), (77, vb), (78, .int .i64 (Int.tmod by0 p.m)), (79, .pointer (some (cad vb (Int.tmod by0 p.m)))), (80, .int .i64 (p.b (Int.tmod by0 p.m))), (81, v1)] ∧ Sat w0 w [.blk g1 [vc, vA, vb], .blk g2 [.int .u8 by0, .int .u8 by1], .own vXs1 1 3 ss1.n (ints ss1.X), .own vYs1 1 3 ss1.m (ints ss1.Y), .blk g3 [vXs1, vYs1, .int .i64 ss1.val, .int .i64 ss1.den], .blk g4 [vc, vA, vb], .own v1 1 3 1 (ints (fun _ => (p.b (Int.tmod by0 p.m))))]) #[false, true, true, false, true, true, true, true, true, false, false, false, true, true, false, true, true, true, true, true, true, false, false, false, false, false] 11 ?_ ?_
  ·
   rintro M w ⟨v1, hv1, rfl, hS⟩
   refine zdfk (r := [0, 9, 11]) ((zdn1 ?_ (zdn1 ?_ (zdn1 ?_ zdn0))))
   ·
    refine zka (xl0 (c := ints (fun _ => 0)) sl_23 hS) ?_; rintro v2 w ⟨hS, hv2⟩
    replace hS := hS.n8
    refine ⟨⟨fun _ => hS.pk [0, 1, 4, 5], hS.pk [0, 1, 4]⟩, ?_⟩
    exact zmus hMm25 ⟨v2, v1, hv2, hv1, rfl, hS.pk [0, 1, 2, 3, 4, 5, 7, 6]⟩
   ·
    refine zka (xli (n := 1) (len := 1) (pv := [(0, (vq (Int.tmod by0 p.m)))]) (cs := [(vq (Int.tmod by0 p.m))]) (c := (fun _ => (vq (Int.tmod by0 p.m)))) sl_23 el_22 hS (hf := by have hz := (hL.A.p (Int.tmod by0 p.m) (by omega) (by omega)).slh; revert hz; generalize (vq (Int.tmod by0 p.m)) = z; rintro ⟨_, _, _, _, rfl, _⟩; show _ = _; kernel_rfl)) ?_; rintro v2 w ⟨hS, hv2⟩
    replace hS := hS.n8
    refine ⟨⟨fun _ => hS.pk [0, 1, 4, 5], hS.pk [0, 1, 4]⟩, ?_⟩
    exact zmus hMm29 ⟨v2, v1, hv2, hv1, rfl, hS.pk [0, 1, 2, 3, 4, 5, 7, 6]⟩
   refine zka (xl0 (c := ints (fun _ => 0)) sl_22 hS) ?_; rintro v2 w ⟨hS, hv2⟩
   replace hS := hS.n8
   refine ⟨⟨fun _ => hS.pk [0, 1, 4, 5], hS.pk [0, 1, 4]⟩, ?_⟩
   exact zmus hMm31 ⟨v2, v1, hv2, hv1, rfl, hS.pk [0, 1, 2, 3, 4, 5, 7, 6]⟩
  intro hMm32
  refine zmem (fun M w => M = [(0, .agg #[vc, vA, vb]), (1, vr), (2, .agg #[.int .u8 by0, .int .u8 by1]), (3, .pointer (some ⟨g1, 0, none⟩)), (5, .pointer (some ⟨g2, 0, none⟩)), (6, .bool false), (20, .bool true), (21, .bool false), (22, .bool false), (23, .agg #[vc, vA, vb]), (24, B (FewP p)), (25, B (¬ (FewP p))), (26, B (¬ (FewP p))), (27, .bool false), (28, .agg #[vc, vA, vb]), (29, B (LOk p)), (30, B (¬ (LOk p))), (31, B (¬ (LOk p))), (32, .bool false), (33, .pointer (some ⟨g1, 1, none⟩)), (34, vA), (35, .int .i64 p.m), (36, B (p.m = 0)), (37, B (p.m = 0)), (38, .bool false), (39, .pointer (some ⟨g1, 1, none⟩)), (40, vA), (41, .int .i64 p.m), (42, B (7 < p.m)), (43, B (7 < p.m)), (46, .agg #[vc, vA, vb]), (47, .agg #[vc, vA, vb]), (48, .tuple #[.agg #[vXs1, vYs1, .int .i64 ss1.val, .int .i64 ss1.den], .int .i64 es1]), (45, .tuple #[.agg #[vXs1, vYs1, .int .i64 ss1.val, .int .i64 ss1.den], .int .i64 es1]), (49, .agg #[vXs1, vYs1, .int .i64 ss1.val, .int .i64 ss1.den]), (50, .int .i64 es1), (7, .pointer (some ⟨g3, 0, none⟩)), (8, .int .i64 es1), (51, .int .i64 es1), (52, B (es1 ≠ 0)), (53, .pointer (some ⟨g2, 0, none⟩)), (54, .int .u8 by0), (55, .int .i64 by0), (56, .pointer (some ⟨g1, 1, none⟩)), (57, vA), (58, .int .i64 p.m), (59, .int .i64 (Int.tmod by0 p.m)), (9, .int .i64 (Int.tmod by0 p.m)), (60, .agg #[vc, vA, vb]), (10, .pointer (some ⟨g4, 0, none⟩)), (62, .pointer (some ⟨g1, 1, none⟩)), (63, vA), (65, .pointer (some ⟨g1, 1, none⟩)), (66, vA), (67, .int .i64 (Int.tmod by0 p.m)), (68, .pointer (some (cad vA (Int.tmod by0 p.m)))), (69, (vq (Int.tmod by0 p.m))), (73, .pointer (some ⟨g1, 2, none⟩)), (74, vb), (76, .pointer (some ⟨g1, 2, none⟩)), (77, vb), (78, .int .i64 (Int.tmod by0 p.m)), (79, .pointer (some (cad vb (Int.tmod by0 p.m)))), (80, .int .i64 (p.b (Int.tmod by0 p.m)))] ∧ Sat w0 w [.blk g1 [vc, vA, vb], .blk g2 [.int .u8 by0, .int .u8 by1], .own vXs1 1 3 ss1.n (ints ss1.X), .own vYs1 1 3 ss1.m (ints ss1.Y), .blk g3 [vXs1, vYs1, .int .i64 ss1.val, .int .i64 ss1.den], .blk g4 [vc, vA, vb]]) #[false, true, true, false, true, true, true, true, true, false, false, false, true, true, false, true, true, true, true, true, false, false, false, false, false, false] 12 ?_ ?_
  ·
   rintro M w ⟨rfl, hS⟩
   refine zdfk (r := [0, 9, 11, 20]) ((zdn1 ?_ (zdn1 ?_ (zdn1 ?_ (zdn1 ?_ zdn0)))))
   ·
    refine zka (xl0 (c := ints (fun _ => 0)) sl_23 hS) ?_; rintro v1 w ⟨hS, hv1⟩
    replace hS := hS.n7
    refine ⟨⟨fun _ => hS.pk [0, 1, 4, 5], hS.pk [0, 1, 4]⟩, ?_⟩
    exact zmus hMm2 ⟨v1, hv1, rfl, hS⟩
   ·
    refine zka (xli (n := 1) (len := 1) (pv := [(0, (vq (Int.tmod by0 p.m)))]) (cs := [(vq (Int.tmod by0 p.m))]) (c := (fun _ => (vq (Int.tmod by0 p.m)))) sl_23 el_22 hS (hf := by have hz := (hL.A.p (Int.tmod by0 p.m) (by omega) (by omega)).slh; revert hz; generalize (vq (Int.tmod by0 p.m)) = z; rintro ⟨_, _, _, _, rfl, _⟩; show _ = _; kernel_rfl)) ?_; rintro v1 w ⟨hS, hv1⟩
    replace hS := hS.n7
    refine ⟨⟨fun _ => hS.pk [0, 1, 4, 5], hS.pk [0, 1, 4]⟩, ?_⟩
    exact zmus hMm26 ⟨v1, hv1, rfl, hS⟩
   ·
    refine zka (xl0 (c := ints (fun _ => 0)) sl_22 hS) ?_; rintro v1 w ⟨hS, hv1⟩
    replace hS := hS.n7
    refine ⟨⟨fun _ => hS.pk [0, 1, 4, 5], hS.pk [0, 1, 4]⟩, ?_⟩
    exact zmus hMm30 ⟨v1, hv1, rfl, hS⟩
   refine zka (xli (n := 1) (len := 1) (pv := [(0, .int .i64 (p.b (Int.tmod by0 p.m)))]) (cs := [.int .i64 (p.b (Int.tmod by0 p.m))]) (c := ints (fun _ => (p.b (Int.tmod by0 p.m)))) sl_22 el_3 hS) ?_; rintro v1 w ⟨hS, hv1⟩
   replace hS := hS.n7
   refine ⟨⟨fun _ => hS.pk [0, 1, 4, 5], hS.pk [0, 1, 4]⟩, ?_⟩
   exact zmus hMm32 ⟨v1, hv1, rfl, hS⟩
  intro hMm1
  refine zdv 1 (fun _ => (xfb 1 fd_25_1)) ?_
  refine zdla 2 (fun w hS => (xlb 0 pl_23 hS)) ?_
  refine zdv 4 (fun _ => (xfb 1 fd_25_1)) ?_
  refine zdla 5 (fun w hS => (xlb 0 pl_23 hS)) ?_
  refine zdv 6 (fun _ => xmv) ?_
  refine zdv 7 (fun _ => (xix (kk := (Int.tmod by0 p.m)) sl_23 hL.A.row.slh)) ?_
  refine zdla 8 (fun w hS => (xlr (u := (vq (Int.tmod by0 p.m))) pl_22 (hL.A.row.below hS.below))) ?_
  refine zdv 12 (fun _ => (xfb 2 fd_25_2)) ?_
  refine zdla 13 (fun w hS => (xlb 0 pl_22 hS)) ?_
  refine zdv 15 (fun _ => (xfb 2 fd_25_2)) ?_
  refine zdla 16 (fun w hS => (xlb 0 pl_22 hS)) ?_
  refine zdv 17 (fun _ => xmv) ?_
  refine zdv 18 (fun _ => (xix (kk := (Int.tmod by0 p.m)) sl_22 hL.b.slh)) ?_
  refine zdla 19 (fun w hS => (xlr (u := .int .i64 (p.b (Int.tmod by0 p.m))) pl_3 (hL.b.below hS.below))) ?_
  exact zmus hMm1 ⟨rfl, hS⟩

end Go.Proofs.Ytkcmbndnhcofpaa
