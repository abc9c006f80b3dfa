/- The walk of boxes. -/
import Derived.Test.YtmlfpniaknmmfaaGv
import Derived.Test.YtmlfpniaknmmfaaZ1
namespace Go.Proofs.Ytmlfpniaknmmfaa
open Go Go.RowKit Go.Proofs.Gw
set_option linter.unusedVariables false

theorem cl_46 : calledT Try.prog 46 = true := by kernel_rfl
theorem el_101 : elemT Try.prog 101 = some (.agg #[.int .i64 0, .int .i64 0, .int .i64 0, .int .i64 0], 4, 32) := by kernel_rfl
theorem fd_101_0 : fieldT Try.prog 101 0 = some 0 := by kernel_rfl
theorem fd_101_1 : fieldT Try.prog 101 1 = some 1 := by kernel_rfl
theorem fd_101_2 : fieldT Try.prog 101 2 = some 2 := by kernel_rfl
theorem fd_101_3 : fieldT Try.prog 101 3 = some 3 := by kernel_rfl
theorem sl_97 : sliceT Try.prog 97 = some (101, 4) := by kernel_rfl
theorem st_101 : structT Try.prog 101 = some 4 := by kernel_rfl
theorem bx_leafI {t : Tree} {w h kf i : Int} (h0 : 0 ≤ i) (hl : t.leaf i) : t.bx w h kf (i + 1).toNat = t.bx w h kf i.toNat := by
  obtain ⟨k, rfl⟩ := Int.eq_ofNat_of_zero_le h0
  rw [show ((k : Int) + 1).toNat = k + 1 by omega, Int.toNat_natCast]; exact bx_leaf hl
theorem bx_verI {t : Tree} {w h kf i : Int} {W H : Int → Int} (hW : ∀ j, 0 ≤ j → j < t.n → W j = (t.bx w h kf i.toNat).1 j) (hH : ∀ j, 0 ≤ j → j < t.n → H j = (t.bx w h kf i.toNat).2 j) (h0 : 0 ≤ i) (h1 : i < t.n) (hl : ¬ t.leaf i) (hv : t.V i) :
    (∀ j, 0 ≤ j → j < t.n → upd (upd W (t.F i) (t.A i)) (t.S i) (max 0 (W i - t.A i - kf)) j = (t.bx w h kf (i + 1).toNat).1 j) ∧ ∀ j, 0 ≤ j → j < t.n → upd (upd H (t.F i) (H i)) (t.S i) (H i) j = (t.bx w h kf (i + 1).toNat).2 j := by
  obtain ⟨k, rfl⟩ := Int.eq_ofNat_of_zero_le h0
  rw [show ((k : Int) + 1).toNat = k + 1 by omega]
  rw [Int.toNat_natCast] at hW hH
  rw [bx_ver hl hv]
  dsimp only
  refine ⟨fun j j0 j1 => ?_, fun j j0 j1 => ?_⟩
  · rw [← hW k h0 h1]; unfold upd; split
    · rfl
    · split
      · rfl
      · exact hW j j0 j1
  · rw [← hH k h0 h1]; unfold upd; split
    · rfl
    · split
      · rfl
      · exact hH j j0 j1
theorem bx_horI {t : Tree} {w h kf i : Int} {W H : Int → Int} (hW : ∀ j, 0 ≤ j → j < t.n → W j = (t.bx w h kf i.toNat).1 j) (hH : ∀ j, 0 ≤ j → j < t.n → H j = (t.bx w h kf i.toNat).2 j) (h0 : 0 ≤ i) (h1 : i < t.n) (hl : ¬ t.leaf i) (hv : ¬ t.V i) :
    (∀ j, 0 ≤ j → j < t.n → upd (upd W (t.F i) (W i)) (t.S i) (W i) j = (t.bx w h kf (i + 1).toNat).1 j) ∧ ∀ j, 0 ≤ j → j < t.n → upd (upd H (t.F i) (t.A i)) (t.S i) (max 0 (H i - t.A i - kf)) j = (t.bx w h kf (i + 1).toNat).2 j := by
  obtain ⟨k, rfl⟩ := Int.eq_ofNat_of_zero_le h0
  rw [show ((k : Int) + 1).toNat = k + 1 by omega]
  rw [Int.toNat_natCast] at hW hH
  rw [bx_hor hl hv]
  dsimp only
  refine ⟨fun j j0 j1 => ?_, fun j j0 j1 => ?_⟩
  · rw [← hW k h0 h1]; unfold upd; split
    · rfl
    · split
      · rfl
      · exact hW j j0 j1
  · rw [← hH k h0 h1]; unfold upd; split
    · rfl
    · split
      · rfl
      · exact hH j j0 j1
theorem upd2_rng {f : Int → Int} {F S x y n B C : Int} (h : ∀ j, 0 ≤ j → j < n → 0 ≤ f j ∧ f j ≤ B) (hB : B ≤ C) (hx : 0 ≤ x ∧ x ≤ C) (hy : 0 ≤ y ∧ y ≤ C) : ∀ j, 0 ≤ j → j < n → 0 ≤ upd (upd f F x) S y j ∧ upd (upd f F x) S y j ≤ C := fun j j0 j1 => by
  have := h j j0 j1
  unfold upd; split
  · exact hy
  · split
    · exact hx
    · omega

set_option maxHeartbeats 4000000 in
set_option maxRecDepth 20000 in
theorem c_boxes {vT : Value} {t : Tree} {s : Sht} (w0 : World) (hT : TrAt w0 vT t) (hsh : t.Shaped) (hsb : 1 ≤ s.w ∧ s.w ≤ 2000 ∧ 1 ≤ s.h ∧ s.h ≤ 2000 ∧ 0 ≤ s.kf ∧ s.kf ≤ 50) :
    Calls Try.prog 41 [vT, .int .i64 s.w, .int .i64 s.h, .int .i64 s.kf].toArray w0 fun e w => ∃ v, e = .returned v ∧ ∃ r n X Y W H ok, v = .tuple #[r, B ok] ∧ (ok ↔ t.Boxed s.w s.h s.kf) ∧ (ok → n = t.n ∧ ∀ j, 0 ≤ j → j < t.n → W j = (t.bx s.w s.h s.kf t.n.toNat).1 j ∧ H j = (t.bx s.w s.h s.kf t.n.toNat).2 j) ∧ Slh r n ∧ Sat w0 w [.own r 4 101 n (bcells X Y W H)] := by
  have hn0 := hT.row.slh.n0; have hn1 := hT.row.slh.n1
  have ht1 := hsh.n1; have ht2 := hsh.n2
  refine zenG Try.func41 Try.ntmps41 fun w hS => ?_
  refine zsr ?_
  refine zs2 ?_
  refine zlz ?_
  refine zlv xmv ?_
  refine zlv (xln sl_54 hT.row.slh) ?_
  refine zla (xmkz (z := .int .i64 0) sl_97 el_101 hS zero4) ?_; rintro v1 w ⟨hS, hv1⟩
  replace hS := hS.n1
  replace hS := hS.recont 0 rfl (d := bcells (fun _ => 0) (fun _ => 0) (fun _ => 0) (fun _ => 0)) (fun k _ _ => (bcells_zero k).symm)
  replace hS := hS.n1
  refine zlv xas ?_
  refine zlz ?_
  refine zs3 ?_
  refine zlv (xany (v := .agg #[.int .i64 0, .int .i64 0, .int .i64 s.w, .int .i64 s.h])) ?_
  refine zlv (xix (kk := 0) sl_97 hv1) ?_
  refine zle (xso4 0 st_101 hS (bcells_set (k := 0) (i := 0) _ _ _ _ _ _ _ _ (by omega))) ?_; clear hS; rintro w hS
  replace hS := hS.n1
  refine zlt <| zsq <| zsr ?_
  refine zlv xas ?_
  refine zlt <| zbk <| zlp (fun mm M w => ∃ (X : Int → Int) (Y : Int → Int) (W : Int → Int) (H : Int → Int) (i : Int), mm = ((t.n - i).toNat) ∧ (0 ≤ i) ∧ (i ≤ t.n) ∧ (∀ j, 0 ≤ j → j < t.n → W j = (t.bx s.w s.h s.kf i.toNat).1 j) ∧ (∀ j, 0 ≤ j → j < t.n → H j = (t.bx s.w s.h s.kf i.toNat).2 j) ∧ (∀ k, 0 ≤ k → k < i → t.cutok s.w s.h s.kf k) ∧ (∀ j, 0 ≤ j → j < t.n → 0 ≤ X j ∧ X j ≤ 2000 * i) ∧ (∀ j, 0 ≤ j → j < t.n → 0 ≤ Y j ∧ Y j ≤ 2000 * i) ∧ (∀ j, 0 ≤ j → j < t.n → 0 ≤ W j ∧ W j ≤ 2000) ∧ (∀ j, 0 ≤ j → j < t.n → 0 ≤ H j ∧ H j ≤ 2000) ∧ M = [(0, vT), (3, .int .i64 s.kf), (10, v1), (11, .int .i64 i)] ∧ Sat w0 w [.own v1 4 101 t.n (bcells X Y W H)]) ⟨(upd (fun _ => 0) 0 0), (upd (fun _ => 0) 0 0), (upd (fun _ => 0) 0 s.w), (upd (fun _ => 0) 0 s.h), 0, rfl, (by omega), (by omega), ?_, ?_, ?_, ?_, ?_, ?_, ?_, rfl, hS⟩ ?_
  ·
   intro j _ _; rfl
  ·
   intro j _ _; rfl
  ·
   intro k k0 k1; omega
  ·
   intro j _ _; unfold upd; split <;> (try dsimp only) <;> omega
  ·
   intro j _ _; unfold upd; split <;> (try dsimp only) <;> omega
  ·
   intro j _ _; unfold upd; split <;> (try dsimp only) <;> omega
  ·
   intro j _ _; unfold upd; split <;> (try dsimp only) <;> omega
  clear hS w
  rintro mm M w ⟨X, Y, W, H, i, rfl, h0, h1, hW, hH, hok, hXb, hYb, hWb, hHb, rfl, hS⟩
  refine zsq <| zsr ?_
  refine zs2 ?_
  refine zlv (xln sl_54 hT.row.slh) ?_
  refine zlv xlss ?_
  refine zlt ?_
  refine zcif ?_ ?_ <;> intro hc
  ·
   refine zsk <| ztn <| zsq <| zbk <| zsq <| ?_
   refine zgcut (fun M w => ∃ (g1 : Nat) (g2 : Nat), M = [(0, vT), (3, .int .i64 s.kf), (10, v1), (11, .int .i64 i), (22, .int .i64 i), (23, vT), (24, .int .i64 t.n), (25, B (i < t.n)), (28, vT), (29, .int .i64 i), (30, .pointer (some (cad vT (5 * i)))), (31, .agg #[B ((t.V i)), .int .i64 (t.A i), .int .i64 (t.F i), .int .i64 (t.S i), .int .i64 (t.K i)]), (32, v1), (33, .int .i64 i), (34, .pointer (some (cad v1 (4 * i)))), (35, .agg #[.int .i64 (X i), .int .i64 (Y i), .int .i64 (W i), .int .i64 (H i)]), (12, .pointer (some ⟨g1, 0, none⟩)), (13, .pointer (some ⟨g2, 0, none⟩))] ∧ Sat w0 w [.own v1 4 101 t.n (bcells X Y W H), .blk g1 [B ((t.V i)), .int .i64 (t.A i), .int .i64 (t.F i), .int .i64 (t.S i), .int .i64 (t.K i)], .blk g2 [.int .i64 (X i), .int .i64 (Y i), .int .i64 (W i), .int .i64 (H i)]]) ?_ ?_
   ·
    refine zdst [0] [0] 10 mx_ hS ?_; clear hS; intro w hS
    refine zdv 0 (fun _ => xmv) ?_
    refine zdv 1 (fun _ => xmv) ?_
    refine zdv 2 (fun _ => (xix (kk := 5 * i) sl_54 hT.row.slh)) ?_
    refine zdla 3 (fun w hS => (xlw (cs := [B ((t.V i)), .int .i64 (t.A i), .int .i64 (t.F i), .int .i64 (t.S i), .int .i64 (t.K i)]) st_84 (hT.row.below hS.below) (ncells_at (k := 5 * i) (i := i) t.V t.A t.F t.S t.K (by omega)))) ?_
    have hbv := hT.bA i
    have hbv := hT.bF i
    have hbv := hT.bS i
    have hbv := hT.bK i
    refine zdv 4 (fun _ => xmv) ?_
    refine zdv 5 (fun _ => xmv) ?_
    refine zdv 6 (fun _ => (xix (kk := 4 * i) sl_97 hv1)) ?_
    refine zdla 7 (fun w hS => (xlw (cs := [.int .i64 (X i), .int .i64 (Y i), .int .i64 (W i), .int .i64 (H i)]) st_101 (hS.rowN 0 rfl) (bcells_at (k := 4 * i) (i := i) X Y W H (by omega)))) ?_
    refine zdfk (r := [8, 9]) ((zdn1 ?_ (zdn1 ?_ zdn0)))
    ·
     refine zka (xal (cs := [_, _, _, _, _]) el_84 hS) ?_; rintro _ w ⟨g1, rfl, hS⟩
     replace hS := hS.n2
     refine ⟨⟨fun _ => hS.pk [0], hS.pk [0]⟩, ?_⟩
     refine zda 9 (xal (cs := [_, _, _, _]) el_101 hS) ?_; rintro _ w ⟨g2, rfl, hS⟩
     replace hS := hS.n3
     refine ⟨⟨fun _ => hS.pk [0], hS.pk [0]⟩, ?_⟩
     refine zde 10 (xsw 1 st_84 hS (hd := (ones_cons (B_one _) (ones_cons rfl (ones_cons rfl (ones_cons rfl (ones_cons rfl ones_nil))))))) ?_; clear hS; rintro w hS
     replace hS := hS.n3
     refine ⟨⟨fun h => absurd h (by decide), hS.pk [0]⟩, ?_⟩
     refine zde 11 (xsw 2 st_101 hS) ?_; clear hS; rintro w hS
     replace hS := hS.n3
     refine ⟨⟨fun h => absurd h (by decide), hS.pk [0]⟩, ?_⟩
     refine zdd <| zgj ⟨g1, g2, rfl, hS⟩
    refine zka (xal (cs := [_, _, _, _]) el_101 hS) ?_; rintro _ w ⟨g1, rfl, hS⟩
    replace hS := hS.n2
    refine ⟨⟨fun _ => hS.pk [0], hS.pk [0]⟩, ?_⟩
    refine zda 8 (xal (cs := [_, _, _, _, _]) el_84 hS) ?_; rintro _ w ⟨g2, rfl, hS⟩
    replace hS := hS.n3
    refine ⟨⟨fun _ => hS.pk [0], hS.pk [0]⟩, ?_⟩
    refine zde 10 (xsw 2 st_84 hS (hd := (ones_cons (B_one _) (ones_cons rfl (ones_cons rfl (ones_cons rfl (ones_cons rfl ones_nil))))))) ?_; clear hS; rintro w hS
    replace hS := hS.n3
    refine ⟨⟨fun h => absurd h (by decide), hS.pk [0]⟩, ?_⟩
    refine zde 11 (xsw 1 st_101 hS) ?_; clear hS; rintro w hS
    replace hS := hS.n3
    refine ⟨⟨fun h => absurd h (by decide), hS.pk [0]⟩, ?_⟩
    refine zdd <| zgj ⟨g2, g1, rfl, hS.pk [0, 2, 1]⟩
   clear hS w; rintro M w ⟨g1, g2, rfl, hS⟩
   refine ztn <| zsq <| zsr ?_
   refine zlv (xls 1 st_84 hS) ?_
   have hXi := hXb i h0 (by omega); have hYi := hYb i h0 (by omega); have hWi := hWb i h0 (by omega); have hHi := hHb i h0 (by omega)
   refine zlc (xc0 cl_46) (c_whole37 (bv := (t.V i)) (na := (t.A i)) (nf := (t.F i)) (ns := (t.S i)) (nk := (t.K i)) w) ?_; rintro _ w ⟨rfl, hS'⟩
   replace hS := hS.cmp hS'; clear hS'
   refine zlv xnot ?_
   refine zlt ?_
   refine zcif ?_ ?_ <;> intro hc
   ·
    refine zsr ?_
    refine zs2 ?_
    refine zlt <| zrt <| ztr <| zbr <| ztr <| ztr <| zbr <| ztr <| zf2 ⟨_, rfl, ?_⟩
    refine ⟨_, 0, fun _ => 0, fun _ => 0, fun _ => 0, fun _ => 0, False, by rw [B_false not_false], ⟨False.elim, fun hb => ?_⟩, False.elim, slh_nil, (hS.sub (.cons _ (.cons _ (.cons _ .slnil)))).addnil 4 101 (bcells (fun _ => 0) (fun _ => 0) (fun _ => 0) (fun _ => 0))⟩
    have h9 := hb i h0 (by omega)
    have hW9 := hW i h0 (by omega); have hH9 := hH i h0 (by omega)
    unfold Tree.cutok Tree.whole Tree.leaf at h9
    rw [← hW9, ← hH9] at h9
    first
    | exact absurd h9.1 ‹_›
    | (have h8 := h9.2 (by assumption); have h7 := h8.2.1; have h6 := h8.2.2; first | omega | (have h5 := h7 (by assumption); omega) | (have h5 := h6 (by assumption); omega))
   refine zsk <| ztn <| zsq <| zsr ?_
   refine zlv (xls 1 st_84 hS) ?_
   refine zlc (xc0 cl_42) (c_leaf37 (bv := (t.V i)) (na := (t.A i)) (nf := (t.F i)) (ns := (t.S i)) (nk := (t.K i)) w) ?_; rintro _ w ⟨rfl, hS'⟩
   replace hS := hS.cmp hS'; clear hS'
   refine zlt ?_
   refine zcif ?_ ?_ <;> intro hc
   ·
    refine zxt <| ztx <| zbh <| ztn <| zrg ?_
    refine zlv xmv ?_
    refine zlv (xadd (r := i + 1)) ?_
    refine zlv xas ?_
    refine zln <| zlq ⟨X, Y, W, H, i + 1, rfl, (by omega), (by omega), ?_, ?_, ?_, ?_, ?_, ?_, ?_, rfl, hS.pk [0]⟩
    ·
     first
     | (intro j j0 j1; rw [bx_leafI h0 (show t.leaf i from ‹t.F i = -1 ∧ t.S i = -1›)]; exact hW j j0 j1)
     | exact (bx_verI hW hH h0 (by omega) (show ¬ t.leaf i from ‹¬ (t.F i = -1 ∧ t.S i = -1)›) (by first | assumption | exact Classical.not_not.1 ‹_›)).1
     | exact (bx_horI hW hH h0 (by omega) (show ¬ t.leaf i from ‹¬ (t.F i = -1 ∧ t.S i = -1)›) ‹¬ t.V i›).1
    ·
     first
     | (intro j j0 j1; rw [bx_leafI h0 (show t.leaf i from ‹t.F i = -1 ∧ t.S i = -1›)]; exact hH j j0 j1)
     | exact (bx_verI hW hH h0 (by omega) (show ¬ t.leaf i from ‹¬ (t.F i = -1 ∧ t.S i = -1)›) (by first | assumption | exact Classical.not_not.1 ‹_›)).2
     | exact (bx_horI hW hH h0 (by omega) (show ¬ t.leaf i from ‹¬ (t.F i = -1 ∧ t.S i = -1)›) ‹¬ t.V i›).2
    ·
     intro k k0 k1; rcases Int.lt_or_eq_of_le (show k ≤ i by omega) with hk | hk
     · exact hok k k0 hk
     · rw [hk]; unfold Tree.cutok; rw [← hW i h0 (by omega), ← hH i h0 (by omega)]
       refine ⟨(by first | assumption | exact Classical.not_not.1 ‹_›), fun hl9 => ?_⟩
       first | exact absurd (show t.leaf i from ‹t.F i = -1 ∧ t.S i = -1›) hl9 | exact ⟨by omega, fun hv9 => by first | omega | exact absurd hv9 ‹_›, fun hv9 => by first | omega | exact absurd ‹t.V i› hv9⟩
    ·
     first | (intro j j0 j1; have := hXb j j0 j1; omega) | exact upd2_rng hXb (by omega) (by omega) (by omega)
    ·
     first | (intro j j0 j1; have := hYb j j0 j1; omega) | exact upd2_rng hYb (by omega) (by omega) (by omega)
    ·
     first | exact hWb | exact upd2_rng hWb (by omega) (by omega) (by omega)
    ·
     first | exact hHb | exact upd2_rng hHb (by omega) (by omega) (by omega)
   refine zsk <| ztn <| zsq <| zsr ?_
   refine zlv (xfb 1 fd_84_1) ?_
   have hkd := hsh.kd i h0 (by omega) (show ¬ t.leaf i from ‹¬ (t.F i = -1 ∧ t.S i = -1)›)
   refine zlv (xlb 1 pl_3 hS) ?_
   refine zs2 ?_
   refine zlb 44 ?_ ?_ <;> intro hc
   ·
    iterate 9 refine zlo ?_
    refine zs2 ?_
    iterate 10 refine zlo ?_
    refine zlv xpt ?_
    refine zlt <| zct <| zsr ?_
    refine zs2 ?_
    refine zlt <| zrt <| ztr <| zbr <| ztr <| ztr <| zbr <| ztr <| zf2 ⟨_, rfl, ?_⟩
    refine ⟨_, 0, fun _ => 0, fun _ => 0, fun _ => 0, fun _ => 0, False, by rw [B_false not_false], ⟨False.elim, fun hb => ?_⟩, False.elim, slh_nil, (hS.sub (.cons _ (.cons _ (.cons _ .slnil)))).addnil 4 101 (bcells (fun _ => 0) (fun _ => 0) (fun _ => 0) (fun _ => 0))⟩
    have h9 := hb i h0 (by omega)
    have hW9 := hW i h0 (by omega); have hH9 := hH i h0 (by omega)
    unfold Tree.cutok Tree.whole Tree.leaf at h9
    rw [← hW9, ← hH9] at h9
    first
    | exact absurd h9.1 ‹_›
    | (have h8 := h9.2 (by assumption); have h7 := h8.2.1; have h6 := h8.2.2; first | omega | (have h5 := h7 (by assumption); omega) | (have h5 := h6 (by assumption); omega))
   refine zlv (xfb 0 fd_84_0) ?_
   refine zlv (xlb 1 pl_4 hS) ?_
   refine zlv xmv ?_
   refine zlb 47 ?_ ?_ <;> intro hc
   ·
    refine zlv (xfb 1 fd_84_1) ?_
    refine zlv (xlb 1 pl_3 hS) ?_
    refine zlv (xfb 2 fd_101_2) ?_
    refine zlv (xlb 2 pl_3 hS) ?_
    refine zs4 ?_
    refine zlb 55 ?_ ?_ <;> intro hc
    ·
     iterate 10 refine zlo ?_
     refine zlv xpt ?_
     refine zlt <| zct <| zsr ?_
     refine zs2 ?_
     refine zlt <| zrt <| ztr <| zbr <| ztr <| ztr <| zbr <| ztr <| zf2 ⟨_, rfl, ?_⟩
     refine ⟨_, 0, fun _ => 0, fun _ => 0, fun _ => 0, fun _ => 0, False, by rw [B_false not_false], ⟨False.elim, fun hb => ?_⟩, False.elim, slh_nil, (hS.sub (.cons _ (.cons _ (.cons _ .slnil)))).addnil 4 101 (bcells (fun _ => 0) (fun _ => 0) (fun _ => 0) (fun _ => 0))⟩
     have h9 := hb i h0 (by omega)
     have hW9 := hW i h0 (by omega); have hH9 := hH i h0 (by omega)
     unfold Tree.cutok Tree.whole Tree.leaf at h9
     rw [← hW9, ← hH9] at h9
     first
     | exact absurd h9.1 ‹_›
     | (have h8 := h9.2 (by assumption); have h7 := h8.2.1; have h6 := h8.2.2; first | omega | (have h5 := h7 (by assumption); omega) | (have h5 := h6 (by assumption); omega))
    refine zlv (xfb 0 fd_84_0) ?_
    refine zlv (xlb 1 pl_4 hS) ?_
    refine zs2 ?_
    refine zlb 59 ?_ ?_ <;> intro hc
    ·
     refine zlv (xfb 1 fd_84_1) ?_
     refine zlv (xlb 1 pl_3 hS) ?_
     refine zlv (xfb 3 fd_101_3) ?_
     refine zlv (xlb 2 pl_3 hS) ?_
     refine zs3 ?_
     refine zlt ?_
     refine zcif ?_ ?_ <;> intro hc
     ·
      refine zsr ?_
      refine zs2 ?_
      refine zlt <| zrt <| ztr <| zbr <| ztr <| ztr <| zbr <| ztr <| zf2 ⟨_, rfl, ?_⟩
      refine ⟨_, 0, fun _ => 0, fun _ => 0, fun _ => 0, fun _ => 0, False, by rw [B_false not_false], ⟨False.elim, fun hb => ?_⟩, False.elim, slh_nil, (hS.sub (.cons _ (.cons _ (.cons _ .slnil)))).addnil 4 101 (bcells (fun _ => 0) (fun _ => 0) (fun _ => 0) (fun _ => 0))⟩
      have h9 := hb i h0 (by omega)
      have hW9 := hW i h0 (by omega); have hH9 := hH i h0 (by omega)
      unfold Tree.cutok Tree.whole Tree.leaf at h9
      rw [← hW9, ← hH9] at h9
      first
      | exact absurd h9.1 ‹_›
      | (have h8 := h9.2 (by assumption); have h7 := h8.2.1; have h6 := h8.2.2; first | omega | (have h5 := h7 (by assumption); omega) | (have h5 := h6 (by assumption); omega))
     refine zsk <| ztn <| zsr ?_
     refine zlv (xfb 0 fd_84_0) ?_
     refine zlv (xlb 1 pl_4 hS) ?_
     refine zlt ?_
     refine zcif ?_ ?_ <;> intro hc
     ·
      refine zsr ?_
      refine zlv xmv ?_
      refine zlv (xfb 2 fd_84_2) ?_
      have hAW : t.A i < W i := by first | omega | exact absurd ‹t.V i› ‹¬ t.V i› | exact absurd ‹¬ t.V i› ‹¬ ¬ t.V i›
      refine zlv (xlb 1 pl_3 hS) ?_
      refine zlv (xfb 0 fd_101_0) ?_
      refine zlv (xlb 2 pl_3 hS) ?_
      refine zlv (xfb 1 fd_101_1) ?_
      refine zlv (xlb 2 pl_3 hS) ?_
      refine zlv (xfb 1 fd_84_1) ?_
      refine zlv (xlb 1 pl_3 hS) ?_
      refine zlv (xfb 3 fd_101_3) ?_
      refine zlv (xlb 2 pl_3 hS) ?_
      refine zlv (xany (v := .agg #[.int .i64 (X i), .int .i64 (Y i), .int .i64 (t.A i), .int .i64 (H i)])) ?_
      refine zlv (xix (kk := 4 * (t.F i)) sl_97 hv1) ?_
      refine zle (xso4 0 st_101 hS (bcells_set (k := 4 * (t.F i)) (i := (t.F i)) _ _ _ _ _ _ _ _ (by omega))) ?_; clear hS; rintro w hS
      replace hS := hS.n3
      refine zlt <| zrg ?_
      refine zlv xmv ?_
      refine zlv (xfb 3 fd_84_3) ?_
      refine zlv (xlb 1 pl_3 hS) ?_
      refine zlv (xfb 0 fd_101_0) ?_
      refine zlv (xlb 2 pl_3 hS) ?_
      refine zlv (xfb 2 fd_101_2) ?_
      refine zlv (xlb 2 pl_3 hS) ?_
      refine zlv (xfb 1 fd_84_1) ?_
      refine zlv (xlb 1 pl_3 hS) ?_
      refine zlv xmv ?_
      refine zlv (xadd (r := (t.A i) + s.kf)) ?_
      refine zlv (xmin (r := (min (W i) ((t.A i) + s.kf)))) ?_
      refine zlv (xadd (r := (X i) + (min (W i) ((t.A i) + s.kf)))) ?_
      refine zlv (xfb 1 fd_101_1) ?_
      refine zlv (xlb 2 pl_3 hS) ?_
      refine zlv (xfb 2 fd_101_2) ?_
      refine zlv (xlb 2 pl_3 hS) ?_
      refine zlv (xfb 1 fd_84_1) ?_
      refine zlv (xlb 1 pl_3 hS) ?_
      refine zlv (xsub (r := (W i) - (t.A i))) ?_
      refine zlv xmv ?_
      refine zlv (xsub (r := (W i) - (t.A i) - s.kf)) ?_
      refine zlv (xmax (r := (max 0 ((W i) - (t.A i) - s.kf)))) ?_
      refine zlv (xfb 3 fd_101_3) ?_
      refine zlv (xlb 2 pl_3 hS) ?_
      refine zlv (xany (v := .agg #[.int .i64 ((X i) + (min (W i) ((t.A i) + s.kf))), .int .i64 (Y i), .int .i64 (max 0 ((W i) - (t.A i) - s.kf)), .int .i64 (H i)])) ?_
      refine zlv (xix (kk := 4 * (t.S i)) sl_97 hv1) ?_
      refine zle (xso4 0 st_101 hS (bcells_set (k := 4 * (t.S i)) (i := (t.S i)) _ _ _ _ _ _ _ _ (by omega))) ?_; clear hS; rintro w hS
      replace hS := hS.n3
      refine zln <| zbn <| ztn <| zrg ?_
      refine zlv xmv ?_
      refine zlv (xadd (r := i + 1)) ?_
      refine zlv xas ?_
      refine zln <| zlq ⟨(upd (upd X (t.F i) (X i)) (t.S i) ((X i) + (min (W i) ((t.A i) + s.kf)))), (upd (upd Y (t.F i) (Y i)) (t.S i) (Y i)), (upd (upd W (t.F i) (t.A i)) (t.S i) (max 0 ((W i) - (t.A i) - s.kf))), (upd (upd H (t.F i) (H i)) (t.S i) (H i)), i + 1, rfl, (by omega), (by omega), ?_, ?_, ?_, ?_, ?_, ?_, ?_, rfl, hS.pk [0]⟩
      ·
       first
       | (intro j j0 j1; rw [bx_leafI h0 (show t.leaf i from ‹t.F i = -1 ∧ t.S i = -1›)]; exact hW j j0 j1)
       | exact (bx_verI hW hH h0 (by omega) (show ¬ t.leaf i from ‹¬ (t.F i = -1 ∧ t.S i = -1)›) (by first | assumption | exact Classical.not_not.1 ‹_›)).1
       | exact (bx_horI hW hH h0 (by omega) (show ¬ t.leaf i from ‹¬ (t.F i = -1 ∧ t.S i = -1)›) ‹¬ t.V i›).1
      ·
       first
       | (intro j j0 j1; rw [bx_leafI h0 (show t.leaf i from ‹t.F i = -1 ∧ t.S i = -1›)]; exact hH j j0 j1)
       | exact (bx_verI hW hH h0 (by omega) (show ¬ t.leaf i from ‹¬ (t.F i = -1 ∧ t.S i = -1)›) (by first | assumption | exact Classical.not_not.1 ‹_›)).2
       | exact (bx_horI hW hH h0 (by omega) (show ¬ t.leaf i from ‹¬ (t.F i = -1 ∧ t.S i = -1)›) ‹¬ t.V i›).2
      ·
       intro k k0 k1; rcases Int.lt_or_eq_of_le (show k ≤ i by omega) with hk | hk
       · exact hok k k0 hk
       · rw [hk]; unfold Tree.cutok; rw [← hW i h0 (by omega), ← hH i h0 (by omega)]
         refine ⟨(by first | assumption | exact Classical.not_not.1 ‹_›), fun hl9 => ?_⟩
         first | exact absurd (show t.leaf i from ‹t.F i = -1 ∧ t.S i = -1›) hl9 | exact ⟨by omega, fun hv9 => by first | omega | exact absurd hv9 ‹_›, fun hv9 => by first | omega | exact absurd ‹t.V i› hv9⟩
      ·
       first | (intro j j0 j1; have := hXb j j0 j1; omega) | exact upd2_rng hXb (by omega) (by omega) (by omega)
      ·
       first | (intro j j0 j1; have := hYb j j0 j1; omega) | exact upd2_rng hYb (by omega) (by omega) (by omega)
      ·
       first | exact hWb | exact upd2_rng hWb (by omega) (by omega) (by omega)
      ·
       first | exact hHb | exact upd2_rng hHb (by omega) (by omega) (by omega)
     refine zsr ?_
     refine zlv xmv ?_
     refine zlv (xfb 2 fd_84_2) ?_
     have hAH : t.A i < H i := by first | omega | exact absurd ‹t.V i› ‹¬ t.V i› | exact absurd ‹¬ t.V i› ‹¬ ¬ t.V i›
     refine zlv (xlb 1 pl_3 hS) ?_
     refine zlv (xfb 0 fd_101_0) ?_
     refine zlv (xlb 2 pl_3 hS) ?_
     refine zlv (xfb 1 fd_101_1) ?_
     refine zlv (xlb 2 pl_3 hS) ?_
     refine zlv (xfb 2 fd_101_2) ?_
     refine zlv (xlb 2 pl_3 hS) ?_
     refine zlv (xfb 1 fd_84_1) ?_
     refine zlv (xlb 1 pl_3 hS) ?_
     refine zlv (xany (v := .agg #[.int .i64 (X i), .int .i64 (Y i), .int .i64 (W i), .int .i64 (t.A i)])) ?_
     refine zlv (xix (kk := 4 * (t.F i)) sl_97 hv1) ?_
     refine zle (xso4 0 st_101 hS (bcells_set (k := 4 * (t.F i)) (i := (t.F i)) _ _ _ _ _ _ _ _ (by omega))) ?_; clear hS; rintro w hS
     replace hS := hS.n3
     refine zlt <| zrg ?_
     refine zlv xmv ?_
     refine zlv (xfb 3 fd_84_3) ?_
     refine zlv (xlb 1 pl_3 hS) ?_
     refine zlv (xfb 0 fd_101_0) ?_
     refine zlv (xlb 2 pl_3 hS) ?_
     refine zlv (xfb 1 fd_101_1) ?_
     refine zlv (xlb 2 pl_3 hS) ?_
     refine zlv (xfb 3 fd_101_3) ?_
     refine zlv (xlb 2 pl_3 hS) ?_
     refine zlv (xfb 1 fd_84_1) ?_
     refine zlv (xlb 1 pl_3 hS) ?_
     refine zlv xmv ?_
     refine zlv (xadd (r := (t.A i) + s.kf)) ?_
     refine zlv (xmin (r := (min (H i) ((t.A i) + s.kf)))) ?_
     refine zlv (xadd (r := (Y i) + (min (H i) ((t.A i) + s.kf)))) ?_
     refine zlv (xfb 2 fd_101_2) ?_
     refine zlv (xlb 2 pl_3 hS) ?_
     refine zlv (xfb 3 fd_101_3) ?_
     refine zlv (xlb 2 pl_3 hS) ?_
     refine zlv (xfb 1 fd_84_1) ?_
     refine zlv (xlb 1 pl_3 hS) ?_
     refine zlv (xsub (r := (H i) - (t.A i))) ?_
     refine zlv xmv ?_
     refine zlv (xsub (r := (H i) - (t.A i) - s.kf)) ?_
     refine zlv (xmax (r := (max 0 ((H i) - (t.A i) - s.kf)))) ?_
     refine zlv (xany (v := .agg #[.int .i64 (X i), .int .i64 ((Y i) + (min (H i) ((t.A i) + s.kf))), .int .i64 (W i), .int .i64 (max 0 ((H i) - (t.A i) - s.kf))])) ?_
     refine zlv (xix (kk := 4 * (t.S i)) sl_97 hv1) ?_
     refine zle (xso4 0 st_101 hS (bcells_set (k := 4 * (t.S i)) (i := (t.S i)) _ _ _ _ _ _ _ _ (by omega))) ?_; clear hS; rintro w hS
     replace hS := hS.n3
     refine zln <| zbn <| ztn <| zrg ?_
     refine zlv xmv ?_
     refine zlv (xadd (r := i + 1)) ?_
     refine zlv xas ?_
     refine zln <| zlq ⟨(upd (upd X (t.F i) (X i)) (t.S i) (X i)), (upd (upd Y (t.F i) (Y i)) (t.S i) ((Y i) + (min (H i) ((t.A i) + s.kf)))), (upd (upd W (t.F i) (W i)) (t.S i) (W i)), (upd (upd H (t.F i) (t.A i)) (t.S i) (max 0 ((H i) - (t.A i) - s.kf))), i + 1, rfl, (by omega), (by omega), ?_, ?_, ?_, ?_, ?_, ?_, ?_, rfl, hS.pk [0]⟩
     ·
      first
      | (intro j j0 j1; rw [bx_leafI h0 (show t.leaf i from ‹t.F i = -1 ∧ t.S i = -1›)]; exact hW j j0 j1)
      | exact (bx_verI hW hH h0 (by omega) (show ¬ t.leaf i from ‹¬ (t.F i = -1 ∧ t.S i = -1)›) (by first | assumption | exact Classical.not_not.1 ‹_›)).1
      | exact (bx_horI hW hH h0 (by omega) (show ¬ t.leaf i from ‹¬ (t.F i = -1 ∧ t.S i = -1)›) ‹¬ t.V i›).1
     ·
      first
      | (intro j j0 j1; rw [bx_leafI h0 (show t.leaf i from ‹t.F i = -1 ∧ t.S i = -1›)]; exact hH j j0 j1)
      | exact (bx_verI hW hH h0 (by omega) (show ¬ t.leaf i from ‹¬ (t.F i = -1 ∧ t.S i = -1)›) (by first | assumption | exact Classical.not_not.1 ‹_›)).2
      | exact (bx_horI hW hH h0 (by omega) (show ¬ t.leaf i from ‹¬ (t.F i = -1 ∧ t.S i = -1)›) ‹¬ t.V i›).2
     ·
      intro k k0 k1; rcases Int.lt_or_eq_of_le (show k ≤ i by omega) with hk | hk
      · exact hok k k0 hk
      · rw [hk]; unfold Tree.cutok; rw [← hW i h0 (by omega), ← hH i h0 (by omega)]
        refine ⟨(by first | assumption | exact Classical.not_not.1 ‹_›), fun hl9 => ?_⟩
        first | exact absurd (show t.leaf i from ‹t.F i = -1 ∧ t.S i = -1›) hl9 | exact ⟨by omega, fun hv9 => by first | omega | exact absurd hv9 ‹_›, fun hv9 => by first | omega | exact absurd ‹t.V i› hv9⟩
     ·
      first | (intro j j0 j1; have := hXb j j0 j1; omega) | exact upd2_rng hXb (by omega) (by omega) (by omega)
     ·
      first | (intro j j0 j1; have := hYb j j0 j1; omega) | exact upd2_rng hYb (by omega) (by omega) (by omega)
     ·
      first | exact hWb | exact upd2_rng hWb (by omega) (by omega) (by omega)
     ·
      first | exact hHb | exact upd2_rng hHb (by omega) (by omega) (by omega)
    iterate 5 refine zlo ?_
    refine zs2 ?_
    refine zlt <| zcf <| zsk <| ztn <| zsr ?_
    refine zlv (xfb 0 fd_84_0) ?_
    refine zlv (xlb 1 pl_4 hS) ?_
    refine zlt ?_
    refine zcif ?_ ?_ <;> intro hc
    ·
     refine zsr ?_
     refine zlv xmv ?_
     refine zlv (xfb 2 fd_84_2) ?_
     have hAW : t.A i < W i := by first | omega | exact absurd ‹t.V i› ‹¬ t.V i› | exact absurd ‹¬ t.V i› ‹¬ ¬ t.V i›
     refine zlv (xlb 1 pl_3 hS) ?_
     refine zlv (xfb 0 fd_101_0) ?_
     refine zlv (xlb 2 pl_3 hS) ?_
     refine zlv (xfb 1 fd_101_1) ?_
     refine zlv (xlb 2 pl_3 hS) ?_
     refine zlv (xfb 1 fd_84_1) ?_
     refine zlv (xlb 1 pl_3 hS) ?_
     refine zlv (xfb 3 fd_101_3) ?_
     refine zlv (xlb 2 pl_3 hS) ?_
     refine zlv (xany (v := .agg #[.int .i64 (X i), .int .i64 (Y i), .int .i64 (t.A i), .int .i64 (H i)])) ?_
     refine zlv (xix (kk := 4 * (t.F i)) sl_97 hv1) ?_
     refine zle (xso4 0 st_101 hS (bcells_set (k := 4 * (t.F i)) (i := (t.F i)) _ _ _ _ _ _ _ _ (by omega))) ?_; clear hS; rintro w hS
     replace hS := hS.n3
     refine zlt <| zrg ?_
     refine zlv xmv ?_
     refine zlv (xfb 3 fd_84_3) ?_
     refine zlv (xlb 1 pl_3 hS) ?_
     refine zlv (xfb 0 fd_101_0) ?_
     refine zlv (xlb 2 pl_3 hS) ?_
     refine zlv (xfb 2 fd_101_2) ?_
     refine zlv (xlb 2 pl_3 hS) ?_
     refine zlv (xfb 1 fd_84_1) ?_
     refine zlv (xlb 1 pl_3 hS) ?_
     refine zlv xmv ?_
     refine zlv (xadd (r := (t.A i) + s.kf)) ?_
     refine zlv (xmin (r := (min (W i) ((t.A i) + s.kf)))) ?_
     refine zlv (xadd (r := (X i) + (min (W i) ((t.A i) + s.kf)))) ?_
     refine zlv (xfb 1 fd_101_1) ?_
     refine zlv (xlb 2 pl_3 hS) ?_
     refine zlv (xfb 2 fd_101_2) ?_
     refine zlv (xlb 2 pl_3 hS) ?_
     refine zlv (xfb 1 fd_84_1) ?_
     refine zlv (xlb 1 pl_3 hS) ?_
     refine zlv (xsub (r := (W i) - (t.A i))) ?_
     refine zlv xmv ?_
     refine zlv (xsub (r := (W i) - (t.A i) - s.kf)) ?_
     refine zlv (xmax (r := (max 0 ((W i) - (t.A i) - s.kf)))) ?_
     refine zlv (xfb 3 fd_101_3) ?_
     refine zlv (xlb 2 pl_3 hS) ?_
     refine zlv (xany (v := .agg #[.int .i64 ((X i) + (min (W i) ((t.A i) + s.kf))), .int .i64 (Y i), .int .i64 (max 0 ((W i) - (t.A i) - s.kf)), .int .i64 (H i)])) ?_
     refine zlv (xix (kk := 4 * (t.S i)) sl_97 hv1) ?_
     refine zle (xso4 0 st_101 hS (bcells_set (k := 4 * (t.S i)) (i := (t.S i)) _ _ _ _ _ _ _ _ (by omega))) ?_; clear hS; rintro w hS
     replace hS := hS.n3
     refine zln <| zbn <| ztn <| zrg ?_
     refine zlv xmv ?_
     refine zlv (xadd (r := i + 1)) ?_
     refine zlv xas ?_
     refine zln <| zlq ⟨(upd (upd X (t.F i) (X i)) (t.S i) ((X i) + (min (W i) ((t.A i) + s.kf)))), (upd (upd Y (t.F i) (Y i)) (t.S i) (Y i)), (upd (upd W (t.F i) (t.A i)) (t.S i) (max 0 ((W i) - (t.A i) - s.kf))), (upd (upd H (t.F i) (H i)) (t.S i) (H i)), i + 1, rfl, (by omega), (by omega), ?_, ?_, ?_, ?_, ?_, ?_, ?_, rfl, hS.pk [0]⟩
     ·
      first
      | (intro j j0 j1; rw [bx_leafI h0 (show t.leaf i from ‹t.F i = -1 ∧ t.S i = -1›)]; exact hW j j0 j1)
      | exact (bx_verI hW hH h0 (by omega) (show ¬ t.leaf i from ‹¬ (t.F i = -1 ∧ t.S i = -1)›) (by first | assumption | exact Classical.not_not.1 ‹_›)).1
      | exact (bx_horI hW hH h0 (by omega) (show ¬ t.leaf i from ‹¬ (t.F i = -1 ∧ t.S i = -1)›) ‹¬ t.V i›).1
     ·
      first
      | (intro j j0 j1; rw [bx_leafI h0 (show t.leaf i from ‹t.F i = -1 ∧ t.S i = -1›)]; exact hH j j0 j1)
      | exact (bx_verI hW hH h0 (by omega) (show ¬ t.leaf i from ‹¬ (t.F i = -1 ∧ t.S i = -1)›) (by first | assumption | exact Classical.not_not.1 ‹_›)).2
      | exact (bx_horI hW hH h0 (by omega) (show ¬ t.leaf i from ‹¬ (t.F i = -1 ∧ t.S i = -1)›) ‹¬ t.V i›).2
     ·
      intro k k0 k1; rcases Int.lt_or_eq_of_le (show k ≤ i by omega) with hk | hk
      · exact hok k k0 hk
      · rw [hk]; unfold Tree.cutok; rw [← hW i h0 (by omega), ← hH i h0 (by omega)]
        refine ⟨(by first | assumption | exact Classical.not_not.1 ‹_›), fun hl9 => ?_⟩
        first | exact absurd (show t.leaf i from ‹t.F i = -1 ∧ t.S i = -1›) hl9 | exact ⟨by omega, fun hv9 => by first | omega | exact absurd hv9 ‹_›, fun hv9 => by first | omega | exact absurd ‹t.V i› hv9⟩
     ·
      first | (intro j j0 j1; have := hXb j j0 j1; omega) | exact upd2_rng hXb (by omega) (by omega) (by omega)
     ·
      first | (intro j j0 j1; have := hYb j j0 j1; omega) | exact upd2_rng hYb (by omega) (by omega) (by omega)
     ·
      first | exact hWb | exact upd2_rng hWb (by omega) (by omega) (by omega)
     ·
      first | exact hHb | exact upd2_rng hHb (by omega) (by omega) (by omega)
    refine zsr ?_
    refine zlv xmv ?_
    refine zlv (xfb 2 fd_84_2) ?_
    have hAH : t.A i < H i := by first | omega | exact absurd ‹t.V i› ‹¬ t.V i› | exact absurd ‹¬ t.V i› ‹¬ ¬ t.V i›
    refine zlv (xlb 1 pl_3 hS) ?_
    refine zlv (xfb 0 fd_101_0) ?_
    refine zlv (xlb 2 pl_3 hS) ?_
    refine zlv (xfb 1 fd_101_1) ?_
    refine zlv (xlb 2 pl_3 hS) ?_
    refine zlv (xfb 2 fd_101_2) ?_
    refine zlv (xlb 2 pl_3 hS) ?_
    refine zlv (xfb 1 fd_84_1) ?_
    refine zlv (xlb 1 pl_3 hS) ?_
    refine zlv (xany (v := .agg #[.int .i64 (X i), .int .i64 (Y i), .int .i64 (W i), .int .i64 (t.A i)])) ?_
    refine zlv (xix (kk := 4 * (t.F i)) sl_97 hv1) ?_
    refine zle (xso4 0 st_101 hS (bcells_set (k := 4 * (t.F i)) (i := (t.F i)) _ _ _ _ _ _ _ _ (by omega))) ?_; clear hS; rintro w hS
    replace hS := hS.n3
    refine zlt <| zrg ?_
    refine zlv xmv ?_
    refine zlv (xfb 3 fd_84_3) ?_
    refine zlv (xlb 1 pl_3 hS) ?_
    refine zlv (xfb 0 fd_101_0) ?_
    refine zlv (xlb 2 pl_3 hS) ?_
    refine zlv (xfb 1 fd_101_1) ?_
    refine zlv (xlb 2 pl_3 hS) ?_
    refine zlv (xfb 3 fd_101_3) ?_
    refine zlv (xlb 2 pl_3 hS) ?_
    refine zlv (xfb 1 fd_84_1) ?_
    refine zlv (xlb 1 pl_3 hS) ?_
    refine zlv xmv ?_
    refine zlv (xadd (r := (t.A i) + s.kf)) ?_
    refine zlv (xmin (r := (min (H i) ((t.A i) + s.kf)))) ?_
    refine zlv (xadd (r := (Y i) + (min (H i) ((t.A i) + s.kf)))) ?_
    refine zlv (xfb 2 fd_101_2) ?_
    refine zlv (xlb 2 pl_3 hS) ?_
    refine zlv (xfb 3 fd_101_3) ?_
    refine zlv (xlb 2 pl_3 hS) ?_
    refine zlv (xfb 1 fd_84_1) ?_
    refine zlv (xlb 1 pl_3 hS) ?_
    refine zlv (xsub (r := (H i) - (t.A i))) ?_
    refine zlv xmv ?_
    refine zlv (xsub (r := (H i) - (t.A i) - s.kf)) ?_
    refine zlv (xmax (r := (max 0 ((H i) - (t.A i) - s.kf)))) ?_
    refine zlv (xany (v := .agg #[.int .i64 (X i), .int .i64 ((Y i) + (min (H i) ((t.A i) + s.kf))), .int .i64 (W i), .int .i64 (max 0 ((H i) - (t.A i) - s.kf))])) ?_
    refine zlv (xix (kk := 4 * (t.S i)) sl_97 hv1) ?_
    refine zle (xso4 0 st_101 hS (bcells_set (k := 4 * (t.S i)) (i := (t.S i)) _ _ _ _ _ _ _ _ (by omega))) ?_; clear hS; rintro w hS
    replace hS := hS.n3
    refine zln <| zbn <| ztn <| zrg ?_
    refine zlv xmv ?_
    refine zlv (xadd (r := i + 1)) ?_
    refine zlv xas ?_
    refine zln <| zlq ⟨(upd (upd X (t.F i) (X i)) (t.S i) (X i)), (upd (upd Y (t.F i) (Y i)) (t.S i) ((Y i) + (min (H i) ((t.A i) + s.kf)))), (upd (upd W (t.F i) (W i)) (t.S i) (W i)), (upd (upd H (t.F i) (t.A i)) (t.S i) (max 0 ((H i) - (t.A i) - s.kf))), i + 1, rfl, (by omega), (by omega), ?_, ?_, ?_, ?_, ?_, ?_, ?_, rfl, hS.pk [0]⟩
    ·
     first
     | (intro j j0 j1; rw [bx_leafI h0 (show t.leaf i from ‹t.F i = -1 ∧ t.S i = -1›)]; exact hW j j0 j1)
     | exact (bx_verI hW hH h0 (by omega) (show ¬ t.leaf i from ‹¬ (t.F i = -1 ∧ t.S i = -1)›) (by first | assumption | exact Classical.not_not.1 ‹_›)).1
     | exact (bx_horI hW hH h0 (by omega) (show ¬ t.leaf i from ‹¬ (t.F i = -1 ∧ t.S i = -1)›) ‹¬ t.V i›).1
    ·
     first
     | (intro j j0 j1; rw [bx_leafI h0 (show t.leaf i from ‹t.F i = -1 ∧ t.S i = -1›)]; exact hH j j0 j1)
     | exact (bx_verI hW hH h0 (by omega) (show ¬ t.leaf i from ‹¬ (t.F i = -1 ∧ t.S i = -1)›) (by first | assumption | exact Classical.not_not.1 ‹_›)).2
     | exact (bx_horI hW hH h0 (by omega) (show ¬ t.leaf i from ‹¬ (t.F i = -1 ∧ t.S i = -1)›) ‹¬ t.V i›).2
    ·
     intro k k0 k1; rcases Int.lt_or_eq_of_le (show k ≤ i by omega) with hk | hk
     · exact hok k k0 hk
     · rw [hk]; unfold Tree.cutok; rw [← hW i h0 (by omega), ← hH i h0 (by omega)]
       refine ⟨(by first | assumption | exact Classical.not_not.1 ‹_›), fun hl9 => ?_⟩
       first | exact absurd (show t.leaf i from ‹t.F i = -1 ∧ t.S i = -1›) hl9 | exact ⟨by omega, fun hv9 => by first | omega | exact absurd hv9 ‹_›, fun hv9 => by first | omega | exact absurd ‹t.V i› hv9⟩
    ·
     first | (intro j j0 j1; have := hXb j j0 j1; omega) | exact upd2_rng hXb (by omega) (by omega) (by omega)
    ·
     first | (intro j j0 j1; have := hYb j j0 j1; omega) | exact upd2_rng hYb (by omega) (by omega) (by omega)
    ·
     first | exact hWb | exact upd2_rng hWb (by omega) (by omega) (by omega)
    ·
     first | exact hHb | exact upd2_rng hHb (by omega) (by omega) (by omega)
   iterate 5 refine zlo ?_
   refine zs3 ?_
   refine zlv (xfb 0 fd_84_0) ?_
   refine zlv (xlb 1 pl_4 hS) ?_
   refine zs2 ?_
   refine zlb 59 ?_ ?_ <;> intro hc
   ·
    refine zlv (xfb 1 fd_84_1) ?_
    refine zlv (xlb 1 pl_3 hS) ?_
    refine zlv (xfb 3 fd_101_3) ?_
    refine zlv (xlb 2 pl_3 hS) ?_
    refine zs3 ?_
    refine zlt ?_
    refine zcif ?_ ?_ <;> intro hc
    ·
     refine zsr ?_
     refine zs2 ?_
     refine zlt <| zrt <| ztr <| zbr <| ztr <| ztr <| zbr <| ztr <| zf2 ⟨_, rfl, ?_⟩
     refine ⟨_, 0, fun _ => 0, fun _ => 0, fun _ => 0, fun _ => 0, False, by rw [B_false not_false], ⟨False.elim, fun hb => ?_⟩, False.elim, slh_nil, (hS.sub (.cons _ (.cons _ (.cons _ .slnil)))).addnil 4 101 (bcells (fun _ => 0) (fun _ => 0) (fun _ => 0) (fun _ => 0))⟩
     have h9 := hb i h0 (by omega)
     have hW9 := hW i h0 (by omega); have hH9 := hH i h0 (by omega)
     unfold Tree.cutok Tree.whole Tree.leaf at h9
     rw [← hW9, ← hH9] at h9
     first
     | exact absurd h9.1 ‹_›
     | (have h8 := h9.2 (by assumption); have h7 := h8.2.1; have h6 := h8.2.2; first | omega | (have h5 := h7 (by assumption); omega) | (have h5 := h6 (by assumption); omega))
    refine zsk <| ztn <| zsr ?_
    refine zlv (xfb 0 fd_84_0) ?_
    refine zlv (xlb 1 pl_4 hS) ?_
    refine zlt ?_
    refine zcif ?_ ?_ <;> intro hc
    ·
     refine zsr ?_
     refine zlv xmv ?_
     refine zlv (xfb 2 fd_84_2) ?_
     have hAW : t.A i < W i := by first | omega | exact absurd ‹t.V i› ‹¬ t.V i› | exact absurd ‹¬ t.V i› ‹¬ ¬ t.V i›
     refine zlv (xlb 1 pl_3 hS) ?_
     refine zlv (xfb 0 fd_101_0) ?_
     refine zlv (xlb 2 pl_3 hS) ?_
     refine zlv (xfb 1 fd_101_1) ?_
     refine zlv (xlb 2 pl_3 hS) ?_
     refine zlv (xfb 1 fd_84_1) ?_
     refine zlv (xlb 1 pl_3 hS) ?_
     refine zlv (xfb 3 fd_101_3) ?_
     refine zlv (xlb 2 pl_3 hS) ?_
     refine zlv (xany (v := .agg #[.int .i64 (X i), .int .i64 (Y i), .int .i64 (t.A i), .int .i64 (H i)])) ?_
     refine zlv (xix (kk := 4 * (t.F i)) sl_97 hv1) ?_
     refine zle (xso4 0 st_101 hS (bcells_set (k := 4 * (t.F i)) (i := (t.F i)) _ _ _ _ _ _ _ _ (by omega))) ?_; clear hS; rintro w hS
     replace hS := hS.n3
     refine zlt <| zrg ?_
     refine zlv xmv ?_
     refine zlv (xfb 3 fd_84_3) ?_
     refine zlv (xlb 1 pl_3 hS) ?_
     refine zlv (xfb 0 fd_101_0) ?_
     refine zlv (xlb 2 pl_3 hS) ?_
     refine zlv (xfb 2 fd_101_2) ?_
     refine zlv (xlb 2 pl_3 hS) ?_
     refine zlv (xfb 1 fd_84_1) ?_
     refine zlv (xlb 1 pl_3 hS) ?_
     refine zlv xmv ?_
     refine zlv (xadd (r := (t.A i) + s.kf)) ?_
     refine zlv (xmin (r := (min (W i) ((t.A i) + s.kf)))) ?_
     refine zlv (xadd (r := (X i) + (min (W i) ((t.A i) + s.kf)))) ?_
     refine zlv (xfb 1 fd_101_1) ?_
     refine zlv (xlb 2 pl_3 hS) ?_
     refine zlv (xfb 2 fd_101_2) ?_
     refine zlv (xlb 2 pl_3 hS) ?_
     refine zlv (xfb 1 fd_84_1) ?_
     refine zlv (xlb 1 pl_3 hS) ?_
     refine zlv (xsub (r := (W i) - (t.A i))) ?_
     refine zlv xmv ?_
     refine zlv (xsub (r := (W i) - (t.A i) - s.kf)) ?_
     refine zlv (xmax (r := (max 0 ((W i) - (t.A i) - s.kf)))) ?_
     refine zlv (xfb 3 fd_101_3) ?_
     refine zlv (xlb 2 pl_3 hS) ?_
     refine zlv (xany (v := .agg #[.int .i64 ((X i) + (min (W i) ((t.A i) + s.kf))), .int .i64 (Y i), .int .i64 (max 0 ((W i) - (t.A i) - s.kf)), .int .i64 (H i)])) ?_
     refine zlv (xix (kk := 4 * (t.S i)) sl_97 hv1) ?_
     refine zle (xso4 0 st_101 hS (bcells_set (k := 4 * (t.S i)) (i := (t.S i)) _ _ _ _ _ _ _ _ (by omega))) ?_; clear hS; rintro w hS
     replace hS := hS.n3
     refine zln <| zbn <| ztn <| zrg ?_
     refine zlv xmv ?_
     refine zlv (xadd (r := i + 1)) ?_
     refine zlv xas ?_
     refine zln <| zlq ⟨(upd (upd X (t.F i) (X i)) (t.S i) ((X i) + (min (W i) ((t.A i) + s.kf)))), (upd (upd Y (t.F i) (Y i)) (t.S i) (Y i)), (upd (upd W (t.F i) (t.A i)) (t.S i) (max 0 ((W i) - (t.A i) - s.kf))), (upd (upd H (t.F i) (H i)) (t.S i) (H i)), i + 1, rfl, (by omega), (by omega), ?_, ?_, ?_, ?_, ?_, ?_, ?_, rfl, hS.pk [0]⟩
     ·
      first
      | (intro j j0 j1; rw [bx_leafI h0 (show t.leaf i from ‹t.F i = -1 ∧ t.S i = -1›)]; exact hW j j0 j1)
      | exact (bx_verI hW hH h0 (by omega) (show ¬ t.leaf i from ‹¬ (t.F i = -1 ∧ t.S i = -1)›) (by first | assumption | exact Classical.not_not.1 ‹_›)).1
      | exact (bx_horI hW hH h0 (by omega) (show ¬ t.leaf i from ‹¬ (t.F i = -1 ∧ t.S i = -1)›) ‹¬ t.V i›).1
     ·
      first
      | (intro j j0 j1; rw [bx_leafI h0 (show t.leaf i from ‹t.F i = -1 ∧ t.S i = -1›)]; exact hH j j0 j1)
      | exact (bx_verI hW hH h0 (by omega) (show ¬ t.leaf i from ‹¬ (t.F i = -1 ∧ t.S i = -1)›) (by first | assumption | exact Classical.not_not.1 ‹_›)).2
      | exact (bx_horI hW hH h0 (by omega) (show ¬ t.leaf i from ‹¬ (t.F i = -1 ∧ t.S i = -1)›) ‹¬ t.V i›).2
     ·
      intro k k0 k1; rcases Int.lt_or_eq_of_le (show k ≤ i by omega) with hk | hk
      · exact hok k k0 hk
      · rw [hk]; unfold Tree.cutok; rw [← hW i h0 (by omega), ← hH i h0 (by omega)]
        refine ⟨(by first | assumption | exact Classical.not_not.1 ‹_›), fun hl9 => ?_⟩
        first | exact absurd (show t.leaf i from ‹t.F i = -1 ∧ t.S i = -1›) hl9 | exact ⟨by omega, fun hv9 => by first | omega | exact absurd hv9 ‹_›, fun hv9 => by first | omega | exact absurd ‹t.V i› hv9⟩
     ·
      first | (intro j j0 j1; have := hXb j j0 j1; omega) | exact upd2_rng hXb (by omega) (by omega) (by omega)
     ·
      first | (intro j j0 j1; have := hYb j j0 j1; omega) | exact upd2_rng hYb (by omega) (by omega) (by omega)
     ·
      first | exact hWb | exact upd2_rng hWb (by omega) (by omega) (by omega)
     ·
      first | exact hHb | exact upd2_rng hHb (by omega) (by omega) (by omega)
    refine zsr ?_
    refine zlv xmv ?_
    refine zlv (xfb 2 fd_84_2) ?_
    have hAH : t.A i < H i := by first | omega | exact absurd ‹t.V i› ‹¬ t.V i› | exact absurd ‹¬ t.V i› ‹¬ ¬ t.V i›
    refine zlv (xlb 1 pl_3 hS) ?_
    refine zlv (xfb 0 fd_101_0) ?_
    refine zlv (xlb 2 pl_3 hS) ?_
    refine zlv (xfb 1 fd_101_1) ?_
    refine zlv (xlb 2 pl_3 hS) ?_
    refine zlv (xfb 2 fd_101_2) ?_
    refine zlv (xlb 2 pl_3 hS) ?_
    refine zlv (xfb 1 fd_84_1) ?_
    refine zlv (xlb 1 pl_3 hS) ?_
    refine zlv (xany (v := .agg #[.int .i64 (X i), .int .i64 (Y i), .int .i64 (W i), .int .i64 (t.A i)])) ?_
    refine zlv (xix (kk := 4 * (t.F i)) sl_97 hv1) ?_
    refine zle (xso4 0 st_101 hS (bcells_set (k := 4 * (t.F i)) (i := (t.F i)) _ _ _ _ _ _ _ _ (by omega))) ?_; clear hS; rintro w hS
    replace hS := hS.n3
    refine zlt <| zrg ?_
    refine zlv xmv ?_
    refine zlv (xfb 3 fd_84_3) ?_
    refine zlv (xlb 1 pl_3 hS) ?_
    refine zlv (xfb 0 fd_101_0) ?_
    refine zlv (xlb 2 pl_3 hS) ?_
    refine zlv (xfb 1 fd_101_1) ?_
    refine zlv (xlb 2 pl_3 hS) ?_
    refine zlv (xfb 3 fd_101_3) ?_
    refine zlv (xlb 2 pl_3 hS) ?_
    refine zlv (xfb 1 fd_84_1) ?_
    refine zlv (xlb 1 pl_3 hS) ?_
    refine zlv xmv ?_
    refine zlv (xadd (r := (t.A i) + s.kf)) ?_
    refine zlv (xmin (r := (min (H i) ((t.A i) + s.kf)))) ?_
    refine zlv (xadd (r := (Y i) + (min (H i) ((t.A i) + s.kf)))) ?_
    refine zlv (xfb 2 fd_101_2) ?_
    refine zlv (xlb 2 pl_3 hS) ?_
    refine zlv (xfb 3 fd_101_3) ?_
    refine zlv (xlb 2 pl_3 hS) ?_
    refine zlv (xfb 1 fd_84_1) ?_
    refine zlv (xlb 1 pl_3 hS) ?_
    refine zlv (xsub (r := (H i) - (t.A i))) ?_
    refine zlv xmv ?_
    refine zlv (xsub (r := (H i) - (t.A i) - s.kf)) ?_
    refine zlv (xmax (r := (max 0 ((H i) - (t.A i) - s.kf)))) ?_
    refine zlv (xany (v := .agg #[.int .i64 (X i), .int .i64 ((Y i) + (min (H i) ((t.A i) + s.kf))), .int .i64 (W i), .int .i64 (max 0 ((H i) - (t.A i) - s.kf))])) ?_
    refine zlv (xix (kk := 4 * (t.S i)) sl_97 hv1) ?_
    refine zle (xso4 0 st_101 hS (bcells_set (k := 4 * (t.S i)) (i := (t.S i)) _ _ _ _ _ _ _ _ (by omega))) ?_; clear hS; rintro w hS
    replace hS := hS.n3
    refine zln <| zbn <| ztn <| zrg ?_
    refine zlv xmv ?_
    refine zlv (xadd (r := i + 1)) ?_
    refine zlv xas ?_
    refine zln <| zlq ⟨(upd (upd X (t.F i) (X i)) (t.S i) (X i)), (upd (upd Y (t.F i) (Y i)) (t.S i) ((Y i) + (min (H i) ((t.A i) + s.kf)))), (upd (upd W (t.F i) (W i)) (t.S i) (W i)), (upd (upd H (t.F i) (t.A i)) (t.S i) (max 0 ((H i) - (t.A i) - s.kf))), i + 1, rfl, (by omega), (by omega), ?_, ?_, ?_, ?_, ?_, ?_, ?_, rfl, hS.pk [0]⟩
    ·
     first
     | (intro j j0 j1; rw [bx_leafI h0 (show t.leaf i from ‹t.F i = -1 ∧ t.S i = -1›)]; exact hW j j0 j1)
     | exact (bx_verI hW hH h0 (by omega) (show ¬ t.leaf i from ‹¬ (t.F i = -1 ∧ t.S i = -1)›) (by first | assumption | exact Classical.not_not.1 ‹_›)).1
     | exact (bx_horI hW hH h0 (by omega) (show ¬ t.leaf i from ‹¬ (t.F i = -1 ∧ t.S i = -1)›) ‹¬ t.V i›).1
    ·
     first
     | (intro j j0 j1; rw [bx_leafI h0 (show t.leaf i from ‹t.F i = -1 ∧ t.S i = -1›)]; exact hH j j0 j1)
     | exact (bx_verI hW hH h0 (by omega) (show ¬ t.leaf i from ‹¬ (t.F i = -1 ∧ t.S i = -1)›) (by first | assumption | exact Classical.not_not.1 ‹_›)).2
     | exact (bx_horI hW hH h0 (by omega) (show ¬ t.leaf i from ‹¬ (t.F i = -1 ∧ t.S i = -1)›) ‹¬ t.V i›).2
    ·
     intro k k0 k1; rcases Int.lt_or_eq_of_le (show k ≤ i by omega) with hk | hk
     · exact hok k k0 hk
     · rw [hk]; unfold Tree.cutok; rw [← hW i h0 (by omega), ← hH i h0 (by omega)]
       refine ⟨(by first | assumption | exact Classical.not_not.1 ‹_›), fun hl9 => ?_⟩
       first | exact absurd (show t.leaf i from ‹t.F i = -1 ∧ t.S i = -1›) hl9 | exact ⟨by omega, fun hv9 => by first | omega | exact absurd hv9 ‹_›, fun hv9 => by first | omega | exact absurd ‹t.V i› hv9⟩
    ·
     first | (intro j j0 j1; have := hXb j j0 j1; omega) | exact upd2_rng hXb (by omega) (by omega) (by omega)
    ·
     first | (intro j j0 j1; have := hYb j j0 j1; omega) | exact upd2_rng hYb (by omega) (by omega) (by omega)
    ·
     first | exact hWb | exact upd2_rng hWb (by omega) (by omega) (by omega)
    ·
     first | exact hHb | exact upd2_rng hHb (by omega) (by omega) (by omega)
   iterate 5 refine zlo ?_
   refine zs2 ?_
   refine zlt <| zcf <| zsk <| ztn <| zsr ?_
   refine zlv (xfb 0 fd_84_0) ?_
   refine zlv (xlb 1 pl_4 hS) ?_
   refine zlt ?_
   refine zcif ?_ ?_ <;> intro hc
   ·
    refine zsr ?_
    refine zlv xmv ?_
    refine zlv (xfb 2 fd_84_2) ?_
    have hAW : t.A i < W i := by first | omega | exact absurd ‹t.V i› ‹¬ t.V i› | exact absurd ‹¬ t.V i› ‹¬ ¬ t.V i›
    refine zlv (xlb 1 pl_3 hS) ?_
    refine zlv (xfb 0 fd_101_0) ?_
    refine zlv (xlb 2 pl_3 hS) ?_
    refine zlv (xfb 1 fd_101_1) ?_
    refine zlv (xlb 2 pl_3 hS) ?_
    refine zlv (xfb 1 fd_84_1) ?_
    refine zlv (xlb 1 pl_3 hS) ?_
    refine zlv (xfb 3 fd_101_3) ?_
    refine zlv (xlb 2 pl_3 hS) ?_
    refine zlv (xany (v := .agg #[.int .i64 (X i), .int .i64 (Y i), .int .i64 (t.A i), .int .i64 (H i)])) ?_
    refine zlv (xix (kk := 4 * (t.F i)) sl_97 hv1) ?_
    refine zle (xso4 0 st_101 hS (bcells_set (k := 4 * (t.F i)) (i := (t.F i)) _ _ _ _ _ _ _ _ (by omega))) ?_; clear hS; rintro w hS
    replace hS := hS.n3
    refine zlt <| zrg ?_
    refine zlv xmv ?_
    refine zlv (xfb 3 fd_84_3) ?_
    refine zlv (xlb 1 pl_3 hS) ?_
    refine zlv (xfb 0 fd_101_0) ?_
    refine zlv (xlb 2 pl_3 hS) ?_
    refine zlv (xfb 2 fd_101_2) ?_
    refine zlv (xlb 2 pl_3 hS) ?_
    refine zlv (xfb 1 fd_84_1) ?_
    refine zlv (xlb 1 pl_3 hS) ?_
    refine zlv xmv ?_
    refine zlv (xadd (r := (t.A i) + s.kf)) ?_
    refine zlv (xmin (r := (min (W i) ((t.A i) + s.kf)))) ?_
    refine zlv (xadd (r := (X i) + (min (W i) ((t.A i) + s.kf)))) ?_
    refine zlv (xfb 1 fd_101_1) ?_
    refine zlv (xlb 2 pl_3 hS) ?_
    refine zlv (xfb 2 fd_101_2) ?_
    refine zlv (xlb 2 pl_3 hS) ?_
    refine zlv (xfb 1 fd_84_1) ?_
    refine zlv (xlb 1 pl_3 hS) ?_
    refine zlv (xsub (r := (W i) - (t.A i))) ?_
    refine zlv xmv ?_
    refine zlv (xsub (r := (W i) - (t.A i) - s.kf)) ?_
    refine zlv (xmax (r := (max 0 ((W i) - (t.A i) - s.kf)))) ?_
    refine zlv (xfb 3 fd_101_3) ?_
    refine zlv (xlb 2 pl_3 hS) ?_
    refine zlv (xany (v := .agg #[.int .i64 ((X i) + (min (W i) ((t.A i) + s.kf))), .int .i64 (Y i), .int .i64 (max 0 ((W i) - (t.A i) - s.kf)), .int .i64 (H i)])) ?_
    refine zlv (xix (kk := 4 * (t.S i)) sl_97 hv1) ?_
    refine zle (xso4 0 st_101 hS (bcells_set (k := 4 * (t.S i)) (i := (t.S i)) _ _ _ _ _ _ _ _ (by omega))) ?_; clear hS; rintro w hS
    replace hS := hS.n3
    refine zln <| zbn <| ztn <| zrg ?_
    refine zlv xmv ?_
    refine zlv (xadd (r := i + 1)) ?_
    refine zlv xas ?_
    refine zln <| zlq ⟨(upd (upd X (t.F i) (X i)) (t.S i) ((X i) + (min (W i) ((t.A i) + s.kf)))), (upd (upd Y (t.F i) (Y i)) (t.S i) (Y i)), (upd (upd W (t.F i) (t.A i)) (t.S i) (max 0 ((W i) - (t.A i) - s.kf))), (upd (upd H (t.F i) (H i)) (t.S i) (H i)), i + 1, rfl, (by omega), (by omega), ?_, ?_, ?_, ?_, ?_, ?_, ?_, rfl, hS.pk [0]⟩
    ·
     first
     | (intro j j0 j1; rw [bx_leafI h0 (show t.leaf i from ‹t.F i = -1 ∧ t.S i = -1›)]; exact hW j j0 j1)
     | exact (bx_verI hW hH h0 (by omega) (show ¬ t.leaf i from ‹¬ (t.F i = -1 ∧ t.S i = -1)›) (by first | assumption | exact Classical.not_not.1 ‹_›)).1
     | exact (bx_horI hW hH h0 (by omega) (show ¬ t.leaf i from ‹¬ (t.F i = -1 ∧ t.S i = -1)›) ‹¬ t.V i›).1
    ·
     first
     | (intro j j0 j1; rw [bx_leafI h0 (show t.leaf i from ‹t.F i = -1 ∧ t.S i = -1›)]; exact hH j j0 j1)
     | exact (bx_verI hW hH h0 (by omega) (show ¬ t.leaf i from ‹¬ (t.F i = -1 ∧ t.S i = -1)›) (by first | assumption | exact Classical.not_not.1 ‹_›)).2
     | exact (bx_horI hW hH h0 (by omega) (show ¬ t.leaf i from ‹¬ (t.F i = -1 ∧ t.S i = -1)›) ‹¬ t.V i›).2
    ·
     intro k k0 k1; rcases Int.lt_or_eq_of_le (show k ≤ i by omega) with hk | hk
     · exact hok k k0 hk
     · rw [hk]; unfold Tree.cutok; rw [← hW i h0 (by omega), ← hH i h0 (by omega)]
       refine ⟨(by first | assumption | exact Classical.not_not.1 ‹_›), fun hl9 => ?_⟩
       first | exact absurd (show t.leaf i from ‹t.F i = -1 ∧ t.S i = -1›) hl9 | exact ⟨by omega, fun hv9 => by first | omega | exact absurd hv9 ‹_›, fun hv9 => by first | omega | exact absurd ‹t.V i› hv9⟩
    ·
     first | (intro j j0 j1; have := hXb j j0 j1; omega) | exact upd2_rng hXb (by omega) (by omega) (by omega)
    ·
     first | (intro j j0 j1; have := hYb j j0 j1; omega) | exact upd2_rng hYb (by omega) (by omega) (by omega)
    ·
     first | exact hWb | exact upd2_rng hWb (by omega) (by omega) (by omega)
    ·
     first | exact hHb | exact upd2_rng hHb (by omega) (by omega) (by omega)
   refine zsr ?_
   refine zlv xmv ?_
   refine zlv (xfb 2 fd_84_2) ?_
   have hAH : t.A i < H i := by first | omega | exact absurd ‹t.V i› ‹¬ t.V i› | exact absurd ‹¬ t.V i› ‹¬ ¬ t.V i›
   refine zlv (xlb 1 pl_3 hS) ?_
   refine zlv (xfb 0 fd_101_0) ?_
   refine zlv (xlb 2 pl_3 hS) ?_
   refine zlv (xfb 1 fd_101_1) ?_
   refine zlv (xlb 2 pl_3 hS) ?_
   refine zlv (xfb 2 fd_101_2) ?_
   refine zlv (xlb 2 pl_3 hS) ?_
   refine zlv (xfb 1 fd_84_1) ?_
   refine zlv (xlb 1 pl_3 hS) ?_
   refine zlv (xany (v := .agg #[.int .i64 (X i), .int .i64 (Y i), .int .i64 (W i), .int .i64 (t.A i)])) ?_
   refine zlv (xix (kk := 4 * (t.F i)) sl_97 hv1) ?_
   refine zle (xso4 0 st_101 hS (bcells_set (k := 4 * (t.F i)) (i := (t.F i)) _ _ _ _ _ _ _ _ (by omega))) ?_; clear hS; rintro w hS
   replace hS := hS.n3
   refine zlt <| zrg ?_
   refine zlv xmv ?_
   refine zlv (xfb 3 fd_84_3) ?_
   refine zlv (xlb 1 pl_3 hS) ?_
   refine zlv (xfb 0 fd_101_0) ?_
   refine zlv (xlb 2 pl_3 hS) ?_
   refine zlv (xfb 1 fd_101_1) ?_
   refine zlv (xlb 2 pl_3 hS) ?_
   refine zlv (xfb 3 fd_101_3) ?_
   refine zlv (xlb 2 pl_3 hS) ?_
   refine zlv (xfb 1 fd_84_1) ?_
   refine zlv (xlb 1 pl_3 hS) ?_
   refine zlv xmv ?_
   refine zlv (xadd (r := (t.A i) + s.kf)) ?_
   refine zlv (xmin (r := (min (H i) ((t.A i) + s.kf)))) ?_
   refine zlv (xadd (r := (Y i) + (min (H i) ((t.A i) + s.kf)))) ?_
   refine zlv (xfb 2 fd_101_2) ?_
   refine zlv (xlb 2 pl_3 hS) ?_
   refine zlv (xfb 3 fd_101_3) ?_
   refine zlv (xlb 2 pl_3 hS) ?_
   refine zlv (xfb 1 fd_84_1) ?_
   refine zlv (xlb 1 pl_3 hS) ?_
   refine zlv (xsub (r := (H i) - (t.A i))) ?_
   refine zlv xmv ?_
   refine zlv (xsub (r := (H i) - (t.A i) - s.kf)) ?_
   refine zlv (xmax (r := (max 0 ((H i) - (t.A i) - s.kf)))) ?_
   refine zlv (xany (v := .agg #[.int .i64 (X i), .int .i64 ((Y i) + (min (H i) ((t.A i) + s.kf))), .int .i64 (W i), .int .i64 (max 0 ((H i) - (t.A i) - s.kf))])) ?_
   refine zlv (xix (kk := 4 * (t.S i)) sl_97 hv1) ?_
   refine zle (xso4 0 st_101 hS (bcells_set (k := 4 * (t.S i)) (i := (t.S i)) _ _ _ _ _ _ _ _ (by omega))) ?_; clear hS; rintro w hS
   replace hS := hS.n3
   refine zln <| zbn <| ztn <| zrg ?_
   refine zlv xmv ?_
   refine zlv (xadd (r := i + 1)) ?_
   refine zlv xas ?_
   refine zln <| zlq ⟨(upd (upd X (t.F i) (X i)) (t.S i) (X i)), (upd (upd Y (t.F i) (Y i)) (t.S i) ((Y i) + (min (H i) ((t.A i) + s.kf)))), (upd (upd W (t.F i) (W i)) (t.S i) (W i)), (upd (upd H (t.F i) (t.A i)) (t.S i) (max 0 ((H i) - (t.A i) - s.kf))), i + 1, rfl, (by omega), (by omega), ?_, ?_, ?_, ?_, ?_, ?_, ?_, rfl, hS.pk [0]⟩
   ·
    first
    | (intro j j0 j1; rw [bx_leafI h0 (show t.leaf i from ‹t.F i = -1 ∧ t.S i = -1›)]; exact hW j j0 j1)
    | exact (bx_verI hW hH h0 (by omega) (show ¬ t.leaf i from ‹¬ (t.F i = -1 ∧ t.S i = -1)›) (by first | assumption | exact Classical.not_not.1 ‹_›)).1
    | exact (bx_horI hW hH h0 (by omega) (show ¬ t.leaf i from ‹¬ (t.F i = -1 ∧ t.S i = -1)›) ‹¬ t.V i›).1
   ·
    first
    | (intro j j0 j1; rw [bx_leafI h0 (show t.leaf i from ‹t.F i = -1 ∧ t.S i = -1›)]; exact hH j j0 j1)
    | exact (bx_verI hW hH h0 (by omega) (show ¬ t.leaf i from ‹¬ (t.F i = -1 ∧ t.S i = -1)›) (by first | assumption | exact Classical.not_not.1 ‹_›)).2
    | exact (bx_horI hW hH h0 (by omega) (show ¬ t.leaf i from ‹¬ (t.F i = -1 ∧ t.S i = -1)›) ‹¬ t.V i›).2
   ·
    intro k k0 k1; rcases Int.lt_or_eq_of_le (show k ≤ i by omega) with hk | hk
    · exact hok k k0 hk
    · rw [hk]; unfold Tree.cutok; rw [← hW i h0 (by omega), ← hH i h0 (by omega)]
      refine ⟨(by first | assumption | exact Classical.not_not.1 ‹_›), fun hl9 => ?_⟩
      first | exact absurd (show t.leaf i from ‹t.F i = -1 ∧ t.S i = -1›) hl9 | exact ⟨by omega, fun hv9 => by first | omega | exact absurd hv9 ‹_›, fun hv9 => by first | omega | exact absurd ‹t.V i› hv9⟩
   ·
    first | (intro j j0 j1; have := hXb j j0 j1; omega) | exact upd2_rng hXb (by omega) (by omega) (by omega)
   ·
    first | (intro j j0 j1; have := hYb j j0 j1; omega) | exact upd2_rng hYb (by omega) (by omega) (by omega)
   ·
    first | exact hWb | exact upd2_rng hWb (by omega) (by omega) (by omega)
   ·
    first | exact hHb | exact upd2_rng hHb (by omega) (by omega) (by omega)
  refine zxt <| ztx <| ztx <| zbh <| ztn <| zsr ?_
  refine zs3 ?_
  refine zlt <| zrt <| zf2 ⟨_, rfl, ?_⟩
  have hiN : i = t.n := by omega
  rw [hiN] at hW hH hok
  exact ⟨_, t.n, _, _, _, _, True, by rw [B_true trivial], ⟨fun _ => hok, fun _ => trivial⟩, fun _ => ⟨rfl, fun j j0 j1 => ⟨hW j j0 j1, hH j j0 j1⟩⟩, hv1, hS⟩

end Go.Proofs.Ytmlfpniaknmmfaa
