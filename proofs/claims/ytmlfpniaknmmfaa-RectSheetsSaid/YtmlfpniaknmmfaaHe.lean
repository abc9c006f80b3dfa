/- What several cut trees cut out of as many sheets: the law of RectSheets, plain. No program in sight. -/
import Derived.Test.YtmlfpniaknmmfaaHd
namespace Go.Proofs.Gw
open Go Go.RowKit
set_option linter.unusedVariables false
set_option linter.unusedSimpArgs false
/-- So many valid trees have so many pieces of each kind. -/
structure Cnts (q : Kinds) (s : Sht) (nn : Int) (c : Int → Int) : Prop where
  rng : ∀ j, 0 ≤ j → j < q.m → 0 ≤ c j ∧ c j ≤ 150 * nn
  fits : ∀ j, 0 ≤ j → j < q.m → 0 < c j → q.w j ≤ s.w ∧ q.h j ≤ s.h
  le : ∀ f g, Dff f s.w s.kf → Dff g s.h s.kf → sumTo (fun i => c i * (f (q.w i) * g (q.h i))) q.m.toNat ≤ nn * (f s.w * g s.h)
  p : 1 ≤ nn → Prob37 q s
theorem Cnts.start (q : Kinds) (s : Sht) {c : Int → Int} (hc : ∀ j, 0 ≤ j → j < q.m → c j = 0) : Cnts q s 0 c :=
  ⟨fun j j0 j1 => by rw [hc j j0 j1]; omega, fun j j0 j1 h => by rw [hc j j0 j1] at h; omega, fun f g _ _ => by
    have : sumTo (fun i => c i * (f (q.w i) * g (q.h i))) q.m.toNat = sumTo (fun _ => 0) q.m.toNat := sumTo_congr fun j j0 j1 => by rw [hc j j0 (by omega)]; omega
    rw [this, sumTo_zero]; omega, fun h => by omega⟩
theorem Cnts.more {q : Kinds} {s : Sht} {nn : Int} {c c' : Int → Int} {t : Tree} (h : Cnts q s nn c) (ht : t.Ok q s) (hn : t.n ≤ 300) (hc : ∀ j, 0 ≤ j → j < q.m → c' j = c j + t.cnt q.m t.n.toNat j) : Cnts q s (nn + 1) c' := by
  refine ⟨fun j j0 j1 => ?_, fun j j0 j1 hj => ?_, fun f g hf hg => ?_, fun _ => ht.p⟩
  · rw [hc j j0 j1]
    have h1 := h.rng j j0 j1
    have h2 := cnt_nn t q.m t.n.toNat j
    have h3 := cnt_few ht.sh q.m j
    omega
  · rw [hc j j0 j1] at hj
    have h2 := cnt_nn t q.m t.n.toNat j
    by_cases e : 0 < c j
    · exact h.fits j j0 j1 e
    · exact (cnt_fits ht (j := j) (by omega)).2
  · have e : sumTo (fun i => c' i * (f (q.w i) * g (q.h i))) q.m.toNat = sumTo (fun i => c i * (f (q.w i) * g (q.h i)) + t.cnt q.m t.n.toNat i * (f (q.w i) * g (q.h i))) q.m.toNat := sumTo_congr fun j j0 j1 => by
      rw [hc j j0 (by omega), Int.add_mul]
    rw [e, sumTo_add, cnt_sum]
    have h1 := h.le f g hf hg
    have h2 := pcs_le ht hf hg
    rw [Int.add_mul]; omega
/-- The demands of the kinds that there are. -/
structure DemL (q : Kinds) (c : Int → Int) (i L : Int) (W H N : Int → Int) : Prop where
  len : 0 ≤ L ∧ L ≤ i
  each : ∀ k, 0 ≤ k → k < L → ∃ j, 0 ≤ j ∧ j < i ∧ 0 < c j ∧ W k = q.w j ∧ H k = q.h j ∧ N k = c j
  sum : ∀ f g : Int → Int, sumTo (fun k => N k * (f (W k) * g (H k))) L.toNat = sumTo (fun j => c j * (f (q.w j) * g (q.h j))) i.toNat
theorem DemL.start (q : Kinds) (c W H N : Int → Int) : DemL q c 0 0 W H N := ⟨by omega, fun k k0 k1 => by omega, fun _ _ => rfl⟩
theorem DemL.skip {q : Kinds} {c W H N : Int → Int} {i L : Int} (h : DemL q c i L W H N) (hc : c i = 0) : DemL q c (i + 1) L W H N :=
  ⟨by have := h.len; omega, fun k k0 k1 => by
    obtain ⟨j, j0, j1, hj⟩ := h.each k k0 k1
    exact ⟨j, j0, by omega, hj⟩, fun f g => by rw [h.sum f g, sumTo_next _ (by have := h.len; omega), hc]; omega⟩
theorem DemL.add {q : Kinds} {c W H N : Int → Int} {i L a b n : Int} (h : DemL q c i L W H N) (hc : 0 < c i) (ha : a = q.w i) (hb : b = q.h i) (hn : n = c i) : DemL q c (i + 1) (L + 1) (snoc W L a) (snoc H L b) (snoc N L n) := by
  have hl := h.len
  refine ⟨by omega, fun k k0 k1 => ?_, fun f g => ?_⟩
  · by_cases e : k < L
    · obtain ⟨j, j0, j1, hj⟩ := h.each k k0 e
      rw [snoc_lt e, snoc_lt e, snoc_lt e]; exact ⟨j, j0, by omega, hj⟩
    · rw [snoc_at e, snoc_at e, snoc_at e]; exact ⟨i, by omega, by omega, hc, ha, hb, hn⟩
  · rw [sumTo_next _ hl.1, sumTo_next _ (by omega : 0 ≤ i), ← h.sum f g]
    rw [sumTo_congr (g := fun k => N k * (f (W k) * g (H k))) (n := L.toNat) fun k k0 k1 => by rw [snoc_lt (by omega), snoc_lt (by omega), snoc_lt (by omega)]]
    rw [snoc_at (by omega), snoc_at (by omega), snoc_at (by omega), ha, hb, hn]
theorem sheets_val {q : Kinds} {s : Sht} {nn : Int} {c : Int → Int} {d : Dem} (h : Cnts q s nn c) (hn : 1 ≤ nn) (hn4 : nn ≤ 4) (hd : DemL q c q.m d.n d.W d.H d.N) : DOk d s ∧ ¬ DGreat d s ∧ ∀ x : Crt, x.ok s → x.val d s ≤ nn := by
  have hp := h.p hn
  have hl := hd.len
  have hk : DOk d s := ⟨by have := hp.few; omega, hp.w1, hp.w2, hp.h1, hp.h2, hp.k1, hp.k2, fun i i0 i1 => by
    obtain ⟨j, j0, j1, c0, e1, e2, e3⟩ := hd.each i i0 i1
    obtain ⟨a1, a2, a3, a4, _⟩ := hp.all j j0 j1
    have := (h.rng j j0 j1).2
    unfold Dem.each
    rw [e1, e2, e3]; omega⟩
  have hg : ¬ DGreat d s := fun ⟨i, i0, i1, _, hh⟩ => by
    obtain ⟨j, j0, j1, c0, e1, e2, e3⟩ := hd.each i i0 i1
    have := h.fits j j0 j1 c0
    rw [e1, e2] at hh; omega
  refine ⟨hk, hg, fun x hx => ?_⟩
  have w1 := hp.w1; have h1 := hp.h1; have w2 := hp.w2; have h2 := hp.h2; have k1 := hp.k1; have k2 := hp.k2
  have hf := dff_of hx.1 w1 k1 (by omega)
  have hg' := dff_of hx.2 h1 k1 (by omega)
  have hle := h.le _ _ hf hg'
  have hds := hd.sum (fun y => dfv x.a x.p (y + s.kf) (s.w + s.kf)) (fun y => dfv x.b x.q (y + s.kf) (s.h + s.kf))
  try dsimp only at hds hle
  rw [← hds] at hle
  have e : x.sum d s d.n.toNat = sumTo (fun k => d.N k * (dfv x.a x.p (d.W k + s.kf) (s.w + s.kf) * dfv x.b x.q (d.H k + s.kf) (s.h + s.kf))) d.n.toNat := sumTo_congr fun k _ _ => by
    unfold Crt.term Crt.f Crt.g; rw [Int.mul_assoc]
  have htop := (top_bd hk hx).2.2.2.2.1
  have ht : x.top s = dfv x.a x.p (s.w + s.kf) (s.w + s.kf) * dfv x.b x.q (s.h + s.kf) (s.h + s.kf) := rfl
  rw [← e, ← ht] at hle
  unfold Crt.val
  have hs := (sum_bd hk hx (i := d.n) hl.1 (Int.le_refl _) fun k k0 k1 hh => hg ⟨k, k0, k1, hh⟩).1
  have g1 := Int.mul_tdiv_add_tmod (x.sum d s d.n.toNat + x.top s - 1) (x.top s)
  have g2 := Int.tmod_nonneg (x.top s) (show 0 ≤ x.sum d s d.n.toNat + x.top s - 1 by omega)
  apply Classical.byContradiction
  intro hc
  have g3 := Int.mul_le_mul_of_nonneg_left (show nn + 1 ≤ (x.sum d s d.n.toNat + x.top s - 1).tdiv (x.top s) by omega) (show 0 ≤ x.top s by omega)
  rw [Int.mul_add, Int.mul_comm (x.top s) nn] at g3
  omega
theorem sheets_law {q : Kinds} {s : Sht} {nn : Int} {c : Int → Int} {d : Dem} {a e z ez v ev fa fp fb fq : Int} {x : Crt} (h : Cnts q s nn c) (hn : 1 ≤ nn) (hn4 : nn ≤ 4) (hd : DemL q c q.m d.n d.W d.H d.N)
    (hB : BestR d s a (fa, fp) (fb, fq) e) (hV : ValueR ⟨fa, fp, fb, fq⟩ d s z ez) (hX : ValueR x d s v ev) : e = 0 ∧ ez = 0 ∧ z = a ∧ a ≤ nn ∧ (ev = 0 → v ≤ nn) := by
  obtain ⟨hk, hg, hv⟩ := sheets_val h hn hn4 hd
  rcases hB with ⟨h1, _⟩ | ⟨_, h1, _⟩ | ⟨_, _, he, hA, hBB, hO⟩
  · exact absurd hk h1
  · exact absurd h1 hg
  · obtain ⟨hv1, i, j, hi, hj⟩ := hO.is
    have hok := ok_of hA hBB hi hj
    have hz := hV.val hk hok hg
    have hez : ez = 0 := by
      rcases hV with ⟨g1, _⟩ | ⟨_, _, g1, _⟩ | ⟨_, _, _, _, g1⟩
      · exact absurd ⟨hk, hok⟩ g1
      · exact absurd g1 hg
      · exact g1
    have hva := hv _ hok
    refine ⟨he, hez, ?_, ?_, fun h0 => ?_⟩
    · rw [hz, hv1]; rfl
    · rw [hv1]; exact hva
    · obtain ⟨_, x1, _, x2⟩ := hX.ok h0
      rw [x2]; exact hv x x1
end Go.Proofs.Gw
