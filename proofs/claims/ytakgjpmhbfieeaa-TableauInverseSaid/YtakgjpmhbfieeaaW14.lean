/- The walks of dot and column, of the reference. -/
import Derived.Test.YtakgjpmhbfieeaaW13
namespace Go.Proofs.Ytakgjpmhbfieeaa
open Go Go.RowKit Go.Proofs.Gw
set_option linter.unusedVariables false

set_option maxRecDepth 20000 in
theorem c_dot {va vb : Value} {n m : Int} {f g : Int → Int} (w0 : World) (hA : Row w0 va 1 n (ints f)) (hB2 : Row w0 vb 1 m (ints g)) (hnm : n ≤ m) (hn2 : n ≤ 60) (hK : ∀ k, 0 ≤ k → k < n → -1000000 ≤ f k ∧ f k ≤ 1000000) (hG : ∀ k, 0 ≤ k → k < n → -1073741824 ≤ g k ∧ g k ≤ 1073741824) :
    Calls Try.prog 41 [va, vb].toArray w0 fun e w => ∃ v, e = .returned v ∧ v = .int .i64 (dotp f g n.toNat) ∧ Sat w0 w [] := by
  have hn := hA.slh.n0; have hm1 := hB2.slh.n1
  refine enterS (vs := [va, vb]) Try.func41 rfl Try.ntmps41 rfl ?_
  intro a w hS hF
  refine cw_seq ?_
  refine wp_region_lit ?_
  refine ls_val hF (.free rfl) rfl rfl (ex_assign rfl rfl) ?_; clear hF a; intro a hF
  refine ls_nil ?_
  refine then_normal ?_
  refine cw_seq ?_
  refine wp_region_lit ?_
  refine ls_val hF (.free rfl) rfl rfl (ex_assign rfl rfl) ?_; clear hF a; intro a hF
  refine ls_nil ?_
  refine then_normal ?_
  refine cw_seq ?_
  refine cw_seq ?_
  refine wp_region_lit ?_
  refine ls_val hF (.free rfl) rfl rfl (ex_assign rfl rfl) ?_; clear hF a; intro a hF
  refine ls_nil ?_
  refine then_normal ?_
  refine wp_block ?_
  refine cw_loop (fun mm a w => ∃ (x : Int) (i : Int), mm = ((n - i).toNat) ∧ (0 ≤ i) ∧ (i ≤ n) ∧ (x = dotp f g i.toNat) ∧ Fr a 25 [(0, va), (1, vb), (4, .int .i64 0), (5, .int .i64 x), (6, .int .i64 i)] ∧ Sat w0 w []) ?_ ?_ (m := ((n - 0).toNat))
  ·
   refine ⟨0, 0, rfl, (by omega), (by omega), ?_, (hF.pick (hF.pick (hF.pick (hF.pick (hF.pick hF.nil 6 rfl) 5 rfl) 4 rfl) 1 rfl) 0 rfl), hS⟩
   ·
    rfl
  ·
   clear hF hS a w
   rintro mm a w ⟨x, i, rfl, h0, h1, hx, hF, hS⟩
   refine cw_seq ?_
   refine cw_seq ?_
   refine wp_region_lit ?_
   refine ls_val hF (.free rfl) rfl rfl (ex_move rfl rfl) ?_; clear hF a; intro a hF
   refine ls_val hF (.free rfl) rfl rfl (ex_move rfl rfl) ?_; clear hF a; intro a hF
   refine ls_val hF (.free rfl) rfl rfl (ex_len rfl sl_22 rfl hA.slh) ?_; clear hF a; intro a hF
   refine ls_val hF (.free rfl) rfl rfl (ex_lss rfl rfl rfl) ?_; clear hF a; intro a hF
   refine ls_nil ?_
   refine then_normal ?_
   refine cw_if hF rfl (fun hc => ?_) (fun hc => ?_)
   ·
    refine wp_skip ?_
    refine then_normal ?_
    refine cw_seq ?_
    refine wp_block ?_
    refine dr_sat (m0 := []) (m1 := []) 1000 mx_ hS .slnil .slnil rfl ?_; clear hS; intro w hS hcl hB
    refine dr_val hF hcl hB 0 rfl (.free rfl) rfl rfl (by kernel_rfl) rfl (fun w => (ex_move rfl rfl)) ?_; clear hF a hcl hB; intro a hF hcl hB
    refine dr_val hF hcl hB 1 rfl (.free rfl) rfl rfl (by kernel_rfl) rfl (fun w => (ex_move rfl rfl)) ?_; clear hF a hcl hB; intro a hF hcl hB
    refine dr_val hF hcl hB 2 rfl (.free rfl) rfl rfl (by kernel_rfl) rfl (fun w => (ex_move rfl rfl)) ?_; clear hF a hcl hB; intro a hF hcl hB
    refine dr_val hF hcl hB 3 rfl (.free rfl) rfl rfl (by kernel_rfl) rfl (fun w => (ex_index (k := i) rfl sl_22 rfl rfl hA.slh (by omega) (by omega) (by omega))) ?_; clear hF a hcl hB; intro a hF hcl hB
    refine dr_loadA hF hcl hB 4 rfl (.free rfl) rfl rfl (by kernel_rfl) rfl (fun w hS => (ex_load_row (u := .int .i64 (f i)) rfl pl_3 rfl (hA.below hS.below) (by omega) (by omega) rfl)) ?_; clear hF a hcl hB; intro a hF hcl hB
    refine dr_val hF hcl hB 5 rfl (.free rfl) rfl rfl (by kernel_rfl) rfl (fun w => (ex_move rfl rfl)) ?_; clear hF a hcl hB; intro a hF hcl hB
    refine dr_val hF hcl hB 6 rfl (.free rfl) rfl rfl (by kernel_rfl) rfl (fun w => (ex_move rfl rfl)) ?_; clear hF a hcl hB; intro a hF hcl hB
    refine dr_val hF hcl hB 7 rfl (.free rfl) rfl rfl (by kernel_rfl) rfl (fun w => (ex_index (k := i) rfl sl_22 rfl rfl hB2.slh (by omega) (by omega) (by omega))) ?_; clear hF a hcl hB; intro a hF hcl hB
    refine dr_loadA hF hcl hB 8 rfl (.free rfl) rfl rfl (by kernel_rfl) rfl (fun w hS => (ex_load_row (u := .int .i64 (g i)) rfl pl_3 rfl (hB2.below hS.below) (by omega) (by omega) rfl)) ?_; clear hF a hcl hB; intro a hF hcl hB
    have hmu := mul_abs (hK i h0 (by omega)) (hG i h0 (by omega))
    have hbd := dotp_bd (f := f) (g := g) (A := 1000000) (B := 1073741824) (by omega) (by omega) i.toNat (fun k k0 k1 => hK k k0 (by omega)) (fun k k0 k1 => hG k k0 (by omega))
    refine dr_val hF hcl hB 9 rfl (.free rfl) rfl rfl (by kernel_rfl) rfl (fun w => (ex_mul (r := ((f i) * (g i))) rfl rfl rfl rfl (by unfold I64; omega))) ?_; clear hF a hcl hB; intro a hF hcl hB
    refine dr_val hF hcl hB 10 rfl (.free rfl) rfl rfl (by kernel_rfl) rfl (fun w => (ex_add (r := x + ((f i) * (g i))) rfl rfl rfl (by omega) (by unfold I64; omega))) ?_; clear hF a hcl hB; intro a hF hcl hB
    refine dr_val hF hcl hB 11 rfl (.free rfl) rfl rfl (by kernel_rfl) rfl (fun w => (ex_assign rfl rfl)) ?_; clear hF a hcl hB; intro a hF hcl hB
    refine dr_done (by kernel_rfl) ?_; clear hcl hB
    refine inb_normal ?_
    refine then_normal ?_
    refine wp_region_lit ?_
    refine ls_val hF (.free rfl) rfl rfl (ex_move rfl rfl) ?_; clear hF a; intro a hF
    refine ls_val hF (.free rfl) rfl rfl (ex_add (r := i + 1) rfl rfl rfl (by omega) (by unfold I64; omega)) ?_; clear hF a; intro a hF
    refine ls_val hF (.free rfl) rfl rfl (ex_assign rfl rfl) ?_; clear hF a; intro a hF
    refine ls_nil ?_
    refine then_normal ?_
    refine ⟨_, (by omega), x + ((f i) * (g i)), i + 1, rfl, (by omega), (by omega), ?_, (hF.pick (hF.pick (hF.pick (hF.pick (hF.pick hF.nil 6 rfl) 5 rfl) 4 rfl) 1 rfl) 0 rfl), hS⟩
    ·
     rw [dotp_next f g h0, ← hx]
   ·
    refine wp_exit ?_
    refine then_exit ?_
    refine then_exit ?_
    refine inb_hit ?_
    refine then_normal ?_
    refine cw_seq ?_
    refine wp_region_lit ?_
    refine ls_val hF (.free rfl) rfl rfl (ex_move rfl rfl) ?_; clear hF a; intro a hF
    refine ls_val hF (.free rfl) rfl rfl (ex_assign rfl rfl) ?_; clear hF a; intro a hF
    refine ls_nil ?_
    refine then_normal ?_
    refine wp_ret ?_
    refine (fin1 hF rfl rfl ⟨_, rfl, ?_⟩)
    obtain rfl : i = n := by omega
    exact ⟨by rw [hx], hS⟩

set_option maxRecDepth 20000 in
theorem c_column {vc vA vb : Value} {vq : Int → Value} {p : Lp} {j : Int} (w0 : World) (hL : LAt w0 vc vA vb vq p) (hl : LOk p) (j0 : 0 ≤ j) (j1 : j < p.n) :
    Calls Try.prog 42 [.agg #[vc, vA, vb], .int .i64 j].toArray w0 fun e w => ∃ v, e = .returned v ∧ ∃ r, v = r ∧ Slh r p.m ∧ Sat w0 w [.own r 1 3 p.m (ints (fun i => p.A i j))] := by
  have hn := hL.c.slh.n0; have hn1 := hL.c.slh.n1; have hm := hL.A.row.slh.n0; have hm1 := hL.A.row.slh.n1; have hk := hL.b.slh.n0; have hk1 := hL.b.slh.n1
  have b1 := hl.n1; have b2 := hl.n2; have b3 := hl.m2; have b4 := hl.k
  refine enterS (vs := [.agg #[vc, vA, vb], .int .i64 j]) Try.func42 rfl Try.ntmps42 rfl ?_
  intro a w hS hF
  refine cw_seq ?_
  refine wp_region_lit ?_
  refine ls_any hF (.free rfl) rfl rfl (ex_box (cs := [vc, vA, vb]) rfl hS rfl rfl) ?_; clear hF; rintro _ w ⟨g1, rfl, hS⟩ a hF
  replace hS : Sat w0 w [.blk g1 [vc, vA, vb]] := hS
  refine ls_val hF (.free rfl) rfl rfl (ex_assign rfl rfl) ?_; clear hF a; intro a hF
  refine ls_nil ?_
  refine then_normal ?_
  refine cw_seq ?_
  refine wp_region_lit ?_
  refine ls_val hF (.free rfl) rfl rfl (ex_assign rfl rfl) ?_; clear hF a; intro a hF
  refine ls_nil ?_
  refine then_normal ?_
  refine cw_seq ?_
  refine cw_seq ?_
  refine wp_region_lit ?_
  refine ls_val hF (.free rfl) rfl rfl (ex_assign rfl rfl) ?_; clear hF a; intro a hF
  refine ls_nil ?_
  refine then_normal ?_
  refine wp_block ?_
  replace hS := hS.addnil 1 3 (ints (fun _ => 0))
  replace hS : Sat w0 w [.blk g1 [vc, vA, vb], .own (.slice none 0 0) 1 3 0 (ints (fun _ => 0))] := hS
  refine cw_loop (fun mm a w => ∃ (nO : Int) (i : Int) (wO : Value) (fO : Int → Int), mm = ((p.m - i).toNat) ∧ (0 ≤ i) ∧ (i ≤ p.m) ∧ (nO = i) ∧ (∀ k, 0 ≤ k → k < i → fO k = p.A k j) ∧ (Slh wO nO) ∧ Fr a 26 [(1, .int .i64 j), (2, .pointer (some ⟨g1, 0, none⟩)), (4, .slice none 0 0), (5, wO), (6, .int .i64 i)] ∧ Sat w0 w [.blk g1 [vc, vA, vb], .own wO 1 3 nO (ints fO)]) ?_ ?_ (m := ((p.m - 0).toNat))
  ·
   refine ⟨0, 0, (.slice none 0 0), (fun _ => 0), rfl, (by omega), (by omega), (by omega), ?_, ?_, (hF.pick (hF.pick (hF.pick (hF.pick (hF.pick hF.nil 6 rfl) 5 rfl) 4 rfl) 2 rfl) 1 rfl), hS⟩
   ·
    intro k k0 k1; omega
   ·
    exact slh_nil
  ·
   clear hF hS a w
   rintro mm a w ⟨nO, i, wO, fO, rfl, h0, h1, hnO, hfO, hwO, hF, hS⟩
   refine cw_seq ?_
   refine cw_seq ?_
   refine wp_region_lit ?_
   refine ls_val hF (.free rfl) rfl rfl (ex_move rfl rfl) ?_; clear hF a; intro a hF
   refine ls_val hF (.free rfl) rfl rfl (ex_field (b := ⟨g1, 1, none⟩) rfl fd_25_1 rfl rfl) ?_; clear hF a; intro a hF
   refine ls_val hF (.free rfl) rfl rfl (ex_load_blk 0 rfl pl_23 rfl hS rfl rfl) ?_; clear hF a; intro a hF
   refine ls_val hF (.free rfl) rfl rfl (ex_len rfl sl_23 rfl hL.A.row.slh) ?_; clear hF a; intro a hF
   have hri := hl.rows i h0
   refine ls_val hF (.free rfl) rfl rfl (ex_lss rfl rfl rfl) ?_; clear hF a; intro a hF
   refine ls_nil ?_
   refine then_normal ?_
   refine cw_if hF rfl (fun hc => ?_) (fun hc => ?_)
   ·
    refine wp_skip ?_
    refine then_normal ?_
    refine cw_seq ?_
    refine wp_block ?_
    refine wp_region_lit ?_
    refine ls_val hF (.free rfl) rfl rfl (ex_move rfl rfl) ?_; clear hF a; intro a hF
    refine ls_val hF (.free rfl) rfl rfl (ex_field (b := ⟨g1, 1, none⟩) rfl fd_25_1 rfl rfl) ?_; clear hF a; intro a hF
    refine ls_val hF (.free rfl) rfl rfl (ex_load_blk 0 rfl pl_23 rfl hS rfl rfl) ?_; clear hF a; intro a hF
    refine ls_val hF (.free rfl) rfl rfl (ex_move rfl rfl) ?_; clear hF a; intro a hF
    refine ls_val hF (.free rfl) rfl rfl (ex_index (k := i) rfl sl_23 rfl rfl hL.A.row.slh (by omega) (by omega) (by omega)) ?_; clear hF a; intro a hF
    refine ls_val hF (.free rfl) rfl rfl (ex_load_row (u := (vq i)) rfl pl_22 rfl (hL.A.row.below hS.below) (by omega) (by omega) rfl) ?_; clear hF a; intro a hF
    refine ls_val hF (.free rfl) rfl rfl (ex_move rfl rfl) ?_; clear hF a; intro a hF
    refine ls_val hF (.free rfl) rfl rfl (ex_index (k := j) rfl sl_22 rfl rfl (hL.A.p i (by omega) (by omega)).slh (by omega) (by omega) (by omega)) ?_; clear hF a; intro a hF
    refine ls_val hF (.free rfl) rfl rfl (ex_load_row (u := .int .i64 ((p.A i) j)) rfl pl_3 rfl ((hL.A.p i (by omega) (by omega)).below hS.below) (by omega) (by omega) rfl) ?_; clear hF a; intro a hF
    refine ls_any hF (.free rfl) rfl rfl (ex_lit (n := 1) (len := 1) (pv := [(0, .int .i64 ((p.A i) j))]) (cs := [.int .i64 ((p.A i) j)]) (c := ints (fun _ => ((p.A i) j))) rfl sl_22 el_3 hS (parts_cons rfl parts0) (by kernel_rfl) (by decide) (by decide) rfl rfl (fun k hk => by rcases k with _ | k <;> first | rfl | (exfalso; omega)) (by omega)) ?_; clear hF; rintro v1 w ⟨hS, hv1⟩ a hF
    replace hS : Sat w0 w [.blk g1 [vc, vA, vb], .own wO 1 3 nO (ints fO), .own v1 1 3 1 (ints (fun _ => ((p.A i) j)))] := hS
    refine ls_any hF (.free rfl) rfl rfl (ap_own 1 (r := nO + 1) (f := ints (snoc fO nO ((p.A i) j))) rfl sl_22 el_3 rfl (by decide) hS rfl rfl rfl (hS.rowN 2 rfl) (fun _ _ _ => rfl) (by omega) (by omega) (by omega) (cat_snoc _ _ _)) ?_; clear hF; rintro v2 w ⟨hS, hv2⟩ a hF
    replace hS : Sat w0 w [.blk g1 [vc, vA, vb], .own v2 1 3 (nO + 1) (ints (snoc fO nO ((p.A i) j))), .own v1 1 3 1 (ints (fun _ => ((p.A i) j)))] := hS
    refine ls_val hF (.free rfl) rfl rfl (ex_assign rfl rfl) ?_; clear hF a; intro a hF
    refine ls_nil ?_
    refine inb_normal ?_
    refine then_normal ?_
    refine wp_region_lit ?_
    refine ls_val hF (.free rfl) rfl rfl (ex_move rfl rfl) ?_; clear hF a; intro a hF
    refine ls_val hF (.free rfl) rfl rfl (ex_add (r := i + 1) rfl rfl rfl (by omega) (by unfold I64; omega)) ?_; clear hF a; intro a hF
    refine ls_val hF (.free rfl) rfl rfl (ex_assign rfl rfl) ?_; clear hF a; intro a hF
    refine ls_nil ?_
    refine then_normal ?_
    refine ⟨_, (by omega), nO + 1, i + 1, v2, (snoc fO nO ((p.A i) j)), rfl, (by omega), (by omega), (by omega), ?_, ?_, (hF.pick (hF.pick (hF.pick (hF.pick (hF.pick hF.nil 6 rfl) 5 rfl) 4 rfl) 2 rfl) 1 rfl), hS.sub (.cons_cons _ (.cons_cons _ (.cons _ .slnil)))⟩
    ·
     intro k k0 k1; by_cases e : k < nO
     · rw [snoc_lt e]; exact hfO k k0 (by omega)
     · rw [snoc_at e]; congr 1; omega
    ·
     exact hv2
   ·
    refine wp_exit ?_
    refine then_exit ?_
    refine then_exit ?_
    refine inb_hit ?_
    refine then_normal ?_
    refine cw_seq ?_
    refine wp_region_lit ?_
    refine ls_val hF (.free rfl) rfl rfl (ex_move rfl rfl) ?_; clear hF a; intro a hF
    refine ls_val hF (.free rfl) rfl rfl (ex_assign rfl rfl) ?_; clear hF a; intro a hF
    refine ls_nil ?_
    refine then_normal ?_
    refine wp_ret ?_
    refine (fin1 hF rfl rfl ⟨_, rfl, ?_⟩)
    obtain rfl : i = p.m := by omega
    subst hnO
    replace hS := hS.recont 1 rfl (d := ints (fun i => p.A i j)) (fun k k0 k1 => by unfold ints; rw [hfO k k0 (by simp at k1; omega)])
    exact ⟨_, rfl, hwO, hS.sub (.cons _ (.cons_cons _ .slnil))⟩

end Go.Proofs.Ytakgjpmhbfieeaa
