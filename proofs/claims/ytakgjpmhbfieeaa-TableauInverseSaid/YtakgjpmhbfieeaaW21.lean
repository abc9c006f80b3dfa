/- The walks of Same, SameTableau and Little, of the reference. -/
import Derived.Test.YtakgjpmhbfieeaaW20
namespace Go.Proofs.Ytakgjpmhbfieeaa
open Go Go.RowKit Go.Proofs.Gw
set_option linter.unusedVariables false

theorem cl_38 : calledT Try.prog 38 = true := by kernel_rfl
theorem cl_50 : calledT Try.prog 50 = true := by kernel_rfl
theorem fd_48_0 : fieldT Try.prog 48 0 = some 0 := by kernel_rfl
theorem fd_48_1 : fieldT Try.prog 48 1 = some 1 := by kernel_rfl
theorem fd_48_2 : fieldT Try.prog 48 2 = some 2 := by kernel_rfl
theorem fd_48_3 : fieldT Try.prog 48 3 = some 3 := by kernel_rfl
theorem fd_48_4 : fieldT Try.prog 48 4 = some 4 := by kernel_rfl
theorem st_48 : structT Try.prog 48 = some 5 := by kernel_rfl
set_option maxRecDepth 20000 in
theorem c_same0 {va vb : Value} {n m : Int} {f g : Int → Int} (w0 : World) (hA : Row w0 va 1 n (ints f)) (hB2 : Row w0 vb 1 m (ints g)) :
    Calls Try.prog 38 [va, vb].toArray w0 fun e w => ∃ v, e = .returned v ∧ v = B (n = m ∧ ∀ k, 0 ≤ k → k < n → f k = g k) ∧ Sat w0 w [] := by
  have hn := hA.slh.n0; have hm1 := hB2.slh.n1; have hn1 := hA.slh.n1
  refine enterS (vs := [va, vb]) Try.func38 rfl Try.ntmps38 rfl ?_
  intro a w hS hF
  refine cw_seq ?_
  refine wp_region_lit ?_
  refine ls_val hF (.free rfl) rfl rfl (ex_assign rfl rfl) ?_; clear hF a; intro a hF
  refine ls_nil ?_
  refine then_normal ?_
  refine cw_seq ?_
  refine cw_seq ?_
  refine wp_region_lit ?_
  refine ls_val hF (.free rfl) rfl rfl (ex_move rfl rfl) ?_; clear hF a; intro a hF
  refine ls_val hF (.free rfl) rfl rfl (ex_len rfl sl_22 rfl hA.slh) ?_; clear hF a; intro a hF
  refine ls_val hF (.free rfl) rfl rfl (ex_move rfl rfl) ?_; clear hF a; intro a hF
  refine ls_val hF (.free rfl) rfl rfl (ex_len rfl sl_22 rfl hB2.slh) ?_; clear hF a; intro a hF
  refine ls_val hF (.free rfl) rfl rfl (ex_neq rfl rfl rfl) ?_; clear hF a; intro a hF
  refine ls_nil ?_
  refine then_normal ?_
  refine cw_if hF rfl (fun hc => ?_) (fun hc => ?_)
  ·
   refine cw_seq ?_
   refine wp_region_lit ?_
   refine ls_val hF (.free rfl) rfl rfl (ex_assign rfl rfl) ?_; clear hF a; intro a hF
   refine ls_nil ?_
   refine then_normal ?_
   refine wp_ret ?_
   refine then_ret ((fin1 hF rfl rfl ⟨_, rfl, ?_⟩))
   exact ⟨false_B (by rintro ⟨h1, h2⟩; first | omega | exact absurd (h2 i h0 (by omega)) (by omega)), hS⟩
  ·
   refine wp_skip ?_
   refine then_normal ?_
   refine cw_seq ?_
   refine cw_seq ?_
   refine wp_region_lit ?_
   refine ls_val hF (.free rfl) rfl rfl (ex_assign rfl rfl) ?_; clear hF a; intro a hF
   refine ls_nil ?_
   refine then_normal ?_
   refine wp_block ?_
   refine cw_loop (fun mm a w => ∃ (i : Int), mm = ((n - i).toNat) ∧ (0 ≤ i) ∧ (i ≤ n) ∧ (∀ k, 0 ≤ k → k < i → f k = g k) ∧ Fr a 26 [(0, va), (1, vb), (5, .int .i64 i)] ∧ Sat w0 w []) ?_ ?_ (m := ((n - 0).toNat))
   ·
    refine ⟨0, rfl, (by omega), (by omega), ?_, (hF.pick (hF.pick (hF.pick hF.nil 5 rfl) 1 rfl) 0 rfl), hS⟩
    ·
     intro k h0 h1; omega
   ·
    clear hF hS a w
    rintro mm a w ⟨i, rfl, h0, h1, hall, hF, hS⟩
    refine cw_seq ?_
    refine cw_seq ?_
    refine wp_region_lit ?_
    refine ls_val hF (.free rfl) rfl rfl (ex_move rfl rfl) ?_; clear hF a; intro a hF
    refine ls_val hF (.free rfl) rfl rfl (ex_move rfl rfl) ?_; clear hF a; intro a hF
    refine ls_val hF (.free rfl) rfl rfl (ex_len rfl sl_22 rfl hA.slh) ?_; clear hF a; intro a hF
    refine ls_val hF (.free rfl) rfl rfl (ex_lss rfl rfl rfl) ?_; clear hF a; intro a hF
    refine ls_nil ?_
    refine then_normal ?_
    refine cw_if hF rfl (fun hc => ?_) (fun hc => ?_)
    ·
     refine wp_skip ?_
     refine then_normal ?_
     refine cw_seq ?_
     refine wp_block ?_
     refine cw_seq ?_
     refine dr_sat (m0 := []) (m1 := []) 1000 mx_ hS .slnil .slnil rfl ?_; clear hS; intro w hS hcl hB
     refine dr_val hF hcl hB 0 rfl (.free rfl) rfl rfl (by kernel_rfl) rfl (fun w => (ex_move rfl rfl)) ?_; clear hF a hcl hB; intro a hF hcl hB
     refine dr_val hF hcl hB 1 rfl (.free rfl) rfl rfl (by kernel_rfl) rfl (fun w => (ex_move rfl rfl)) ?_; clear hF a hcl hB; intro a hF hcl hB
     refine dr_val hF hcl hB 2 rfl (.free rfl) rfl rfl (by kernel_rfl) rfl (fun w => (ex_index (k := i) rfl sl_22 rfl rfl hA.slh (by omega) (by omega) (by omega))) ?_; clear hF a hcl hB; intro a hF hcl hB
     refine dr_loadA hF hcl hB 3 rfl (.free rfl) rfl rfl (by kernel_rfl) rfl (fun w hS => (ex_load_row (u := .int .i64 (f i)) rfl pl_3 rfl (hA.below hS.below) (by omega) (by omega) rfl)) ?_; clear hF a hcl hB; intro a hF hcl hB
     refine dr_val hF hcl hB 4 rfl (.free rfl) rfl rfl (by kernel_rfl) rfl (fun w => (ex_move rfl rfl)) ?_; clear hF a hcl hB; intro a hF hcl hB
     refine dr_val hF hcl hB 5 rfl (.free rfl) rfl rfl (by kernel_rfl) rfl (fun w => (ex_move rfl rfl)) ?_; clear hF a hcl hB; intro a hF hcl hB
     refine dr_val hF hcl hB 6 rfl (.free rfl) rfl rfl (by kernel_rfl) rfl (fun w => (ex_index (k := i) rfl sl_22 rfl rfl hB2.slh (by omega) (by omega) (by omega))) ?_; clear hF a hcl hB; intro a hF hcl hB
     refine dr_loadA hF hcl hB 7 rfl (.free rfl) rfl rfl (by kernel_rfl) rfl (fun w hS => (ex_load_row (u := .int .i64 (g i)) rfl pl_3 rfl (hB2.below hS.below) (by omega) (by omega) rfl)) ?_; clear hF a hcl hB; intro a hF hcl hB
     refine dr_val hF hcl hB 8 rfl (.free rfl) rfl rfl (by kernel_rfl) rfl (fun w => (ex_neq rfl rfl rfl)) ?_; clear hF a hcl hB; intro a hF hcl hB
     refine dr_done (by kernel_rfl) ?_; clear hcl hB
     refine then_normal ?_
     refine cw_if hF rfl (fun hc => ?_) (fun hc => ?_)
     ·
      refine cw_seq ?_
      refine wp_region_lit ?_
      refine ls_val hF (.free rfl) rfl rfl (ex_assign rfl rfl) ?_; clear hF a; intro a hF
      refine ls_nil ?_
      refine then_normal ?_
      refine wp_ret ?_
      refine inb_ret (then_ret (then_ret (inb_ret (then_ret ((fin1 hF rfl rfl ⟨_, rfl, ?_⟩))))))
      exact ⟨false_B (by rintro ⟨h1, h2⟩; first | omega | exact absurd (h2 i h0 (by omega)) (by omega)), hS⟩
     ·
      refine wp_skip ?_
      refine inb_normal ?_
      refine then_normal ?_
      refine wp_region_lit ?_
      refine ls_val hF (.free rfl) rfl rfl (ex_move rfl rfl) ?_; clear hF a; intro a hF
      refine ls_val hF (.free rfl) rfl rfl (ex_add (r := i + 1) rfl rfl rfl (by omega) (by unfold I64; omega)) ?_; clear hF a; intro a hF
      refine ls_val hF (.free rfl) rfl rfl (ex_assign rfl rfl) ?_; clear hF a; intro a hF
      refine ls_nil ?_
      refine then_normal ?_
      refine ⟨_, (by omega), i + 1, rfl, (by omega), (by omega), ?_, (hF.pick (hF.pick (hF.pick hF.nil 5 rfl) 1 rfl) 0 rfl), hS⟩
      ·
       intro k h0' h1'; rcases Int.lt_or_eq_of_le (show k ≤ i by omega) with hk | hk; exact hall k h0' hk; rw [hk]; omega
    ·
     refine wp_exit ?_
     refine then_exit ?_
     refine then_exit ?_
     refine inb_hit ?_
     refine then_normal ?_
     refine cw_seq ?_
     refine wp_region_lit ?_
     refine ls_val hF (.free rfl) rfl rfl (ex_assign rfl rfl) ?_; clear hF a; intro a hF
     refine ls_nil ?_
     refine then_normal ?_
     refine wp_ret ?_
     refine (fin1 hF rfl rfl ⟨_, rfl, ?_⟩)
     exact ⟨true_B ⟨by omega, fun k k0 k1 => hall k k0 (by omega)⟩, hS⟩

def SameT (t u : Tb) : Prop := t.vars = u.vars ∧ t.den = u.den ∧ (t.nb = u.nb ∧ ∀ k, 0 ≤ k → k < t.nb → t.B k = u.B k) ∧ (t.nf = u.nf ∧ ∀ k, 0 ≤ k → k < t.nf → t.F k = u.F k) ∧ t.nc = u.nc ∧ ∀ i, 0 ≤ i → i < t.nc → (t.ln i) = (u.ln i) ∧ ∀ j, 0 ≤ j → j < (t.ln i) → (t.C i) j = (u.C i) j

set_option maxRecDepth 20000 in
theorem c_samet {vB vF vC : Value} {vv : Int → Value} {t : Tb} {xB xF xC : Value} {xv : Int → Value} {u : Tb} (w0 : World) (hT : TAt w0 vB vF vC vv t) (hU : TAt w0 xB xF xC xv u) :
    Calls Try.prog 50 [.agg #[.int .i64 t.vars, .int .i64 t.den, vB, vF, vC], .agg #[.int .i64 u.vars, .int .i64 u.den, xB, xF, xC]].toArray w0 fun e w => ∃ v, e = .returned v ∧ v = B (SameT t u) ∧ Sat w0 w [] := by
  have hn := hT.F.slh.n0; have hn1 := hT.F.slh.n1; have hb := hT.B.slh.n0; have hb1 := hT.B.slh.n1; have hc0 := hT.C.row.slh.n0; have hc1 := hT.C.row.slh.n1; have hcu := hU.C.row.slh.n1
  refine enterS (vs := [.agg #[.int .i64 t.vars, .int .i64 t.den, vB, vF, vC], .agg #[.int .i64 u.vars, .int .i64 u.den, xB, xF, xC]]) Try.func50 rfl Try.ntmps50 rfl ?_
  intro a w hS hF
  refine cw_seq ?_
  refine wp_region_lit ?_
  refine ls_any hF (.free rfl) rfl rfl (ex_box (cs := [.int .i64 t.vars, .int .i64 t.den, vB, vF, vC]) rfl hS rfl rfl) ?_; clear hF; rintro _ w ⟨g1, rfl, hS⟩ a hF
  replace hS : Sat w0 w [.blk g1 [.int .i64 t.vars, .int .i64 t.den, vB, vF, vC]] := hS
  refine ls_any hF (.free rfl) rfl rfl (ex_box (cs := [.int .i64 u.vars, .int .i64 u.den, xB, xF, xC]) rfl hS rfl rfl) ?_; clear hF; rintro _ w ⟨g2, rfl, hS⟩ a hF
  replace hS : Sat w0 w [.blk g1 [.int .i64 t.vars, .int .i64 t.den, vB, vF, vC], .blk g2 [.int .i64 u.vars, .int .i64 u.den, xB, xF, xC]] := hS
  refine ls_val hF (.free rfl) rfl rfl (ex_assign rfl rfl) ?_; clear hF a; intro a hF
  refine ls_nil ?_
  refine then_normal ?_
  refine cw_seq ?_
  refine cw_seq ?_
  refine wp_region_lit ?_
  refine ls_val hF (.free rfl) rfl rfl (ex_field (b := ⟨g1, 0, none⟩) rfl fd_48_0 rfl rfl) ?_; clear hF a; intro a hF
  refine ls_val hF (.free rfl) rfl rfl (ex_load_blk 0 rfl pl_3 rfl hS rfl rfl) ?_; clear hF a; intro a hF
  refine ls_val hF (.free rfl) rfl rfl (ex_field (b := ⟨g2, 0, none⟩) rfl fd_48_0 rfl rfl) ?_; clear hF a; intro a hF
  refine ls_val hF (.free rfl) rfl rfl (ex_load_blk 1 rfl pl_3 rfl hS rfl rfl) ?_; clear hF a; intro a hF
  refine ls_val hF (.free rfl) rfl rfl (ex_neq rfl rfl rfl) ?_; clear hF a; intro a hF
  refine ls_val hF (.free rfl) rfl rfl (ex_move rfl rfl) ?_; clear hF a; intro a hF
  refine by_slot hF (d := 11) rfl ?_ ?_ <;> clear hF <;> intro hc hF
  ·
   refine ls_off hF (.on rfl rfl rfl rfl rfl) rfl rfl ?_; clear hF a; intro a hF
   refine ls_off hF (.on rfl rfl rfl rfl rfl) rfl rfl ?_; clear hF a; intro a hF
   refine ls_off hF (.on rfl rfl rfl rfl rfl) rfl rfl ?_; clear hF a; intro a hF
   refine ls_off hF (.on rfl rfl rfl rfl rfl) rfl rfl ?_; clear hF a; intro a hF
   refine ls_off hF (.on rfl rfl rfl rfl rfl) rfl rfl ?_; clear hF a; intro a hF
   refine ls_val hF (.free rfl) rfl rfl (ex_pick_t rfl rfl rfl) ?_; clear hF a; intro a hF
   refine ls_val hF (.free rfl) rfl rfl (ex_move rfl rfl) ?_; clear hF a; intro a hF
   refine ls_off hF (.on rfl rfl rfl rfl rfl) rfl rfl ?_; clear hF a; intro a hF
   refine ls_off hF (.on rfl rfl rfl rfl rfl) rfl rfl ?_; clear hF a; intro a hF
   refine ls_off hF (.on rfl rfl rfl rfl rfl) rfl rfl ?_; clear hF a; intro a hF
   refine ls_off hF (.on rfl rfl rfl rfl rfl) rfl rfl ?_; clear hF a; intro a hF
   refine ls_off hF (.on rfl rfl rfl rfl rfl) rfl rfl ?_; clear hF a; intro a hF
   refine ls_off hF (.on rfl rfl rfl rfl rfl) rfl rfl ?_; clear hF a; intro a hF
   refine ls_val hF (.free rfl) rfl rfl (ex_pick_t rfl rfl rfl) ?_; clear hF a; intro a hF
   refine ls_val hF (.free rfl) rfl rfl (ex_move rfl rfl) ?_; clear hF a; intro a hF
   refine ls_off hF (.on rfl rfl rfl rfl rfl) rfl rfl ?_; clear hF a; intro a hF
   refine ls_off hF (.on rfl rfl rfl rfl rfl) rfl rfl ?_; clear hF a; intro a hF
   refine ls_off hF (.on rfl rfl rfl rfl rfl) rfl rfl ?_; clear hF a; intro a hF
   refine ls_off hF (.on rfl rfl rfl rfl rfl) rfl rfl ?_; clear hF a; intro a hF
   refine ls_off hF (.on rfl rfl rfl rfl rfl) rfl rfl ?_; clear hF a; intro a hF
   refine ls_off hF (.on rfl rfl rfl rfl rfl) rfl rfl ?_; clear hF a; intro a hF
   refine ls_val hF (.free rfl) rfl rfl (ex_pick_t rfl rfl rfl) ?_; clear hF a; intro a hF
   refine ls_val hF (.free rfl) rfl rfl (ex_move rfl rfl) ?_; clear hF a; intro a hF
   refine ls_off hF (.on rfl rfl rfl rfl rfl) rfl rfl ?_; clear hF a; intro a hF
   refine ls_off hF (.on rfl rfl rfl rfl rfl) rfl rfl ?_; clear hF a; intro a hF
   refine ls_off hF (.on rfl rfl rfl rfl rfl) rfl rfl ?_; clear hF a; intro a hF
   refine ls_off hF (.on rfl rfl rfl rfl rfl) rfl rfl ?_; clear hF a; intro a hF
   refine ls_off hF (.on rfl rfl rfl rfl rfl) rfl rfl ?_; clear hF a; intro a hF
   refine ls_off hF (.on rfl rfl rfl rfl rfl) rfl rfl ?_; clear hF a; intro a hF
   refine ls_off hF (.on rfl rfl rfl rfl rfl) rfl rfl ?_; clear hF a; intro a hF
   refine ls_val hF (.free rfl) rfl rfl (ex_pick_t rfl rfl rfl) ?_; clear hF a; intro a hF
   refine ls_nil ?_
   refine then_normal ?_
   refine cw_t hF rfl ?_
   refine cw_seq ?_
   refine wp_region_lit ?_
   refine ls_val hF (.free rfl) rfl rfl (ex_assign rfl rfl) ?_; clear hF a; intro a hF
   refine ls_nil ?_
   refine then_normal ?_
   refine wp_ret ?_
   refine then_ret ((fin1 hF rfl rfl ⟨_, rfl, ?_⟩))
   exact ⟨false_B (by rintro ⟨h1, h2, h3, h4, h5, h6⟩; first | omega | exact absurd h3 ‹¬ (t.nb = u.nb ∧ ∀ k, 0 ≤ k → k < t.nb → t.B k = u.B k)› | exact absurd h4 ‹¬ (t.nf = u.nf ∧ ∀ k, 0 ≤ k → k < t.nf → t.F k = u.F k)› | exact absurd (h6 i h0 (by omega)) ‹¬ ((t.ln i) = (u.ln i) ∧ ∀ k, 0 ≤ k → k < (t.ln i) → (t.C i) k = (u.C i) k)›), hS.sub (.cons _ (.cons _ .slnil))⟩
  ·
   refine ls_val hF (.on rfl rfl rfl rfl rfl) rfl rfl (ex_field (b := ⟨g1, 1, none⟩) rfl fd_48_1 rfl rfl) ?_; clear hF a; intro a hF
   refine ls_val hF (.on rfl rfl rfl rfl rfl) rfl rfl (ex_load_blk 0 rfl pl_3 rfl hS rfl rfl) ?_; clear hF a; intro a hF
   refine ls_val hF (.on rfl rfl rfl rfl rfl) rfl rfl (ex_field (b := ⟨g2, 1, none⟩) rfl fd_48_1 rfl rfl) ?_; clear hF a; intro a hF
   refine ls_val hF (.on rfl rfl rfl rfl rfl) rfl rfl (ex_load_blk 1 rfl pl_3 rfl hS rfl rfl) ?_; clear hF a; intro a hF
   refine ls_val hF (.on rfl rfl rfl rfl rfl) rfl rfl (ex_neq rfl rfl rfl) ?_; clear hF a; intro a hF
   refine ls_val hF (.free rfl) rfl rfl (ex_pick_f rfl rfl rfl) ?_; clear hF a; intro a hF
   refine ls_val hF (.free rfl) rfl rfl (ex_move rfl rfl) ?_; clear hF a; intro a hF
   refine by_slot hF (d := 18) rfl ?_ ?_ <;> clear hF <;> intro hc hF
   ·
    refine ls_off hF (.on rfl rfl rfl rfl rfl) rfl rfl ?_; clear hF a; intro a hF
    refine ls_off hF (.on rfl rfl rfl rfl rfl) rfl rfl ?_; clear hF a; intro a hF
    refine ls_off hF (.on rfl rfl rfl rfl rfl) rfl rfl ?_; clear hF a; intro a hF
    refine ls_off hF (.on rfl rfl rfl rfl rfl) rfl rfl ?_; clear hF a; intro a hF
    refine ls_off hF (.on rfl rfl rfl rfl rfl) rfl rfl ?_; clear hF a; intro a hF
    refine ls_off hF (.on rfl rfl rfl rfl rfl) rfl rfl ?_; clear hF a; intro a hF
    refine ls_val hF (.free rfl) rfl rfl (ex_pick_t rfl rfl rfl) ?_; clear hF a; intro a hF
    refine ls_val hF (.free rfl) rfl rfl (ex_move rfl rfl) ?_; clear hF a; intro a hF
    refine ls_off hF (.on rfl rfl rfl rfl rfl) rfl rfl ?_; clear hF a; intro a hF
    refine ls_off hF (.on rfl rfl rfl rfl rfl) rfl rfl ?_; clear hF a; intro a hF
    refine ls_off hF (.on rfl rfl rfl rfl rfl) rfl rfl ?_; clear hF a; intro a hF
    refine ls_off hF (.on rfl rfl rfl rfl rfl) rfl rfl ?_; clear hF a; intro a hF
    refine ls_off hF (.on rfl rfl rfl rfl rfl) rfl rfl ?_; clear hF a; intro a hF
    refine ls_off hF (.on rfl rfl rfl rfl rfl) rfl rfl ?_; clear hF a; intro a hF
    refine ls_val hF (.free rfl) rfl rfl (ex_pick_t rfl rfl rfl) ?_; clear hF a; intro a hF
    refine ls_val hF (.free rfl) rfl rfl (ex_move rfl rfl) ?_; clear hF a; intro a hF
    refine ls_off hF (.on rfl rfl rfl rfl rfl) rfl rfl ?_; clear hF a; intro a hF
    refine ls_off hF (.on rfl rfl rfl rfl rfl) rfl rfl ?_; clear hF a; intro a hF
    refine ls_off hF (.on rfl rfl rfl rfl rfl) rfl rfl ?_; clear hF a; intro a hF
    refine ls_off hF (.on rfl rfl rfl rfl rfl) rfl rfl ?_; clear hF a; intro a hF
    refine ls_off hF (.on rfl rfl rfl rfl rfl) rfl rfl ?_; clear hF a; intro a hF
    refine ls_off hF (.on rfl rfl rfl rfl rfl) rfl rfl ?_; clear hF a; intro a hF
    refine ls_off hF (.on rfl rfl rfl rfl rfl) rfl rfl ?_; clear hF a; intro a hF
    refine ls_val hF (.free rfl) rfl rfl (ex_pick_t rfl rfl rfl) ?_; clear hF a; intro a hF
    refine ls_nil ?_
    refine then_normal ?_
    refine cw_t hF rfl ?_
    refine cw_seq ?_
    refine wp_region_lit ?_
    refine ls_val hF (.free rfl) rfl rfl (ex_assign rfl rfl) ?_; clear hF a; intro a hF
    refine ls_nil ?_
    refine then_normal ?_
    refine wp_ret ?_
    refine then_ret ((fin1 hF rfl rfl ⟨_, rfl, ?_⟩))
    exact ⟨false_B (by rintro ⟨h1, h2, h3, h4, h5, h6⟩; first | omega | exact absurd h3 ‹¬ (t.nb = u.nb ∧ ∀ k, 0 ≤ k → k < t.nb → t.B k = u.B k)› | exact absurd h4 ‹¬ (t.nf = u.nf ∧ ∀ k, 0 ≤ k → k < t.nf → t.F k = u.F k)› | exact absurd (h6 i h0 (by omega)) ‹¬ ((t.ln i) = (u.ln i) ∧ ∀ k, 0 ≤ k → k < (t.ln i) → (t.C i) k = (u.C i) k)›), hS.sub (.cons _ (.cons _ .slnil))⟩
   ·
    refine ls_val hF (.on rfl rfl rfl rfl rfl) rfl rfl (ex_field (b := ⟨g1, 2, none⟩) rfl fd_48_2 rfl rfl) ?_; clear hF a; intro a hF
    refine ls_val hF (.on rfl rfl rfl rfl rfl) rfl rfl (ex_load_blk 0 rfl pl_22 rfl hS rfl rfl) ?_; clear hF a; intro a hF
    refine ls_val hF (.on rfl rfl rfl rfl rfl) rfl rfl (ex_field (b := ⟨g2, 2, none⟩) rfl fd_48_2 rfl rfl) ?_; clear hF a; intro a hF
    refine ls_val hF (.on rfl rfl rfl rfl rfl) rfl rfl (ex_load_blk 1 rfl pl_22 rfl hS rfl rfl) ?_; clear hF a; intro a hF
    refine ls_call hF (.on rfl rfl rfl rfl rfl) rfl rfl (ex_call0 rfl rfl cl_38 (args_cons rfl (args_cons rfl args0))) (c_same0 (n := t.nb) (m := u.nb) (f := t.B) (g := u.B) w (hT.B.below hS.below) (hU.B.below hS.below)) ?_; clear hF; rintro _ w ⟨rfl, hS'⟩ a hF
    replace hS : Sat w0 w [.blk g1 [.int .i64 t.vars, .int .i64 t.den, vB, vF, vC], .blk g2 [.int .i64 u.vars, .int .i64 u.den, xB, xF, xC]] := hS.comp hS'; clear hS'
    refine ls_val hF (.on rfl rfl rfl rfl rfl) rfl rfl (ex_not rfl rfl) ?_; clear hF a; intro a hF
    refine ls_val hF (.free rfl) rfl rfl (ex_pick_f rfl rfl rfl) ?_; clear hF a; intro a hF
    refine ls_val hF (.free rfl) rfl rfl (ex_move rfl rfl) ?_; clear hF a; intro a hF
    refine by_slot hF (d := 26) rfl ?_ ?_ <;> clear hF <;> intro hc hF
    ·
     refine ls_off hF (.on rfl rfl rfl rfl rfl) rfl rfl ?_; clear hF a; intro a hF
     refine ls_off hF (.on rfl rfl rfl rfl rfl) rfl rfl ?_; clear hF a; intro a hF
     refine ls_off hF (.on rfl rfl rfl rfl rfl) rfl rfl ?_; clear hF a; intro a hF
     refine ls_off hF (.on rfl rfl rfl rfl rfl) rfl rfl ?_; clear hF a; intro a hF
     refine ls_off hF (.on rfl rfl rfl rfl rfl) rfl rfl ?_; clear hF a; intro a hF
     refine ls_off hF (.on rfl rfl rfl rfl rfl) rfl rfl ?_; clear hF a; intro a hF
     refine ls_val hF (.free rfl) rfl rfl (ex_pick_t rfl rfl rfl) ?_; clear hF a; intro a hF
     refine ls_val hF (.free rfl) rfl rfl (ex_move rfl rfl) ?_; clear hF a; intro a hF
     refine ls_off hF (.on rfl rfl rfl rfl rfl) rfl rfl ?_; clear hF a; intro a hF
     refine ls_off hF (.on rfl rfl rfl rfl rfl) rfl rfl ?_; clear hF a; intro a hF
     refine ls_off hF (.on rfl rfl rfl rfl rfl) rfl rfl ?_; clear hF a; intro a hF
     refine ls_off hF (.on rfl rfl rfl rfl rfl) rfl rfl ?_; clear hF a; intro a hF
     refine ls_off hF (.on rfl rfl rfl rfl rfl) rfl rfl ?_; clear hF a; intro a hF
     refine ls_off hF (.on rfl rfl rfl rfl rfl) rfl rfl ?_; clear hF a; intro a hF
     refine ls_off hF (.on rfl rfl rfl rfl rfl) rfl rfl ?_; clear hF a; intro a hF
     refine ls_val hF (.free rfl) rfl rfl (ex_pick_t rfl rfl rfl) ?_; clear hF a; intro a hF
     refine ls_nil ?_
     refine then_normal ?_
     refine cw_t hF rfl ?_
     refine cw_seq ?_
     refine wp_region_lit ?_
     refine ls_val hF (.free rfl) rfl rfl (ex_assign rfl rfl) ?_; clear hF a; intro a hF
     refine ls_nil ?_
     refine then_normal ?_
     refine wp_ret ?_
     refine then_ret ((fin1 hF rfl rfl ⟨_, rfl, ?_⟩))
     exact ⟨false_B (by rintro ⟨h1, h2, h3, h4, h5, h6⟩; first | omega | exact absurd h3 ‹¬ (t.nb = u.nb ∧ ∀ k, 0 ≤ k → k < t.nb → t.B k = u.B k)› | exact absurd h4 ‹¬ (t.nf = u.nf ∧ ∀ k, 0 ≤ k → k < t.nf → t.F k = u.F k)› | exact absurd (h6 i h0 (by omega)) ‹¬ ((t.ln i) = (u.ln i) ∧ ∀ k, 0 ≤ k → k < (t.ln i) → (t.C i) k = (u.C i) k)›), hS.sub (.cons _ (.cons _ .slnil))⟩
    ·
     refine ls_val hF (.on rfl rfl rfl rfl rfl) rfl rfl (ex_field (b := ⟨g1, 3, none⟩) rfl fd_48_3 rfl rfl) ?_; clear hF a; intro a hF
     refine ls_val hF (.on rfl rfl rfl rfl rfl) rfl rfl (ex_load_blk 0 rfl pl_22 rfl hS rfl rfl) ?_; clear hF a; intro a hF
     refine ls_val hF (.on rfl rfl rfl rfl rfl) rfl rfl (ex_field (b := ⟨g2, 3, none⟩) rfl fd_48_3 rfl rfl) ?_; clear hF a; intro a hF
     refine ls_val hF (.on rfl rfl rfl rfl rfl) rfl rfl (ex_load_blk 1 rfl pl_22 rfl hS rfl rfl) ?_; clear hF a; intro a hF
     refine ls_call hF (.on rfl rfl rfl rfl rfl) rfl rfl (ex_call0 rfl rfl cl_38 (args_cons rfl (args_cons rfl args0))) (c_same0 (n := t.nf) (m := u.nf) (f := t.F) (g := u.F) w (hT.F.below hS.below) (hU.F.below hS.below)) ?_; clear hF; rintro _ w ⟨rfl, hS'⟩ a hF
     replace hS : Sat w0 w [.blk g1 [.int .i64 t.vars, .int .i64 t.den, vB, vF, vC], .blk g2 [.int .i64 u.vars, .int .i64 u.den, xB, xF, xC]] := hS.comp hS'; clear hS'
     refine ls_val hF (.on rfl rfl rfl rfl rfl) rfl rfl (ex_not rfl rfl) ?_; clear hF a; intro a hF
     refine ls_val hF (.free rfl) rfl rfl (ex_pick_f rfl rfl rfl) ?_; clear hF a; intro a hF
     refine ls_val hF (.free rfl) rfl rfl (ex_move rfl rfl) ?_; clear hF a; intro a hF
     refine by_slot hF (d := 34) rfl ?_ ?_ <;> clear hF <;> intro hc hF
     ·
      refine ls_off hF (.on rfl rfl rfl rfl rfl) rfl rfl ?_; clear hF a; intro a hF
      refine ls_off hF (.on rfl rfl rfl rfl rfl) rfl rfl ?_; clear hF a; intro a hF
      refine ls_off hF (.on rfl rfl rfl rfl rfl) rfl rfl ?_; clear hF a; intro a hF
      refine ls_off hF (.on rfl rfl rfl rfl rfl) rfl rfl ?_; clear hF a; intro a hF
      refine ls_off hF (.on rfl rfl rfl rfl rfl) rfl rfl ?_; clear hF a; intro a hF
      refine ls_off hF (.on rfl rfl rfl rfl rfl) rfl rfl ?_; clear hF a; intro a hF
      refine ls_off hF (.on rfl rfl rfl rfl rfl) rfl rfl ?_; clear hF a; intro a hF
      refine ls_val hF (.free rfl) rfl rfl (ex_pick_t rfl rfl rfl) ?_; clear hF a; intro a hF
      refine ls_nil ?_
      refine then_normal ?_
      refine cw_t hF rfl ?_
      refine cw_seq ?_
      refine wp_region_lit ?_
      refine ls_val hF (.free rfl) rfl rfl (ex_assign rfl rfl) ?_; clear hF a; intro a hF
      refine ls_nil ?_
      refine then_normal ?_
      refine wp_ret ?_
      refine then_ret ((fin1 hF rfl rfl ⟨_, rfl, ?_⟩))
      exact ⟨false_B (by rintro ⟨h1, h2, h3, h4, h5, h6⟩; first | omega | exact absurd h3 ‹¬ (t.nb = u.nb ∧ ∀ k, 0 ≤ k → k < t.nb → t.B k = u.B k)› | exact absurd h4 ‹¬ (t.nf = u.nf ∧ ∀ k, 0 ≤ k → k < t.nf → t.F k = u.F k)› | exact absurd (h6 i h0 (by omega)) ‹¬ ((t.ln i) = (u.ln i) ∧ ∀ k, 0 ≤ k → k < (t.ln i) → (t.C i) k = (u.C i) k)›), hS.sub (.cons _ (.cons _ .slnil))⟩
     ·
      refine ls_val hF (.on rfl rfl rfl rfl rfl) rfl rfl (ex_field (b := ⟨g1, 4, none⟩) rfl fd_48_4 rfl rfl) ?_; clear hF a; intro a hF
      refine ls_val hF (.on rfl rfl rfl rfl rfl) rfl rfl (ex_load_blk 0 rfl pl_23 rfl hS rfl rfl) ?_; clear hF a; intro a hF
      refine ls_val hF (.on rfl rfl rfl rfl rfl) rfl rfl (ex_len rfl sl_23 rfl hT.C.row.slh) ?_; clear hF a; intro a hF
      refine ls_val hF (.on rfl rfl rfl rfl rfl) rfl rfl (ex_field (b := ⟨g2, 4, none⟩) rfl fd_48_4 rfl rfl) ?_; clear hF a; intro a hF
      refine ls_val hF (.on rfl rfl rfl rfl rfl) rfl rfl (ex_load_blk 1 rfl pl_23 rfl hS rfl rfl) ?_; clear hF a; intro a hF
      refine ls_val hF (.on rfl rfl rfl rfl rfl) rfl rfl (ex_len rfl sl_23 rfl hU.C.row.slh) ?_; clear hF a; intro a hF
      refine ls_val hF (.on rfl rfl rfl rfl rfl) rfl rfl (ex_neq rfl rfl rfl) ?_; clear hF a; intro a hF
      refine ls_val hF (.free rfl) rfl rfl (ex_pick_f rfl rfl rfl) ?_; clear hF a; intro a hF
      refine ls_nil ?_
      refine then_normal ?_
      refine cw_if hF rfl (fun hc => ?_) (fun hc => ?_)
      ·
       refine cw_seq ?_
       refine wp_region_lit ?_
       refine ls_val hF (.free rfl) rfl rfl (ex_assign rfl rfl) ?_; clear hF a; intro a hF
       refine ls_nil ?_
       refine then_normal ?_
       refine wp_ret ?_
       refine then_ret ((fin1 hF rfl rfl ⟨_, rfl, ?_⟩))
       exact ⟨false_B (by rintro ⟨h1, h2, h3, h4, h5, h6⟩; first | omega | exact absurd h3 ‹¬ (t.nb = u.nb ∧ ∀ k, 0 ≤ k → k < t.nb → t.B k = u.B k)› | exact absurd h4 ‹¬ (t.nf = u.nf ∧ ∀ k, 0 ≤ k → k < t.nf → t.F k = u.F k)› | exact absurd (h6 i h0 (by omega)) ‹¬ ((t.ln i) = (u.ln i) ∧ ∀ k, 0 ≤ k → k < (t.ln i) → (t.C i) k = (u.C i) k)›), hS.sub (.cons _ (.cons _ .slnil))⟩
      ·
       refine wp_skip ?_
       refine then_normal ?_
       refine cw_seq ?_
       refine cw_seq ?_
       refine wp_region_lit ?_
       refine ls_val hF (.free rfl) rfl rfl (ex_assign rfl rfl) ?_; clear hF a; intro a hF
       refine ls_nil ?_
       refine then_normal ?_
       refine wp_block ?_
       refine cw_loop (fun mm a w => ∃ (i : Int), mm = ((t.nc - i).toNat) ∧ (0 ≤ i) ∧ (i ≤ t.nc) ∧ (∀ k, 0 ≤ k → k < i → (t.ln k) = (u.ln k) ∧ ∀ j, 0 ≤ j → j < (t.ln k) → (t.C k) j = (u.C k) j) ∧ Fr a 62 [(2, .pointer (some ⟨g1, 0, none⟩)), (3, .pointer (some ⟨g2, 0, none⟩)), (5, .int .i64 i)] ∧ Sat w0 w [.blk g1 [.int .i64 t.vars, .int .i64 t.den, vB, vF, vC], .blk g2 [.int .i64 u.vars, .int .i64 u.den, xB, xF, xC]]) ?_ ?_ (m := ((t.nc - 0).toNat))
       ·
        refine ⟨0, rfl, (by omega), (by omega), ?_, (hF.pick (hF.pick (hF.pick hF.nil 5 rfl) 3 rfl) 2 rfl), hS⟩
        ·
         intro k h0 h1; omega
       ·
        clear hF hS a w
        rintro mm a w ⟨i, rfl, h0, h1, hall, hF, hS⟩
        refine cw_seq ?_
        refine cw_seq ?_
        refine wp_region_lit ?_
        refine ls_val hF (.free rfl) rfl rfl (ex_move rfl rfl) ?_; clear hF a; intro a hF
        refine ls_val hF (.free rfl) rfl rfl (ex_field (b := ⟨g1, 4, none⟩) rfl fd_48_4 rfl rfl) ?_; clear hF a; intro a hF
        refine ls_val hF (.free rfl) rfl rfl (ex_load_blk 0 rfl pl_23 rfl hS rfl rfl) ?_; clear hF a; intro a hF
        refine ls_val hF (.free rfl) rfl rfl (ex_len rfl sl_23 rfl hT.C.row.slh) ?_; clear hF a; intro a hF
        refine ls_val hF (.free rfl) rfl rfl (ex_lss rfl rfl rfl) ?_; clear hF a; intro a hF
        refine ls_nil ?_
        refine then_normal ?_
        refine cw_if hF rfl (fun hc => ?_) (fun hc => ?_)
        ·
         refine wp_skip ?_
         refine then_normal ?_
         refine cw_seq ?_
         refine wp_block ?_
         refine cw_seq ?_
         refine dr_sat (m0 := [.blk g1 [.int .i64 t.vars, .int .i64 t.den, vB, vF, vC], .blk g2 [.int .i64 u.vars, .int .i64 u.den, xB, xF, xC]]) (m1 := [.blk g1 [.int .i64 t.vars, .int .i64 t.den, vB, vF, vC], .blk g2 [.int .i64 u.vars, .int .i64 u.den, xB, xF, xC]]) 1000 mx_ hS (.cons_cons _ (.cons_cons _ .slnil)) (.cons_cons _ (.cons_cons _ .slnil)) rfl ?_; clear hS; intro w hS hcl hB
         refine dr_val hF hcl hB 0 rfl (.free rfl) rfl rfl (by kernel_rfl) rfl (fun w => (ex_field (b := ⟨g1, 4, none⟩) rfl fd_48_4 rfl rfl)) ?_; clear hF a hcl hB; intro a hF hcl hB
         refine dr_loadA hF hcl hB 1 rfl (.free rfl) rfl rfl (by kernel_rfl) rfl (fun w hS => (ex_load_blk 0 rfl pl_23 rfl hS rfl rfl)) ?_; clear hF a hcl hB; intro a hF hcl hB
         refine dr_val hF hcl hB 2 rfl (.free rfl) rfl rfl (by kernel_rfl) rfl (fun w => (ex_move rfl rfl)) ?_; clear hF a hcl hB; intro a hF hcl hB
         refine dr_val hF hcl hB 3 rfl (.free rfl) rfl rfl (by kernel_rfl) rfl (fun w => (ex_index (k := i) rfl sl_23 rfl rfl hT.C.row.slh (by omega) (by omega) (by omega))) ?_; clear hF a hcl hB; intro a hF hcl hB
         refine dr_loadA hF hcl hB 4 rfl (.free rfl) rfl rfl (by kernel_rfl) rfl (fun w hS => (ex_load_row (u := (vv i)) rfl pl_22 rfl (hT.C.row.below hS.below) (by omega) (by omega) rfl)) ?_; clear hF a hcl hB; intro a hF hcl hB
         refine dr_val hF hcl hB 5 rfl (.free rfl) rfl rfl (by kernel_rfl) rfl (fun w => (ex_field (b := ⟨g2, 4, none⟩) rfl fd_48_4 rfl rfl)) ?_; clear hF a hcl hB; intro a hF hcl hB
         refine dr_loadA hF hcl hB 6 rfl (.free rfl) rfl rfl (by kernel_rfl) rfl (fun w hS => (ex_load_blk 1 rfl pl_23 rfl hS rfl rfl)) ?_; clear hF a hcl hB; intro a hF hcl hB
         refine dr_val hF hcl hB 7 rfl (.free rfl) rfl rfl (by kernel_rfl) rfl (fun w => (ex_move rfl rfl)) ?_; clear hF a hcl hB; intro a hF hcl hB
         refine dr_val hF hcl hB 8 rfl (.free rfl) rfl rfl (by kernel_rfl) rfl (fun w => (ex_index (k := i) rfl sl_23 rfl rfl hU.C.row.slh (by omega) (by omega) (by omega))) ?_; clear hF a hcl hB; intro a hF hcl hB
         refine dr_loadA hF hcl hB 9 rfl (.free rfl) rfl rfl (by kernel_rfl) rfl (fun w hS => (ex_load_row (u := (xv i)) rfl pl_22 rfl (hU.C.row.below hS.below) (by omega) (by omega) rfl)) ?_; clear hF a hcl hB; intro a hF hcl hB
         refine dr_call hF hcl 10 rfl (.free rfl) rfl rfl (by kernel_rfl) (ex_call0 rfl rfl cl_38 (args_cons rfl (args_cons rfl args0))) (c_same0 (n := (t.ln i)) (m := (u.ln i)) (f := (t.C i)) (g := (u.C i)) w ((hT.C.p i (by omega) (by omega)).below hS.below) ((hU.C.p i (by omega) (by omega)).below hS.below)) ?_; clear hF hB; rintro _ w ⟨rfl, hS'⟩ a hF hcl
         replace hS : Sat w0 w [.blk g1 [.int .i64 t.vars, .int .i64 t.den, vB, vF, vC], .blk g2 [.int .i64 u.vars, .int .i64 u.den, xB, xF, xC]] := hS.comp hS'; clear hS'
         refine ⟨⟨(fun _ => hS.sub (.cons_cons _ (.cons_cons _ .slnil))), hS.sub (.cons_cons _ (.cons_cons _ .slnil))⟩, fun hB => ?_⟩
         refine dr_val hF hcl hB 11 rfl (.free rfl) rfl rfl (by kernel_rfl) rfl (fun w => (ex_not rfl rfl)) ?_; clear hF a hcl hB; intro a hF hcl hB
         refine dr_done (by kernel_rfl) ?_; clear hcl hB
         refine then_normal ?_
         refine cw_if hF rfl (fun hc => ?_) (fun hc => ?_)
         ·
          refine cw_seq ?_
          refine wp_region_lit ?_
          refine ls_val hF (.free rfl) rfl rfl (ex_assign rfl rfl) ?_; clear hF a; intro a hF
          refine ls_nil ?_
          refine then_normal ?_
          refine wp_ret ?_
          refine inb_ret (then_ret (then_ret (inb_ret (then_ret ((fin1 hF rfl rfl ⟨_, rfl, ?_⟩))))))
          exact ⟨false_B (by rintro ⟨h1, h2, h3, h4, h5, h6⟩; first | omega | exact absurd h3 ‹¬ (t.nb = u.nb ∧ ∀ k, 0 ≤ k → k < t.nb → t.B k = u.B k)› | exact absurd h4 ‹¬ (t.nf = u.nf ∧ ∀ k, 0 ≤ k → k < t.nf → t.F k = u.F k)› | exact absurd (h6 i h0 (by omega)) ‹¬ ((t.ln i) = (u.ln i) ∧ ∀ k, 0 ≤ k → k < (t.ln i) → (t.C i) k = (u.C i) k)›), hS.sub (.cons _ (.cons _ .slnil))⟩
         ·
          refine wp_skip ?_
          refine inb_normal ?_
          refine then_normal ?_
          refine wp_region_lit ?_
          refine ls_val hF (.free rfl) rfl rfl (ex_move rfl rfl) ?_; clear hF a; intro a hF
          refine ls_val hF (.free rfl) rfl rfl (ex_add (r := i + 1) rfl rfl rfl (by omega) (by unfold I64; omega)) ?_; clear hF a; intro a hF
          refine ls_val hF (.free rfl) rfl rfl (ex_assign rfl rfl) ?_; clear hF a; intro a hF
          refine ls_nil ?_
          refine then_normal ?_
          refine ⟨_, (by omega), i + 1, rfl, (by omega), (by omega), ?_, (hF.pick (hF.pick (hF.pick hF.nil 5 rfl) 3 rfl) 2 rfl), hS⟩
          ·
           have hq : (t.ln i) = (u.ln i) ∧ ∀ j, 0 ≤ j → j < (t.ln i) → (t.C i) j = (u.C i) j := by first | assumption | exact Classical.not_not.1 ‹_›
           intro k h0' h1'; rcases Int.lt_or_eq_of_le (show k ≤ i by omega) with hk | hk; exact hall k h0' hk; rw [hk]; exact hq
        ·
         refine wp_exit ?_
         refine then_exit ?_
         refine then_exit ?_
         refine inb_hit ?_
         refine then_normal ?_
         refine cw_seq ?_
         refine wp_region_lit ?_
         refine ls_val hF (.free rfl) rfl rfl (ex_assign rfl rfl) ?_; clear hF a; intro a hF
         refine ls_nil ?_
         refine then_normal ?_
         refine wp_ret ?_
         refine (fin1 hF rfl rfl ⟨_, rfl, ?_⟩)
         exact ⟨true_B ⟨by omega, by omega, by first | assumption | exact Classical.not_not.1 ‹¬ ¬ (t.nb = u.nb ∧ ∀ k, 0 ≤ k → k < t.nb → t.B k = u.B k)›, by first | assumption | exact Classical.not_not.1 ‹¬ ¬ (t.nf = u.nf ∧ ∀ k, 0 ≤ k → k < t.nf → t.F k = u.F k)›, by omega, fun k k0 k1 => hall k k0 (by omega)⟩, hS.sub (.cons _ (.cons _ .slnil))⟩

set_option maxRecDepth 20000 in
theorem c_same {vB vF vC : Value} {vv : Int → Value} {t : Tb} {xB xF xC : Value} {xv : Int → Value} {u : Tb} (w0 : World) (hT : TAt w0 vB vF vC vv t) (hU : TAt w0 xB xF xC xv u) :
    Calls Try.prog 24 [.agg #[.int .i64 t.vars, .int .i64 t.den, vB, vF, vC], .agg #[.int .i64 u.vars, .int .i64 u.den, xB, xF, xC]].toArray w0 fun e w => ∃ v, e = .returned v ∧ v = B (SameT t u) ∧ Sat w0 w [] := by
  have hn := hT.F.slh.n0; have hn1 := hT.F.slh.n1; have hb := hT.B.slh.n0; have hb1 := hT.B.slh.n1; have hc0 := hT.C.row.slh.n0; have hc1 := hT.C.row.slh.n1; have hcu := hU.C.row.slh.n1
  refine enterS (vs := [.agg #[.int .i64 t.vars, .int .i64 t.den, vB, vF, vC], .agg #[.int .i64 u.vars, .int .i64 u.den, xB, xF, xC]]) Try.func24 rfl Try.ntmps24 rfl ?_
  intro a w hS hF
  refine cw_seq ?_
  refine wp_region_lit ?_
  refine ls_any hF (.free rfl) rfl rfl (ex_box (cs := [.int .i64 t.vars, .int .i64 t.den, vB, vF, vC]) rfl hS rfl rfl) ?_; clear hF; rintro _ w ⟨g1, rfl, hS⟩ a hF
  replace hS : Sat w0 w [.blk g1 [.int .i64 t.vars, .int .i64 t.den, vB, vF, vC]] := hS
  refine ls_any hF (.free rfl) rfl rfl (ex_box (cs := [.int .i64 u.vars, .int .i64 u.den, xB, xF, xC]) rfl hS rfl rfl) ?_; clear hF; rintro _ w ⟨g2, rfl, hS⟩ a hF
  replace hS : Sat w0 w [.blk g1 [.int .i64 t.vars, .int .i64 t.den, vB, vF, vC], .blk g2 [.int .i64 u.vars, .int .i64 u.den, xB, xF, xC]] := hS
  refine ls_val hF (.free rfl) rfl rfl (ex_assign rfl rfl) ?_; clear hF a; intro a hF
  refine ls_nil ?_
  refine then_normal ?_
  refine cw_seq ?_
  refine wp_region_lit ?_
  refine ls_val hF (.free rfl) rfl rfl (ex_loads_blk 0 rfl st_43 rfl hS rfl rfl) ?_; clear hF a; intro a hF
  refine ls_val hF (.free rfl) rfl rfl (ex_loads_blk 1 rfl st_48 rfl hS rfl rfl) ?_; clear hF a; intro a hF
  refine ls_call hF (.free rfl) rfl rfl (ex_call0 rfl rfl cl_50 (args_cons rfl (args_cons rfl args0))) (c_samet (t := t) (u := u) w (hT.below hS.below) (hU.below hS.below)) ?_; clear hF; rintro _ w ⟨rfl, hS'⟩ a hF
  replace hS : Sat w0 w [.blk g1 [.int .i64 t.vars, .int .i64 t.den, vB, vF, vC], .blk g2 [.int .i64 u.vars, .int .i64 u.den, xB, xF, xC]] := hS.comp hS'; clear hS'
  refine ls_val hF (.free rfl) rfl rfl (ex_assign rfl rfl) ?_; clear hF a; intro a hF
  refine ls_nil ?_
  refine then_normal ?_
  refine wp_ret ?_
  refine (fin1 hF rfl rfl ⟨_, rfl, ?_⟩)
  exact ⟨rfl, hS.sub (.cons _ (.cons _ .slnil))⟩

def LitP (t : Tb) : Prop := (∀ k, 0 ≤ k → k < t.nc → t.ln k ≤ 20) ∧ t.nf ≤ 12 ∧ t.nb ≤ 8 ∧ t.nc ≤ 20

set_option maxRecDepth 20000 in
theorem c_little {vB vF vC : Value} {vv : Int → Value} {t : Tb} (w0 : World) (hT : TAt w0 vB vF vC vv t) :
    Calls Try.prog 22 [.agg #[.int .i64 t.vars, .int .i64 t.den, vB, vF, vC]].toArray w0 fun e w => ∃ v, e = .returned v ∧ v = B (LitP t) ∧ Sat w0 w [] := by
  have hn := hT.F.slh.n0; have hn1 := hT.F.slh.n1; have hb := hT.B.slh.n0; have hb1 := hT.B.slh.n1; have hc0 := hT.C.row.slh.n0; have hc1 := hT.C.row.slh.n1
  refine enterS (vs := [.agg #[.int .i64 t.vars, .int .i64 t.den, vB, vF, vC]]) Try.func22 rfl Try.ntmps22 rfl ?_
  intro a w hS hF
  refine cw_seq ?_
  refine wp_region_lit ?_
  refine ls_any hF (.free rfl) rfl rfl (ex_box (cs := [.int .i64 t.vars, .int .i64 t.den, vB, vF, vC]) rfl hS rfl rfl) ?_; clear hF; rintro _ w ⟨g1, rfl, hS⟩ a hF
  replace hS : Sat w0 w [.blk g1 [.int .i64 t.vars, .int .i64 t.den, vB, vF, vC]] := hS
  refine ls_val hF (.free rfl) rfl rfl (ex_assign rfl rfl) ?_; clear hF a; intro a hF
  refine ls_nil ?_
  refine then_normal ?_
  refine cw_seq ?_
  refine cw_seq ?_
  refine wp_region_lit ?_
  refine ls_val hF (.free rfl) rfl rfl (ex_assign rfl rfl) ?_; clear hF a; intro a hF
  refine ls_nil ?_
  refine then_normal ?_
  refine wp_block ?_
  refine cw_loop (fun mm a w => ∃ (i : Int), mm = ((t.nc - i).toNat) ∧ (0 ≤ i) ∧ (i ≤ t.nc) ∧ (∀ k, 0 ≤ k → k < i → t.ln k ≤ 20) ∧ Fr a 34 [(1, .pointer (some ⟨g1, 0, none⟩)), (3, .int .i64 i)] ∧ Sat w0 w [.blk g1 [.int .i64 t.vars, .int .i64 t.den, vB, vF, vC]]) ?_ ?_ (m := ((t.nc - 0).toNat))
  ·
   refine ⟨0, rfl, (by omega), (by omega), ?_, (hF.pick (hF.pick hF.nil 3 rfl) 1 rfl), hS⟩
   ·
    intro k k0 k1; omega
  ·
   clear hF hS a w
   rintro mm a w ⟨i, rfl, h0, h1, hall, hF, hS⟩
   refine cw_seq ?_
   refine cw_seq ?_
   refine wp_region_lit ?_
   refine ls_val hF (.free rfl) rfl rfl (ex_move rfl rfl) ?_; clear hF a; intro a hF
   refine ls_val hF (.free rfl) rfl rfl (ex_field (b := ⟨g1, 4, none⟩) rfl fd_48_4 rfl rfl) ?_; clear hF a; intro a hF
   refine ls_val hF (.free rfl) rfl rfl (ex_load_blk 0 rfl pl_23 rfl hS rfl rfl) ?_; clear hF a; intro a hF
   refine ls_val hF (.free rfl) rfl rfl (ex_len rfl sl_23 rfl hT.C.row.slh) ?_; clear hF a; intro a hF
   refine ls_val hF (.free rfl) rfl rfl (ex_lss rfl rfl rfl) ?_; clear hF a; intro a hF
   refine ls_nil ?_
   refine then_normal ?_
   refine cw_if hF rfl (fun hc => ?_) (fun hc => ?_)
   ·
    refine wp_skip ?_
    refine then_normal ?_
    refine cw_seq ?_
    refine wp_block ?_
    refine cw_seq ?_
    refine wp_region_lit ?_
    refine ls_val hF (.free rfl) rfl rfl (ex_field (b := ⟨g1, 4, none⟩) rfl fd_48_4 rfl rfl) ?_; clear hF a; intro a hF
    refine ls_val hF (.free rfl) rfl rfl (ex_load_blk 0 rfl pl_23 rfl hS rfl rfl) ?_; clear hF a; intro a hF
    refine ls_val hF (.free rfl) rfl rfl (ex_move rfl rfl) ?_; clear hF a; intro a hF
    refine ls_val hF (.free rfl) rfl rfl (ex_index (k := i) rfl sl_23 rfl rfl hT.C.row.slh (by omega) (by omega) (by omega)) ?_; clear hF a; intro a hF
    refine ls_val hF (.free rfl) rfl rfl (ex_load_row (u := (vv i)) rfl pl_22 rfl (hT.C.row.below hS.below) (by omega) (by omega) rfl) ?_; clear hF a; intro a hF
    refine ls_val hF (.free rfl) rfl rfl (ex_len rfl sl_22 rfl (hT.C.p i (by omega) (by omega)).slh) ?_; clear hF a; intro a hF
    refine ls_val hF (.free rfl) rfl rfl (ex_gtr rfl rfl rfl) ?_; clear hF a; intro a hF
    refine ls_nil ?_
    refine then_normal ?_
    refine cw_if hF rfl (fun hc => ?_) (fun hc => ?_)
    ·
     refine cw_seq ?_
     refine wp_region_lit ?_
     refine ls_val hF (.free rfl) rfl rfl (ex_assign rfl rfl) ?_; clear hF a; intro a hF
     refine ls_nil ?_
     refine then_normal ?_
     refine wp_ret ?_
     refine inb_ret (then_ret (then_ret (inb_ret (then_ret ((fin1 hF rfl rfl ⟨_, rfl, ?_⟩))))))
     exact ⟨false_B (by rintro ⟨h1, h2, h3, h4⟩; first | omega | (have := h1 i h0 (by omega); omega)), hS.sub (.cons _ .slnil)⟩
    ·
     refine wp_skip ?_
     refine inb_normal ?_
     refine then_normal ?_
     refine wp_region_lit ?_
     refine ls_val hF (.free rfl) rfl rfl (ex_move rfl rfl) ?_; clear hF a; intro a hF
     refine ls_val hF (.free rfl) rfl rfl (ex_add (r := i + 1) rfl rfl rfl (by omega) (by unfold I64; omega)) ?_; clear hF a; intro a hF
     refine ls_val hF (.free rfl) rfl rfl (ex_assign rfl rfl) ?_; clear hF a; intro a hF
     refine ls_nil ?_
     refine then_normal ?_
     refine ⟨_, (by omega), i + 1, rfl, (by omega), (by omega), ?_, (hF.pick (hF.pick hF.nil 3 rfl) 1 rfl), hS⟩
     ·
      intro k h0' h1'; rcases Int.lt_or_eq_of_le (show k ≤ i by omega) with hk | hk; exact hall k h0' hk; rw [hk]; omega
   ·
    refine wp_exit ?_
    refine then_exit ?_
    refine then_exit ?_
    refine inb_hit ?_
    refine then_normal ?_
    refine cw_seq ?_
    refine wp_region_lit ?_
    refine ls_val hF (.free rfl) rfl rfl (ex_field (b := ⟨g1, 3, none⟩) rfl fd_48_3 rfl rfl) ?_; clear hF a; intro a hF
    refine ls_val hF (.free rfl) rfl rfl (ex_load_blk 0 rfl pl_22 rfl hS rfl rfl) ?_; clear hF a; intro a hF
    refine ls_val hF (.free rfl) rfl rfl (ex_len rfl sl_22 rfl hT.F.slh) ?_; clear hF a; intro a hF
    refine ls_val hF (.free rfl) rfl rfl (ex_leq rfl rfl rfl) ?_; clear hF a; intro a hF
    refine ls_val hF (.free rfl) rfl rfl (ex_move rfl rfl) ?_; clear hF a; intro a hF
    refine by_slot hF (d := 22) rfl ?_ ?_ <;> clear hF <;> intro hc hF
    ·
     refine ls_val hF (.on rfl rfl rfl rfl rfl) rfl rfl (ex_field (b := ⟨g1, 2, none⟩) rfl fd_48_2 rfl rfl) ?_; clear hF a; intro a hF
     refine ls_val hF (.on rfl rfl rfl rfl rfl) rfl rfl (ex_load_blk 0 rfl pl_22 rfl hS rfl rfl) ?_; clear hF a; intro a hF
     refine ls_val hF (.on rfl rfl rfl rfl rfl) rfl rfl (ex_len rfl sl_22 rfl hT.B.slh) ?_; clear hF a; intro a hF
     refine ls_val hF (.on rfl rfl rfl rfl rfl) rfl rfl (ex_leq rfl rfl rfl) ?_; clear hF a; intro a hF
     refine ls_val hF (.free rfl) rfl rfl (ex_pick_t rfl rfl rfl) ?_; clear hF a; intro a hF
     refine ls_val hF (.free rfl) rfl rfl (ex_move rfl rfl) ?_; clear hF a; intro a hF
     refine by_slot hF (d := 28) rfl ?_ ?_ <;> clear hF <;> intro hc hF
     ·
      refine ls_val hF (.on rfl rfl rfl rfl rfl) rfl rfl (ex_field (b := ⟨g1, 4, none⟩) rfl fd_48_4 rfl rfl) ?_; clear hF a; intro a hF
      refine ls_val hF (.on rfl rfl rfl rfl rfl) rfl rfl (ex_load_blk 0 rfl pl_23 rfl hS rfl rfl) ?_; clear hF a; intro a hF
      refine ls_val hF (.on rfl rfl rfl rfl rfl) rfl rfl (ex_len rfl sl_23 rfl hT.C.row.slh) ?_; clear hF a; intro a hF
      refine ls_val hF (.on rfl rfl rfl rfl rfl) rfl rfl (ex_leq rfl rfl rfl) ?_; clear hF a; intro a hF
      refine ls_val hF (.free rfl) rfl rfl (ex_pick_t rfl rfl rfl) ?_; clear hF a; intro a hF
      refine ls_val hF (.free rfl) rfl rfl (ex_assign rfl rfl) ?_; clear hF a; intro a hF
      refine ls_nil ?_
      refine then_normal ?_
      refine wp_ret ?_
      refine (fin1 hF rfl rfl ⟨_, rfl, ?_⟩)
      exact ⟨B_congr ⟨fun hx => ⟨fun k k0 k1 => hall k k0 (by omega), by omega, by omega, by omega⟩, fun h => by have h1 := h.2.1; have h2 := h.2.2.1; have h3 := h.2.2.2; omega⟩, hS.sub (.cons _ .slnil)⟩
     ·
      refine ls_off hF (.on rfl rfl rfl rfl rfl) rfl rfl ?_; clear hF a; intro a hF
      refine ls_off hF (.on rfl rfl rfl rfl rfl) rfl rfl ?_; clear hF a; intro a hF
      refine ls_off hF (.on rfl rfl rfl rfl rfl) rfl rfl ?_; clear hF a; intro a hF
      refine ls_off hF (.on rfl rfl rfl rfl rfl) rfl rfl ?_; clear hF a; intro a hF
      refine ls_val hF (.free rfl) rfl rfl (ex_pick_f rfl rfl rfl) ?_; clear hF a; intro a hF
      refine ls_val hF (.free rfl) rfl rfl (ex_assign rfl rfl) ?_; clear hF a; intro a hF
      refine ls_nil ?_
      refine then_normal ?_
      refine wp_ret ?_
      refine (fin1 hF rfl rfl ⟨_, rfl, ?_⟩)
      exact ⟨false_B (by rintro ⟨h1, h2, h3, h4⟩; first | omega | (have := h1 i h0 (by omega); omega)), hS.sub (.cons _ .slnil)⟩
    ·
     refine ls_off hF (.on rfl rfl rfl rfl rfl) rfl rfl ?_; clear hF a; intro a hF
     refine ls_off hF (.on rfl rfl rfl rfl rfl) rfl rfl ?_; clear hF a; intro a hF
     refine ls_off hF (.on rfl rfl rfl rfl rfl) rfl rfl ?_; clear hF a; intro a hF
     refine ls_off hF (.on rfl rfl rfl rfl rfl) rfl rfl ?_; clear hF a; intro a hF
     refine ls_val hF (.free rfl) rfl rfl (ex_pick_f rfl rfl rfl) ?_; clear hF a; intro a hF
     refine ls_val hF (.free rfl) rfl rfl (ex_move rfl rfl) ?_; clear hF a; intro a hF
     refine ls_off hF (.on rfl rfl rfl rfl rfl) rfl rfl ?_; clear hF a; intro a hF
     refine ls_off hF (.on rfl rfl rfl rfl rfl) rfl rfl ?_; clear hF a; intro a hF
     refine ls_off hF (.on rfl rfl rfl rfl rfl) rfl rfl ?_; clear hF a; intro a hF
     refine ls_off hF (.on rfl rfl rfl rfl rfl) rfl rfl ?_; clear hF a; intro a hF
     refine ls_val hF (.free rfl) rfl rfl (ex_pick_f rfl rfl rfl) ?_; clear hF a; intro a hF
     refine ls_val hF (.free rfl) rfl rfl (ex_assign rfl rfl) ?_; clear hF a; intro a hF
     refine ls_nil ?_
     refine then_normal ?_
     refine wp_ret ?_
     refine (fin1 hF rfl rfl ⟨_, rfl, ?_⟩)
     exact ⟨false_B (by rintro ⟨h1, h2, h3, h4⟩; first | omega | (have := h1 i h0 (by omega); omega)), hS.sub (.cons _ .slnil)⟩

end Go.Proofs.Ytakgjpmhbfieeaa
