/- The walk of Solve, of master. -/
import Derived.Test.YtopmifmfecfaaaaGv
import Derived.Test.YtopmifmfecfaaaaM1
import Derived.Test.YtopmifmfecfaaaaGp
import Derived.Test.YtopmifmfecfaaaaSh
namespace Go.Proofs.Ytopmifmfecfaaaa
open Go Go.RowKit Go.Proofs.Gw
set_option linter.unusedVariables false

theorem cl_36 : calledT Try.prog 36 = true := by kernel_rfl
theorem cl_37 : calledT Try.prog 37 = true := by kernel_rfl
theorem cl_38 : calledT Try.prog 38 = true := by kernel_rfl
theorem cl_39 : calledT Try.prog 39 = true := by kernel_rfl
theorem cl_40 : calledT Try.prog 40 = true := by kernel_rfl
theorem cl_41 : calledT Try.prog 41 = true := by kernel_rfl
theorem cl_73 : calledT Try.prog 73 = true := by kernel_rfl
theorem it_112 : Try.prog.underlying 112 = some (.int .u64) := by kernel_rfl
theorem it_3 : Try.prog.underlying 3 = some (.int .i64) := by kernel_rfl
theorem so_112 : (Try.prog.underlying 112).isSome = true := by kernel_rfl
theorem so_3 : (Try.prog.underlying 3).isSome = true := by kernel_rfl
theorem Sat.oldblk {w0 w : World} {l : List Ent} {g : Nat} {cs : List Value} (hS : Sat w0 w l) (h : (Ent.blk g cs).holds w0) : (Ent.blk g cs).holds w := by
  obtain ⟨T, h⟩ := h
  exact ⟨T, by rw [hS.below.block g (by rw [Array.getElem?_eq_some_iff] at h; exact h.1)]; exact h⟩
theorem xlfs {L : List (Nat × Value)} {w0 w : World} {l : List Ent} {o : Oper} {x : Operand} {T : TypeId} {k g : Nat} {cs : List Value} (ht : structT Try.prog T = some k) (h : (Ent.blk g cs).holds w0) (hS : Sat w0 w l) (ho : o.op = .load T x := by exact rfl)
    (hx : evL L x = some (.pointer (some ⟨g, 0, none⟩)) := by exact rfl) (hk : cs.length = k := by exact rfl) : Runs Try.prog L w o (.value (.agg cs.toArray)) w := ex_loads ho (by rw [ht, hk]) hx (Sat.oldblk hS h).cells

set_option maxRecDepth 20000 in
theorem c_sprop {vL vD : Value} {p : Prob} {gp : Nat} {vA : Value} {n : Int} {f : Int → Int} (w0 : World) (hG : (Ent.blk gp [vL, vD, .int .i64 p.stock, .int .i64 p.kerf]).holds w0) (h : PAt w0 vL vD p) (hA : Row w0 vA 1 n (ints f)) :
    Calls Try.prog 36 [vA, .pointer (some ⟨gp, 0, none⟩)].toArray w0 fun e w => ∃ v, e = .returned v ∧ v = B (¬ ProperP p n f) ∧ Sat w0 w [] := by
  refine zenG Try.func36 Try.ntmps36 fun w hS => ?_
  refine zsr ?_
  refine zlv xas ?_
  refine zlz ?_
  refine zlv (xlfs st_39 hG hS) ?_
  refine zlv xmv ?_
  refine zlc (xc0 cl_37) (c_pproper (p := p) w (h.below hS.below) (hA.below hS.below)) ?_; rintro _ w ⟨rfl, hS'⟩
  replace hS := hS.cmp hS'; clear hS'
  refine zs2 ?_
  refine zlt <| zrt <| zf1 ⟨_, rfl, ?_⟩
  exact ⟨rfl, hS⟩

theorem c_ixprop {vL vD : Value} {p : Prob} {gp : Nat} {vM : Value} {u : Int} {mv : Int → Value} {ml : Int → Int} {mf : Int → Int → Int} (w0 : World) (hG : (Ent.blk gp [vL, vD, .int .i64 p.stock, .int .i64 p.kerf]).holds w0) (h : PAt w0 vL vD p) (hM : MAt w0 vM u mv ml mf) :
    Calls Try.prog 69 [vM, .func (.func 36) #[] #[.pointer (some ⟨gp, 0, none⟩)]].toArray w0 fun e w => ∃ v, e = .returned v ∧ ∃ r : Int, v = .int .i64 r ∧ ((r = -1 ∧ ∀ k, 0 ≤ k → k < u → ¬ (¬ ProperP p (ml k) (mf k))) ∨ (0 ≤ r ∧ r < u ∧ (¬ ProperP p (ml r) (mf r)))) ∧ Sat w0 w [] := by
  have hn := hM.row.slh.n0; have hn1 := hM.row.slh.n1
  refine zenG Try.func69 Try.ntmps69 fun w hS => ?_
  refine zsr ?_
  refine zlv xas ?_
  refine zlt <| zsq <| zsr ?_
  refine zlv xmv ?_
  refine zlv (xln sl_32 hM.row.slh) ?_
  refine zlv xmv ?_
  refine zlt <| zbk <| zlp (fun mm M w => ∃ (i : Int), mm = ((u - i).toNat) ∧ (0 ≤ i) ∧ (i ≤ u) ∧ (∀ k, 0 ≤ k → k < i → ¬ (¬ ProperP p (ml k) (mf k))) ∧ M = [(0, vM), (1, .func (.func 36) #[] #[.pointer (some ⟨gp, 0, none⟩)]), (7, .int .i64 u), (8, .int .i64 i)] ∧ Sat w0 w []) ⟨0, rfl, (by omega), (by omega), ?_, rfl, hS⟩ ?_
  ·
   intro k h0 h1; omega
  clear hS w
  rintro mm M w ⟨i, rfl, h0, h1, hall, rfl, hS⟩
  refine zsr ?_
  refine zlv xlss ?_
  refine zlt <| zsq ?_
  refine zcif ?_ ?_ <;> intro hc
  ·
   refine zsk <| ztn <| zsq <| zbk <| zsr ?_
   refine zs2 ?_
   refine zlz ?_
   refine zs3 ?_
   refine zlv (xix (kk := i) sl_32 hM.row.slh) ?_
   refine zlv (xlr (u := (mv i)) pl_22 (hM.row.below hS.below)) ?_
   refine zlc (xcc (vs := [_]) cl_36) (c_sprop (p := p) w (Sat.oldblk hS hG) (h.below hS.below) ((hM.p i (by omega) (by omega)).below hS.below)) ?_; rintro _ w ⟨rfl, hS'⟩
   replace hS := hS.cmp hS'; clear hS'
   refine zlt ?_
   refine zcif ?_ ?_ <;> intro hc
   ·
    refine zsr ?_
    refine zs2 ?_
    refine zlt <| zrt <| zbr <| ztr <| ztr <| zbr <| ztr <| zf1 ⟨_, rfl, ?_⟩
    exact ⟨i, rfl, .inr ⟨by omega, by omega, ‹¬ ProperP p (ml i) (mf i)›⟩, hS⟩
   refine zsk <| zbn <| ztn <| zrg ?_
   refine zlv (xadd (r := i + 1)) ?_
   refine zlv xmv ?_
   refine zln <| zlq ⟨i + 1, rfl, (by omega), (by omega), ?_, rfl, hS⟩
   ·
    intro k h0' h1'; rcases Int.lt_or_eq_of_le (show k ≤ i by omega) with hk | hk; exact hall k h0' hk; rw [hk]; assumption
  refine zxt <| ztx <| ztx <| zbh <| ztn <| zsr ?_
  refine zlv xas ?_
  refine zlt <| zrt <| zf1 ⟨_, rfl, ?_⟩
  exact ⟨-1, rfl, .inl ⟨rfl, fun k h0 h1 => hall k h0 (by omega)⟩, hS⟩

theorem c_coprop {vL vD : Value} {p : Prob} {gp : Nat} {vM : Value} {u : Int} {mv : Int → Value} {ml : Int → Int} {mf : Int → Int → Int} (w0 : World) (hG : (Ent.blk gp [vL, vD, .int .i64 p.stock, .int .i64 p.kerf]).holds w0) (h : PAt w0 vL vD p) (hM : MAt w0 vM u mv ml mf) :
    Calls Try.prog 35 [vM, .func (.func 36) #[] #[.pointer (some ⟨gp, 0, none⟩)]].toArray w0 fun e w => ∃ v, e = .returned v ∧ v = B (∃ k, 0 ≤ k ∧ k < u ∧ (¬ ProperP p (ml k) (mf k))) ∧ Sat w0 w [] := by
  refine zenG Try.func35 Try.ntmps35 fun w hS => ?_
  refine zsr ?_
  refine zlv xas ?_
  refine zlz ?_
  refine zs2 ?_
  refine zlc (xc0 cl_69) (c_ixprop w (Sat.oldblk hS hG) (h.below hS.below) (hM.below hS.below)) ?_; rintro _ w ⟨r1, rfl, hr1, hS'⟩
  replace hS := hS.cmp hS'; clear hS'
  refine zs2 ?_
  refine zlt <| zrt <| zf1 ⟨_, rfl, ?_⟩
  exact ⟨B_congr (by
   rcases hr1 with ⟨h1, h2⟩ | ⟨h1, h2, h3⟩
   · exact ⟨fun h => by omega, fun ⟨k, h4, h5, h6⟩ => absurd h6 (h2 k h4 h5)⟩
   · exact ⟨fun _ => ⟨_, h1, h2, h3⟩, fun _ => h1⟩), hS⟩

def cpyI (q : Nat) (r : Int) (d c : Int → Int) : Int → Int := fun k => if (q : Int) ≤ k ∧ k < q + r then d (k - q) else c k
theorem cpy_ints (q : Nat) (r : Int) (d c : Int → Int) : cpy q r (ints d) (ints c) = ints (cpyI q r d c) := by
  funext k
  by_cases h : (q : Int) ≤ k ∧ k < q + r
  · simp only [cpy, ints, cpyI, if_pos h]
  · simp only [cpy, ints, cpyI, if_neg h]
theorem c_mul (n : Int) (h : 0 ≤ n ∧ n ≤ 1000000) (w0 : World) : Calls Try.prog 73 [.int .u64 1, .int .u64 n].toArray w0 fun e w => ∃ v, e = .returned v ∧ v = .tuple #[.int .u64 0, .int .u64 n] ∧ Sat w0 w [] := by
  obtain ⟨k, rfl⟩ := Int.eq_ofNat_of_zero_le h.1
  have hm := Try.bits_Mul 1 k (by decide) (by omega) w0
  refine hm.mono fun e w ⟨he, hw⟩ => ⟨_, he, ?_, by rw [hw]; exact Sat.start _⟩
  rw [Nat.one_mul, Nat.div_eq_of_lt (by omega), Nat.mod_eq_of_lt (by omega)]; rfl

set_option maxRecDepth 20000 in
theorem c_repeat {v : Value} {f : Int → Int} {n : Int} (w0 : World) (hR : Row w0 v 1 1 (ints f)) (hn : 1 ≤ n ∧ n ≤ 1000) :
    Calls Try.prog 40 [v, .int .i64 n].toArray w0 fun e w => ∃ v, e = .returned v ∧ ∃ r, v = r ∧ Slh r n ∧ Sat w0 w [.own r 1 3 n (ints fun _ => f 0)] := by
  refine zenG Try.func40 Try.ntmps40 fun w hS => ?_
  refine zsr ?_
  refine zlv xas ?_
  refine zlt <| zsq <| zsr ?_
  refine zlv xmv ?_
  refine zlv (xkf xlss) ?_
  refine zlt <| zcf <| zsk <| ztn <| zsr ?_
  refine zlv xmv ?_
  refine zlv (xln sl_22 hR.slh) ?_
  refine zlv (xcv so_3 it_112) ?_
  refine zlv xmv ?_
  refine zlv (xcv so_3 it_112) ?_
  refine zlc (xc0 cl_73) (c_mul n (by omega) w) ?_; rintro _ w ⟨rfl, hS'⟩
  replace hS := hS.cmp hS'; clear hS'
  refine zs5 ?_
  refine zlt <| zsq <| zsr ?_
  refine zlv xmv ?_
  refine zlv (xkf xgtr) ?_
  refine zs2 ?_
  refine zlv (xkf xgtr) ?_
  refine zlv xpf ?_
  refine zlt <| zcf <| zsk <| ztn <| zsr ?_
  refine zlv xmv ?_
  refine zlv (xcv so_112 it_3) ?_
  refine zla (xmk sl_22 el_3 hS) ?_; rintro v1 w ⟨hS, hv1⟩
  replace hS := hS.n1
  refine zlv xas ?_
  refine zlz ?_
  refine zs2 ?_
  refine zlar rfl rfl rfl (ex_copyG (q := 0) (r := 1) 0 rfl sl_22 rfl rfl hS rfl (.inr ⟨rfl, rfl⟩) (hR.below hS.below) (by omega) (by omega) (by omega) (fun _ _ _ => rfl)) ?_; rintro _ w ⟨rfl, hS⟩
  replace hS := hS.n1
  replace hS := hS.recont 0 rfl (d := ints (cpyI 0 1 f (fun _ => 0))) (fun k k0 k1 => congrFun (cpy_ints 0 1 f (fun _ => 0)) k)
  replace hS := hS.n1
  refine zlv xas ?_
  refine zlt <| zsq <| zbk <| zlp (fun mm M w => ∃ (b : Int) (g : Int → Int), mm = ((n - b).toNat) ∧ (1 ≤ b) ∧ (b ≤ n) ∧ (∀ k, 0 ≤ k → k < b → g k = f 0) ∧ M = [(4, .slice none 0 0), (7, v1), (8, .int .i64 b)] ∧ Sat w0 w [.own v1 1 3 n (ints g)]) ⟨1, (cpyI 0 1 f (fun _ => 0)), rfl, (by omega), (by omega), ?_, rfl, hS⟩ ?_
  ·
   intro k k0 k1; obtain rfl : k = 0 := by omega
   rfl
  clear hS w
  rintro mm M w ⟨b, g, rfl, h0, h1, hg, rfl, hS⟩
  refine zsq <| zsr ?_
  refine zs2 ?_
  refine zlv (xln sl_22 hv1) ?_
  refine zlv xlss ?_
  refine zlt ?_
  refine zcif ?_ ?_ <;> intro hc
  ·
   refine zsk <| ztn <| zbk ?_
   refine zdst [] [] 1000 mx_ hS ?_; clear hS; intro w hS
   refine zdv 0 (fun _ => xmv) ?_
   obtain ⟨q1, hq1⟩ : ∃ q1 : Nat, (q1 : Int) = b := ⟨b.toNat, by omega⟩
   obtain ⟨r1, hr1⟩ : ∃ r1 : Int, r1 = min (n - b) b := ⟨_, rfl⟩
   refine zdv 1 (fun _ => xmv) ?_
   refine zdv 2 (fun _ => xmv) ?_
   refine zdv 3 (fun _ => (xsl_lo q1 sl_22 hv1)) ?_
   refine zdv 4 (fun _ => xmv) ?_
   refine zdv 5 (fun _ => xmv) ?_
   refine zdv 6 (fun _ => (xsl_hi q1 sl_22 hv1 (hS.holds _ (List.mem_of_getElem? (i := 0) rfl)).roomy)) ?_
   refine zdar 7 rfl rfl rfl rfl (by kernel_rfl) (ex_copyG (q := q1) (r := r1) 0 rfl sl_22 rfl rfl hS rfl (.inl rfl) (pre_row (hS.rowN 0 rfl) (by omega)) (by omega) (by omega) (by omega) (fun _ _ _ => rfl)) ?_; rintro _ w ⟨rfl, hS⟩
   replace hS := hS.n1
   refine ⟨⟨fun _ => hS.nl, hS.nl⟩, ?_⟩
   refine zdv 8 (fun _ => (xadd (r := b + r1))) ?_
   replace hS := hS.recont 0 rfl (d := ints (cpyI q1 r1 g g)) (fun k k0 k1 => congrFun (cpy_ints q1 r1 g g) k)
   replace hS := hS.n1
   refine zdv 9 (fun _ => xas) ?_
   refine zdd <| zbn <| zlq ⟨b + r1, (cpyI q1 r1 g g), rfl, (by omega), (by omega), ?_, rfl, hS⟩
   ·
    intro k k0 k1; unfold cpyI; split
    · exact hg _ (by omega) (by omega)
    · exact hg k k0 (by omega)
  refine zxt <| ztx <| ztx <| zbh <| ztn <| zsr ?_
  refine zs2 ?_
  refine zlt <| zrt <| zf1 ⟨_, rfl, ?_⟩
  obtain rfl : b = n := by omega
  exact ⟨_, rfl, hv1, (hS.recont 0 rfl (d := ints fun _ => f 0) (fun k k0 k1 => by unfold ints; rw [hg k k0 (by omega)])).pk [0]⟩

theorem grid {u i i2 k k2 : Int} (k0 : 0 ≤ k) (k1 : k < u) (l0 : 0 ≤ k2) (l1 : k2 < u) (e : i2 * u + k2 = i * u + k) : i2 = i ∧ k2 = k := by
  have hi : i2 = i := by
    rcases Int.lt_trichotomy i2 i with h | h | h
    · have := Int.mul_le_mul_of_nonneg_right (show i2 + 1 ≤ i by omega) (show 0 ≤ u by omega); rw [Int.add_mul] at this; omega
    · exact h
    · have := Int.mul_le_mul_of_nonneg_right (show i + 1 ≤ i2 by omega) (show 0 ≤ u by omega); rw [Int.add_mul] at this; omega
  subst hi
  exact ⟨rfl, by omega⟩
theorem grid_in {u n i : Int} (u0 : 0 ≤ u) (i0 : 0 ≤ i) (i1 : i < n) : 0 ≤ i * u ∧ i * u + u ≤ n * u := by
  refine ⟨Int.mul_nonneg i0 u0, ?_⟩
  have := Int.mul_le_mul_of_nonneg_right (show i + 1 ≤ n by omega) u0
  rw [Int.add_mul] at this; omega

set_option maxRecDepth 20000 in
theorem c_trans {vM : Value} {u : Int} {mv : Int → Value} {ml : Int → Int} {mf : Int → Int → Int} {n : Int} (w0 : World) (hM : MAt w0 vM u mv ml mf) (hu : 1 ≤ u ∧ u ≤ 60) (hn : 1 ≤ n ∧ n ≤ 20) (hml : ∀ k, 0 ≤ k → k < u → ml k = n) :
    Calls Try.prog 41 [vM, .int .i64 n].toArray w0 fun e w => ∃ v, e = .returned v ∧ ∃ r vv, v = r ∧ Slh r n ∧ Sat w0 w [.own r 1 22 n vv, .sem (Frame.rows 3 n vv (fun _ => u) (fun i j => mf j i))] := by
  have hnu := grid_in (u := u) (n := n + 1) (i := n) (by omega) (by omega) (by omega)
  have hnu2 := mul_abs (a := n) (b := u) (A := 20) (B := 60) (by omega) (by omega)
  refine zenG Try.func41 Try.ntmps41 fun w hS => ?_
  refine zsr ?_
  refine zlv xas ?_
  refine zlz ?_
  refine zs2 ?_
  refine zlv (xln sl_32 hM.row.slh) ?_
  refine zlv (xmul (r := (n * u)) (e := rfl)) ?_
  refine zla (xmk sl_22 el_3 hS) ?_; rintro v1 w ⟨hS, hv1⟩
  replace hS := hS.n1
  refine zlv xas ?_
  refine zlt <| zsq <| zsr ?_
  refine zlv xmv ?_
  refine zlv (xln sl_32 hM.row.slh) ?_
  refine zlv xmv ?_
  refine zlt <| zbk <| zlp (fun mm M w => ∃ (k : Int) (g : Int → Int), mm = ((u - k).toNat) ∧ (0 ≤ k) ∧ (k ≤ u) ∧ (∀ j, 0 ≤ j → j < k → ∀ i, 0 ≤ i → i < n → g (i * u + j) = mf j i) ∧ M = [(0, vM), (1, .int .i64 n), (4, .slice none 0 0), (5, v1), (17, vM), (18, .int .i64 u), (19, .int .i64 k)] ∧ Sat w0 w [.own v1 1 3 (n * u) (ints g)]) ⟨0, (fun _ => 0), rfl, (by omega), (by omega), ?_, rfl, hS⟩ ?_
  ·
   intro j j0 j1; omega
  clear hS w
  rintro mm M w ⟨k, g, rfl, k0, k1, hg, rfl, hS⟩
  refine zsr ?_
  refine zlv xlss ?_
  refine zlt <| zsq ?_
  refine zcif ?_ ?_ <;> intro hc
  ·
   refine zsk <| ztn <| zsq <| zbk <| zsr ?_
   refine zlv xmv ?_
   have hmlk := hml k k0 (by omega)
   refine zlv (xix (kk := k) sl_32 hM.row.slh) ?_
   refine zlv (xlr (u := (mv k)) pl_22 (hM.row.below hS.below)) ?_
   refine zs2 ?_
   refine zlz ?_
   refine zs2 ?_
   refine zlt <| zbk <| zlp (fun mm M w => ∃ (i : Int) (g : Int → Int), mm = ((n - i).toNat) ∧ (0 ≤ i) ∧ (i ≤ n) ∧ (∀ j, 0 ≤ j → j < k → ∀ i, 0 ≤ i → i < n → g (i * u + j) = mf j i) ∧ (∀ q, 0 ≤ q → q < i → g (q * u + k) = mf k q) ∧ M = [(0, vM), (1, .int .i64 n), (4, .slice none 0 0), (5, v1), (6, .int .i64 k), (7, (mv k)), (17, vM), (18, .int .i64 u), (19, .int .i64 k), (24, .int .i64 n), (25, .int .i64 i)] ∧ Sat w0 w [.own v1 1 3 (n * u) (ints g)]) ⟨0, g, rfl, (by omega), (by omega), ?_, ?_, rfl, hS⟩ ?_
   ·
    exact hg
   ·
    intro q q0 q1; omega
   clear hS w
   rintro mm M w ⟨i, g, rfl, i0, i1, hg2, hg3, rfl, hS⟩
   refine zsr ?_
   refine zlv xlss ?_
   refine zlt <| zsq ?_
   refine zcif ?_ ?_ <;> intro hc
   ·
    refine zsk <| ztn <| zsq <| zbk <| zsr ?_
    refine zlv xmv ?_
    have hgr := grid_in (u := u) (n := n) (by omega) i0 (by omega)
    refine zlv xas ?_
    refine zlt <| zrg ?_
    refine zs3 ?_
    refine zlv (xln sl_32 hM.row.slh) ?_
    refine zlv (xmul (r := (i * u)) (e := rfl)) ?_
    refine zlv xmv ?_
    refine zlv (xadd (r := (i * u) + k)) ?_
    refine zs2 ?_
    refine zlv (xix (kk := i) sl_22 (hM.p k (by omega) (by omega)).slh) ?_
    refine zlv (xlr (u := .int .i64 ((mf k) i)) pl_3 ((hM.p k (by omega) (by omega)).below hS.below)) ?_
    refine zlv (xix (kk := (i * u) + k) sl_22 hv1) ?_
    refine zle (xso 0 pl_3 hS (upd_ints _ _ _)) ?_; clear hS; rintro w hS
    replace hS := hS.n1
    refine zln <| zbn <| ztn <| zrg ?_
    refine zlv (xadd (r := i + 1)) ?_
    refine zlv xmv ?_
    refine zln <| zlq ⟨i + 1, (upd g ((i * u) + k) ((mf k) i)), rfl, (by omega), (by omega), ?_, ?_, rfl, hS⟩
    ·
     intro j j0 j1 q q0 q1; rw [upd_ne _ _ (fun e => by have := grid k0 (by omega) j0 (by omega) e; omega)]; exact hg2 j j0 j1 q q0 q1
    ·
     intro q q0 q1; by_cases e : q = i
     · rw [e, upd_self]
     · rw [upd_ne _ _ (fun e9 => e (grid k0 (by omega) k0 (by omega) e9).1)]; exact hg3 q q0 (by omega)
   refine zxt <| ztx <| ztx <| zbh <| zbn <| ztn <| zrg ?_
   refine zlv (xadd (r := k + 1)) ?_
   refine zlv xmv ?_
   refine zln <| zlq ⟨k + 1, g, rfl, (by omega), (by omega), ?_, rfl, hS⟩
   ·
    intro j j0 j1 q q0 q1; by_cases e : j = k
    · rw [e]; exact hg3 q q0 (by omega)
    · exact hg2 j j0 (by omega) q q0 q1
  refine zxt <| ztx <| ztx <| zbh <| ztn <| zsr ?_
  refine zlv xas ?_
  refine zlt <| zsq <| zsr ?_
  refine zs2 ?_
  refine zlt <| zbk ?_
  replace hS := hS.addnil 1 22 (fun _ => Value.slice none 0 0)
  replace hS := hS.n2
  replace hS := hS.addrows 3 (fun _ => Value.slice none 0 0) (fun _ => u) (fun i j => mf j i)
  replace hS := hS.n3
  replace hS := hS.n3
  have hrs0 := fun k (k0 : 0 ≤ k) (k1 : k < 0) => hS.slhIn 2 rfl k0 k1
  refine zlp (fun mm M w => ∃ (nC : Int) (wv : Int → Value) (i : Int) (wC : Value), mm = ((n - i).toNat) ∧ (0 ≤ i) ∧ (i ≤ n) ∧ (nC = i) ∧ (Slh wC nC) ∧ M = [(0, vM), (4, .slice none 0 0), (5, v1), (9, wC), (42, .int .i64 n), (43, .int .i64 i)] ∧ Sat w0 w [.own v1 1 3 (n * u) (ints g), .own wC 1 22 nC wv, .sem (Frame.rows 3 nC wv (fun _ => u) (fun i j => mf j i))]) ⟨0, (fun _ => Value.slice none 0 0), 0, (.slice none 0 0), rfl, (by omega), (by omega), (by omega), ?_, rfl, hS⟩ ?_
  ·
   exact slh_nil
  clear hS w
  rintro mm M w ⟨nC, wv, i, wC, rfl, i0, i1, hnC, hwC, rfl, hS⟩
  have hrs1 := fun k (k0 : 0 ≤ k) (k1 : k < nC) => hS.slhIn 2 rfl k0 k1
  refine zsr ?_
  refine zlv xlss ?_
  refine zlt <| zsq ?_
  refine zcif ?_ ?_ <;> intro hc
  ·
   refine zsk <| ztn <| zsq <| zbk <| zsr ?_
   refine zlv xmv ?_
   have hgr := grid_in (u := u) (n := n) (by omega) i0 (by omega)
   refine zlv xas ?_
   refine zlz ?_
   refine zlv xmv ?_
   refine zlv (xln sl_32 hM.row.slh) ?_
   refine zla (xmk sl_22 el_3 hS) ?_; rintro v2 w ⟨hS, hv2⟩
   replace hS := hS.n4
   refine zlv xas ?_
   refine zlz ?_
   refine zs4 ?_
   obtain ⟨q1, hq1⟩ : ∃ q1 : Nat, (q1 : Int) = i * u := ⟨(i * u).toNat, by omega⟩
   refine zlv (xln sl_32 hM.row.slh) ?_
   refine zlv (xmul (r := (i * u)) (e := rfl)) ?_
   refine zlv (xsl_lo q1 sl_22 hv1) ?_
   refine zlar rfl rfl rfl (ex_copyG (q := 0) (r := u) 3 rfl sl_22 rfl rfl hS rfl (.inr ⟨rfl, rfl⟩) ((suf_of (q := q1) hv1 (hS.holds _ (List.mem_of_getElem? (i := 0) rfl)).roomy (by omega)).row (by omega) (hS.rowN 0 rfl)) (by omega) (by omega) (by omega) (fun _ _ _ => rfl)) ?_; rintro _ w ⟨rfl, hS⟩
   replace hS := hS.n4
   refine zlt <| zrg ?_
   refine zlv xmv ?_
   replace hS := hS.recont 3 rfl (d := ints (cpyI 0 u (fun k => g (k + (q1 : Int))) (fun _ => 0))) (fun k k0 k1 => congrFun (cpy_ints 0 u (fun k => g (k + (q1 : Int))) (fun _ => 0)) k)
   replace hS := hS.n4
   refine zlv xmv ?_
   refine zla (xli (n := 1) (len := 1) (pv := [(0, v2)]) (cs := [v2]) (c := (fun _ => v2)) sl_32 el_22 hS (hf := by obtain ⟨_, _, _, _, rfl, _⟩ := hv2; kernel_rfl)) ?_; rintro v3 w ⟨hS, hv3⟩
   replace hS := hS.n5
   refine zla (xap 1 (r := nC + 1) sl_32 el_22 hS (hS.rowN 4 rfl) (cat_gsn _ _ _) (h1 := fun _ _ _ => hv2.one)) ?_; rintro v4 w ⟨hS, hv4⟩
   replace hS := hS.n5
   replace hS := Sat.merge (l1 := [_, _]) (l2 := []) (l3 := [_]) hS (by omega)
   have hrs2 := fun k (k0 : 0 ≤ k) (k1 : k < nC + 1) => hS.slhIn 2 rfl k0 k1
   replace hS := hS.n4
   refine zlv xas ?_
   replace hS := hS.rerows (vv' := gsn wv nC v2) (ln' := fun _ => u) (f' := fun i j => mf j i) 2 rfl (fun k k0 k1 => by
     by_cases e : k < i
     · exact ⟨rfl, gsn_lt (by omega), fun j _ _ => by rw [gsn_lt (by omega)]⟩
     · have hki : k = i := by omega
       refine ⟨rfl, ?_, fun b b0 b1 => ?_⟩
       · rw [gsn_at (by omega)]
       · rw [gsn_at (by omega)] at b1
         rw [gsn_at (by omega), hki]; unfold cpyI; rw [if_pos (by omega)]; show g (b - (0 : Nat) + q1) = _; rw [show b - ((0 : Nat) : Int) + q1 = i * u + b by omega]; exact hg b b0 (by omega) i i0 (by omega))
   replace hS := hS.n4
   have hrs2x := fun k (k0 : 0 ≤ k) (k1 : k < nC + 1) => hS.slhIn 2 rfl k0 k1
   refine zln <| zbn <| ztn <| zrg ?_
   refine zlv (xadd (r := i + 1)) ?_
   refine zlv xmv ?_
   refine zln <| zlq ⟨nC + 1, gsn wv nC v2, i + 1, v4, rfl, (by omega), (by omega), (by omega), ?_, rfl, hS.pk [0, 1, 2]⟩
   ·
    exact hv4
  refine zxt <| ztx <| ztx <| zbh <| ztn <| zsr ?_
  refine zs2 ?_
  refine zlt <| zrt <| zf1 ⟨_, rfl, ?_⟩
  obtain rfl : i = n := by omega
  subst hnC
  exact ⟨_, _, rfl, hwC, hS.pk [1, 2]⟩

/-- The linear program of patterns. -/
def lpOf (p : Prob) (u : Int) (mf : Int → Int → Int) : Lp := ⟨u, p.m, p.d, fun _ => 1, fun _ => u, fun i j => mf j i, p.D⟩
def so0 (p : Prob) : So := ⟨0, p.m, fun _ => 0, fun _ => 0, 0, 1⟩
def PropL (p : Prob) (u : Int) (ml : Int → Int) (mf : Int → Int → Int) : Prop := p.Ok ∧ ∀ k, 0 ≤ k → k < u → ProperP p (ml k) (mf k)
def MSolveR (p : Prob) (u : Int) (ml : Int → Int) (mf : Int → Int → Int) (s : So) (e : Int) : Prop :=
  (¬ PropL p u ml mf ∧ s = So.zero ∧ e = 1) ∨ (PropL p u ml mf ∧ (16 < p.m ∨ 60 < u) ∧ s = So.zero ∧ e = 9) ∨
    (PropL p u ml mf ∧ p.m ≤ 16 ∧ u ≤ 60 ∧ u = 0 ∧ (∃ k, 0 ≤ k ∧ k < p.d ∧ 0 < p.D k) ∧ s = So.zero ∧ e = 19) ∨ (PropL p u ml mf ∧ p.m ≤ 16 ∧ u ≤ 60 ∧ u = 0 ∧ (∀ k, 0 ≤ k → k < p.d → p.D k ≤ 0) ∧ s = so0 p ∧ e = 0) ∨
    (PropL p u ml mf ∧ p.m ≤ 16 ∧ u ≤ 60 ∧ 1 ≤ u ∧ SolveR (lpOf p u mf) s e)

set_option maxRecDepth 20000 in
theorem c_msolve {vL vD : Value} {p : Prob} {vM : Value} {u : Int} {mv : Int → Value} {ml : Int → Int} {mf : Int → Int → Int} (w0 : World) (h : PAt w0 vL vD p) (hM : MAt w0 vM u mv ml mf) :
    Calls Try.prog 12 [.agg #[vL, vD, .int .i64 p.stock, .int .i64 p.kerf], vM].toArray w0 fun e w => ∃ v, e = .returned v ∧ ∃ vX vY s e, v = .tuple #[.agg #[vX, vY, .int .i64 s.val, .int .i64 s.den], .int .i64 e] ∧ MSolveR p u ml mf s e ∧ Slh vX s.n ∧ Slh vY s.m ∧ Sat w0 w [.own vX 1 3 s.n (ints s.X), .own vY 1 3 s.m (ints s.Y)] := by
  have hm := h.L.slh.n0; have hm1 := h.L.slh.n1; have hd := h.D.slh.n0; have hd1 := h.D.slh.n1; have hs := h.is; have hk := h.ik
  have hu := hM.row.slh.n0; have hu1 := hM.row.slh.n1
  refine zenG Try.func12 Try.ntmps12 fun w hS => ?_
  refine zsr ?_
  refine zla (xbx (cs := [_, _, _, _]) hS) ?_; rintro _ w ⟨g1, rfl, hS⟩
  replace hS := hS.n1
  refine zla (xal (cs := [_, _, _, _]) el_36 hS) ?_; rintro _ w ⟨g2, rfl, hS⟩
  replace hS := hS.n2
  refine zlv xas ?_
  refine zlt <| zsq <| zbk <| zsr ?_
  refine zlv (xls 0 st_39 hS) ?_
  refine zlc (xc0 cl_34) (c_pvalid (p := p) w (h.below hS.below)) ?_; rintro _ w ⟨rfl, hS'⟩
  replace hS := hS.cmp hS'; clear hS'
  refine zs2 ?_
  refine zlb 10 ?_ ?_ <;> intro hc
  ·
   iterate 3 refine zlo ?_
   refine zs2 ?_
   refine zlt <| zct <| zsr ?_
   refine zlv (xany (v := .agg #[.slice none 0 0, .slice none 0 0, .int .i64 0, .int .i64 0])) ?_
   refine zle (xsw 1 st_36 hS) ?_; clear hS; rintro w hS
   replace hS := hS.n2
   refine zlv xas ?_
   refine zlt <| zrt <| zbr <| ztr <| zfct 1 st_36 hS ⟨_, rfl, ?_⟩
   exact ⟨_, _, So.zero, 1, rfl, .inl ⟨fun ⟨h1, h2⟩ => by
     first
     | exact absurd h1 ‹¬ p.Ok›
     | exact hc (h2 q q0 (by omega))
     | (obtain ⟨k, k0, k1, hk⟩ := ‹∃ k, 0 ≤ k ∧ k < u ∧ ¬ ProperP p (ml k) (mf k)›; exact hk (h2 k k0 k1)), rfl, rfl⟩, slh_nil, slh_nil, ((hS.sub (.cons _ (.cons _ .slnil))).addnil 1 3 (ints So.zero.X)).addnil 1 3 (ints So.zero.Y)⟩
  refine zlv xmv ?_
  refine zlv xmf ?_
  refine zlc (xc0 cl_35) (c_coprop (p := p) (u := u) (ml := ml) (mf := mf) w (hS.holds _ (List.mem_of_getElem? (i := 0) rfl)) (h.below hS.below) (hM.below hS.below)) ?_; rintro _ w ⟨rfl, hS'⟩
  replace hS := hS.cmp hS'; clear hS'
  refine zs2 ?_
  refine zlt ?_
  refine zcif ?_ ?_ <;> intro hc
  ·
   refine zsr ?_
   refine zlv (xany (v := .agg #[.slice none 0 0, .slice none 0 0, .int .i64 0, .int .i64 0])) ?_
   refine zle (xsw 1 st_36 hS) ?_; clear hS; rintro w hS
   replace hS := hS.n2
   refine zlv xas ?_
   refine zlt <| zrt <| zbr <| ztr <| zfct 1 st_36 hS ⟨_, rfl, ?_⟩
   exact ⟨_, _, So.zero, 1, rfl, .inl ⟨fun ⟨h1, h2⟩ => by
     first
     | exact absurd h1 ‹¬ p.Ok›
     | exact hc (h2 q q0 (by omega))
     | (obtain ⟨k, k0, k1, hk⟩ := ‹∃ k, 0 ≤ k ∧ k < u ∧ ¬ ProperP p (ml k) (mf k)›; exact hk (h2 k k0 k1)), rfl, rfl⟩, slh_nil, slh_nil, ((hS.sub (.cons _ (.cons _ .slnil))).addnil 1 3 (ints So.zero.X)).addnil 1 3 (ints So.zero.Y)⟩
  refine zsr ?_
  refine zlv (xfb 0 fd_39_0) ?_
  have hok : p.Ok := by first | assumption | exact Classical.not_not.1 ‹_›
  have hpr : ∀ k, 0 ≤ k → k < u → ProperP p (ml k) (mf k) := fun k k0 k1 => Classical.not_not.1 fun hh => ‹¬ ∃ k, 0 ≤ k ∧ k < u ∧ ¬ ProperP p (ml k) (mf k)› ⟨k, k0, k1, hh⟩
  have hpd := hok.d; have hpm := hok.m1; have hpm2 := hok.m2
  refine zlv (xlb 0 pl_22 hS) ?_
  refine zlv (xln sl_22 h.L.slh) ?_
  refine zs2 ?_
  refine zlb 21 ?_ ?_ <;> intro hc
  ·
   iterate 3 refine zlo ?_
   refine zs2 ?_
   refine zlt <| zct <| zsr ?_
   refine zlv (xany (v := .agg #[.slice none 0 0, .slice none 0 0, .int .i64 0, .int .i64 0])) ?_
   refine zle (xsw 1 st_36 hS) ?_; clear hS; rintro w hS
   replace hS := hS.n2
   refine zlv xas ?_
   refine zlt <| zrt <| zbr <| ztr <| zfct 1 st_36 hS ⟨_, rfl, ?_⟩
   exact ⟨_, _, So.zero, 9, rfl, .inr (.inl ⟨⟨hok, hpr⟩, by omega, rfl, rfl⟩), slh_nil, slh_nil, ((hS.sub (.cons _ (.cons _ .slnil))).addnil 1 3 (ints So.zero.X)).addnil 1 3 (ints So.zero.Y)⟩
  refine zlv xmv ?_
  refine zlv (xln sl_32 hM.row.slh) ?_
  refine zs3 ?_
  refine zlt ?_
  refine zcif ?_ ?_ <;> intro hc
  ·
   refine zsr ?_
   refine zlv (xany (v := .agg #[.slice none 0 0, .slice none 0 0, .int .i64 0, .int .i64 0])) ?_
   refine zle (xsw 1 st_36 hS) ?_; clear hS; rintro w hS
   replace hS := hS.n2
   refine zlv xas ?_
   refine zlt <| zrt <| zbr <| ztr <| zfct 1 st_36 hS ⟨_, rfl, ?_⟩
   exact ⟨_, _, So.zero, 9, rfl, .inr (.inl ⟨⟨hok, hpr⟩, by omega, rfl, rfl⟩), slh_nil, slh_nil, ((hS.sub (.cons _ (.cons _ .slnil))).addnil 1 3 (ints So.zero.X)).addnil 1 3 (ints So.zero.Y)⟩
  refine zsr ?_
  refine zlv xmv ?_
  refine zlv (xln sl_32 hM.row.slh) ?_
  refine zs2 ?_
  refine zlb 31 ?_ ?_ <;> intro hc
  ·
   refine zlv (xfb 1 fd_39_1) ?_
   refine zlv (xlb 0 pl_22 hS) ?_
   refine zlc (xc0 cl_38) (c_max (n := p.d) (f := p.D) w (h.D.below hS.below) (by omega)) ?_; rintro _ w ⟨x1, rfl, hex1, hax1, hS'⟩
   replace hS := hS.cmp hS'; clear hS'
   refine zs3 ?_
   refine zlt ?_
   refine zcif ?_ ?_ <;> intro hc
   ·
    refine zsr ?_
    refine zlv (xany (v := .agg #[.slice none 0 0, .slice none 0 0, .int .i64 0, .int .i64 0])) ?_
    refine zle (xsw 1 st_36 hS) ?_; clear hS; rintro w hS
    replace hS := hS.n2
    refine zlv xas ?_
    refine zlt <| zrt <| zbr <| ztr <| zfct 1 st_36 hS ⟨_, rfl, ?_⟩
    exact ⟨_, _, So.zero, 19, rfl, .inr (.inr (.inl ⟨⟨hok, hpr⟩, by omega, by omega, by omega, by first | (obtain ⟨k, k0, k1, hk⟩ := hex1; exact ⟨k, k0, k1, by omega⟩) | exact ⟨_, ‹0 ≤ j›, ‹j < p.d›, ‹_›⟩ | exact ⟨j, by omega, by omega, by omega⟩, rfl, rfl⟩)), slh_nil, slh_nil, ((hS.sub (.cons _ (.cons _ .slnil))).addnil 1 3 (ints So.zero.X)).addnil 1 3 (ints So.zero.Y)⟩
   refine zsr ?_
   refine zlv xmv ?_
   refine zlv (xln sl_32 hM.row.slh) ?_
   refine zlv (xkt xeql) ?_
   refine zlv xas ?_
   refine zlt <| zct <| zsr ?_
   refine zlv (xfb 0 fd_39_0) ?_
   refine zlv (xlb 0 pl_22 hS) ?_
   refine zlv (xln sl_22 h.L.slh) ?_
   refine zla (xmk sl_22 el_3 hS) ?_; rintro v1 w ⟨hS, hv1⟩
   replace hS := hS.n3
   refine zlv (xany (v := .agg #[.slice none 0 0, v1, .int .i64 0, .int .i64 1]) (hr := by obtain ⟨_, _, _, _, rfl, _⟩ := hv1; kernel_rfl)) ?_
   refine zle (xsw 1 st_36 hS (hd := (ones_cons rfl (ones_cons hv1.one (ones_cons rfl (ones_cons rfl ones_nil)))))) ?_; clear hS; rintro w hS
   replace hS := hS.n3
   refine zlv xas ?_
   refine zlt <| zrt <| zbr <| ztr <| zfct 1 st_36 hS ⟨_, rfl, ?_⟩
   exact ⟨_, _, so0 p, 0, rfl, .inr (.inr (.inr (.inl ⟨⟨hok, hpr⟩, by omega, by omega, by omega, (fun k k0 k1 => by first | (have := hax1 k k0 k1; omega) | (have := hall k k0 (by omega); omega)), rfl, rfl⟩))), slh_nil, hv1, (hS.addnil 1 3 (ints fun _ => 0)).pk [3, 2]⟩
  iterate 4 refine zlo ?_
  refine zs2 ?_
  refine zlt <| zcf <| zsr ?_
  refine zlv xmv ?_
  refine zlv (xln sl_32 hM.row.slh) ?_
  refine zs2 ?_
  refine zlt ?_
  refine zcif ?_ ?_ <;> intro hc
  ·
   exfalso; omega
  refine zsk <| zbn <| ztn <| zsq ?_
  refine zdst [0, 1] [0] 16 mx_ hS ?_; clear hS; intro w hS
  refine zdv 1 (fun _ => xmv) ?_
  refine zdv 2 (fun _ => (xln sl_32 hM.row.slh)) ?_
  refine zdv 4 (fun _ => xmv) ?_
  refine zdv 5 (fun _ => (xfb 0 fd_39_0)) ?_
  refine zdla 6 (fun w hS => (xlb 0 pl_22 hS)) ?_
  refine zdv 7 (fun _ => (xln sl_22 h.L.slh)) ?_
  refine zdv 9 (fun _ => (xfb 1 fd_39_1)) ?_
  refine zdla 10 (fun w hS => (xlb 0 pl_22 hS)) ?_
  refine zda 0 (xli (n := 1) (len := 1) (pv := [(0, .int .i64 1)]) (cs := [.int .i64 1]) (c := ints (fun _ => 1)) sl_22 el_3 hS) ?_; rintro v2 w ⟨hS, hv2⟩
  replace hS := hS.n3
  refine ⟨⟨fun _ => hS.pk [0, 1], hS.pk [0]⟩, ?_⟩
  refine zdc 3 (xc0 cl_40) (c_repeat (n := u) w (hS.rowN 2 rfl) (by omega)) ?_; rintro vru1 w ⟨_, rfl, hvru1, hS'⟩
  replace hS : Sat w0 w [.blk g1 [vL, vD, .int .i64 p.stock, .int .i64 p.kerf], .blk g2 [.slice none 0 0, .slice none 0 0, .int .i64 0, .int .i64 0], .own v2 1 3 1 (ints (fun _ => 1)), .own vru1 1 3 u (ints (fun _ => (fun _ => 1) 0))] := hS.comp hS'; clear hS'
  refine ⟨⟨fun _ => hS.pk [0, 1], hS.pk [0]⟩, ?_⟩
  refine zdc 8 (xc0 cl_41) (c_trans (n := p.m) w (hM.below hS.below) (by omega) (by omega) (fun k k0 k1 => (hpr k k0 k1).1.eq)) ?_; rintro vtq1 w ⟨_, tvq1, rfl, hvtq1, hS'⟩
  replace hS : Sat w0 w [.blk g1 [vL, vD, .int .i64 p.stock, .int .i64 p.kerf], .blk g2 [.slice none 0 0, .slice none 0 0, .int .i64 0, .int .i64 0], .own v2 1 3 1 (ints (fun _ => 1)), .own vru1 1 3 u (ints (fun _ => (fun _ => 1) 0)), .own vtq1 1 22 p.m tvq1, .sem (Frame.rows 3 p.m tvq1 (fun _ => u) (fun i j => mf j i))] := hS.comp hS'; clear hS'
  have hrtq1 := fun k (k0 : 0 ≤ k) (k1 : k < p.m) => hS.slhIn 5 rfl k0 k1
  refine ⟨⟨fun _ => hS.pk [0, 1], hS.pk [0]⟩, ?_⟩
  refine zdc 11 (xc0 cl_42) (c_clone (n := p.d) (f := p.D) w (h.D.below hS.below) (by omega)) ?_; rintro vq2 w ⟨_, rfl, hslq2, hS'⟩
  replace hS : Sat w0 w [.blk g1 [vL, vD, .int .i64 p.stock, .int .i64 p.kerf], .blk g2 [.slice none 0 0, .slice none 0 0, .int .i64 0, .int .i64 0], .own v2 1 3 1 (ints (fun _ => 1)), .own vru1 1 3 u (ints (fun _ => (fun _ => 1) 0)), .own vtq1 1 22 p.m tvq1, .sem (Frame.rows 3 p.m tvq1 (fun _ => u) (fun i j => mf j i)), .own vq2 1 3 p.d (ints p.D)] := hS.comp hS'; clear hS'
  refine ⟨⟨fun _ => hS.pk [0, 1], hS.pk [0]⟩, ?_⟩
  refine zdv 12 (fun _ => (xany (v := .agg #[vru1, vtq1, vq2]) (hr := by obtain ⟨_, _, _, _, rfl, _⟩ := hvru1; obtain ⟨_, _, _, _, rfl, _⟩ := hvtq1; obtain ⟨_, _, _, _, rfl, _⟩ := hslq2; kernel_rfl))) ?_
  refine zdc 13 (xc0 cl_39) (c_solve (p := (⟨u, p.m, p.d, (fun _ => (fun _ => 1) 0), (fun _ => u), (fun i j => mf j i), p.D⟩ : Lp)) w (⟨(hS.rowN 3 rfl), (⟨(hS.rowN 4 rfl), fun k k0 k1 => hS.rowIn 5 rfl k0 k1, fun k k0 k1 => hS.roomIn 5 rfl k0 k1⟩ : MAt _ vtq1 p.m tvq1 (fun _ => u) (fun i j => mf j i)), (hS.rowN 6 rfl)⟩ : LAt _ vru1 vtq1 vq2 tvq1 (⟨u, p.m, p.d, (fun _ => (fun _ => 1) 0), (fun _ => u), (fun i j => mf j i), p.D⟩ : Lp))) ?_; rintro _ w ⟨vXs1, vYs1, ss1, es1, rfl, hsos1, hvXs1, hvYs1, hS'⟩
  replace hS : Sat w0 w [.blk g1 [vL, vD, .int .i64 p.stock, .int .i64 p.kerf], .blk g2 [.slice none 0 0, .slice none 0 0, .int .i64 0, .int .i64 0], .own v2 1 3 1 (ints (fun _ => 1)), .own vru1 1 3 u (ints (fun _ => (fun _ => 1) 0)), .own vtq1 1 22 p.m tvq1, .sem (Frame.rows 3 p.m tvq1 (fun _ => u) (fun i j => mf j i)), .own vq2 1 3 p.d (ints p.D), .own vXs1 1 3 ss1.n (ints ss1.X), .own vYs1 1 3 ss1.m (ints ss1.Y)] := hS.comp hS'; clear hS'
  refine ⟨⟨fun _ => hS.pk [0, 1], hS.pk [0]⟩, ?_⟩
  refine zdv 14 (fun _ => xex) ?_
  refine zdv 15 (fun _ => xex) ?_
  refine zde 16 (xsw 1 st_36 hS (hd := (ones_cons hvXs1.one (ones_cons hvYs1.one (ones_cons rfl (ones_cons rfl ones_nil)))))) ?_; clear hS; rintro w hS
  replace hS := hS.n9
  refine ⟨⟨fun h => absurd h (by decide), hS.pk [0]⟩, ?_⟩
  refine zdv 17 (fun _ => xas) ?_
  refine zdd <| ztn <| zrt <| zfct 1 st_36 hS ⟨_, rfl, ?_⟩
  exact ⟨_, _, ss1, _, rfl, .inr (.inr (.inr (.inr ⟨⟨hok, hpr⟩, by omega, by omega, by omega, hsos1⟩))), hvXs1, hvYs1, hS.pk [7, 8]⟩

end Go.Proofs.Ytopmifmfecfaaaa
