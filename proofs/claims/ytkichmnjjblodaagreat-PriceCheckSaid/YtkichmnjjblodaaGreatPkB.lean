/- Part 2 of the texts that the proof needs. -/
import Derived.Test.YtkichmnjjblodaaGreatPkA
import Derived.Shelf.Small.Bits
import Derived.Shelf.Strconv.Itoa0
import Derived.Shelf.Sort.Plain
import Derived.Shelf.Bits.Mul64
import Derived.Ground.Names2Prog
import Derived.Shelf.Slices.Clone
import Derived.Shelf.Slices.SearchI
import Derived.Shelf.Slices.In.SortNone
import Derived.Ground.SlgnProg
import Derived.Shelf.SlicesE.Clone
import Derived.Test.YtkichmnjjblodaaGreatProg
import Derived.RangeFuncBox
import Derived.RangeFuncLeaves
import Derived.OrdersIn
set_option linter.unusedVariables false
set_option linter.unusedSimpArgs false
set_option maxRecDepth 20000
set_option maxHeartbeats 4000000
namespace Go.Proofs.YtkichmnjjblodaaGreat
open Go Go.RowKit Go.Proofs.Gw
theorem cl_116 : calledT Tryz.prog 116 = true := by kernel_rfl
theorem cl_117 : calledT Tryz.prog 117 = true := by kernel_rfl
theorem cl_118 : calledT Tryz.prog 118 = true := by kernel_rfl
theorem cl_119 : calledT Tryz.prog 119 = true := by kernel_rfl
theorem cl_151 : calledT Tryz.prog 151 = true := by kernel_rfl
theorem cl_153 : calledT Tryz.prog 153 = true := by kernel_rfl
theorem cl_159 : calledT Tryz.prog 159 = true := by kernel_rfl
theorem cl_79 : calledT Tryz.prog 79 = true := by kernel_rfl
theorem cl_80 : calledT Tryz.prog 80 = true := by kernel_rfl
theorem fd_100_0 : fieldT Tryz.prog 100 0 = some 0 := by kernel_rfl
theorem fd_100_1 : fieldT Tryz.prog 100 1 = some 1 := by kernel_rfl
theorem fd_98_0 : fieldT Tryz.prog 98 0 = some 0 := by kernel_rfl
theorem fd_98_1 : fieldT Tryz.prog 98 1 = some 1 := by kernel_rfl
theorem st_100 : structT Tryz.prog 100 = some 2 := by kernel_rfl
theorem st_98 : structT Tryz.prog 98 = some 2 := by kernel_rfl
def out (n : Int) : Prop := n < 0 ∨ 1073741824 < n
theorem c_lit (n : Int) (w0 : World) :
    Calls Tryz.prog 153 [.int .i64 n].toArray w0 fun e w => ∃ v, e = .returned v ∧ v = B (out n) ∧ Sat w0 w [] := by
  refine zenG Tryz.func153 Tryz.ntmps153 fun w hS => ?_
  refine zsr ?_
  refine zlv xas ?_
  refine zlz ?_
  refine zs3 ?_
  refine zlb 5 ?_ ?_ <;> intro hc
  ·
   iterate 2 refine zlo ?_
   refine zs2 ?_
   refine zlt <| zrt <| zf1 ⟨_, rfl, ?_⟩
   exact ⟨true_B (by unfold out; omega), hS⟩
  refine zs4 ?_
  refine zlt <| zrt <| zf1 ⟨_, rfl, ?_⟩
  exact ⟨B_congr (by unfold out; omega), hS⟩
theorem c_ixlit {s : Value} {n : Int} {f : Int → Int} (w0 : World) (h : Row w0 s 1 n (ints f)) :
    Calls Tryz.prog 159 [s, .func (.func 153) #[] #[]].toArray w0 fun e w => ∃ v, e = .returned v ∧ ∃ r : Int, v = .int .i64 r ∧ ((r = -1 ∧ ∀ k, 0 ≤ k → k < n → ¬ out (f k)) ∨ (0 ≤ r ∧ r < n ∧ out (f r))) ∧ Sat w0 w [] := by
  have hn := h.slh.n0; have hn1 := h.slh.n1
  refine zenG Tryz.func159 Tryz.ntmps159 fun w hS => ?_
  refine zsr ?_
  refine zlv xas ?_
  refine zlt <| zsq <| zsr ?_
  refine zlv xmv ?_
  refine zlv (xln sl_22 h.slh) ?_
  refine zlv xmv ?_
  refine zlt <| zbk <| zlp (fun mm M w => ∃ (i : Int), mm = ((n - i).toNat) ∧ (0 ≤ i) ∧ (i ≤ n) ∧ (∀ k, 0 ≤ k → k < i → ¬ out (f k)) ∧ M = [(0, s), (1, .func (.func 153) #[] #[]), (7, .int .i64 n), (8, .int .i64 i)] ∧ Sat w0 w []) ⟨0, rfl, (by omega), (by omega), ?_, rfl, hS⟩ ?_
  ·
   intro k h0 h1; omega
  clear hS w
  rintro mm M w ⟨i, rfl, h0, h1, hall, rfl, hS⟩
  refine zsr ?_
  refine zlv xlss ?_
  refine zlt <| zsq ?_
  refine zcif ?_ ?_ <;> intro hc
  ·
   refine zsk <| ztn <| zsq <| zbk <| zsr ?_
   refine zs2 ?_
   refine zlz ?_
   refine zs3 ?_
   refine zlv (xix (kk := i) sl_22 h.slh) ?_
   refine zlv (xlr (u := .int .i64 (f i)) pl_3 (h.below hS.below)) ?_
   refine zlc (xc0 cl_153) (c_lit (f i) w) ?_; rintro _ w ⟨rfl, hS'⟩
   replace hS := hS.cmp hS'; clear hS'
   refine zlt ?_
   refine zcif ?_ ?_ <;> intro hc
   ·
    refine zsr ?_
    refine zs2 ?_
    refine zlt <| zrt <| zbr <| ztr <| ztr <| zbr <| ztr <| zf1 ⟨_, rfl, ?_⟩
    exact ⟨i, rfl, .inr ⟨by omega, by omega, ‹out _›⟩, hS⟩
   refine zsk <| zbn <| ztn <| zrg ?_
   refine zlv (xadd (r := i + 1)) ?_
   refine zlv xmv ?_
   refine zln <| zlq ⟨i + 1, rfl, (by omega), (by omega), ?_, rfl, hS⟩
   ·
    intro k h0' h1'; rcases Int.lt_or_eq_of_le (show k ≤ i by omega) with hk | hk; exact hall k h0' hk; rw [hk]; assumption
  refine zxt <| ztx <| ztx <| zbh <| ztn <| zsr ?_
  refine zlv xas ?_
  refine zlt <| zrt <| zf1 ⟨_, rfl, ?_⟩
  exact ⟨-1, rfl, .inl ⟨rfl, fun k h0 h1 => hall k h0 (by omega)⟩, hS⟩
theorem c_colit {s : Value} {n : Int} {f : Int → Int} (w0 : World) (h : Row w0 s 1 n (ints f)) :
    Calls Tryz.prog 151 [s, .func (.func 153) #[] #[]].toArray w0 fun e w => ∃ v, e = .returned v ∧ v = B (∃ k, 0 ≤ k ∧ k < n ∧ out (f k)) ∧ Sat w0 w [] := by
  refine zenG Tryz.func151 Tryz.ntmps151 fun w hS => ?_
  refine zsr ?_
  refine zlv xas ?_
  refine zlz ?_
  refine zs2 ?_
  refine zlc (xc0 cl_159) (c_ixlit w (h.below hS.below)) ?_; rintro _ w ⟨r1, rfl, hr1, hS'⟩
  replace hS := hS.cmp hS'; clear hS'
  refine zs2 ?_
  refine zlt <| zrt <| zf1 ⟨_, rfl, ?_⟩
  exact ⟨B_congr (by
   rcases hr1 with ⟨h1, h2⟩ | ⟨h1, h2, h3⟩
   · exact ⟨fun h => by omega, fun ⟨k, h4, h5, h6⟩ => absurd h6 (h2 k h4 h5)⟩
   · exact ⟨fun _ => ⟨_, h1, h2, h3⟩, fun _ => h1⟩), hS⟩
theorem c_formed {vy : Value} {n q : Int} {y : Int → Int} (w0 : World) (h : Row w0 vy 1 n (ints y)) (hq : -9223372036854775808 ≤ q ∧ q ≤ 9223372036854775807) :
    Calls Tryz.prog 116 [.agg #[vy, .int .i64 q]].toArray w0 fun e w => ∃ v, e = .returned v ∧ v = B (Formed n y q) ∧ Sat w0 w [] := by
  refine zenG Tryz.func116 Tryz.ntmps116 fun w hS => ?_
  refine zsr ?_
  refine zla (xbx (cs := [_, _]) hS) ?_; rintro _ w ⟨g1, rfl, hS⟩
  replace hS := hS.n1
  refine zlv xas ?_
  refine zlz ?_
  refine zlv (xfb 1 fd_98_1) ?_
  refine zlv (xlb 0 pl_3 hS) ?_
  refine zs2 ?_
  refine zlb 6 ?_ ?_ <;> intro hc
  ·
   refine zlv (xfb 1 fd_98_1) ?_
   refine zlv (xlb 0 pl_3 hS) ?_
   refine zs3 ?_
   refine zlb 11 ?_ ?_ <;> intro hc
   ·
    refine zlv (xfb 0 fd_98_0) ?_
    refine zlv (xlb 0 pl_22 hS) ?_
    refine zlc (xc0 cl_151) (c_colit w (h.below hS.below)) ?_; rintro _ w ⟨rfl, hS'⟩
    replace hS := hS.cmp hS'; clear hS'
    refine zs3 ?_
    refine zlt <| zrt <| zf1 ⟨_, rfl, ?_⟩
    exact ⟨B_congr (by constructor; intro h4; exact ⟨by omega, by omega, fun k h1 h2 => by have : ¬ out (y k) := fun h5 => h4 ⟨k, h1, h2, h5⟩; unfold out at this; omega⟩; rintro ⟨h1, h2, h3⟩ ⟨k, h4, h5, h6⟩; have := h3 k h4 h5; unfold out at h6; omega), hS.nl⟩
   iterate 4 refine zlo ?_
   refine zs2 ?_
   refine zlt <| zrt <| zf1 ⟨_, rfl, ?_⟩
   exact ⟨false_B (by intro h; obtain ⟨h1, h2, h3⟩ := h; omega), hS.nl⟩
  iterate 3 refine zlo ?_
  refine zs2 ?_
  iterate 4 refine zlo ?_
  refine zs2 ?_
  refine zlt <| zrt <| zf1 ⟨_, rfl, ?_⟩
  exact ⟨false_B (by intro h; obtain ⟨h1, h2, h3⟩ := h; omega), hS.nl⟩
theorem c_rformed {vy : Value} {n q : Int} {y : Int → Int} (w0 : World) (h : Row w0 vy 1 n (ints y)) (hq : -9223372036854775808 ≤ q ∧ q ≤ 9223372036854775807) :
    Calls Tryz.prog 118 [.agg #[vy, .int .i64 q]].toArray w0 fun e w => ∃ v, e = .returned v ∧ v = B (Formed n y q) ∧ Sat w0 w [] := by
  have hn := h.slh.n0; have hn1 := h.slh.n1
  refine zenG Tryz.func118 Tryz.ntmps118 fun w hS => ?_
  refine zsr ?_
  refine zla (xbx (cs := [_, _]) hS) ?_; rintro _ w ⟨g1, rfl, hS⟩
  replace hS := hS.n1
  refine zlv xas ?_
  refine zlt <| zsq <| zsr ?_
  refine zlv xas ?_
  refine zlt <| zbk <| zlp (fun mm M w => ∃ (i : Int), mm = ((n - i).toNat) ∧ (0 ≤ i) ∧ (i ≤ n) ∧ (∀ k, 0 ≤ k → k < i → 0 ≤ y k ∧ y k ≤ 1073741824) ∧ M = [(1, .pointer (some ⟨g1, 0, none⟩)), (3, .int .i64 i)] ∧ Sat w0 w [.blk g1 [vy, .int .i64 q]]) ⟨0, rfl, (by omega), (by omega), ?_, rfl, hS⟩ ?_
  ·
   intro k h0 h1; omega
  clear hS w
  rintro mm M w ⟨i, rfl, h0, h1, hall, rfl, hS⟩
  refine zsq <| zsr ?_
  refine zlv xmv ?_
  refine zlv (xfb 0 fd_100_0) ?_
  refine zlv (xlb 0 pl_22 hS) ?_
  refine zlv (xln sl_22 h.slh) ?_
  refine zlv xlss ?_
  refine zlt ?_
  refine zcif ?_ ?_ <;> intro hc
  ·
   refine zsk <| ztn <| zsq <| zbk <| zsr ?_
   refine zlv (xfb 0 fd_100_0) ?_
   refine zlv (xlb 0 pl_22 hS) ?_
   refine zlv xmv ?_
   refine zlv (xix (kk := i) sl_22 h.slh) ?_
   refine zlv (xlr (u := .int .i64 (y i)) pl_3 (h.below hS.below)) ?_
   refine zs2 ?_
   refine zlb 17 ?_ ?_ <;> intro hc
   ·
    iterate 6 refine zlo ?_
    refine zlv xpt ?_
    refine zlt <| zct <| zsr ?_
    refine zlv xas ?_
    refine zlt <| zrt <| zbr <| ztr <| ztr <| zbr <| ztr <| zf1 ⟨_, rfl, ?_⟩
    exact ⟨false_B (by rintro ⟨h1, h2, h3⟩; first | omega | (have h4 := h3 i (by omega) (by omega); omega)), hS.nl⟩
   refine zlv (xfb 0 fd_100_0) ?_
   refine zlv (xlb 0 pl_22 hS) ?_
   refine zlv xmv ?_
   refine zlv (xix (kk := i) sl_22 h.slh) ?_
   refine zlv (xlr (u := .int .i64 (y i)) pl_3 (h.below hS.below)) ?_
   refine zs2 ?_
   refine zlt ?_
   refine zcif ?_ ?_ <;> intro hc
   ·
    refine zsr ?_
    refine zlv xas ?_
    refine zlt <| zrt <| zbr <| ztr <| ztr <| zbr <| ztr <| zf1 ⟨_, rfl, ?_⟩
    exact ⟨false_B (by rintro ⟨h1, h2, h3⟩; first | omega | (have h4 := h3 i (by omega) (by omega); omega)), hS.nl⟩
   refine zsk <| zbn <| ztn <| zrg ?_
   refine zlv xmv ?_
   refine zlv (xadd (r := i + 1)) ?_
   refine zlv xas ?_
   refine zln <| zlq ⟨i + 1, rfl, (by omega), (by omega), ?_, rfl, hS⟩
   ·
    intro k h0' h1'; rcases Int.lt_or_eq_of_le (show k ≤ i by omega) with hk | hk; exact hall k h0' hk; rw [hk]; omega
  refine zxt <| ztx <| ztx <| zbh <| ztn <| zsr ?_
  refine zlv (xfb 1 fd_100_1) ?_
  refine zlv (xlb 0 pl_3 hS) ?_
  refine zs2 ?_
  refine zlb 28 ?_ ?_ <;> intro hc
  ·
   refine zlv (xfb 1 fd_100_1) ?_
   refine zlv (xlb 0 pl_3 hS) ?_
   refine zs3 ?_
   refine zlt <| zrt <| zf1 ⟨_, rfl, ?_⟩
   exact ⟨B_congr (by constructor; exact fun h4 => ⟨by omega, by omega, fun k h5 h6 => hall k h5 (by omega)⟩; rintro ⟨h4, h5, h6⟩; omega), hS.nl⟩
  iterate 3 refine zlo ?_
  refine zs2 ?_
  refine zlt <| zrt <| zf1 ⟨_, rfl, ?_⟩
  exact ⟨false_B (by rintro ⟨h1, h2, h3⟩; first | omega | (have h4 := h3 i (by omega) (by omega); omega)), hS.nl⟩
theorem c_dearest {vL vD vy : Value} {p : Prob} {n : Int} {y : Int → Int} (w0 : World) (h : PAt w0 vL vD p) (hp : p.Ok) (hY : Row w0 vy 1 n (ints y)) (hn : n = p.m) (hy : Priced p y) :
    Calls Tryz.prog 117 [.agg #[vL, vD, .int .i64 p.stock, .int .i64 p.kerf], vy].toArray w0 fun e w => ∃ v, e = .returned v ∧ v = .int .i64 (Worth p y) ∧ Sat w0 w [] := by
  subst hn; have hm := hp.m1; have hm2 := hp.m2; have hd := hp.d; have hs1 := hp.s1; have hs2 := hp.s2; have hk1 := hp.k1; have hk2 := hp.k2
  refine zenG Tryz.func117 Tryz.ntmps117 fun w hS => ?_
  refine zsr ?_
  refine zla (xbx (cs := [_, _, _, _]) hS) ?_; rintro _ w ⟨g1, rfl, hS⟩
  replace hS := hS.n1
  refine zlv xas ?_
  refine zlz ?_
  refine zlv (xfb 2 fd_32_2) ?_
  refine zlv (xlb 0 pl_3 hS) ?_
  refine zlv (xfb 3 fd_32_3) ?_
  refine zlv (xlb 0 pl_3 hS) ?_
  refine zlv (xadd (r := p.stock + p.kerf)) ?_
  refine zlv (xadd (r := p.stock + p.kerf + 1)) ?_
  refine zla (xmk sl_22 el_3 hS) ?_; rintro v1 w ⟨hS, hv1⟩
  replace hS := hS.n2
  refine zlv xas ?_
  refine zlt <| zsq <| zsr ?_
  refine zlv (xfb 0 fd_32_0) ?_
  refine zlv (xlb 0 pl_22 hS) ?_
  refine zlv (xln sl_22 h.L.slh) ?_
  refine zlv xmv ?_
  refine zlt <| zbk <| zlp (fun mm M w => ∃ (i : Int) (f : Int → Int), mm = ((p.m - i).toNat) ∧ (0 ≤ i) ∧ (i ≤ p.m) ∧ (∀ j, 0 ≤ j → j ≤ p.stock + p.kerf → f j = Tab p y i.toNat j) ∧ M = [(1, vy), (2, .pointer (some ⟨g1, 0, none⟩)), (4, .int .i64 0), (5, v1), (18, vL), (19, .int .i64 p.m), (20, .int .i64 i)] ∧ Sat w0 w [.blk g1 [vL, vD, .int .i64 p.stock, .int .i64 p.kerf], .own v1 1 3 (p.stock + p.kerf + 1) (ints f)]) ⟨0, (fun _ => 0), rfl, (by omega), (by omega), ?_, rfl, hS⟩ ?_
  ·
   intro j _ _; rfl
  clear hS w
  rintro mm M w ⟨i, f, rfl, h0, h1, hf, rfl, hS⟩
  refine zsr ?_
  refine zlv xlss ?_
  refine zlt <| zsq ?_
  refine zcif ?_ ?_ <;> intro hc
  ·
   refine zsk <| ztn <| zsq <| zbk <| zsr ?_
   refine zlv xmv ?_
   have he := hp.all i (by omega) (by omega); unfold Prob.each at he; have hyi := hy i (by omega) (by omega)
   refine zlv (xix (kk := i) sl_22 h.L.slh) ?_
   refine zlv (xlr (u := .int .i64 (p.L i)) pl_3 (h.L.below hS.below)) ?_
   have hbv := h.iL i
   refine zs2 ?_
   refine zlz ?_
   refine zlv xmv ?_
   refine zlv (xfb 3 fd_32_3) ?_
   refine zlv (xlb 0 pl_3 hS) ?_
   refine zlv (xadd (r := p.L i + p.kerf)) ?_
   refine zlv xas ?_
   refine zlt <| zsq ?_
   refine zdst [0, 1] [0, 1] 1000 mx_ hS ?_; clear hS; intro w hS
   refine zdv 0 (fun _ => (xfb 1 fd_32_1)) ?_
   refine zdla 1 (fun w hS => (xlb 0 pl_22 hS)) ?_
   refine zdv 2 (fun _ => xmv) ?_
   refine zdv 3 (fun _ => (xix (kk := i) sl_22 h.D.slh)) ?_
   refine zdla 4 (fun w hS => (xlr (u := .int .i64 (p.D i)) pl_3 (h.D.below hS.below))) ?_
   have hbv := h.iD i
   refine zdv 5 (fun _ => xmv) ?_
   refine zdv 6 (fun _ => (xln sl_22 hv1)) ?_
   refine zdv 7 (fun _ => (xsub (r := p.stock + p.kerf))) ?_
   refine zdv 8 (fun _ => xmv) ?_
   refine zdv 9 (fun _ => (xquo (r := (Int.tdiv (p.stock + p.kerf) (p.L i + p.kerf))) (hn := (by omega)) (hr := (by have hq := quo_facts (a := p.stock + p.kerf) (b := p.L i + p.kerf) (by omega) (by omega); unfold I64; omega)))) ?_
   have hq := quo_facts (a := p.stock + p.kerf) (b := p.L i + p.kerf) (by omega) (by omega)
   refine zdv 10 (fun _ => (xmin (r := (min (p.D i) (Int.tdiv (p.stock + p.kerf) (p.L i + p.kerf)))))) ?_
   refine zdv 11 (fun _ => xmv) ?_
   refine zdd <| ztn <| zbk <| zlp (fun mm M w => ∃ (k : Int) (f2 : Int → Int), mm = ((min (p.D i) (Int.tdiv (p.stock + p.kerf) (p.L i + p.kerf)) - k).toNat) ∧ (0 ≤ k) ∧ (k ≤ min (p.D i) (Int.tdiv (p.stock + p.kerf) (p.L i + p.kerf))) ∧ (∀ j, 0 ≤ j → j ≤ p.stock + p.kerf → f2 j = R (Tab p y i.toNat) (p.L i + p.kerf) (y i) k.toNat j) ∧ M = [(1, vy), (2, .pointer (some ⟨g1, 0, none⟩)), (4, .int .i64 0), (5, v1), (6, .int .i64 i), (8, .int .i64 (p.L i + p.kerf)), (18, vL), (19, .int .i64 p.m), (20, .int .i64 i), (39, .int .i64 (min (p.D i) (Int.tdiv (p.stock + p.kerf) (p.L i + p.kerf)))), (40, .int .i64 k)] ∧ Sat w0 w [.blk g1 [vL, vD, .int .i64 p.stock, .int .i64 p.kerf], .own v1 1 3 (p.stock + p.kerf + 1) (ints f2)]) ⟨0, f, rfl, (by omega), (by omega), ?_, rfl, hS⟩ ?_
   ·
    intro j hj0 hj1; rw [hf j hj0 hj1]; rfl
   clear hS w
   rintro mm M w ⟨k, f2, rfl, k0, k1, hf2, rfl, hS⟩
   refine zsr ?_
   refine zlv xlss ?_
   refine zlt <| zsq ?_
   refine zcif ?_ ?_ <;> intro hc
   ·
    refine zsk <| ztn <| zsq <| zbk <| zsr ?_
    refine zlv xmv ?_
    refine zlv (xln sl_22 hv1) ?_
    refine zlv (xsub (r := p.stock + p.kerf)) ?_
    refine zlv xas ?_
    refine zlt <| zbk <| zlp (fun mm M w => ∃ (c : Int) (f3 : Int → Int), mm = ((c - (p.L i + p.kerf) + 1).toNat) ∧ (p.L i + p.kerf - 1 ≤ c) ∧ (c ≤ p.stock + p.kerf) ∧ (∀ j, c < j → j ≤ p.stock + p.kerf → f3 j = R (Tab p y i.toNat) (p.L i + p.kerf) (y i) (k.toNat + 1) j) ∧ (∀ j, 0 ≤ j → j ≤ c → f3 j = R (Tab p y i.toNat) (p.L i + p.kerf) (y i) k.toNat j) ∧ M = [(1, vy), (2, .pointer (some ⟨g1, 0, none⟩)), (4, .int .i64 0), (5, v1), (6, .int .i64 i), (8, .int .i64 (p.L i + p.kerf)), (9, .int .i64 c), (18, vL), (19, .int .i64 p.m), (20, .int .i64 i), (39, .int .i64 (min (p.D i) (Int.tdiv (p.stock + p.kerf) (p.L i + p.kerf)))), (40, .int .i64 k)] ∧ Sat w0 w [.blk g1 [vL, vD, .int .i64 p.stock, .int .i64 p.kerf], .own v1 1 3 (p.stock + p.kerf + 1) (ints f3)]) ⟨p.stock + p.kerf, f2, rfl, (by omega), (by omega), ?_, ?_, rfl, hS⟩ ?_
    ·
     intro j hj0 hj1; omega
    ·
     intro j hj0 hj1; exact hf2 j hj0 (by omega)
    clear hS w
    rintro mm M w ⟨c, f3, rfl, c0, c1, ha3, hb3, rfl, hS⟩
    refine zsq <| zsr ?_
    refine zs3 ?_
    refine zlt ?_
    refine zcif ?_ ?_ <;> intro hc
    ·
     refine zsk <| ztn <| zsq <| zbk ?_
     refine zdst [0, 1] [0] 19 mx_ hS ?_; clear hS; intro w hS
     refine zdv 0 (fun _ => xmv) ?_
     refine zdv 1 (fun _ => xmv) ?_
     refine zdv 2 (fun _ => xmv) ?_
     refine zdv 3 (fun _ => xmv) ?_
     refine zdv 4 (fun _ => (xix (kk := c) sl_22 hv1)) ?_
     refine zdl 5 (fun w hS => (xlr (u := .int .i64 (f3 c)) pl_3 (hS.rowN 1 rfl))) ?_
     refine zdv 6 (fun _ => xmv) ?_
     refine zdv 7 (fun _ => xmv) ?_
     refine zdv 8 (fun _ => xmv) ?_
     refine zdv 9 (fun _ => (xsub (r := c - p.L i - p.kerf))) ?_
     refine zdv 10 (fun _ => (xix (kk := c - p.L i - p.kerf) sl_22 hv1)) ?_
     refine zdl 11 (fun w hS => (xlr (u := .int .i64 (f3 (c - p.L i - p.kerf))) pl_3 (hS.rowN 1 rfl))) ?_
     refine zdv 12 (fun _ => xmv) ?_
     refine zdv 13 (fun _ => xmv) ?_
     refine zdv 14 (fun _ => (xix (kk := i) sl_22 hY.slh)) ?_
     refine zdla 15 (fun w hS => (xlr (u := .int .i64 (y i)) pl_3 (hY.below hS.below))) ?_
     refine zdv 16 (fun _ => (xadd (r := f3 (c - p.L i - p.kerf) + (y i)) (hr := (by have e := hb3 (c - p.L i - p.kerf) (by omega) (by omega); have b := R_tab hp hy h0 (by omega) k.toNat (c := c - p.L i - p.kerf) (by omega); unfold I64; omega)))) ?_
     refine zdv 17 (fun _ => (xmax (r := (max (f3 c) (f3 (c - p.L i - p.kerf) + (y i)))))) ?_
     refine zdv 18 (fun _ => (xix (kk := c) sl_22 hv1)) ?_
     refine zde 19 (xso 1 pl_3 hS (upd_ints _ _ _)) ?_; clear hS; rintro w hS
     replace hS := hS.n2
     refine ⟨⟨fun h => absurd h (by decide), hS.pk [0]⟩, ?_⟩
     refine zdd <| zbn <| ztn <| zrg ?_
     refine zlv xmv ?_
     refine zlv (xsub (r := c - 1)) ?_
     refine zlv xas ?_
     refine zln <| zlq ⟨c - 1, (upd f3 c (max (f3 c) (f3 (c - p.L i - p.kerf) + (y i)))), rfl, (by omega), (by omega), ?_, ?_, rfl, hS⟩
     ·
      intro j hj0 hj1; by_cases hj : j = c
      · rw [hj, upd_self]; exact R_round hp y h0 (by omega) (by omega) hb3 rfl
      · rw [upd_ne _ _ hj]; exact ha3 j (by omega) hj1
     ·
      intro j hj0 hj1; rw [upd_ne _ _ (by omega)]; exact hb3 j hj0 (by omega)
    refine zxt <| ztx <| ztx <| zbh <| zbn <| ztn <| zrg ?_
    refine zlv (xadd (r := k + 1)) ?_
    refine zlv xmv ?_
    refine zln <| zlq ⟨k + 1, f3, rfl, (by omega), (by omega), ?_, rfl, hS⟩
    ·
     intro j hj0 hj1; have e : (k + 1).toNat = k.toNat + 1 := by omega
     rw [e]; by_cases hj : c < j
     · exact ha3 j hj hj1
     · rw [hb3 j hj0 (by omega)]; exact R_low hp y h0 (by omega) _ hj0 (by omega)
   refine zxt <| ztx <| ztx <| zbh <| zbn <| ztn <| zrg ?_
   refine zlv (xadd (r := i + 1)) ?_
   refine zlv xmv ?_
   refine zln <| zlq ⟨i + 1, f2, rfl, (by omega), (by omega), ?_, rfl, hS⟩
   ·
    intro j hj0 hj1; rw [hf2 j hj0 hj1]; exact Tab_next hp y h0 (by omega) k0 (by omega) (by omega) hj0 hj1
  refine zxt <| ztx <| ztx <| zbh <| ztn <| zsr ?_
  refine zs2 ?_
  refine zlv (xln sl_22 hv1) ?_
  refine zlv (xsub (r := p.stock + p.kerf)) ?_
  refine zlv (xix (kk := p.stock + p.kerf) sl_22 hv1) ?_
  refine zlv (xlr (u := .int .i64 (f (p.stock + p.kerf))) pl_3 (hS.rowN 1 rfl)) ?_
  refine zlv xas ?_
  refine zlt <| zrt <| zf1 ⟨_, rfl, ?_⟩
  obtain rfl : i = p.m := by omega
  exact ⟨congrArg (Value.int .i64) (by rw [hf _ (by omega) (by omega)]; rfl), hS.nl⟩
theorem c_worth {vL vD vy : Value} {p : Prob} {n : Int} {y : Int → Int} (w0 : World) (h : PAt w0 vL vD p) (hp : p.Ok) (hY : Row w0 vy 1 n (ints y)) (hn : n = p.m) (hy : Priced p y) :
    Calls Tryz.prog 119 [.agg #[vL, vD, .int .i64 p.stock, .int .i64 p.kerf], vy].toArray w0 fun e w => ∃ v, e = .returned v ∧ v = .int .i64 (Worth p y) ∧ Sat w0 w [] := by
  subst hn; have hm := hp.m1; have hm2 := hp.m2; have hd := hp.d; have hs1 := hp.s1; have hs2 := hp.s2; have hk1 := hp.k1; have hk2 := hp.k2
  refine zenG Tryz.func119 Tryz.ntmps119 fun w hS => ?_
  refine zsr ?_
  refine zla (xbx (cs := [_, _, _, _]) hS) ?_; rintro _ w ⟨g1, rfl, hS⟩
  replace hS := hS.n1
  refine zlv xas ?_
  refine zlz ?_
  refine zlv (xfb 2 fd_24_2) ?_
  refine zlv (xlb 0 pl_3 hS) ?_
  refine zlv (xfb 3 fd_24_3) ?_
  refine zlv (xlb 0 pl_3 hS) ?_
  refine zlv (xadd (r := p.stock + p.kerf)) ?_
  refine zlv xas ?_
  refine zlz ?_
  refine zlv xmv ?_
  refine zlv (xadd (r := p.stock + p.kerf + 1)) ?_
  refine zla (xmk sl_22 el_3 hS) ?_; rintro v1 w ⟨hS, hv1⟩
  replace hS := hS.n2
  refine zlv xas ?_
  refine zlt <| zsq <| zsr ?_
  refine zlv xas ?_
  refine zlt <| zbk <| zlp (fun mm M w => ∃ (i : Int) (vb : Value) (f : Int → Int), mm = ((p.m - i).toNat) ∧ (0 ≤ i) ∧ (i ≤ p.m) ∧ (∀ j, 0 ≤ j → j ≤ p.stock + p.kerf → f j = Tab p y i.toNat j) ∧ (Slh vb (p.stock + p.kerf + 1)) ∧ M = [(1, vy), (2, .pointer (some ⟨g1, 0, none⟩)), (4, .int .i64 0), (5, .int .i64 (p.stock + p.kerf)), (6, vb), (7, .int .i64 i)] ∧ Sat w0 w [.blk g1 [vL, vD, .int .i64 p.stock, .int .i64 p.kerf], .own vb 1 3 (p.stock + p.kerf + 1) (ints f)]) ⟨0, v1, (fun _ => 0), rfl, (by omega), (by omega), ?_, ?_, rfl, hS⟩ ?_
  ·
   intro j _ _; rfl
  ·
   exact hv1
  clear hS w
  rintro mm M w ⟨i, vb, f, rfl, h0, h1, hf, hvb, rfl, hS⟩
  refine zsq <| zsr ?_
  refine zs2 ?_
  refine zlv (xln sl_22 hY.slh) ?_
  refine zlv xlss ?_
  refine zlt ?_
  refine zcif ?_ ?_ <;> intro hc
  ·
   refine zsk <| ztn <| zsq <| zbk <| zsq ?_
   refine zdst [0, 1] [0, 1] 1000 mx_ hS ?_; clear hS; intro w hS
   refine zdv 0 (fun _ => (xfb 0 fd_24_0)) ?_
   have he := hp.all i (by omega) (by omega); unfold Prob.each at he; have hyi := hy i (by omega) (by omega)
   refine zdla 1 (fun w hS => (xlb 0 pl_22 hS)) ?_
   refine zdv 2 (fun _ => xmv) ?_
   refine zdv 3 (fun _ => (xix (kk := i) sl_22 h.L.slh)) ?_
   refine zdla 4 (fun w hS => (xlr (u := .int .i64 (p.L i)) pl_3 (h.L.below hS.below))) ?_
   have hbv := h.iL i
   refine zdv 5 (fun _ => (xfb 3 fd_24_3)) ?_
   refine zdla 6 (fun w hS => (xlb 0 pl_3 hS)) ?_
   refine zdv 7 (fun _ => (xadd (r := p.L i + p.kerf))) ?_
   refine zdv 8 (fun _ => xas) ?_
   refine zdd <| ztn <| zsr ?_
   refine zla (xl0 (c := ints f) sl_22 hS) ?_; rintro v2 w ⟨hS, hv2⟩
   replace hS := hS.n3
   refine zlv xmv ?_
   refine zla (xap 2 (r := p.stock + p.kerf + 1) (f := ints f) sl_22 el_3 hS (hS.rowN 1 rfl) (by exact cat_self _ _)) ?_; rintro v3 w ⟨hS, hv3⟩
   replace hS := hS.n3
   refine zlv xas ?_
   refine zlt <| zsq <| zsr ?_
   refine zlv xas ?_
   refine zlt <| zbk <| zlp (fun mm M w => ∃ (nn : Int) (g : Int → Int), mm = ((p.D i + 1 - nn).toNat) ∧ (1 ≤ nn) ∧ (nn - 1 ≤ p.D i) ∧ (∀ j, 0 ≤ j → j ≤ p.stock + p.kerf → g j = R (Tab p y i.toNat) (p.L i + p.kerf) (y i) (nn - 1).toNat j) ∧ M = [(1, vy), (2, .pointer (some ⟨g1, 0, none⟩)), (4, .int .i64 0), (5, .int .i64 (p.stock + p.kerf)), (6, vb), (7, .int .i64 i), (8, .int .i64 (p.L i + p.kerf)), (9, v3), (10, .int .i64 nn)] ∧ Sat w0 w [.blk g1 [vL, vD, .int .i64 p.stock, .int .i64 p.kerf], .own vb 1 3 (p.stock + p.kerf + 1) (ints f), .own v3 1 3 (p.stock + p.kerf + 1) (ints g)]) ⟨1, f, rfl, (by omega), (by omega), ?_, rfl, hS⟩ ?_
   ·
    intro j hj0 hj1; rw [hf j hj0 hj1]; rfl
   clear hS w
   rintro mm M w ⟨nn, g, rfl, n0, n1, hg, rfl, hS⟩
   refine zsq <| zsr ?_
   refine zlv xmv ?_
   refine zlv (xfb 1 fd_24_1) ?_
   refine zlv (xlb 0 pl_22 hS) ?_
   refine zlv xmv ?_
   refine zlv (xix (kk := i) sl_22 h.D.slh) ?_
   refine zlv (xlr (u := .int .i64 (p.D i)) pl_3 (h.D.below hS.below)) ?_
   have hbv := h.iD i
   refine zs2 ?_
   refine zlb 44 ?_ ?_ <;> intro hc
   ·
    refine zs2 ?_
    refine zlv (xmul (r := (nn * (p.L i + p.kerf))) (e := rfl) (hr := (by have := size_mul hp h0 (by omega : i < p.m) (n := nn) (by omega) (by omega); unfold I64; omega))) ?_
    have hz := size_mul hp h0 (by omega : i < p.m) (n := nn) (by omega) (by omega)
    refine zs3 ?_
    refine zlt ?_
    refine zcif ?_ ?_ <;> intro hc
    ·
     refine zsk <| ztn <| zsq <| zbk <| zsr ?_
     refine zlv xmv ?_
     have hz := size_mul hp h0 (by omega : i < p.m) (n := nn) (by omega) (by omega)
     refine zlv xmv ?_
     refine zlv (xmul (r := (nn * (p.L i + p.kerf))) (e := rfl) (hr := (by unfold I64; omega))) ?_
     refine zlv xas ?_
     refine zlt <| zbk <| zlp (fun mm M w => ∃ (c : Int) (g3 : Int → Int), mm = ((p.stock + p.kerf + 1 - c).toNat) ∧ (nn * (p.L i + p.kerf) ≤ c) ∧ (c ≤ p.stock + p.kerf + 1) ∧ (∀ j, 0 ≤ j → j < c → g3 j = R (Tab p y i.toNat) (p.L i + p.kerf) (y i) nn.toNat j) ∧ (∀ j, c ≤ j → j ≤ p.stock + p.kerf → g3 j = R (Tab p y i.toNat) (p.L i + p.kerf) (y i) (nn - 1).toNat j) ∧ M = [(1, vy), (2, .pointer (some ⟨g1, 0, none⟩)), (4, .int .i64 0), (5, .int .i64 (p.stock + p.kerf)), (6, vb), (7, .int .i64 i), (8, .int .i64 (p.L i + p.kerf)), (9, v3), (10, .int .i64 nn), (11, .int .i64 c)] ∧ Sat w0 w [.blk g1 [vL, vD, .int .i64 p.stock, .int .i64 p.kerf], .own vb 1 3 (p.stock + p.kerf + 1) (ints f), .own v3 1 3 (p.stock + p.kerf + 1) (ints g3)]) ⟨(nn * (p.L i + p.kerf)), g, rfl, (by omega), (by omega), ?_, ?_, rfl, hS⟩ ?_
     ·
      intro j hj0 hj1; rw [hg j hj0 (by omega)]; exact (R_not _ _ _ n0 hj1).symm
     ·
      intro j hj0 hj1; exact hg j (by omega) hj1
     clear hS w
     rintro mm M w ⟨c, g3, rfl, c0, c1, ha3, hb3, rfl, hS⟩
     refine zsq <| zsr ?_
     refine zs3 ?_
     refine zlt ?_
     refine zcif ?_ ?_ <;> intro hc
     ·
      refine zsk <| ztn <| zsq <| zbk ?_
      refine zdst [0, 1, 2] [0, 1] 23 mx_ hS ?_; clear hS; intro w hS
      refine zdv 0 (fun _ => xmv) ?_
      have hz2 := price_mul hy h0 (by omega : i < p.m) (n := nn) (by omega) (by omega); have hb2 := Tab_bound hp (by omega) hy i.toNat (by omega) (c - nn * (p.L i + p.kerf)) (by omega); rw [← hf _ (by omega) (by omega)] at hb2
      refine zdv 1 (fun _ => xmv) ?_
      refine zdv 2 (fun _ => xmv) ?_
      refine zdv 3 (fun _ => xmv) ?_
      refine zdv 4 (fun _ => (xix (kk := c) sl_22 hv3)) ?_
      refine zdl 5 (fun w hS => (xlr (u := .int .i64 (g3 c)) pl_3 (hS.rowN 2 rfl))) ?_
      refine zdv 6 (fun _ => xmv) ?_
      refine zdv 7 (fun _ => xmv) ?_
      refine zdv 8 (fun _ => xmv) ?_
      refine zdv 9 (fun _ => xmv) ?_
      refine zdv 10 (fun _ => (xmul (r := (nn * (p.L i + p.kerf))) (e := rfl) (hr := (by unfold I64; omega)))) ?_
      refine zdv 11 (fun _ => (xsub (r := c - (nn * (p.L i + p.kerf))))) ?_
      refine zdv 12 (fun _ => (xix (kk := c - (nn * (p.L i + p.kerf))) sl_22 hvb)) ?_
      refine zdla 13 (fun w hS => (xlr (u := .int .i64 (f (c - (nn * (p.L i + p.kerf))))) pl_3 (hS.rowN 1 rfl))) ?_
      refine zdv 14 (fun _ => xmv) ?_
      refine zdv 15 (fun _ => xmv) ?_
      refine zdv 16 (fun _ => xmv) ?_
      refine zdv 17 (fun _ => (xix (kk := i) sl_22 hY.slh)) ?_
      refine zdla 18 (fun w hS => (xlr (u := .int .i64 (y i)) pl_3 (hY.below hS.below))) ?_
      refine zdv 19 (fun _ => (xmul (r := (nn * (y i))) (e := rfl) (hr := (by unfold I64; omega)))) ?_
      refine zdv 20 (fun _ => (xadd (r := f (c - (nn * (p.L i + p.kerf))) + (nn * (y i))))) ?_
      refine zdv 21 (fun _ => (xmax (r := (max (g3 c) (f (c - (nn * (p.L i + p.kerf))) + (nn * (y i))))))) ?_
      refine zdv 22 (fun _ => (xix (kk := c) sl_22 hv3)) ?_
      refine zde 23 (xso 2 pl_3 hS (upd_ints _ _ _)) ?_; clear hS; rintro w hS
      replace hS := hS.n3
      refine ⟨⟨fun h => absurd h (by decide), hS.pk [0, 1]⟩, ?_⟩
      refine zdd <| zbn <| ztn <| zrg ?_
      refine zlv xmv ?_
      refine zlv (xadd (r := c + 1)) ?_
      refine zlv xas ?_
      refine zln <| zlq ⟨c + 1, (upd g3 c (max (g3 c) (f (c - (nn * (p.L i + p.kerf))) + (nn * (y i))))), rfl, (by omega), (by omega), ?_, ?_, rfl, hS⟩
      ·
       intro j hj0 hj1; by_cases hj : j = c
       · rw [hj, upd_self, R_at _ _ _ n0 c0, hb3 c (by omega) (by omega), hf _ (by omega) (by omega)]
       · rw [upd_ne _ _ hj]; exact ha3 j hj0 (by omega)
      ·
       intro j hj0 hj1; rw [upd_ne _ _ (by omega)]; exact hb3 j (by omega) hj1
     refine zxt <| ztx <| ztx <| zbh <| zbn <| ztn <| zrg ?_
     refine zlv xmv ?_
     refine zlv (xadd (r := nn + 1)) ?_
     refine zlv xas ?_
     refine zln <| zlq ⟨nn + 1, g3, rfl, (by omega), (by omega), ?_, rfl, hS⟩
     ·
      intro j hj0 hj1; rw [show nn + 1 - 1 = nn by omega]; exact ha3 j hj0 (by omega)
    refine zxt <| ztx <| ztx <| zbh <| ztn <| zrg ?_
    refine zs2 ?_
    refine zln <| zbn <| ztn <| zrg ?_
    refine zlv xmv ?_
    refine zlv (xadd (r := i + 1)) ?_
    refine zlv xas ?_
    refine zln <| zlq ⟨i + 1, v3, g, rfl, (by omega), (by omega), ?_, ?_, rfl, hS.pk [0, 2]⟩
    ·
     intro j hj0 hj1; rw [hg j hj0 hj1]; exact Tab_next2 hp y h0 (by omega) n0 n1 (by omega) hj0 hj1
    ·
     exact hv3
   iterate 5 refine zlo ?_
   refine zlv xpf ?_
   refine zlt <| zcf <| zxt <| ztx <| ztx <| zbh <| ztn <| zrg ?_
   refine zs2 ?_
   refine zln <| zbn <| ztn <| zrg ?_
   refine zlv xmv ?_
   refine zlv (xadd (r := i + 1)) ?_
   refine zlv xas ?_
   refine zln <| zlq ⟨i + 1, v3, g, rfl, (by omega), (by omega), ?_, ?_, rfl, hS.pk [0, 2]⟩
   ·
    intro j hj0 hj1; rw [hg j hj0 hj1]; exact Tab_next2 hp y h0 (by omega) n0 n1 (by omega) hj0 hj1
   ·
    exact hv3
  refine zxt <| ztx <| ztx <| zbh <| ztn <| zsr ?_
  refine zs2 ?_
  refine zlv (xix (kk := p.stock + p.kerf) sl_22 hvb) ?_
  refine zlv (xlr (u := .int .i64 (f (p.stock + p.kerf))) pl_3 (hS.rowN 1 rfl)) ?_
  refine zlv xas ?_
  refine zlt <| zrt <| zf1 ⟨_, rfl, ?_⟩
  obtain rfl : i = p.m := by omega
  exact ⟨congrArg (Value.int .i64) (by rw [hf _ (by omega) (by omega)]; rfl), hS.nl⟩
theorem c_check {vL vD vy : Value} {p : Prob} {n q : Int} {y : Int → Int} (w0 : World) (h : PAt w0 vL vD p) (hY : Row w0 vy 1 n (ints y)) (hq : -9223372036854775808 ≤ q ∧ q ≤ 9223372036854775807) :
    Calls Tryz.prog 79 [.agg #[vL, vD, .int .i64 p.stock, .int .i64 p.kerf], .agg #[vy, .int .i64 q]].toArray w0 fun e w => ∃ v, e = .returned v ∧ v = .int .i64 (Chk p n y q) ∧ Sat w0 w [] := by
  have hn := hY.slh.n0; have hn1 := hY.slh.n1
  refine zenG Tryz.func79 Tryz.ntmps79 fun w hS => ?_
  refine zsr ?_
  refine zla (xbx (cs := [_, _, _, _]) hS) ?_; rintro _ w ⟨g1, rfl, hS⟩
  replace hS := hS.n1
  refine zla (xbx (cs := [_, _]) hS) ?_; rintro _ w ⟨g2, rfl, hS⟩
  replace hS := hS.n2
  refine zlv xas ?_
  refine zlt <| zsq <| zbk <| zsr ?_
  refine zlv (xls 0 st_32 hS) ?_
  refine zlc (xc0 cl_56) (c_pvalid (p := p) w (h.below hS.below)) ?_; rintro _ w ⟨rfl, hS'⟩
  replace hS := hS.cmp hS'; clear hS'
  refine zs2 ?_
  refine zlb 9 ?_ ?_ <;> intro hc
  ·
   iterate 3 refine zlo ?_
   refine zs2 ?_
   iterate 7 refine zlo ?_
   refine zs2 ?_
   refine zlt <| zct <| zsr ?_
   refine zlv xas ?_
   refine zlt <| zrt <| zbr <| ztr <| zf1 ⟨_, rfl, ?_⟩
   exact ⟨congrArg (Value.int .i64) (Eq.symm (by first | exact chk1 (.inl ‹¬ p.Ok›) | exact chk1 (.inr (.inl ‹¬ Formed n y q›)) | exact chk1 (.inr (.inr (by omega))))), hS.nl⟩
  refine zlv (xls 1 st_98 hS) ?_
  refine zlc (xc0 cl_116) (c_formed w (hY.below hS.below) (by omega)) ?_; rintro _ w ⟨rfl, hS'⟩
  replace hS := hS.cmp hS'; clear hS'
  refine zs3 ?_
  refine zlb 14 ?_ ?_ <;> intro hc
  ·
   iterate 7 refine zlo ?_
   refine zs2 ?_
   refine zlt <| zct <| zsr ?_
   refine zlv xas ?_
   refine zlt <| zrt <| zbr <| ztr <| zf1 ⟨_, rfl, ?_⟩
   exact ⟨congrArg (Value.int .i64) (Eq.symm (by first | exact chk1 (.inl ‹¬ p.Ok›) | exact chk1 (.inr (.inl ‹¬ Formed n y q›)) | exact chk1 (.inr (.inr (by omega))))), hS.nl⟩
  refine zlv (xfb 0 fd_98_0) ?_
  refine zlv (xlb 1 pl_22 hS) ?_
  refine zlv (xln sl_22 hY.slh) ?_
  refine zlv (xfb 0 fd_32_0) ?_
  refine zlv (xlb 0 pl_22 hS) ?_
  refine zlv (xln sl_22 h.L.slh) ?_
  refine zs3 ?_
  refine zlt ?_
  refine zcif ?_ ?_ <;> intro hc
  ·
   refine zsr ?_
   refine zlv xas ?_
   refine zlt <| zrt <| zbr <| ztr <| zf1 ⟨_, rfl, ?_⟩
   exact ⟨congrArg (Value.int .i64) (Eq.symm (by first | exact chk1 (.inl ‹¬ p.Ok›) | exact chk1 (.inr (.inl ‹¬ Formed n y q›)) | exact chk1 (.inr (.inr (by omega))))), hS.nl⟩
  refine zsq ?_
  refine zdst [0, 1] [0, 1] 1000 mx_ hS ?_; clear hS; intro w hS
  refine zdla 0 (fun w hS => (xls 0 st_32 hS)) ?_
  refine zdv 1 (fun _ => (xfb 0 fd_98_0)) ?_
  refine zdla 2 (fun w hS => (xlb 1 pl_22 hS)) ?_
  refine zdv 4 (fun _ => (xfb 1 fd_98_1)) ?_
  refine zdla 5 (fun w hS => (xlb 1 pl_3 hS)) ?_
  refine zdc 3 (xc0 cl_117) (c_dearest (p := p) w (h.below hS.below) (Classical.not_not.1 ‹¬ ¬ (p.Ok)›) (hY.below hS.below) (by omega) (Formed.priced (Classical.not_not.1 ‹¬ ¬ (Formed n y q)›) (by omega))) ?_; rintro _ w ⟨rfl, hS'⟩
  replace hS := hS.cmp hS'; clear hS'
  refine ⟨⟨fun _ => hS, hS⟩, ?_⟩
  refine zdv 6 (fun _ => xgtr) ?_
  refine zdv 7 (fun _ => xas) ?_
  refine zdd <| ztn ?_
  refine zcif ?_ ?_ <;> intro hc
  ·
   refine zsr ?_
   refine zlv xas ?_
   refine zlt <| zrt <| zbr <| ztr <| zf1 ⟨_, rfl, ?_⟩
   exact ⟨congrArg (Value.int .i64) (Eq.symm (by exact chk21 (Classical.not_not.1 ‹¬ ¬ (p.Ok)›) (Classical.not_not.1 ‹¬ ¬ (Formed n y q)›) (by omega) ‹_›)), hS.nl⟩
  refine zsk <| zbn <| ztn <| zsr ?_
  refine zlv xas ?_
  refine zlt <| zrt <| zf1 ⟨_, rfl, ?_⟩
  exact ⟨congrArg (Value.int .i64) (Eq.symm (by exact chk0 (Classical.not_not.1 ‹¬ ¬ (p.Ok)›) (Classical.not_not.1 ‹¬ ¬ (Formed n y q)›) (by omega) ‹_›)), hS.nl⟩
theorem c_rcheck {vL vD vy : Value} {p : Prob} {n q : Int} {y : Int → Int} (w0 : World) (h : PAt w0 vL vD p) (hY : Row w0 vy 1 n (ints y)) (hq : -9223372036854775808 ≤ q ∧ q ≤ 9223372036854775807) :
    Calls Tryz.prog 80 [.agg #[vL, vD, .int .i64 p.stock, .int .i64 p.kerf], .agg #[vy, .int .i64 q]].toArray w0 fun e w => ∃ v, e = .returned v ∧ v = .int .i64 (Chk p n y q) ∧ Sat w0 w [] := by
  have hn := hY.slh.n0; have hn1 := hY.slh.n1
  refine zenG Tryz.func80 Tryz.ntmps80 fun w hS => ?_
  refine zsr ?_
  refine zla (xbx (cs := [_, _, _, _]) hS) ?_; rintro _ w ⟨g1, rfl, hS⟩
  replace hS := hS.n1
  refine zla (xbx (cs := [_, _]) hS) ?_; rintro _ w ⟨g2, rfl, hS⟩
  replace hS := hS.n2
  refine zlv xas ?_
  refine zlt <| zsq <| zbk <| zsr ?_
  refine zlv (xls 0 st_24 hS) ?_
  refine zlc (xc0 cl_28) (c_rvalid28 (p := p) w (h.below hS.below)) ?_; rintro _ w ⟨rfl, hS'⟩
  replace hS := hS.cmp hS'; clear hS'
  refine zs2 ?_
  refine zlb 9 ?_ ?_ <;> intro hc
  ·
   iterate 3 refine zlo ?_
   refine zs2 ?_
   iterate 7 refine zlo ?_
   refine zs2 ?_
   refine zlt <| zct <| zsr ?_
   refine zlv xas ?_
   refine zlt <| zrt <| zbr <| ztr <| zf1 ⟨_, rfl, ?_⟩
   exact ⟨congrArg (Value.int .i64) (Eq.symm (by first | exact chk1 (.inl ‹¬ p.Ok›) | exact chk1 (.inr (.inl ‹¬ Formed n y q›)) | exact chk1 (.inr (.inr (by omega))))), hS.nl⟩
  refine zlv (xls 1 st_100 hS) ?_
  refine zlc (xc0 cl_118) (c_rformed w (hY.below hS.below) (by omega)) ?_; rintro _ w ⟨rfl, hS'⟩
  replace hS := hS.cmp hS'; clear hS'
  refine zs3 ?_
  refine zlb 14 ?_ ?_ <;> intro hc
  ·
   iterate 7 refine zlo ?_
   refine zs2 ?_
   refine zlt <| zct <| zsr ?_
   refine zlv xas ?_
   refine zlt <| zrt <| zbr <| ztr <| zf1 ⟨_, rfl, ?_⟩
   exact ⟨congrArg (Value.int .i64) (Eq.symm (by first | exact chk1 (.inl ‹¬ p.Ok›) | exact chk1 (.inr (.inl ‹¬ Formed n y q›)) | exact chk1 (.inr (.inr (by omega))))), hS.nl⟩
  refine zlv (xfb 0 fd_100_0) ?_
  refine zlv (xlb 1 pl_22 hS) ?_
  refine zlv (xln sl_22 hY.slh) ?_
  refine zlv (xfb 0 fd_24_0) ?_
  refine zlv (xlb 0 pl_22 hS) ?_
  refine zlv (xln sl_22 h.L.slh) ?_
  refine zs3 ?_
  refine zlt ?_
  refine zcif ?_ ?_ <;> intro hc
  ·
   refine zsr ?_
   refine zlv xas ?_
   refine zlt <| zrt <| zbr <| ztr <| zf1 ⟨_, rfl, ?_⟩
   exact ⟨congrArg (Value.int .i64) (Eq.symm (by first | exact chk1 (.inl ‹¬ p.Ok›) | exact chk1 (.inr (.inl ‹¬ Formed n y q›)) | exact chk1 (.inr (.inr (by omega))))), hS.nl⟩
  refine zsq ?_
  refine zdst [0, 1] [0, 1] 1000 mx_ hS ?_; clear hS; intro w hS
  refine zdla 0 (fun w hS => (xls 0 st_24 hS)) ?_
  refine zdv 1 (fun _ => (xfb 0 fd_100_0)) ?_
  refine zdla 2 (fun w hS => (xlb 1 pl_22 hS)) ?_
  refine zdv 4 (fun _ => (xfb 1 fd_100_1)) ?_
  refine zdla 5 (fun w hS => (xlb 1 pl_3 hS)) ?_
  refine zdc 3 (xc0 cl_119) (c_worth (p := p) w (h.below hS.below) (Classical.not_not.1 ‹¬ ¬ (p.Ok)›) (hY.below hS.below) (by omega) (Formed.priced (Classical.not_not.1 ‹¬ ¬ (Formed n y q)›) (by omega))) ?_; rintro _ w ⟨rfl, hS'⟩
  replace hS := hS.cmp hS'; clear hS'
  refine ⟨⟨fun _ => hS, hS⟩, ?_⟩
  refine zdv 6 (fun _ => xgtr) ?_
  refine zdv 7 (fun _ => xas) ?_
  refine zdd <| ztn ?_
  refine zcif ?_ ?_ <;> intro hc
  ·
   refine zsr ?_
   refine zlv xas ?_
   refine zlt <| zrt <| zbr <| ztr <| zf1 ⟨_, rfl, ?_⟩
   exact ⟨congrArg (Value.int .i64) (Eq.symm (by exact chk21 (Classical.not_not.1 ‹¬ ¬ (p.Ok)›) (Classical.not_not.1 ‹¬ ¬ (Formed n y q)›) (by omega) ‹_›)), hS.nl⟩
  refine zsk <| zbn <| ztn <| zsr ?_
  refine zlv xas ?_
  refine zlt <| zrt <| zf1 ⟨_, rfl, ?_⟩
  exact ⟨congrArg (Value.int .i64) (Eq.symm (by exact chk0 (Classical.not_not.1 ‹¬ ¬ (p.Ok)›) (Classical.not_not.1 ‹¬ ¬ (Formed n y q)›) (by omega) ‹_›)), hS.nl⟩
theorem c_bound {vL vD vy : Value} {p : Prob} {n q : Int} {y : Int → Int} (w0 : World) (h : PAt w0 vL vD p) (hY : Row w0 vy 1 n (ints y)) (hq : -9223372036854775808 ≤ q ∧ q ≤ 9223372036854775807) :
    Calls Tryz.prog 47 [.agg #[vL, vD, .int .i64 p.stock, .int .i64 p.kerf], .agg #[vy, .int .i64 q]].toArray w0 fun e w => ∃ v, e = .returned v ∧ v = .tuple #[.int .i64 (BndOf p n y q), .int .i64 (Chk p n y q)] ∧ Sat w0 w [] := by
  have hn := hY.slh.n0; have hn1 := hY.slh.n1
  refine zenG Tryz.func47 Tryz.ntmps47 fun w hS => ?_
  refine zsr ?_
  refine zla (xbx (cs := [_, _, _, _]) hS) ?_; rintro _ w ⟨g1, rfl, hS⟩
  replace hS := hS.n1
  refine zla (xbx (cs := [_, _]) hS) ?_; rintro _ w ⟨g2, rfl, hS⟩
  replace hS := hS.n2
  refine zs2 ?_
  refine zlt <| zsq <| zsr ?_
  refine zlv (xls 0 st_32 hS) ?_
  refine zlv (xls 1 st_98 hS) ?_
  refine zlc (xc0 cl_79) (c_check (p := p) w (h.below hS.below) (hY.below hS.below) (by omega)) ?_; rintro _ w ⟨rfl, hS'⟩
  replace hS := hS.cmp hS'; clear hS'
  refine zlv xas ?_
  refine zlz ?_
  refine zs2 ?_
  refine zlt ?_
  refine zcif ?_ ?_ <;> intro hc
  ·
   refine zsr ?_
   refine zs3 ?_
   refine zlt <| zrt <| ztr <| zf2 ⟨_, rfl, ?_⟩
   exact ⟨by rw [bnd_no ‹_›], hS.nl⟩
  refine zsk <| ztn <| zsr ?_
  refine zlv xas ?_
  refine zlt <| zsq <| zsr ?_
  refine zlv (xfb 1 fd_32_1) ?_
  obtain ⟨hp, hfm, hnm, hw⟩ := chk_ok (by omega : Chk p n y q = 0); have hq1 := hfm.1; have hq2 := hfm.2.1; have hd := hp.d; have hm1 := hp.m1; have hm2 := hp.m2; have hpr := hfm.priced hnm
  refine zlv (xlb 0 pl_22 hS) ?_
  refine zlv (xln sl_22 h.D.slh) ?_
  refine zlv xmv ?_
  refine zlt <| zbk <| zlp (fun mm M w => ∃ (t : Int) (i : Int), mm = ((p.m - i).toNat) ∧ (0 ≤ i) ∧ (i ≤ p.m) ∧ (t = Tot p.D y i.toNat) ∧ M = [(3, .pointer (some ⟨g2, 0, none⟩)), (4, .int .i64 0), (5, .int .i64 0), (7, .int .i64 t), (17, vD), (18, .int .i64 p.d), (19, .int .i64 i)] ∧ Sat w0 w [.blk g1 [vL, vD, .int .i64 p.stock, .int .i64 p.kerf], .blk g2 [vy, .int .i64 q]]) ⟨0, 0, rfl, (by omega), (by omega), ?_, rfl, hS⟩ ?_
  ·
   rfl
  clear hS w
  rintro mm M w ⟨t, i, rfl, h0, h1, ht, rfl, hS⟩
  refine zsr ?_
  refine zlv xlss ?_
  refine zlt <| zsq ?_
  refine zcif ?_ ?_ <;> intro hc
  ·
   refine zsk <| ztn <| zsq <| zbk <| zsr ?_
   refine zlv xmv ?_
   refine zlv (xix (kk := i) sl_22 h.D.slh) ?_
   refine zlv (xlr (u := .int .i64 (p.D i)) pl_3 (h.D.below hS.below)) ?_
   have hbv := h.iD i
   refine zs2 ?_
   refine zlt <| zrg ?_
   refine zlv xmv ?_
   have hb1 := tot_bd hp hpr i h0 (by omega); have hb2 := tot_rng hp hpr i h0 (by omega)
   refine zlv xmv ?_
   refine zlv (xfb 0 fd_98_0) ?_
   refine zlv (xlb 1 pl_22 hS) ?_
   refine zlv xmv ?_
   refine zlv (xix (kk := i) sl_22 hY.slh) ?_
   refine zlv (xlr (u := .int .i64 (y i)) pl_3 (hY.below hS.below)) ?_
   refine zlv (xmul (r := ((p.D i) * (y i))) (e := rfl) (hr := (by unfold I64; omega))) ?_
   refine zlv (xadd (r := t + ((p.D i) * (y i)))) ?_
   refine zlv xas ?_
   refine zln <| zbn <| ztn <| zrg ?_
   refine zlv (xadd (r := i + 1)) ?_
   refine zlv xmv ?_
   refine zln <| zlq ⟨t + ((p.D i) * (y i)), i + 1, rfl, (by omega), (by omega), ?_, rfl, hS⟩
   ·
    rw [Tot_next _ _ h0, ← ht]
  refine zxt <| ztx <| ztx <| zbh <| ztn <| zsr ?_
  refine zlv xmv ?_
  have hb1 := tot_bd hp hpr i h0 (by omega); have hq3 := quo_facts (a := t + q - 1) (b := q) (by omega) (by omega)
  refine zlv (xfb 1 fd_98_1) ?_
  refine zlv (xlb 1 pl_3 hS) ?_
  refine zlv (xadd (r := t + q)) ?_
  refine zlv (xsub (r := t + q - 1)) ?_
  refine zlv (xfb 1 fd_98_1) ?_
  refine zlv (xlb 1 pl_3 hS) ?_
  refine zlv (xquo (r := (Int.tdiv (t + q - 1) q)) (hn := (by omega)) (hr := (by unfold I64; omega))) ?_
  refine zs2 ?_
  refine zlt <| zrt <| zf2 ⟨_, rfl, ?_⟩
  obtain rfl : i = p.m := by omega
  have hz : Chk p n y q = 0 := by omega
  exact ⟨by rw [hz, bnd_ok hz]; unfold Bnd; rw [← ht], hS.nl⟩
theorem c_rbound {vL vD vy : Value} {p : Prob} {n q : Int} {y : Int → Int} (w0 : World) (h : PAt w0 vL vD p) (hY : Row w0 vy 1 n (ints y)) (hq : -9223372036854775808 ≤ q ∧ q ≤ 9223372036854775807) :
    Calls Tryz.prog 48 [.agg #[vL, vD, .int .i64 p.stock, .int .i64 p.kerf], .agg #[vy, .int .i64 q]].toArray w0 fun e w => ∃ v, e = .returned v ∧ v = .tuple #[.int .i64 (BndOf p n y q), .int .i64 (Chk p n y q)] ∧ Sat w0 w [] := by
  have hn := hY.slh.n0; have hn1 := hY.slh.n1
  refine zenG Tryz.func48 Tryz.ntmps48 fun w hS => ?_
  refine zsr ?_
  refine zla (xbx (cs := [_, _, _, _]) hS) ?_; rintro _ w ⟨g1, rfl, hS⟩
  replace hS := hS.n1
  refine zla (xbx (cs := [_, _]) hS) ?_; rintro _ w ⟨g2, rfl, hS⟩
  replace hS := hS.n2
  refine zs2 ?_
  refine zlt <| zsq <| zsr ?_
  refine zlv (xls 0 st_24 hS) ?_
  refine zlv (xls 1 st_100 hS) ?_
  refine zlc (xc0 cl_80) (c_rcheck (p := p) w (h.below hS.below) (hY.below hS.below) (by omega)) ?_; rintro _ w ⟨rfl, hS'⟩
  replace hS := hS.cmp hS'; clear hS'
  refine zlv xas ?_
  refine zlz ?_
  refine zs2 ?_
  refine zlt ?_
  refine zcif ?_ ?_ <;> intro hc
  ·
   refine zsr ?_
   refine zs3 ?_
   refine zlt <| zrt <| ztr <| zf2 ⟨_, rfl, ?_⟩
   exact ⟨by rw [bnd_no ‹_›], hS.nl⟩
  refine zsk <| ztn <| zsr ?_
  refine zlv xas ?_
  obtain ⟨hp, hfm, hnm, hw⟩ := chk_ok (by omega : Chk p n y q = 0); have hq1 := hfm.1; have hq2 := hfm.2.1; have hd := hp.d; have hm1 := hp.m1; have hm2 := hp.m2; have hpr := hfm.priced hnm
  refine zlt <| zsq <| zsr ?_
  refine zlv xas ?_
  refine zlt <| zbk <| zlp (fun mm M w => ∃ (t : Int) (i : Int), mm = ((p.m - i).toNat) ∧ (0 ≤ i) ∧ (i ≤ p.m) ∧ (t = Tot p.D y i.toNat) ∧ M = [(2, .pointer (some ⟨g1, 0, none⟩)), (3, .pointer (some ⟨g2, 0, none⟩)), (4, .int .i64 0), (5, .int .i64 0), (7, .int .i64 t), (8, .int .i64 i)] ∧ Sat w0 w [.blk g1 [vL, vD, .int .i64 p.stock, .int .i64 p.kerf], .blk g2 [vy, .int .i64 q]]) ⟨0, 0, rfl, (by omega), (by omega), ?_, rfl, hS⟩ ?_
  ·
   rfl
  clear hS w
  rintro mm M w ⟨t, i, rfl, h0, h1, ht, rfl, hS⟩
  refine zsq <| zsr ?_
  refine zlv xmv ?_
  refine zlv (xfb 0 fd_100_0) ?_
  refine zlv (xlb 1 pl_22 hS) ?_
  refine zlv (xln sl_22 hY.slh) ?_
  refine zlv xlss ?_
  refine zlt ?_
  refine zcif ?_ ?_ <;> intro hc
  ·
   refine zsk <| ztn <| zsq <| zbk ?_
   refine zdst [0, 1] [0, 1] 1000 mx_ hS ?_; clear hS; intro w hS
   refine zdv 0 (fun _ => xmv) ?_
   have hb1 := tot_bd hp hpr i h0 (by omega); have hb2 := tot_rng hp hpr i h0 (by omega)
   refine zdv 1 (fun _ => (xfb 1 fd_24_1)) ?_
   refine zdla 2 (fun w hS => (xlb 0 pl_22 hS)) ?_
   refine zdv 3 (fun _ => xmv) ?_
   refine zdv 4 (fun _ => (xix (kk := i) sl_22 h.D.slh)) ?_
   refine zdla 5 (fun w hS => (xlr (u := .int .i64 (p.D i)) pl_3 (h.D.below hS.below))) ?_
   have hbv := h.iD i
   refine zdv 6 (fun _ => (xfb 0 fd_100_0)) ?_
   refine zdla 7 (fun w hS => (xlb 1 pl_22 hS)) ?_
   refine zdv 8 (fun _ => xmv) ?_
   refine zdv 9 (fun _ => (xix (kk := i) sl_22 hY.slh)) ?_
   refine zdla 10 (fun w hS => (xlr (u := .int .i64 (y i)) pl_3 (hY.below hS.below))) ?_
   refine zdv 11 (fun _ => (xmul (r := ((p.D i) * (y i))) (e := rfl) (hr := (by unfold I64; omega)))) ?_
   refine zdv 12 (fun _ => (xadd (r := t + ((p.D i) * (y i))))) ?_
   refine zdv 13 (fun _ => xas) ?_
   obtain ⟨hp, hfm, hnm, hw⟩ := chk_ok (by omega : Chk p n y q = 0); have hq1 := hfm.1; have hq2 := hfm.2.1; have hd := hp.d; have hm1 := hp.m1; have hm2 := hp.m2; have hpr := hfm.priced hnm
   refine zdd <| zbn <| ztn <| zrg ?_
   refine zlv xmv ?_
   refine zlv (xadd (r := i + 1)) ?_
   refine zlv xas ?_
   refine zln <| zlq ⟨t + ((p.D i) * (y i)), i + 1, rfl, (by omega), (by omega), ?_, rfl, hS⟩
   ·
    rw [Tot_next _ _ h0, ← ht]
  refine zxt <| ztx <| ztx <| zbh <| ztn <| zsr ?_
  refine zlv xmv ?_
  have hb1 := tot_bd hp hpr i h0 (by omega); have hq3 := quo_facts (a := t + q - 1) (b := q) (by omega) (by omega)
  refine zlv (xfb 1 fd_100_1) ?_
  refine zlv (xlb 1 pl_3 hS) ?_
  refine zlv (xadd (r := t + q)) ?_
  refine zlv (xsub (r := t + q - 1)) ?_
  refine zlv (xfb 1 fd_100_1) ?_
  refine zlv (xlb 1 pl_3 hS) ?_
  refine zlv (xquo (r := (Int.tdiv (t + q - 1) q)) (hn := (by omega)) (hr := (by unfold I64; omega))) ?_
  refine zs2 ?_
  refine zlt <| zrt <| zf2 ⟨_, rfl, ?_⟩
  obtain rfl : i = p.m := by omega
  have hz : Chk p n y q = 0 := by omega
  exact ⟨by rw [hz, bnd_ok hz]; unfold Bnd; rw [← ht], hS.nl⟩
end Go.Proofs.YtkichmnjjblodaaGreat
namespace Go.Proofs.Gw
open Go Go.RowKit
def dn {α : Type} (F : Int → List α) (lo : Int) : Nat → List α
  | 0 => []
  | c + 1 => F (lo + c) ++ dn F lo c
theorem dn_at {α : Type} (F : Int → List α) {lo k : Int} (h : lo ≤ k) : dn F lo (k + 1 - lo).toNat = F k ++ dn F lo (k - lo).toNat := by
  rw [show (k + 1 - lo).toNat = (k - lo).toNat + 1 by omega]
  simp only [dn]
  rw [show lo + ((k - lo).toNat : Int) = k by omega]
theorem dn_end {α : Type} (F : Int → List α) {lo k : Int} (h : k < lo) : dn F lo (k + 1 - lo).toNat = [] := by
  rw [show (k + 1 - lo).toNat = 0 by omega]; rfl
theorem dn_nil {α : Type} {F : Int → List α} {lo : Int} : ∀ {c : Nat}, (∀ k, lo ≤ k → k < lo + c → F k = []) → dn F lo c = []
  | 0, _ => rfl
  | c + 1, h => by
    simp only [dn]
    rw [h _ (by omega) (by omega), dn_nil fun k h0 h1 => h k h0 (by omega)]; rfl
theorem mem_dn {α : Type} {F : Int → List α} {lo : Int} {x : α} : ∀ {c : Nat}, x ∈ dn F lo c → ∃ k, lo ≤ k ∧ k < lo + c ∧ x ∈ F k
  | 0, h => by cases h
  | c + 1, h => by
    simp only [dn, List.mem_append] at h
    rcases h with h | h
    · exact ⟨_, by omega, by omega, h⟩
    · obtain ⟨k, h1, h2, h3⟩ := mem_dn h; exact ⟨k, h1, by omega, h3⟩
def Maxi (p : Prob) (a : Int → Int) (l : Int) : Prop := (∃ i, 0 ≤ i ∧ i < p.m ∧ 0 < a i) ∧ ∀ i, 0 ≤ i → i < p.m → a i < p.D i → l < p.L i + p.kerf
def least (w i : Int) : Int := if w = i then 1 else 0
noncomputable def ext (p : Prob) (w : Int) : Nat → (Int → Int) → Int → List (Int → Int)
  | 0, a, l => @ite _ (Maxi p a l) (Classical.propDecidable _) [a] []
  | j + 1, a, l => dn (fun k => ext p w j (upd a (p.m - ((j : Int) + 1)) k) (l - k * (p.L (p.m - ((j : Int) + 1)) + p.kerf))) (least w (p.m - ((j : Int) + 1)))
      (min (p.D (p.m - ((j : Int) + 1))) (l.tdiv (p.L (p.m - ((j : Int) + 1)) + p.kerf)) + 1 - least w (p.m - ((j : Int) + 1))).toNat
noncomputable def exI (p : Prob) (w i : Int) (a : Int → Int) (l : Int) : List (Int → Int) := ext p w (p.m - i).toNat a l
def most (p : Prob) (i l : Int) : Int := min (p.D i) (l.tdiv (p.L i + p.kerf))
theorem exI_yes {p : Prob} {w i : Int} {a : Int → Int} {l : Int} (hi : i = p.m) (h : Maxi p a l) : exI p w i a l = [a] := by
  unfold exI; rw [show (p.m - i).toNat = 0 by omega]
  show @ite _ (Maxi p a l) (Classical.propDecidable _) [a] [] = _
  rw [if_pos h]
theorem exI_no {p : Prob} {w i : Int} {a : Int → Int} {l : Int} (hi : i = p.m) (h : ¬ Maxi p a l) : exI p w i a l = [] := by
  unfold exI; rw [show (p.m - i).toNat = 0 by omega]
  show @ite _ (Maxi p a l) (Classical.propDecidable _) [a] [] = _
  rw [if_neg h]
noncomputable def kid (p : Prob) (w i : Int) (a : Int → Int) (l : Int) (k : Int) : List (Int → Int) := exI p w (i + 1) (upd a i k) (l - k * (p.L i + p.kerf))
theorem exI_step {p : Prob} {w i : Int} {a : Int → Int} {l : Int} (h0 : 0 ≤ i) (h1 : i < p.m) : exI p w i a l = dn (kid p w i a l) (least w i) (most p i l + 1 - least w i).toNat := by
  unfold exI
  obtain ⟨j, hj⟩ : ∃ j : Nat, (p.m - i).toNat = j + 1 := ⟨(p.m - i).toNat - 1, by omega⟩
  have e : p.m - ((j : Int) + 1) = i := by omega
  rw [hj]
  simp only [ext]
  rw [e]
  have e2 : (fun k => ext p w j (upd a i k) (l - k * (p.L i + p.kerf))) = kid p w i a l := by
    funext k
    unfold kid exI
    rw [show (p.m - (i + 1)).toNat = j by omega]
  rw [e2]; rfl
noncomputable def MX (p : Prob) (w : Int) : List (Int → Int) := exI p w 0 (fun _ => 0) (p.stock + p.kerf)
structure Pfx (p : Prob) (i : Int) (a : Int → Int) (l : Int) : Prop where
  rng : ∀ k, 0 ≤ k → k < i → 0 ≤ a k ∧ a k ≤ p.D k
  zero : ∀ k, k < 0 ∨ i ≤ k → a k = 0
  left : l = p.stock + p.kerf - Used p a i.toNat
  l0 : 0 ≤ l
theorem Pfx.start {p : Prob} (hp : p.Ok) : Pfx p 0 (fun _ => 0) (p.stock + p.kerf) :=
  ⟨fun k h0 h1 => by omega, fun _ _ => rfl, by show _ = _ - sumTo _ 0; simp [sumTo], by have := hp.s1; have := hp.k1; omega⟩
theorem most_mul {p : Prob} (hp : p.Ok) {i l k : Int} (h0 : 0 ≤ i) (h1 : i < p.m) (hl : 0 ≤ l) (k0 : 0 ≤ k) (k1 : k ≤ most p i l) : k ≤ p.D i ∧ 0 ≤ k * (p.L i + p.kerf) ∧ k * (p.L i + p.kerf) ≤ l := by
  have he := hp.all i h0 h1
  unfold Prob.each at he
  have hk := hp.k1
  unfold most at k1
  have h2 : k ≤ l.tdiv (p.L i + p.kerf) := by omega
  rw [Int.tdiv_eq_ediv_of_nonneg hl] at h2
  exact ⟨by omega, Int.mul_nonneg k0 (by omega), (Int.le_ediv_iff_mul_le (by omega)).1 h2⟩
theorem used_upd {p : Prob} {a : Int → Int} {i k : Int} (h0 : 0 ≤ i) : Used p (upd a i k) (i + 1).toNat = Used p a i.toNat + k * (p.L i + p.kerf) := by
  have e : Used p (upd a i k) (i + 1).toNat = Used p (upd a i k) i.toNat + upd a i k i * (p.L i + p.kerf) := sumTo_next _ h0
  rw [e, upd_self]
  congr 1
  exact sumTo_congr fun j j0 j1 => by rw [upd_ne _ _ (by omega)]
theorem Pfx.step {p : Prob} (hp : p.Ok) {i l k : Int} {a : Int → Int} (h : Pfx p i a l) (h0 : 0 ≤ i) (h1 : i < p.m) (k0 : 0 ≤ k) (k1 : k ≤ most p i l) : Pfx p (i + 1) (upd a i k) (l - k * (p.L i + p.kerf)) := by
  obtain ⟨g1, g2, g3⟩ := most_mul hp h0 h1 h.l0 k0 k1
  refine ⟨fun j j0 j1 => ?_, fun j hj => ?_, by rw [used_upd h0, h.left]; omega, by omega⟩
  · by_cases e : j = i
    · rw [e, upd_self]; exact ⟨k0, g1⟩
    · rw [upd_ne _ _ e]; exact h.rng j j0 (by omega)
  · rw [upd_ne _ _ (by omega)]; exact h.zero j (by omega)
structure MPat (p : Prob) (w : Int) (x : Int → Int) : Prop where
  rng : ∀ k, 0 ≤ k → k < p.m → 0 ≤ x k ∧ x k ≤ p.D k
  zero : ∀ k, k < 0 ∨ p.m ≤ k → x k = 0
  used : Used p x p.m.toNat ≤ p.stock + p.kerf
  maxi : Maxi p x (p.stock + p.kerf - Used p x p.m.toNat)
theorem exI_pat {p : Prob} (hp : p.Ok) {w : Int} : ∀ (j : Nat) {i l : Int} {a x : Int → Int}, (p.m - i).toNat = j → 0 ≤ i → i ≤ p.m → Pfx p i a l → x ∈ exI p w i a l → MPat p w x ∧ (∀ k, k < i → x k = a k) ∧ (i ≤ w → w < p.m → 1 ≤ x w)
  | 0, i, l, a, x, hj, h0, h1, h, hx => by
    have hi : i = p.m := by omega
    by_cases hm : Maxi p a l
    · rw [exI_yes hi hm, List.mem_singleton] at hx
      subst hx
      have hl := h.left; have hl0 := h.l0
      rw [hi] at hl
      refine ⟨⟨fun k k0 k1 => h.rng k k0 (by omega), fun k hk => h.zero k (by omega), by omega, ?_⟩, fun _ _ => rfl, fun _ _ => by omega⟩
      rw [← hl]; exact hm
    · rw [exI_no hi hm] at hx; cases hx
  | j + 1, i, l, a, x, hj, h0, h1, h, hx => by
    rw [exI_step h0 (by omega)] at hx
    obtain ⟨k, k0, k1, hk⟩ := mem_dn hx
    have hle : 0 ≤ least w i := by unfold least; split <;> omega
    have hs := h.step hp h0 (by omega) (k := k) (by omega) (by omega)
    obtain ⟨g1, g2, g3⟩ := exI_pat hp j (by omega) (by omega) (by omega) hs hk
    refine ⟨g1, fun q hq => by rw [g2 q (by omega), upd_ne _ _ (by omega)], fun hw hw2 => ?_⟩
    by_cases e : w = i
    · have := g2 w (by omega)
      rw [e, upd_self] at this
      rw [e, this]
      unfold least at k0; rw [if_pos e] at k0; exact k0
    · exact g3 (by omega) hw2
theorem MX_pat {p : Prob} (hp : p.Ok) {w : Int} {x : Int → Int} (h : x ∈ MX p w) : MPat p w x ∧ (0 ≤ w → w < p.m → 1 ≤ x w) := by
  have := hp.m1
  obtain ⟨h1, _, h3⟩ := exI_pat hp _ rfl (Int.le_refl 0) (by omega) (Pfx.start hp) h
  exact ⟨h1, h3⟩
def Lat (p : Prob) : Nat → Int
  | 0 => 0
  | j + 1 => Lat p j + p.D (p.m - ((j : Int) + 1)) * (p.L (p.m - ((j : Int) + 1)) + p.kerf)
def LatI (p : Prob) (i : Int) : Int := Lat p (p.m - i).toNat
theorem LatI_end {p : Prob} {i : Int} (h : p.m ≤ i) : LatI p i = 0 := by unfold LatI; rw [show (p.m - i).toNat = 0 by omega]; rfl
theorem LatI_step {p : Prob} {i : Int} (h0 : 0 ≤ i) (h1 : i < p.m) : LatI p i = LatI p (i + 1) + p.D i * (p.L i + p.kerf) := by
  unfold LatI
  obtain ⟨j, hj⟩ : ∃ j : Nat, (p.m - i).toNat = j + 1 := ⟨(p.m - i).toNat - 1, by omega⟩
  rw [hj, show (p.m - (i + 1)).toNat = j by omega]
  simp only [Lat]
  rw [show p.m - ((j : Int) + 1) = i by omega]
theorem LatI_rng {p : Prob} (hp : p.Ok) : ∀ (j : Nat) {i : Int}, (p.m - i).toNat = j → 0 ≤ i → i ≤ p.m → 0 ≤ LatI p i ∧ LatI p i ≤ (p.m - i) * 2100000
  | 0, i, hj, h0, h1 => by rw [LatI_end (by omega), show p.m - i = 0 by omega]; omega
  | j + 1, i, hj, h0, h1 => by
    have ih := LatI_rng hp j (i := i + 1) (by omega) (by omega) (by omega)
    rw [LatI_step h0 (by omega)]
    have he := hp.all i h0 (by omega)
    unfold Prob.each at he
    have := hp.k1; have := hp.k2; have := hp.s2
    have a1 := Int.mul_nonneg he.2.2.2.1 (show 0 ≤ p.L i + p.kerf by omega)
    have a2 : p.D i * (p.L i + p.kerf) ≤ 1000 * 2100 := Int.mul_le_mul he.2.2.2.2 (by omega) (by omega) (by omega)
    have e : (p.m - i) * 2100000 = (p.m - (i + 1)) * 2100000 + 2100000 := by omega
    omega
theorem LatI_nn {p : Prob} (hp : p.Ok) {i : Int} (h0 : 0 ≤ i) : 0 ≤ LatI p i ∧ LatI p i ≤ 42000000 := by
  by_cases h : i ≤ p.m
  · have := LatI_rng hp _ rfl h0 h; have := hp.m2; omega
  · rw [LatI_end (by omega)]; omega
structure NeedP (p : Prob) (a : Int → Int) (i need : Int) : Prop where
  top : need ≤ p.stock + p.kerf + 1
  all : ∀ k, 0 ≤ k → k < i → a k < p.D k → need ≤ p.L k + p.kerf
  ex : need = p.stock + p.kerf + 1 ∨ ∃ k, 0 ≤ k ∧ k < i ∧ a k < p.D k ∧ p.L k + p.kerf = need
theorem NeedP.start (p : Prob) : NeedP p (fun _ => 0) 0 (p.stock + p.kerf + 1) := ⟨Int.le_refl _, fun k h0 h1 => by omega, .inl rfl⟩
theorem NeedP.yes {p : Prob} {a : Int → Int} {i need k : Int} (h : NeedP p a i need) (h0 : 0 ≤ i) (hk : k < p.D i) : NeedP p (upd a i k) (i + 1) (min need (p.L i + p.kerf)) := by
  refine ⟨by have := h.top; omega, fun j j0 j1 hj => ?_, ?_⟩
  · by_cases e : j = i
    · rw [e]; omega
    · rw [upd_ne _ _ e] at hj
      have := h.all j j0 (by omega) hj; omega
  · by_cases hm : need ≤ p.L i + p.kerf
    · rw [Int.min_eq_left hm]
      rcases h.ex with h2 | ⟨j, j0, j1, j2, j3⟩
      · exact .inl h2
      · exact .inr ⟨j, j0, by omega, by rw [upd_ne _ _ (by omega)]; exact j2, j3⟩
    · rw [Int.min_eq_right (by omega)]
      exact .inr ⟨i, h0, by omega, by rw [upd_self]; exact hk, rfl⟩
theorem NeedP.no {p : Prob} {a : Int → Int} {i need k : Int} (h : NeedP p a i need) (h0 : 0 ≤ i) (hk : ¬ k < p.D i) : NeedP p (upd a i k) (i + 1) need := by
  refine ⟨h.top, fun j j0 j1 hj => ?_, ?_⟩
  · by_cases e : j = i
    · rw [e, upd_self] at hj; exact absurd hj hk
    · rw [upd_ne _ _ e] at hj
      exact h.all j j0 (by omega) hj
  · rcases h.ex with h2 | ⟨j, j0, j1, j2, j3⟩
    · exact .inl h2
    · exact .inr ⟨j, j0, by omega, by rw [upd_ne _ _ (by omega)]; exact j2, j3⟩
theorem exI_nil {p : Prob} (hp : p.Ok) {w : Int} : ∀ (j : Nat) {i l : Int} {a : Int → Int}, (p.m - i).toNat = j → 0 ≤ i → i ≤ p.m → 0 ≤ l → (∃ k, 0 ≤ k ∧ k < i ∧ a k < p.D k ∧ p.L k + p.kerf ≤ l - LatI p i) → exI p w i a l = []
  | 0, i, l, a, hj, h0, h1, hl, ⟨k, k0, k1, k2, k3⟩ => by
    refine exI_no (by omega) fun hm => ?_
    rw [LatI_end (by omega)] at k3
    have := hm.2 k k0 (by omega) k2
    omega
  | j + 1, i, l, a, hj, h0, h1, hl, ⟨k, k0, k1, k2, k3⟩ => by
    rw [exI_step h0 (by omega)]
    have hle : 0 ≤ least w i := by unfold least; split <;> omega
    refine dn_nil fun c c0 c1 => ?_
    obtain ⟨g1, g2, g3⟩ := most_mul hp h0 (by omega) hl (k := c) (by omega) (by omega)
    refine exI_nil hp j (by omega) (by omega) (by omega) (by omega) ⟨k, k0, by omega, by rw [upd_ne _ _ (by omega)]; exact k2, ?_⟩
    rw [LatI_step h0 (by omega)] at k3
    have he := hp.all i h0 (by omega)
    unfold Prob.each at he
    have := hp.k1
    have : c * (p.L i + p.kerf) ≤ p.D i * (p.L i + p.kerf) := Int.mul_le_mul_of_nonneg_right g1 (by omega)
    omega
theorem prune {p : Prob} (hp : p.Ok) {w i l need : Int} {a : Int → Int} (h0 : 0 ≤ i) (h1 : i ≤ p.m) (h : Pfx p i a l) (hn : NeedP p a i need) (hg : need ≤ l - LatI p i) : exI p w i a l = [] := by
  refine exI_nil hp _ rfl h0 h1 h.l0 ?_
  have hL := (LatI_nn hp h0).1
  have hu : 0 ≤ Used p a i.toNat := sumTo_nonneg fun j j0 j1 => by
    have := h.rng j j0 (by omega)
    have he := hp.all j j0 (by omega)
    unfold Prob.each at he
    have := hp.k1
    exact Int.mul_nonneg (by omega) (by omega)
  have hl := h.left
  rcases hn.ex with h2 | ⟨k, k0, k1, k2, k3⟩
  · omega
  · exact ⟨k, k0, k1, k2, by omega⟩
theorem leaf_yes {p : Prob} {w i l need : Int} {a : Int → Int} (hi : i = p.m) (hn : NeedP p a i need) (hl : l < need) (hz : ∃ k, 0 ≤ k ∧ k < p.m ∧ 0 < a k) : exI p w i a l = [a] :=
  exI_yes hi ⟨hz, fun k k0 k1 hk => by have := hn.all k k0 (by omega) hk; omega⟩
theorem leaf_no {p : Prob} {w i l : Int} {a : Int → Int} (hi : i = p.m) (hz : ¬ ∃ k, 0 ≤ k ∧ k < p.m ∧ 0 < a k) : exI p w i a l = [] :=
  exI_no hi fun h => hz h.1
def pat0 (l : List (Int → Int)) (k : Int) : Int → Int := l.getD k.toNat (fun _ => 0)
def Ls (m u : Int) (f : Int → Int → Int) (l : List (Int → Int)) : Prop := u = l.length ∧ ∀ k, 0 ≤ k → k < u → ∀ j, 0 ≤ j → j < m → f k j = pat0 l k j
theorem Ls.nil {m : Int} {f : Int → Int → Int} : Ls m 0 f [] := ⟨rfl, fun k h0 h1 => by omega⟩
theorem pat0_lt {l m : List (Int → Int)} {k : Int} (h0 : 0 ≤ k) (h1 : k < l.length) : pat0 (l ++ m) k = pat0 l k := by
  unfold pat0; rw [List.getD_eq_getElem?_getD, List.getD_eq_getElem?_getD, List.getElem?_append_left (by omega)]
theorem pat0_at {l : List (Int → Int)} {x : Int → Int} {k : Int} (h : k = l.length) : pat0 (l ++ [x]) k = x := by
  unfold pat0; rw [List.getD_eq_getElem?_getD, h, Int.toNat_natCast, List.getElem?_append_right (Nat.le_refl _)]; simp
theorem pat0_mem {l : List (Int → Int)} {k : Int} (h0 : 0 ≤ k) (h1 : k < l.length) : pat0 l k ∈ l := by
  unfold pat0
  have : k.toNat < l.length := by omega
  rw [List.getD_eq_getElem?_getD, List.getElem?_eq_getElem this]; exact List.getElem_mem this
theorem Ls.snoc {m u : Int} {f : Int → Int → Int} {l : List (Int → Int)} {x g : Int → Int} (h : Ls m u f l) (hg : ∀ j, 0 ≤ j → j < m → g j = x j) : Ls m (u + 1) (gsn f u g) (l ++ [x]) := by
  obtain ⟨h1, h2⟩ := h
  refine ⟨by simp [h1], fun k k0 k1 j j0 j1 => ?_⟩
  by_cases e : k < u
  · rw [gsn_lt e, h2 k k0 e j j0 j1, pat0_lt k0 (by omega)]
  · rw [gsn_at e, pat0_at (by omega)]; exact hg j j0 j1
end Go.Proofs.Gw
namespace Go.Proofs.YtkichmnjjblodaaGreat
open Go Go.RowKit Go.Proofs.Gw
theorem cl_109 : calledT Tryz.prog 109 = true := by kernel_rfl
theorem used_bump {p : Prob} {f : Int → Int} {i : Int} (h0 : 0 ≤ i) : ∀ {n : Nat}, i < (n : Int) → Used p (upd f i (f i + 1)) n = Used p f n + (p.L i + p.kerf)
  | 0, h => by omega
  | n + 1, h => by
    show sumTo _ (n + 1) = sumTo _ (n + 1) + _
    simp only [sumTo]
    by_cases e : i = n
    · subst e
      have : sumTo (fun j => upd f (n : Int) (f n + 1) j * (p.L j + p.kerf)) n = sumTo (fun j => f j * (p.L j + p.kerf)) n := sumTo_congr fun j j0 j1 => by rw [upd_ne _ _ (by omega)]
      rw [this, upd_self, Int.add_mul, Int.one_mul]; omega
    · have ih := used_bump (p := p) (f := f) h0 (n := n) (by omega)
      unfold Used at ih
      rw [ih, upd_ne _ _ (fun h => e h.symm)]; omega
theorem proper_bump {p : Prob} (hp : p.Ok) {f : Int → Int} (hr : ∀ k, 0 ≤ k → k < p.m → 0 ≤ f k ∧ f k ≤ p.D k) {i : Int} (h0 : 0 ≤ i) (h1 : i < p.m) : ProperP p p.m (upd f i (f i + 1)) ↔ f i < p.D i ∧ p.L i + p.kerf ≤ p.stock + p.kerf - Used p f p.m.toNat := by
  have hu : Used p (upd f i (f i + 1)) p.m.toNat = Used p f p.m.toNat + (p.L i + p.kerf) := used_bump h0 (by omega)
  have hri := hr i h0 h1
  constructor
  · rintro ⟨hf, h2⟩
    have h3 := h2 i h0 h1
    rw [upd_self] at h3
    have h4 := hf.used
    exact ⟨by omega, by omega⟩
  · rintro ⟨h2, h3⟩
    have hk : ∀ k, 0 ≤ k → k < p.m → 0 ≤ upd f i (f i + 1) k ∧ upd f i (f i + 1) k ≤ p.D k := fun k k0 k1 => by
      by_cases e : k = i
      · rw [e, upd_self]; omega
      · rw [upd_ne _ _ e]; exact hr k k0 k1
    exact ⟨⟨hp, rfl, fun k k0 k1 => (by have := hk k k0 k1; have he := hp.all k k0 k1; unfold Prob.each at he; omega), by rw [hu]; omega⟩, fun k k0 k1 => (hk k k0 k1).2⟩
theorem c_rmaxi {vL vD : Value} {p : Prob} {vA : Value} {n : Int} {f : Int → Int} (w0 : World) (h : PAt w0 vL vD p) (hp : p.Ok) (hA : Row w0 vA 1 n (ints f)) (hnm : n = p.m) (hr : ∀ k, 0 ≤ k → k < p.m → 0 ≤ f k ∧ f k ≤ p.D k) :
    Calls Tryz.prog 115 [.agg #[vL, vD, .int .i64 p.stock, .int .i64 p.kerf], vA].toArray w0 fun e w => ∃ v, e = .returned v ∧ v = B (Maxi p f (p.stock + p.kerf - Used p f p.m.toNat)) ∧ Sat w0 w [] := by
  subst hnm
  have hm := h.L.slh.n0; have hm1 := h.L.slh.n1; have hd := h.D.slh.n0; have hd1 := h.D.slh.n1; have hs := h.is; have hk := h.ik
  have hn := hA.slh.n0; have hn1 := hA.slh.n1
  have hpm := hp.m1; have hpm2 := hp.m2; have hpd := hp.d; have hs1 := hp.s1; have hs2 := hp.s2; have hk1 := hp.k1; have hk2 := hp.k2
  refine zenG Tryz.func115 Tryz.ntmps115 fun w hS => ?_
  refine zsr ?_
  refine zla (xbx (cs := [_, _, _, _]) hS) ?_; rintro _ w ⟨g1, rfl, hS⟩
  replace hS := hS.n1
  refine zlv xas ?_
  refine zlz ?_
  refine zlv xas ?_
  refine zlas 5 (u := B (∃ j, 0 ≤ j ∧ j < 0 ∧ 0 < f j)) (false_B fun ⟨j, j0, j1, _⟩ => by omega) ?_
  refine zlt <| zsq <| zsr ?_
  refine zlv xas ?_
  refine zlt <| zbk <| zlp (fun mm M w => ∃ (i : Int), mm = ((p.m - i).toNat) ∧ (0 ≤ i) ∧ (i ≤ p.m) ∧ (∀ k, 0 ≤ k → k < i → f k < p.D k → p.stock + p.kerf - Used p f p.m.toNat < p.L k + p.kerf) ∧ M = [(1, vA), (2, .pointer (some ⟨g1, 0, none⟩)), (5, B (∃ j, 0 ≤ j ∧ j < i ∧ 0 < f j)), (6, .int .i64 i)] ∧ Sat w0 w [.blk g1 [vL, vD, .int .i64 p.stock, .int .i64 p.kerf]]) ⟨0, rfl, (by omega), (by omega), ?_, rfl, hS⟩ ?_
  ·
   intro k k0 k1; omega
  clear hS w
  rintro mm M w ⟨i, rfl, h0, h1, hall, rfl, hS⟩
  refine zsq <| zsr ?_
  refine zs2 ?_
  refine zlv (xln sl_22 hA.slh) ?_
  refine zlv xlss ?_
  refine zlt ?_
  refine zcif ?_ ?_ <;> intro hc
  ·
   refine zsk <| ztn <| zsq <| zbk <| zsr ?_
   refine zs2 ?_
   refine zlb 15 ?_ ?_ <;> intro hc
   ·
    iterate 5 refine zlo ?_
    refine zlv xpt ?_
    refine zlas 21 (u := B (∃ j, 0 ≤ j ∧ j < (i + 1) ∧ 0 < f j)) (true_B (by first | (obtain ⟨j, j0, j1, j2⟩ := ‹∃ j, 0 ≤ j ∧ j < i ∧ 0 < f j›; exact ⟨j, j0, by omega, j2⟩) | exact ⟨i, by omega, by omega, by omega⟩)) ?_
    refine zlv xas ?_
    refine zlz ?_
    refine zla (xl0 (c := ints f) sl_22 hS) ?_; rintro v1 w ⟨hS, hv1⟩
    replace hS := hS.n2
    refine zlv xmv ?_
    refine zla (xap 1 (r := p.m) (f := ints f) sl_22 el_3 hS (hA.below hS.below) (by exact cat_self _ _)) ?_; rintro v2 w ⟨hS, hv2⟩
    replace hS := hS.n2
    have hri := hr i h0 (by omega); have hei := hp.all i h0 (by omega); unfold Prob.each at hei
    refine zlv xas ?_
    refine zlz ?_
    refine zs2 ?_
    refine zlv (xix (kk := i) sl_22 hv2) ?_
    refine zlv (xlr (u := .int .i64 (f i)) pl_3 (hS.rowN 1 rfl)) ?_
    refine zlv (xadd (r := f i + 1)) ?_
    refine zlv (xix (kk := i) sl_22 hv2) ?_
    refine zle (xso 1 pl_3 hS (upd_ints _ _ _)) ?_; clear hS; rintro w hS
    replace hS := hS.n2
    refine zlz ?_
    refine zlv (xls 0 st_24 hS) ?_
    refine zlv xmv ?_
    refine zlc (xc0 cl_109) (c_rproper28 (p := p) w (h.below hS.below) (hS.rowN 1 rfl)) ?_; rintro _ w ⟨rfl, hS'⟩
    replace hS := hS.cmp hS'; clear hS'
    refine zlt ?_
    refine zcif ?_ ?_ <;> intro hc
    ·
     refine zsr ?_
     refine zlv xas ?_
     refine zlt <| zrt <| zbr <| ztr <| ztr <| zbr <| ztr <| zf1 ⟨_, rfl, ?_⟩
     exact ⟨false_B fun hm => by have h9 := (proper_bump hp hr h0 (by omega)).1 ‹_›; have := hm.2 i h0 (by omega) h9.1; omega, hS.nl⟩
    refine zsk <| zbn <| ztn <| zrg ?_
    refine zlv xmv ?_
    refine zlv (xadd (r := i + 1)) ?_
    refine zlv xas ?_
    refine zln <| zlq ⟨i + 1, rfl, (by omega), (by omega), ?_, rfl, hS.pk [0]⟩
    ·
     intro k k0 k1 hk; rcases Int.lt_or_eq_of_le (show k ≤ i by omega) with hj | hj
     · exact hall k k0 hj hk
     · subst hj; have h9 := (not_congr (proper_bump hp hr h0 (by omega))).1 ‹_›; omega
   refine zs2 ?_
   refine zlv (xix (kk := i) sl_22 hA.slh) ?_
   refine zlv (xlr (u := .int .i64 (f i)) pl_3 (hA.below hS.below)) ?_
   refine zs2 ?_
   refine zlas 21 (u := B (∃ j, 0 ≤ j ∧ j < (i + 1) ∧ 0 < f j)) (B_congr ⟨fun hh => ⟨i, by omega, by omega, hh⟩, fun ⟨j, j0, j1, j2⟩ => by by_cases e : j = i; exact e ▸ j2; exact absurd ⟨j, j0, by omega, j2⟩ ‹¬ (∃ j, 0 ≤ j ∧ j < i ∧ 0 < f j)›⟩) ?_
   refine zlv xas ?_
   refine zlz ?_
   refine zla (xl0 (c := ints f) sl_22 hS) ?_; rintro v3 w ⟨hS, hv3⟩
   replace hS := hS.n2
   refine zlv xmv ?_
   refine zla (xap 1 (r := p.m) (f := ints f) sl_22 el_3 hS (hA.below hS.below) (by exact cat_self _ _)) ?_; rintro v4 w ⟨hS, hv4⟩
   replace hS := hS.n2
   have hri := hr i h0 (by omega); have hei := hp.all i h0 (by omega); unfold Prob.each at hei
   refine zlv xas ?_
   refine zlz ?_
   refine zs2 ?_
   refine zlv (xix (kk := i) sl_22 hv4) ?_
   refine zlv (xlr (u := .int .i64 (f i)) pl_3 (hS.rowN 1 rfl)) ?_
   refine zlv (xadd (r := f i + 1)) ?_
   refine zlv (xix (kk := i) sl_22 hv4) ?_
   refine zle (xso 1 pl_3 hS (upd_ints _ _ _)) ?_; clear hS; rintro w hS
   replace hS := hS.n2
   refine zlz ?_
   refine zlv (xls 0 st_24 hS) ?_
   refine zlv xmv ?_
   refine zlc (xc0 cl_109) (c_rproper28 (p := p) w (h.below hS.below) (hS.rowN 1 rfl)) ?_; rintro _ w ⟨rfl, hS'⟩
   replace hS := hS.cmp hS'; clear hS'
   refine zlt ?_
   refine zcif ?_ ?_ <;> intro hc
   ·
    refine zsr ?_
    refine zlv xas ?_
    refine zlt <| zrt <| zbr <| ztr <| ztr <| zbr <| ztr <| zf1 ⟨_, rfl, ?_⟩
    exact ⟨false_B fun hm => by have h9 := (proper_bump hp hr h0 (by omega)).1 ‹_›; have := hm.2 i h0 (by omega) h9.1; omega, hS.nl⟩
   refine zsk <| zbn <| ztn <| zrg ?_
   refine zlv xmv ?_
   refine zlv (xadd (r := i + 1)) ?_
   refine zlv xas ?_
   refine zln <| zlq ⟨i + 1, rfl, (by omega), (by omega), ?_, rfl, hS.pk [0]⟩
   ·
    intro k k0 k1 hk; rcases Int.lt_or_eq_of_le (show k ≤ i by omega) with hj | hj
    · exact hall k k0 hj hk
    · subst hj; have h9 := (not_congr (proper_bump hp hr h0 (by omega))).1 ‹_›; omega
  refine zxt <| ztx <| ztx <| zbh <| ztn <| zsr ?_
  refine zs2 ?_
  refine zlt <| zrt <| zf1 ⟨_, rfl, ?_⟩
  obtain rfl : i = p.m := by omega
  exact ⟨B_congr ⟨fun hh => ⟨hh, fun k k0 k1 hk => hall k k0 k1 hk⟩, fun hm => hm.1⟩, hS.nl⟩
end Go.Proofs.YtkichmnjjblodaaGreat
namespace Go.Proofs.YtkichmnjjblodaaGreat
open Go Go.RowKit Go.Proofs.Gw
theorem cl_115 : calledT Tryz.prog 115 = true := by kernel_rfl
theorem cl_78 : calledT Tryz.prog 78 = true := by kernel_rfl
theorem el_22 : elemT Tryz.prog 22 = some (.slice none 0 0, 1, 24) := by kernel_rfl
theorem sl_83 : sliceT Tryz.prog 83 = some (22, 1) := by kernel_rfl
theorem pfx_used {p : Prob} (hp : p.Ok) {i l q : Int} {a : Int → Int} (h : Pfx p i a l) (q0 : 0 ≤ q) (q1 : q ≤ i) (i1 : i ≤ p.m) : 0 ≤ Used p a q.toNat ∧ Used p a q.toNat ≤ 42000000 := by
  have h1 := sumTo_bound (f := fun i => a i * (p.L i + p.kerf)) (A := 2100000) (n := q.toNat) (fun j j0 j1 => by
    have hr := h.rng j j0 (by omega)
    have he := hp.all j j0 (by omega)
    unfold Prob.each at he
    have := hp.k1; have := hp.k2; have := hp.s2
    exact ⟨Int.mul_nonneg hr.1 (by omega), Int.le_trans (Int.mul_le_mul (show a j ≤ 1000 by omega) (show p.L j + p.kerf ≤ 2100 by omega) (by omega) (by omega)) (by omega)⟩)
  have := hp.m2
  unfold Used
  refine ⟨h1.1, Int.le_trans h1.2 ?_⟩
  have : ((q.toNat : Nat) : Int) * 2100000 = q * 2100000 := by rw [Int.toNat_of_nonneg q0]
  omega
theorem pfx_mul {p : Prob} (hp : p.Ok) {i l q : Int} {a : Int → Int} (h : Pfx p i a l) (q0 : 0 ≤ q) (q1 : q < i) (i1 : i ≤ p.m) : 0 ≤ a q * (p.L q + p.kerf) ∧ a q * (p.L q + p.kerf) ≤ 2100000 := by
  have hr := h.rng q q0 q1
  have he := hp.all q q0 (by omega)
  unfold Prob.each at he
  have := hp.k1; have := hp.k2; have := hp.s2
  exact ⟨Int.mul_nonneg hr.1 (by omega), Int.le_trans (Int.mul_le_mul (show a q ≤ 1000 by omega) (show p.L q + p.kerf ≤ 2100 by omega) (by omega) (by omega)) (by omega)⟩
theorem pfx_le {p : Prob} (hp : p.Ok) {i l : Int} {a : Int → Int} (h : Pfx p i a l) (h0 : 0 ≤ i) (i1 : i ≤ p.m) : l ≤ p.stock + p.kerf := by
  have := pfx_used hp h h0 (Int.le_refl _) i1; have := h.left; omega
theorem take_app {α : Type} {n : Nat} {x y : List α} : (x.take n ++ y).take n = (x ++ y).take n := by
  rw [List.take_append, List.take_append, List.take_take, Nat.min_self]
  by_cases h : x.length ≤ n
  · rw [List.take_of_length_le h]
  · rw [show n - x.length = 0 by omega, show n - (x.take n).length = 0 by rw [List.length_take]; omega]
theorem take_all {α : Type} {n : Nat} {x : List α} {y : List α} (h : x.length = n) : (x ++ y).take n = x := by subst h; simp
theorem take_few {α : Type} {n : Nat} {x : List α} (h : x.length ≤ n) : x.take n = x := List.take_of_length_le h
theorem Pfx.used {p : Prob} {a : Int → Int} {l : Int} (h : Pfx p p.m a l) : p.stock + p.kerf - Used p a p.m.toNat = l := h.left.symm
theorem dn_skip {α : Type} {F : Int → List α} {lo k : Int} (hk : k = 0) (hl : lo = 1) : dn F lo (k + 1 - lo).toNat = dn F lo (k - 1 + 1 - lo).toNat := by
  subst hk; subst hl; rfl
theorem snoc_upd (a : Int → Int) (i x : Int) : ∀ j, 0 ≤ j → j < (i + 1) * ((1 : Nat) : Int) → ints (snoc a i x) j = ints (upd a i x) j := fun j j0 j1 => by
  unfold ints; congr 1
  by_cases e : j < i
  · rw [snoc_lt e, upd_ne _ _ (by omega)]
  · rw [snoc_at e, show j = i by omega, upd_self]
theorem hwa_next {a : Int → Int} {i wi k : Int} (h : 0 ≤ wi → wi < i → 1 ≤ a wi) (hk : wi ≠ i ∨ 0 < k) : 0 ≤ wi → wi < i + 1 → 1 ≤ upd a i k wi := fun w0 w1 => by
  by_cases e : wi = i
  · rw [e, upd_self]; omega
  · rw [upd_ne _ _ e]; exact h w0 (by omega)
theorem c_rext {vL vD : Value} {p : Prob} (hp : p.Ok) {wi : Int} (hw : wi < p.m) (N : Nat) : ∀ {F : Go.Proofs.Gw.Frame} {va vo : Value} {a : Int → Int} {i l u : Int} {vv : Int → Value} {f : Int → Int → Int} {out : List (Int → Int)} (w0 w : World) (hS : Sat w0 w [.own vo 1 22 u vv, .sem (Frame.rows 3 u vv (fun _ => p.m) f), .own va 1 3 i (ints a), .sem F]) (h : PAt w0 vL vD p) (hvo : Slh vo u) (hva : Slh va i) (h0 : 0 ≤ i) (h1 : i ≤ p.m) (hx : Pfx p i a l) (hls : Ls p.m u f out) (hu : u ≤ 301) (hwa : 0 ≤ wi → wi < i → 1 ≤ a wi) (hN : (p.m - i).toNat < N),
    Calls Tryz.prog 78 [.agg #[vL, vD, .int .i64 p.stock, .int .i64 p.kerf], va, .int .i64 wi, vo].toArray w fun e w => ∃ v, e = .returned v ∧ ∃ vo2 u2 vv2 f2, v = vo2 ∧ Slh vo2 u2 ∧ u2 ≤ 301 ∧ Ls p.m u2 f2 ((out ++ exI p wi i a l).take 301) ∧ Sat w0 w [.own vo2 1 22 u2 vv2, .sem (Frame.rows 3 u2 vv2 (fun _ => p.m) f2), .sem F] := by
  induction N with
  | zero => intros; omega
  | succ N ih =>
    intro F va vo a i l u vv f out w0 w hS h hvo hva h0 h1 hx hls hu hwa hN
    have hm := h.L.slh.n0; have hm1 := h.L.slh.n1; have hd := h.D.slh.n0; have hd1 := h.D.slh.n1; have hs := h.is; have hk := h.ik
    have hpm := hp.m1; have hpm2 := hp.m2; have hpd := hp.d; have hs1 := hp.s1; have hs2 := hp.s2; have hk1 := hp.k1; have hk2 := hp.k2
    have hrs := fun k (k0 : 0 ≤ k) (k1 : k < u) => hS.slhIn 1 rfl k0 k1
    have hu0 := hvo.n0
    have hlx := pfx_le hp hx h0 h1; have hl0 := hx.l0
    refine zenF Tryz.func78 Tryz.ntmps78 ?_
    refine zsr ?_
    refine zla (xbx (cs := [_, _, _, _]) hS) ?_; rintro _ w ⟨g1, rfl, hS⟩
    replace hS := hS.n5
    refine zlv xas ?_
    refine zlz ?_
    refine zlv xmv ?_
    refine zlv (xln sl_22 hva) ?_
    refine zlv xas ?_
    refine zlt <| zsq <| zsr ?_
    refine zlv xmv ?_
    refine zlv (xln sl_83 hvo) ?_
    refine zlv xgtr ?_
    refine zlt ?_
    refine zcif ?_ ?_ <;> intro hc
    ·
     refine zsr ?_
     refine zs2 ?_
     refine zlt <| zrt <| ztr <| zf1 ⟨_, rfl, ?_⟩
     first
     | exact ⟨_, _, _, _, rfl, hvo, by omega, by rw [take_all (by have := hls.1; omega)]; exact hls, hS.pk [0, 1, 3]⟩
     | (obtain rfl : i = p.m := by omega
        exact ⟨_, _, _, _, rfl, hvo, by omega, by rw [exI_no rfl (by rw [← Pfx.used hx]; assumption), List.append_nil, take_few (by have := hls.1; omega)]; exact hls, hS.pk [0, 1, 3]⟩)
    refine zsk <| ztn <| zsq <| zsr ?_
    refine zlv xmv ?_
    refine zlv (xfb 0 fd_24_0) ?_
    refine zlv (xlb 4 pl_22 hS) ?_
    refine zlv (xln sl_22 h.L.slh) ?_
    refine zlv xeql ?_
    refine zlt ?_
    refine zcif ?_ ?_ <;> intro hc
    ·
     refine zsq <| zsr ?_
     refine zlv (xls 4 st_24 hS) ?_
     refine zlv xmv ?_
     refine zlc (xc0 cl_115) (c_rmaxi (p := p) w (h.below hS.below) hp (hS.rowN 2 rfl) (by omega) (fun k k0 k1 => hx.rng k k0 (by omega))) ?_; rintro _ w ⟨rfl, hS'⟩
     replace hS := hS.cmp hS'; clear hS'
     refine zlv xmv ?_
     refine zlb 28 ?_ ?_ <;> intro hc
     ·
      refine zs3 ?_
      refine zlb 31 ?_ ?_ <;> intro hc
      ·
       iterate 5 refine zlo ?_
       refine zs2 ?_
       refine zlt <| zct <| zrg ?_
       refine zlv xmv ?_
       refine zla (xl0 (c := ints a) sl_22 hS) ?_; rintro v1 w ⟨hS, hv1⟩
       replace hS := hS.n6
       refine zlv xmv ?_
       refine zla (xap 5 (r := i) (f := ints a) sl_22 el_3 hS (hS.rowN 2 rfl) (by exact cat_self _ _)) ?_; rintro v2 w ⟨hS, hv2⟩
       replace hS := hS.n6
       refine zla (xli (n := 1) (len := 1) (pv := [(0, v2)]) (cs := [v2]) (c := (fun _ => v2)) sl_83 el_22 hS (hf := by obtain ⟨_, _, _, _, rfl, _⟩ := hv2; kernel_rfl)) ?_; rintro v3 w ⟨hS, hv3⟩
       replace hS := hS.n7
       refine zla (xap 0 (r := u + 1) sl_83 el_22 hS (hS.rowN 6 rfl) (cat_gsn _ _ _) (h1 := fun _ _ _ => hv2.one)) ?_; rintro v4 w ⟨hS, hv4⟩
       replace hS := hS.n7
       replace hS := Sat.merge (l1 := [_]) (l2 := [_, _, _]) (l3 := [_]) hS (by omega)
       have hrs1 := fun k (k0 : 0 ≤ k) (k1 : k < u + 1) => hS.slhIn 1 rfl k0 k1
       replace hS := hS.n6
       refine zlv xas ?_
       refine zlz ?_
       refine zs2 ?_
       refine zlt <| zrt <| ztr <| zf1 ⟨_, rfl, ?_⟩
       replace hS := hS.rerows (vv' := (gsn vv u v2)) (ln' := fun _ => p.m) (f' := (gsn f u a)) 1 rfl (fun k k0 k1 => ⟨rfl, by unfold gsn; split <;> (try dsimp only) <;> omega, fun _ _ _ => rfl⟩)
       replace hS := hS.n6
       obtain rfl : i = p.m := by omega
       exact ⟨_, _, _, _, rfl, hv4, by omega, by rw [exI_yes rfl (by rw [← Pfx.used hx]; assumption), take_few (by have := hls.1; rw [List.length_append, List.length_singleton]; omega)]; exact hls.snoc fun _ _ _ => rfl, hS.pk [0, 1, 3]⟩
      refine zs2 ?_
      refine zlv (xix (kk := wi) sl_22 hva) ?_
      refine zlv (xlr (u := .int .i64 (a wi)) pl_3 (hS.rowN 2 rfl)) ?_
      have hwi := hwa (by omega) (by omega)
      refine zlv (xkt xgtr) ?_
      refine zs2 ?_
      refine zlt <| zct <| zrg ?_
      refine zlv xmv ?_
      refine zla (xl0 (c := ints a) sl_22 hS) ?_; rintro v1 w ⟨hS, hv1⟩
      replace hS := hS.n6
      refine zlv xmv ?_
      refine zla (xap 5 (r := i) (f := ints a) sl_22 el_3 hS (hS.rowN 2 rfl) (by exact cat_self _ _)) ?_; rintro v2 w ⟨hS, hv2⟩
      replace hS := hS.n6
      refine zla (xli (n := 1) (len := 1) (pv := [(0, v2)]) (cs := [v2]) (c := (fun _ => v2)) sl_83 el_22 hS (hf := by obtain ⟨_, _, _, _, rfl, _⟩ := hv2; kernel_rfl)) ?_; rintro v3 w ⟨hS, hv3⟩
      replace hS := hS.n7
      refine zla (xap 0 (r := u + 1) sl_83 el_22 hS (hS.rowN 6 rfl) (cat_gsn _ _ _) (h1 := fun _ _ _ => hv2.one)) ?_; rintro v4 w ⟨hS, hv4⟩
      replace hS := hS.n7
      replace hS := Sat.merge (l1 := [_]) (l2 := [_, _, _]) (l3 := [_]) hS (by omega)
      have hrs1 := fun k (k0 : 0 ≤ k) (k1 : k < u + 1) => hS.slhIn 1 rfl k0 k1
      replace hS := hS.n6
      refine zlv xas ?_
      refine zlz ?_
      refine zs2 ?_
      refine zlt <| zrt <| ztr <| zf1 ⟨_, rfl, ?_⟩
      replace hS := hS.rerows (vv' := (gsn vv u v2)) (ln' := fun _ => p.m) (f' := (gsn f u a)) 1 rfl (fun k k0 k1 => ⟨rfl, by unfold gsn; split <;> (try dsimp only) <;> omega, fun _ _ _ => rfl⟩)
      replace hS := hS.n6
      obtain rfl : i = p.m := by omega
      exact ⟨_, _, _, _, rfl, hv4, by omega, by rw [exI_yes rfl (by rw [← Pfx.used hx]; assumption), take_few (by have := hls.1; rw [List.length_append, List.length_singleton]; omega)]; exact hls.snoc fun _ _ _ => rfl, hS.pk [0, 1, 3]⟩
     iterate 9 refine zlo ?_
     refine zlv xpf ?_
     refine zlt <| zcf <| zsk <| ztn <| zsr ?_
     refine zs2 ?_
     refine zlt <| zrt <| ztr <| zf1 ⟨_, rfl, ?_⟩
     first
     | exact ⟨_, _, _, _, rfl, hvo, by omega, by rw [take_all (by have := hls.1; omega)]; exact hls, hS.pk [0, 1, 3]⟩
     | (obtain rfl : i = p.m := by omega
        exact ⟨_, _, _, _, rfl, hvo, by omega, by rw [exI_no rfl (by rw [← Pfx.used hx]; assumption), List.append_nil, take_few (by have := hls.1; omega)]; exact hls, hS.pk [0, 1, 3]⟩)
    refine zsk <| ztn <| zsr ?_
    refine zlv (xfb 2 fd_24_2) ?_
    refine zlv (xlb 4 pl_3 hS) ?_
    refine zlv (xfb 3 fd_24_3) ?_
    refine zlv (xlb 4 pl_3 hS) ?_
    refine zlv (xadd (r := p.stock + p.kerf)) ?_
    refine zlv xas ?_
    refine zlt <| zsq <| zsr ?_
    refine zlv xas ?_
    refine zlt <| zbk <| zlp (fun mm M w => ∃ (s : Int) (q : Int), mm = ((i - q).toNat) ∧ (0 ≤ q) ∧ (q ≤ i) ∧ (s = p.stock + p.kerf - Used p a q.toNat) ∧ M = [(1, va), (2, .int .i64 wi), (3, vo), (4, .pointer (some ⟨g1, 0, none⟩)), (8, .slice none 0 0), (9, .int .i64 i), (10, .int .i64 s), (11, .int .i64 q)] ∧ Sat w0 w [.own vo 1 22 u vv, .sem (Frame.rows 3 u vv (fun _ => p.m) f), .own va 1 3 i (ints a), .sem F, .blk g1 [vL, vD, .int .i64 p.stock, .int .i64 p.kerf]]) ⟨p.stock + p.kerf, 0, rfl, (by omega), (by omega), ?_, rfl, hS⟩ ?_
    ·
     show _ = _ - sumTo _ 0; simp [sumTo]
    clear hS w
    rintro mm M w ⟨s, q, rfl, q0, q1, hs9, rfl, hS⟩
    refine zsq <| zsr ?_
    refine zs3 ?_
    refine zlt ?_
    refine zcif ?_ ?_ <;> intro hc
    ·
     refine zsk <| ztn <| zsq <| zbk ?_
     refine zdst [0, 1, 2, 3, 4] [0, 1, 2, 3, 4] 1000 mx_ hS ?_; clear hS; intro w hS
     refine zdv 0 (fun _ => xmv) ?_
     refine zdv 1 (fun _ => xmv) ?_
     refine zdv 2 (fun _ => xmv) ?_
     refine zdv 3 (fun _ => (xix (kk := q) sl_22 hva)) ?_
     refine zdla 4 (fun w hS => (xlr (u := .int .i64 (a q)) pl_3 (hS.rowN 2 rfl))) ?_
     have hmq := pfx_mul hp hx q0 (by omega : q < i) h1; have huq := pfx_used hp hx q0 (by omega) h1; have heq := hp.all q q0 (by omega); unfold Prob.each at heq; have hrq := hx.rng q q0 (by omega)
     refine zdv 5 (fun _ => (xfb 0 fd_24_0)) ?_
     refine zdla 6 (fun w hS => (xlb 4 pl_22 hS)) ?_
     refine zdv 7 (fun _ => xmv) ?_
     refine zdv 8 (fun _ => (xix (kk := q) sl_22 h.L.slh)) ?_
     refine zdla 9 (fun w hS => (xlr (u := .int .i64 (p.L q)) pl_3 (h.L.below hS.below))) ?_
     have hbv := h.iL q
     refine zdv 10 (fun _ => (xfb 3 fd_24_3)) ?_
     refine zdla 11 (fun w hS => (xlb 4 pl_3 hS)) ?_
     refine zdv 12 (fun _ => (xadd (r := p.L q + p.kerf))) ?_
     refine zdv 13 (fun _ => (xmul (r := ((a q) * (p.L q + p.kerf))) (e := rfl) (hr := (by unfold I64; omega)))) ?_
     refine zdv 14 (fun _ => (xsub (r := s - ((a q) * (p.L q + p.kerf))))) ?_
     refine zdv 15 (fun _ => xas) ?_
     refine zdd <| zbn <| ztn <| zrg ?_
     refine zlv xmv ?_
     refine zlv (xadd (r := q + 1)) ?_
     refine zlv xas ?_
     refine zln <| zlq ⟨s - ((a q) * (p.L q + p.kerf)), q + 1, rfl, (by omega), (by omega), ?_, rfl, hS⟩
     ·
      have h9 : Used p a (q + 1).toNat = Used p a q.toNat + a q * (p.L q + p.kerf) := sumTo_next _ q0
      rw [h9]; omega
    refine zxt <| ztx <| ztx <| zbh <| ztn <| zsq ?_
    refine zdst [0, 1, 2, 3, 4] [0, 1, 2, 3, 4] 1000 mx_ hS ?_; clear hS; intro w hS
    refine zdv 0 (fun _ => (xfb 1 fd_24_1)) ?_
    refine zdla 1 (fun w hS => (xlb 4 pl_22 hS)) ?_
    refine zdv 2 (fun _ => xmv) ?_
    refine zdv 3 (fun _ => (xix (kk := i) sl_22 h.D.slh)) ?_
    refine zdla 4 (fun w hS => (xlr (u := .int .i64 (p.D i)) pl_3 (h.D.below hS.below))) ?_
    have hbv := h.iD i
    have hsl : s = l := by rw [hs9, show q = i by omega]; exact hx.left.symm
    have hei := hp.all i h0 (by omega); unfold Prob.each at hei
    have hqd := quo_facts (a := s) (b := p.L i + p.kerf) (by omega) (by omega)
    have hml : min (p.D i) (Int.tdiv s (p.L i + p.kerf)) = most p i l := by rw [hsl]; rfl
    refine zdv 5 (fun _ => xmv) ?_
    refine zdv 6 (fun _ => (xfb 0 fd_24_0)) ?_
    refine zdla 7 (fun w hS => (xlb 4 pl_22 hS)) ?_
    refine zdv 8 (fun _ => xmv) ?_
    refine zdv 9 (fun _ => (xix (kk := i) sl_22 h.L.slh)) ?_
    refine zdla 10 (fun w hS => (xlr (u := .int .i64 (p.L i)) pl_3 (h.L.below hS.below))) ?_
    have hbv := h.iL i
    refine zdv 11 (fun _ => (xfb 3 fd_24_3)) ?_
    refine zdla 12 (fun w hS => (xlb 4 pl_3 hS)) ?_
    refine zdv 13 (fun _ => (xadd (r := p.L i + p.kerf))) ?_
    refine zdv 14 (fun _ => (xquo (r := (Int.tdiv s (p.L i + p.kerf))))) ?_
    refine zdv 15 (fun _ => (xmin (r := (min (p.D i) (Int.tdiv s (p.L i + p.kerf)))))) ?_
    refine zdv 16 (fun _ => xas) ?_
    refine zdd <| ztn <| zsq <| zsr ?_
    refine zs2 ?_
    refine zlt <| zbk <| zlp (fun mm M w => ∃ (o2 : List (Int → Int)) (u2 : Int) (vv2 : Int → Value) (f2 : Int → Int → Int) (w2 : Value) (k : Int), mm = ((k + 1).toNat) ∧ (-1 ≤ k) ∧ (k ≤ most p i l) ∧ ((o2 ++ dn (kid p wi i a l) (least wi i) (k + 1 - least wi i).toNat).take 301 = (out ++ exI p wi i a l).take 301) ∧ (Ls p.m u2 f2 o2) ∧ (Slh w2 u2) ∧ (u2 ≤ 301) ∧ M = [(1, va), (2, .int .i64 wi), (3, w2), (4, .pointer (some ⟨g1, 0, none⟩)), (8, .slice none 0 0), (9, .int .i64 i), (13, .int .i64 k)] ∧ Sat w0 w [.blk g1 [vL, vD, .int .i64 p.stock, .int .i64 p.kerf], .own w2 1 22 u2 vv2, .sem (Frame.rows 3 u2 vv2 (fun _ => p.m) f2), .own va 1 3 i (ints a), .sem F]) ⟨out, u, vv, f, vo, (min (p.D i) (Int.tdiv s (p.L i + p.kerf))), rfl, (by omega), (by omega), ?_, ?_, ?_, (by omega), rfl, hS.pk [4, 0, 1, 2, 3]⟩ ?_
    ·
     rw [hml, exI_step h0 (by omega)]
    ·
     exact hls
    ·
     exact hvo
    clear hS w
    rintro mm M w ⟨o2, u2, vv2, f2, w2, k, rfl, k0, k1, ho2, hls2, hw2, hu2, rfl, hS⟩
    have hrs2 := fun k (k0 : 0 ≤ k) (k1 : k < u2) => hS.slhIn 2 rfl k0 k1
    refine zsq <| zsr ?_
    refine zs2 ?_
    refine zlt ?_
    refine zcif ?_ ?_ <;> intro hc
    ·
     refine zsk <| ztn <| zsq <| zbk <| zsr ?_
     refine zs4 ?_
     refine zlb 95 ?_ ?_ <;> intro hc
     ·
      iterate 2 refine zlo ?_
      refine zlv xpt ?_
      refine zlt <| zct ?_
      refine zdst [0, 4] [0, 4] 1000 mx_ hS ?_; clear hS; intro w hS
      refine zdla 0 (fun w hS => (xls 0 st_24 hS)) ?_
      refine zdv 2 (fun _ => xmv) ?_
      refine zdv 4 (fun _ => xmv) ?_
      refine zdv 7 (fun _ => xmv) ?_
      refine zdv 8 (fun _ => xmv) ?_
      refine zdfk (r := [1, 5]) ((zdn1 ?_ (zdn1 ?_ zdn0)))
      ·
       refine zka (xl0 (c := ints a) sl_22 hS) ?_; rintro v1 w ⟨hS, hv1⟩
       replace hS := hS.n6
       refine ⟨⟨fun _ => hS.pk [0, 4], hS.pk [0, 4]⟩, ?_⟩
       refine zdfk (r := [3, 5]) ((zdn1 ?_ (zdn1 ?_ zdn0)))
       ·
        refine zka (xap 5 (r := i) (f := ints a) sl_22 el_3 hS (hS.rowN 3 rfl) (by exact cat_self _ _)) ?_; rintro v2 w ⟨hS, hv2⟩
        replace hS := hS.n6
        refine ⟨⟨fun _ => hS.pk [0, 4], hS.pk [0, 4]⟩, ?_⟩
        refine zda 5 (xli (n := 1) (len := 1) (pv := [(0, .int .i64 k)]) (cs := [.int .i64 k]) (c := ints (fun _ => k)) sl_22 el_3 hS) ?_; rintro v3 w ⟨hS, hv3⟩
        replace hS := hS.n7
        refine ⟨⟨fun _ => hS.pk [0, 4], hS.pk [0, 4]⟩, ?_⟩
        refine zda 6 (xap 5 (r := i + 1) sl_22 el_3 hS (hS.rowN 6 rfl) (cat_snoc _ _ _)) ?_; rintro v4 w ⟨hS, hv4⟩
        replace hS := hS.n7
        refine ⟨⟨fun _ => hS.pk [0, 4], hS.pk [0, 4]⟩, ?_⟩
        replace hS := hS.recont 5 rfl (d := ints (upd a i k)) (snoc_upd a i k)
        replace hS := hS.n7
        refine zdc 9 (xc0 cl_78) (ih (i := i + 1) (a := upd a i k) (l := l - k * (p.L i + p.kerf)) (out := o2) w0 w (Sat.bundle (l1 := [_, _, _]) (hS.pk [1, 2, 5, 0, 3, 4, 6])) h hw2 hv4 (by omega) (by omega) (hx.step hp h0 (by omega) (by omega) (by omega)) hls2 (by omega) (hwa_next hwa (by omega)) (by omega)) ?_; rintro vox1 w ⟨_, ux1, vvx1, fx1, rfl, hvx1, hux1, hlx1, hS⟩
        replace hS := Sat.unbundle (l1 := [_, _]) (l3 := []) hS
        replace hS := hS.n6
        have hrsx1 := fun k (k0 : 0 ≤ k) (k1 : k < ux1) => hS.slhIn 1 rfl k0 k1
        refine ⟨⟨fun _ => hS.pk [2, 4], hS.pk [2, 4]⟩, ?_⟩
        refine zdv 10 (fun _ => xas) ?_
        refine zdd <| zbn <| ztn <| zrg ?_
        refine zlv xmv ?_
        refine zlv (xsub (r := k - 1)) ?_
        refine zlv xas ?_
        refine zln <| zlq ⟨((o2 ++ exI p wi (i + 1) (upd a i k) (l - k * (p.L i + p.kerf))).take 301), ux1, vvx1, fx1, vox1, k - 1, rfl, (by omega), (by omega), ?_, ?_, ?_, (by omega), rfl, hS.pk [2, 0, 1, 3, 4]⟩
        ·
         rw [← ho2, dn_at (k := k) _ (by unfold least; split <;> omega), ← List.append_assoc, show k - 1 + 1 - least wi i = k - least wi i by omega]; exact take_app
        ·
         exact hlx1
        ·
         exact hvx1
       refine zka (xli (n := 1) (len := 1) (pv := [(0, .int .i64 k)]) (cs := [.int .i64 k]) (c := ints (fun _ => k)) sl_22 el_3 hS) ?_; rintro v2 w ⟨hS, hv2⟩
       replace hS := hS.n7
       refine ⟨⟨fun _ => hS.pk [0, 4], hS.pk [0, 4]⟩, ?_⟩
       refine zda 3 (xap 5 (r := i) (f := ints a) sl_22 el_3 hS (hS.rowN 3 rfl) (by exact cat_self _ _)) ?_; rintro v3 w ⟨hS, hv3⟩
       replace hS := hS.n7
       refine ⟨⟨fun _ => hS.pk [0, 4], hS.pk [0, 4]⟩, ?_⟩
       refine zda 6 (xap 5 (r := i + 1) sl_22 el_3 hS (hS.rowN 6 rfl) (cat_snoc _ _ _)) ?_; rintro v4 w ⟨hS, hv4⟩
       replace hS := hS.n7
       refine ⟨⟨fun _ => hS.pk [0, 4], hS.pk [0, 4]⟩, ?_⟩
       replace hS := hS.recont 5 rfl (d := ints (upd a i k)) (snoc_upd a i k)
       replace hS := hS.n7
       refine zdc 9 (xc0 cl_78) (ih (i := i + 1) (a := upd a i k) (l := l - k * (p.L i + p.kerf)) (out := o2) w0 w (Sat.bundle (l1 := [_, _, _]) (hS.pk [1, 2, 5, 0, 3, 4, 6])) h hw2 hv4 (by omega) (by omega) (hx.step hp h0 (by omega) (by omega) (by omega)) hls2 (by omega) (hwa_next hwa (by omega)) (by omega)) ?_; rintro vox1 w ⟨_, ux1, vvx1, fx1, rfl, hvx1, hux1, hlx1, hS⟩
       replace hS := Sat.unbundle (l1 := [_, _]) (l3 := []) hS
       replace hS := hS.n6
       have hrsx1 := fun k (k0 : 0 ≤ k) (k1 : k < ux1) => hS.slhIn 1 rfl k0 k1
       refine ⟨⟨fun _ => hS.pk [2, 4], hS.pk [2, 4]⟩, ?_⟩
       refine zdv 10 (fun _ => xas) ?_
       refine zdd <| zbn <| ztn <| zrg ?_
       refine zlv xmv ?_
       refine zlv (xsub (r := k - 1)) ?_
       refine zlv xas ?_
       refine zln <| zlq ⟨((o2 ++ exI p wi (i + 1) (upd a i k) (l - k * (p.L i + p.kerf))).take 301), ux1, vvx1, fx1, vox1, k - 1, rfl, (by omega), (by omega), ?_, ?_, ?_, (by omega), rfl, hS.pk [2, 0, 1, 3, 4]⟩
       ·
        rw [← ho2, dn_at (k := k) _ (by unfold least; split <;> omega), ← List.append_assoc, show k - 1 + 1 - least wi i = k - least wi i by omega]; exact take_app
       ·
        exact hlx1
       ·
        exact hvx1
      refine zka (xli (n := 1) (len := 1) (pv := [(0, .int .i64 k)]) (cs := [.int .i64 k]) (c := ints (fun _ => k)) sl_22 el_3 hS) ?_; rintro v1 w ⟨hS, hv1⟩
      replace hS := hS.n6
      refine ⟨⟨fun _ => hS.pk [0, 4], hS.pk [0, 4]⟩, ?_⟩
      refine zda 1 (xl0 (c := ints a) sl_22 hS) ?_; rintro v2 w ⟨hS, hv2⟩
      replace hS := hS.n7
      refine ⟨⟨fun _ => hS.pk [0, 4], hS.pk [0, 4]⟩, ?_⟩
      refine zda 3 (xap 6 (r := i) (f := ints a) sl_22 el_3 hS (hS.rowN 3 rfl) (by exact cat_self _ _)) ?_; rintro v3 w ⟨hS, hv3⟩
      replace hS := hS.n7
      refine ⟨⟨fun _ => hS.pk [0, 4], hS.pk [0, 4]⟩, ?_⟩
      refine zda 6 (xap 6 (r := i + 1) sl_22 el_3 hS (hS.rowN 5 rfl) (cat_snoc _ _ _)) ?_; rintro v4 w ⟨hS, hv4⟩
      replace hS := hS.n7
      refine ⟨⟨fun _ => hS.pk [0, 4], hS.pk [0, 4]⟩, ?_⟩
      replace hS := hS.recont 6 rfl (d := ints (upd a i k)) (snoc_upd a i k)
      replace hS := hS.n7
      refine zdc 9 (xc0 cl_78) (ih (i := i + 1) (a := upd a i k) (l := l - k * (p.L i + p.kerf)) (out := o2) w0 w (Sat.bundle (l1 := [_, _, _]) (hS.pk [1, 2, 6, 0, 3, 4, 5])) h hw2 hv4 (by omega) (by omega) (hx.step hp h0 (by omega) (by omega) (by omega)) hls2 (by omega) (hwa_next hwa (by omega)) (by omega)) ?_; rintro vox1 w ⟨_, ux1, vvx1, fx1, rfl, hvx1, hux1, hlx1, hS⟩
      replace hS := Sat.unbundle (l1 := [_, _]) (l3 := []) hS
      replace hS := hS.n6
      have hrsx1 := fun k (k0 : 0 ≤ k) (k1 : k < ux1) => hS.slhIn 1 rfl k0 k1
      refine ⟨⟨fun _ => hS.pk [2, 4], hS.pk [2, 4]⟩, ?_⟩
      refine zdv 10 (fun _ => xas) ?_
      refine zdd <| zbn <| ztn <| zrg ?_
      refine zlv xmv ?_
      refine zlv (xsub (r := k - 1)) ?_
      refine zlv xas ?_
      refine zln <| zlq ⟨((o2 ++ exI p wi (i + 1) (upd a i k) (l - k * (p.L i + p.kerf))).take 301), ux1, vvx1, fx1, vox1, k - 1, rfl, (by omega), (by omega), ?_, ?_, ?_, (by omega), rfl, hS.pk [2, 0, 1, 3, 4]⟩
      ·
       rw [← ho2, dn_at (k := k) _ (by unfold least; split <;> omega), ← List.append_assoc, show k - 1 + 1 - least wi i = k - least wi i by omega]; exact take_app
      ·
       exact hlx1
      ·
       exact hvx1
     refine zs3 ?_
     refine zlt ?_
     refine zcif ?_ ?_ <;> intro hc
     ·
      refine zdst [0, 4] [0, 4] 1000 mx_ hS ?_; clear hS; intro w hS
      refine zdla 0 (fun w hS => (xls 0 st_24 hS)) ?_
      refine zdv 2 (fun _ => xmv) ?_
      refine zdv 4 (fun _ => xmv) ?_
      refine zdv 7 (fun _ => xmv) ?_
      refine zdv 8 (fun _ => xmv) ?_
      refine zdfk (r := [1, 5]) ((zdn1 ?_ (zdn1 ?_ zdn0)))
      ·
       refine zka (xl0 (c := ints a) sl_22 hS) ?_; rintro v1 w ⟨hS, hv1⟩
       replace hS := hS.n6
       refine ⟨⟨fun _ => hS.pk [0, 4], hS.pk [0, 4]⟩, ?_⟩
       refine zdfk (r := [3, 5]) ((zdn1 ?_ (zdn1 ?_ zdn0)))
       ·
        refine zka (xap 5 (r := i) (f := ints a) sl_22 el_3 hS (hS.rowN 3 rfl) (by exact cat_self _ _)) ?_; rintro v2 w ⟨hS, hv2⟩
        replace hS := hS.n6
        refine ⟨⟨fun _ => hS.pk [0, 4], hS.pk [0, 4]⟩, ?_⟩
        refine zda 5 (xli (n := 1) (len := 1) (pv := [(0, .int .i64 k)]) (cs := [.int .i64 k]) (c := ints (fun _ => k)) sl_22 el_3 hS) ?_; rintro v3 w ⟨hS, hv3⟩
        replace hS := hS.n7
        refine ⟨⟨fun _ => hS.pk [0, 4], hS.pk [0, 4]⟩, ?_⟩
        refine zda 6 (xap 5 (r := i + 1) sl_22 el_3 hS (hS.rowN 6 rfl) (cat_snoc _ _ _)) ?_; rintro v4 w ⟨hS, hv4⟩
        replace hS := hS.n7
        refine ⟨⟨fun _ => hS.pk [0, 4], hS.pk [0, 4]⟩, ?_⟩
        replace hS := hS.recont 5 rfl (d := ints (upd a i k)) (snoc_upd a i k)
        replace hS := hS.n7
        refine zdc 9 (xc0 cl_78) (ih (i := i + 1) (a := upd a i k) (l := l - k * (p.L i + p.kerf)) (out := o2) w0 w (Sat.bundle (l1 := [_, _, _]) (hS.pk [1, 2, 5, 0, 3, 4, 6])) h hw2 hv4 (by omega) (by omega) (hx.step hp h0 (by omega) (by omega) (by omega)) hls2 (by omega) (hwa_next hwa (by omega)) (by omega)) ?_; rintro vox1 w ⟨_, ux1, vvx1, fx1, rfl, hvx1, hux1, hlx1, hS⟩
        replace hS := Sat.unbundle (l1 := [_, _]) (l3 := []) hS
        replace hS := hS.n6
        have hrsx1 := fun k (k0 : 0 ≤ k) (k1 : k < ux1) => hS.slhIn 1 rfl k0 k1
        refine ⟨⟨fun _ => hS.pk [2, 4], hS.pk [2, 4]⟩, ?_⟩
        refine zdv 10 (fun _ => xas) ?_
        refine zdd <| zbn <| ztn <| zrg ?_
        refine zlv xmv ?_
        refine zlv (xsub (r := k - 1)) ?_
        refine zlv xas ?_
        refine zln <| zlq ⟨((o2 ++ exI p wi (i + 1) (upd a i k) (l - k * (p.L i + p.kerf))).take 301), ux1, vvx1, fx1, vox1, k - 1, rfl, (by omega), (by omega), ?_, ?_, ?_, (by omega), rfl, hS.pk [2, 0, 1, 3, 4]⟩
        ·
         rw [← ho2, dn_at (k := k) _ (by unfold least; split <;> omega), ← List.append_assoc, show k - 1 + 1 - least wi i = k - least wi i by omega]; exact take_app
        ·
         exact hlx1
        ·
         exact hvx1
       refine zka (xli (n := 1) (len := 1) (pv := [(0, .int .i64 k)]) (cs := [.int .i64 k]) (c := ints (fun _ => k)) sl_22 el_3 hS) ?_; rintro v2 w ⟨hS, hv2⟩
       replace hS := hS.n7
       refine ⟨⟨fun _ => hS.pk [0, 4], hS.pk [0, 4]⟩, ?_⟩
       refine zda 3 (xap 5 (r := i) (f := ints a) sl_22 el_3 hS (hS.rowN 3 rfl) (by exact cat_self _ _)) ?_; rintro v3 w ⟨hS, hv3⟩
       replace hS := hS.n7
       refine ⟨⟨fun _ => hS.pk [0, 4], hS.pk [0, 4]⟩, ?_⟩
       refine zda 6 (xap 5 (r := i + 1) sl_22 el_3 hS (hS.rowN 6 rfl) (cat_snoc _ _ _)) ?_; rintro v4 w ⟨hS, hv4⟩
       replace hS := hS.n7
       refine ⟨⟨fun _ => hS.pk [0, 4], hS.pk [0, 4]⟩, ?_⟩
       replace hS := hS.recont 5 rfl (d := ints (upd a i k)) (snoc_upd a i k)
       replace hS := hS.n7
       refine zdc 9 (xc0 cl_78) (ih (i := i + 1) (a := upd a i k) (l := l - k * (p.L i + p.kerf)) (out := o2) w0 w (Sat.bundle (l1 := [_, _, _]) (hS.pk [1, 2, 5, 0, 3, 4, 6])) h hw2 hv4 (by omega) (by omega) (hx.step hp h0 (by omega) (by omega) (by omega)) hls2 (by omega) (hwa_next hwa (by omega)) (by omega)) ?_; rintro vox1 w ⟨_, ux1, vvx1, fx1, rfl, hvx1, hux1, hlx1, hS⟩
       replace hS := Sat.unbundle (l1 := [_, _]) (l3 := []) hS
       replace hS := hS.n6
       have hrsx1 := fun k (k0 : 0 ≤ k) (k1 : k < ux1) => hS.slhIn 1 rfl k0 k1
       refine ⟨⟨fun _ => hS.pk [2, 4], hS.pk [2, 4]⟩, ?_⟩
       refine zdv 10 (fun _ => xas) ?_
       refine zdd <| zbn <| ztn <| zrg ?_
       refine zlv xmv ?_
       refine zlv (xsub (r := k - 1)) ?_
       refine zlv xas ?_
       refine zln <| zlq ⟨((o2 ++ exI p wi (i + 1) (upd a i k) (l - k * (p.L i + p.kerf))).take 301), ux1, vvx1, fx1, vox1, k - 1, rfl, (by omega), (by omega), ?_, ?_, ?_, (by omega), rfl, hS.pk [2, 0, 1, 3, 4]⟩
       ·
        rw [← ho2, dn_at (k := k) _ (by unfold least; split <;> omega), ← List.append_assoc, show k - 1 + 1 - least wi i = k - least wi i by omega]; exact take_app
       ·
        exact hlx1
       ·
        exact hvx1
      refine zka (xli (n := 1) (len := 1) (pv := [(0, .int .i64 k)]) (cs := [.int .i64 k]) (c := ints (fun _ => k)) sl_22 el_3 hS) ?_; rintro v1 w ⟨hS, hv1⟩
      replace hS := hS.n6
      refine ⟨⟨fun _ => hS.pk [0, 4], hS.pk [0, 4]⟩, ?_⟩
      refine zda 1 (xl0 (c := ints a) sl_22 hS) ?_; rintro v2 w ⟨hS, hv2⟩
      replace hS := hS.n7
      refine ⟨⟨fun _ => hS.pk [0, 4], hS.pk [0, 4]⟩, ?_⟩
      refine zda 3 (xap 6 (r := i) (f := ints a) sl_22 el_3 hS (hS.rowN 3 rfl) (by exact cat_self _ _)) ?_; rintro v3 w ⟨hS, hv3⟩
      replace hS := hS.n7
      refine ⟨⟨fun _ => hS.pk [0, 4], hS.pk [0, 4]⟩, ?_⟩
      refine zda 6 (xap 6 (r := i + 1) sl_22 el_3 hS (hS.rowN 5 rfl) (cat_snoc _ _ _)) ?_; rintro v4 w ⟨hS, hv4⟩
      replace hS := hS.n7
      refine ⟨⟨fun _ => hS.pk [0, 4], hS.pk [0, 4]⟩, ?_⟩
      replace hS := hS.recont 6 rfl (d := ints (upd a i k)) (snoc_upd a i k)
      replace hS := hS.n7
      refine zdc 9 (xc0 cl_78) (ih (i := i + 1) (a := upd a i k) (l := l - k * (p.L i + p.kerf)) (out := o2) w0 w (Sat.bundle (l1 := [_, _, _]) (hS.pk [1, 2, 6, 0, 3, 4, 5])) h hw2 hv4 (by omega) (by omega) (hx.step hp h0 (by omega) (by omega) (by omega)) hls2 (by omega) (hwa_next hwa (by omega)) (by omega)) ?_; rintro vox1 w ⟨_, ux1, vvx1, fx1, rfl, hvx1, hux1, hlx1, hS⟩
      replace hS := Sat.unbundle (l1 := [_, _]) (l3 := []) hS
      replace hS := hS.n6
      have hrsx1 := fun k (k0 : 0 ≤ k) (k1 : k < ux1) => hS.slhIn 1 rfl k0 k1
      refine ⟨⟨fun _ => hS.pk [2, 4], hS.pk [2, 4]⟩, ?_⟩
      refine zdv 10 (fun _ => xas) ?_
      refine zdd <| zbn <| ztn <| zrg ?_
      refine zlv xmv ?_
      refine zlv (xsub (r := k - 1)) ?_
      refine zlv xas ?_
      refine zln <| zlq ⟨((o2 ++ exI p wi (i + 1) (upd a i k) (l - k * (p.L i + p.kerf))).take 301), ux1, vvx1, fx1, vox1, k - 1, rfl, (by omega), (by omega), ?_, ?_, ?_, (by omega), rfl, hS.pk [2, 0, 1, 3, 4]⟩
      ·
       rw [← ho2, dn_at (k := k) _ (by unfold least; split <;> omega), ← List.append_assoc, show k - 1 + 1 - least wi i = k - least wi i by omega]; exact take_app
      ·
       exact hlx1
      ·
       exact hvx1
     refine zsk <| zbn <| ztn <| zrg ?_
     refine zlv xmv ?_
     refine zlv (xsub (r := k - 1)) ?_
     refine zlv xas ?_
     refine zln <| zlq ⟨o2, u2, vv2, f2, w2, k - 1, rfl, (by omega), (by omega), ?_, ?_, ?_, (by omega), rfl, hS⟩
     ·
      rw [← ho2, dn_skip (k := k) (by omega) (by unfold least; rw [if_pos (by omega)])]
     ·
      exact hls2
     ·
      exact hw2
    refine zxt <| ztx <| ztx <| zbh <| ztn <| zsr ?_
    refine zs2 ?_
    refine zlt <| zrt <| zf1 ⟨_, rfl, ?_⟩
    exact ⟨_, _, _, _, rfl, hw2, by omega, by rw [← ho2, show k = -1 by omega, dn_end _ (by unfold least; split <;> omega), List.append_nil, take_few (by have := hls2.1; omega)]; exact hls2, hS.pk [1, 2, 4]⟩
end Go.Proofs.YtkichmnjjblodaaGreat
namespace Go.Proofs.YtkichmnjjblodaaGreat
open Go Go.RowKit Go.Proofs.Gw
def WithR (p : Prob) (wi u : Int) (f : Int → Int → Int) (e : Int) : Prop := (¬ p.Ok ∧ e = 1 ∧ u = 0) ∨ (p.Ok ∧ ¬ (0 ≤ wi ∧ wi < p.m) ∧ e = 2 ∧ u = 0) ∨
  (p.Ok ∧ (0 ≤ wi ∧ wi < p.m) ∧ 300 < (MX p wi).length ∧ e = 9 ∧ u = 0) ∨ (p.Ok ∧ (0 ≤ wi ∧ wi < p.m) ∧ (MX p wi).length ≤ 300 ∧ e = 0 ∧ Ls p.m u f (MX p wi))
theorem with_many {p : Prob} {wi u : Int} {f : Int → Int → Int} (h : Ls p.m u f (([] ++ exI p wi 0 (fun _ => 0) (p.stock + p.kerf)).take 301)) (hu : 300 < u) : 300 < (MX p wi).length := by
  have h1 := h.1
  rw [List.nil_append, List.length_take] at h1
  unfold MX; omega
theorem with_some {p : Prob} {wi u : Int} {f : Int → Int → Int} (h : Ls p.m u f (([] ++ exI p wi 0 (fun _ => 0) (p.stock + p.kerf)).take 301)) (hu : ¬ 300 < u) : (MX p wi).length ≤ 300 ∧ Ls p.m u f (MX p wi) := by
  have h1 := h.1
  rw [List.nil_append, List.length_take] at h1
  have h2 : (MX p wi).length ≤ 300 := by unfold MX; omega
  refine ⟨h2, ?_⟩
  have h3 := h
  rw [List.nil_append, List.take_of_length_le (by have : (exI p wi 0 (fun _ => 0) (p.stock + p.kerf)).length ≤ 300 := h2; omega)] at h3
  exact h3
theorem c_rwith {vL vD : Value} {p : Prob} {wi : Int} (w0 : World) (h : PAt w0 vL vD p) :
    Calls Tryz.prog 46 [.agg #[vL, vD, .int .i64 p.stock, .int .i64 p.kerf], .int .i64 wi].toArray w0 fun e w => ∃ v, e = .returned v ∧ ∃ r u vv f e, v = .tuple #[r, .int .i64 e] ∧ WithR p wi u f e ∧ Slh r u ∧ Sat w0 w [.own r 1 22 u vv, .sem (Frame.rows 3 u vv (fun _ => p.m) f)] := by
  have hm := h.L.slh.n0; have hm1 := h.L.slh.n1; have hd := h.D.slh.n0; have hd1 := h.D.slh.n1; have hs := h.is; have hk := h.ik
  refine zenG Tryz.func46 Tryz.ntmps46 fun w hS => ?_
  refine zsr ?_
  refine zla (xbx (cs := [_, _, _, _]) hS) ?_; rintro _ w ⟨g1, rfl, hS⟩
  replace hS := hS.n1
  refine zs2 ?_
  refine zlt <| zsq <| zbk <| zsr ?_
  refine zlv (xls 0 st_24 hS) ?_
  refine zlc (xc0 cl_28) (c_rvalid28 (p := p) w (h.below hS.below)) ?_; rintro _ w ⟨rfl, hS'⟩
  replace hS := hS.cmp hS'; clear hS'
  refine zs2 ?_
  refine zlt ?_
  refine zcif ?_ ?_ <;> intro hc
  ·
   refine zsr ?_
   refine zs2 ?_
   refine zlt <| zrt <| zbr <| ztr <| zf2 ⟨_, rfl, ?_⟩
   exact ⟨_, 0, _, _, _, rfl, .inl ⟨‹¬ p.Ok›, rfl, rfl⟩, slh_nil, ((hS.sub (.cons _ .slnil)).addnil 1 22 (fun _ => Value.slice none 0 0)).addrows 3 (fun _ => Value.slice none 0 0) (fun _ => p.m) (fun _ _ => 0)⟩
  refine zsr ?_
  refine zlv xmv ?_
  have hp : p.Ok := by first | assumption | exact Classical.not_not.1 ‹_›
  have hpm := hp.m1; have hpm2 := hp.m2; have hpd := hp.d; have hs1 := hp.s1; have hs2 := hp.s2; have hk1 := hp.k1; have hk2 := hp.k2
  refine zs2 ?_
  refine zlb 14 ?_ ?_ <;> intro hc
  ·
   iterate 5 refine zlo ?_
   refine zs2 ?_
   refine zlt <| zct <| zsr ?_
   refine zs2 ?_
   refine zlt <| zrt <| zbr <| ztr <| zf2 ⟨_, rfl, ?_⟩
   exact ⟨_, 0, _, _, _, rfl, .inr (.inl ⟨hp, by omega, rfl, rfl⟩), slh_nil, ((hS.sub (.cons _ .slnil)).addnil 1 22 (fun _ => Value.slice none 0 0)).addrows 3 (fun _ => Value.slice none 0 0) (fun _ => p.m) (fun _ _ => 0)⟩
  refine zlv xmv ?_
  refine zlv (xfb 0 fd_24_0) ?_
  refine zlv (xlb 0 pl_22 hS) ?_
  refine zlv (xln sl_22 h.L.slh) ?_
  refine zs3 ?_
  refine zlt ?_
  refine zcif ?_ ?_ <;> intro hc
  ·
   refine zsr ?_
   refine zs2 ?_
   refine zlt <| zrt <| zbr <| ztr <| zf2 ⟨_, rfl, ?_⟩
   exact ⟨_, 0, _, _, _, rfl, .inr (.inl ⟨hp, by omega, rfl, rfl⟩), slh_nil, ((hS.sub (.cons _ .slnil)).addnil 1 22 (fun _ => Value.slice none 0 0)).addrows 3 (fun _ => Value.slice none 0 0) (fun _ => p.m) (fun _ _ => 0)⟩
  refine zsk <| zbn <| ztn <| zsr ?_
  refine zlv (xls 0 st_24 hS) ?_
  refine zlv xmv ?_
  replace hS := (hS.addnil 1 22 (fun _ => Value.slice none 0 0)).addrows 3 (fun _ => Value.slice none 0 0) (fun _ => p.m) (fun _ _ => 0)
  replace hS := hS.addnil 1 3 (ints (fun _ => 0))
  replace hS := hS.n4
  refine zlc (xc0 cl_78) (c_rext (p := p) (wi := wi) hp (by omega) _ (i := 0) (a := fun _ => 0) (l := p.stock + p.kerf) (out := []) w0 w (Sat.bundle (l1 := [_, _, _]) (hS.pk [1, 2, 3, 0])) h slh_nil slh_nil (by omega) (by omega) (Pfx.start hp) Ls.nil (by omega) (by omega) (Nat.lt_succ_self _)) ?_; rintro vox1 w ⟨_, ux1, vvx1, fx1, rfl, hvx1, hux1, hlx1, hS⟩
  replace hS := Sat.unbundle (l1 := [_, _]) (l3 := []) hS
  replace hS := hS.n3
  have hrsx1 := fun k (k0 : 0 ≤ k) (k1 : k < ux1) => hS.slhIn 1 rfl k0 k1
  refine zlv xas ?_
  refine zlt <| zsq <| zsr ?_
  refine zlv xmv ?_
  refine zlv (xln sl_83 hvx1) ?_
  refine zlv xgtr ?_
  refine zlt ?_
  refine zcif ?_ ?_ <;> intro hc
  ·
   refine zsr ?_
   refine zs2 ?_
   refine zlt <| zrt <| ztr <| zf2 ⟨_, rfl, ?_⟩
   exact ⟨_, 0, _, _, _, rfl, .inr (.inr (.inl ⟨hp, by omega, with_many hlx1 (by omega), rfl, rfl⟩)), slh_nil, ((hS.sub (.cons _ (.cons _ (.cons _ .slnil)))).addnil 1 22 (fun _ => Value.slice none 0 0)).addrows 3 (fun _ => Value.slice none 0 0) (fun _ => p.m) (fun _ _ => 0)⟩
  refine zsk <| ztn <| zsr ?_
  refine zs3 ?_
  refine zlt <| zrt <| zf2 ⟨_, rfl, ?_⟩
  exact ⟨_, _, _, _, 0, rfl, .inr (.inr (.inr ⟨hp, by omega, (with_some hlx1 (by omega)).1, rfl, (with_some hlx1 (by omega)).2⟩)), hvx1, hS.pk [0, 1]⟩
end Go.Proofs.YtkichmnjjblodaaGreat
namespace Go.Proofs.YtkichmnjjblodaaGreat
open Go.Shelf
def laysNm215_ren : Go.Shelf.Ren := ⟨fun | 15 => 65 | n => n, fun | 22 => 22 | 3 => 3 | 4 => 4 | n => n, fun | n => n⟩
theorem laysNm215 : Go.Proofs.Lays2.n15 Tryz.prog laysNm215_ren := {
  mixed := by kernel_rfl
  f15 := Tryz.func65.trans (congrArg some (by kernel_rfl))
  t3 := Tryz.underlying3
  a3 := Tryz.isAgg3
  z3 := Tryz.sizeOf3
  v3 := Tryz.zeroValue3
  t4 := Tryz.underlying4
  a4 := Tryz.isAgg4
  z4 := Tryz.sizeOf4
  v4 := Tryz.zeroValue4
  t22 := Tryz.underlying22
  a22 := Tryz.isAgg22
  z22 := Tryz.sizeOf22
  v22 := Tryz.zeroValue22
  i3 := by kernel_rfl }
open Go.RowKit Go.Lib in
theorem slices_Clone_int (b off n c : Nat) (zs : List Int) (w : World) (hz : n ≤ zs.length) (hbig : n * 8 ≤ 140737488355328) (hc : ∀ j, j < zs.length → w.cell? ⟨b, off + j, none⟩ = some (.int .i64 (zs.getD j 0))) :
    Calls Tryz.prog 65 #[.slice (some ⟨b, off, none⟩) n c] w fun e w' => ∃ v', e = .returned v' ∧ w'.ownsRow w.heap.size 3 1 v' n ((zs.take n).map (Value.int .i64)) ∧ v' ≠ .slice none 0 0 ∧ Below w.heap.size w w' := Any.slices_Clone_int laysNm215 b off n c zs w hz hbig hc
open Go.RowKit Go.Lib in
theorem slices_Clone_int_nil (n c : Nat) (w : World) :
    Calls Tryz.prog 65 #[.slice none n c] w fun e w' => e = .returned (.slice none 0 0) ∧ w' = w := Any.slices_Clone_int_nil laysNm215 n c w
open Go.RowKit Go.Lib in
theorem slices_Clone_int_zero (a : Addr) (c : Nat) (w : World) :
    Calls Tryz.prog 65 #[.slice (some a) 0 c] w fun e w' => ∃ v', e = .returned v' ∧ w'.ownsRow w.heap.size 3 1 v' 0 [] ∧ v' ≠ .slice none 0 0 ∧ Below w.heap.size w w' := Any.slices_Clone_int_zero laysNm215 a c w
end Go.Proofs.YtkichmnjjblodaaGreat
namespace Go.Proofs.YtkichmnjjblodaaGreat
open Go Go.RowKit Go.Proofs.Gw
theorem cl_152 : calledT Tryz.prog 152 = true := by kernel_rfl
theorem c_clone {v : Value} {n : Int} {f : Int → Int} (w0 : World) (hR : Row w0 v 1 n (ints f)) (hn : n ≤ 1000000) : Calls Tryz.prog 65 [v].toArray w0 fun e w => ∃ u, e = .returned u ∧ ∃ r, u = r ∧ Slh r n ∧ Sat w0 w [.own r 1 3 n (ints f)] := by
  have hn0 := hR.slh.n0
  have hl := listOf_length f n
  have fin : ∀ {r : Value} {w : World} {xs : List Value}, w.ownsRow w0.heap.size 3 1 r n.toNat xs → xs = cellsOf (ints f) n.toNat → Below w0.heap.size w0 w → Slh r n ∧ Sat w0 w [.own r 1 3 n (ints f)] := fun {r w xs} hrow hxs hB => by
    subst hxs
    have hE : (Ent.own r 1 3 n (ints f)).holds w := Ent.holds.of_owns hn0 (by omega) (by rw [Nat.mul_one]; exact hrow)
    exact ⟨hE.row.slh, hB, fun e he => by obtain rfl := List.mem_singleton.1 he; exact hE, fun e he g hg => by obtain rfl := List.mem_singleton.1 he; exact (hrow.lt g hg).1, List.pairwise_singleton _ _⟩
  obtain ⟨_, _, a, cap, rfl, h⟩ := hR.slh
  cases a with
  | none =>
    have h0 : n = 0 := by rcases h with h | ⟨_, _, h⟩; exact h; cases h
    subst h0
    refine (slices_Clone_int_nil 0 cap w0).mono fun e w ⟨he, hw⟩ => ⟨_, he, _, rfl, slh_nil, ?_⟩
    rw [hw]
    exact (Sat.start w0).addnil 1 3 (ints f)
  | some ad =>
    rcases h with h | ⟨b, off, h⟩
    · subst h
      refine (slices_Clone_int_zero ad cap w0).mono fun e w ⟨r, he, hrow, _, hB⟩ => ⟨r, he, r, rfl, ?_⟩
      exact fin hrow rfl hB
    · cases h
      refine (slices_Clone_int b off n.toNat cap (listOf f n) w0 (by omega) (by omega) (fun j hj => ?_)).mono fun e w ⟨r, he, hrow, _, hB⟩ => ⟨r, he, r, rfl, fin hrow ?_ hB⟩
      · have := hR.2 j (by omega)
        simp only [cad, Int.toNat_natCast] at this
        rw [this]
        rw [hl] at hj
        simp [ints, listOf, hj]
      · rw [List.take_of_length_le (by omega), ints_list]; rfl
theorem c_mpos {x : Int} (w0 : World) :
    Calls Tryz.prog 152 [.int .i64 x].toArray w0 fun e w => ∃ v, e = .returned v ∧ v = B (0 < x) ∧ Sat w0 w [] := by
  refine zenG Tryz.func152 Tryz.ntmps152 fun w hS => ?_
  refine zsr ?_
  refine zlv xas ?_
  refine zlz ?_
  refine zs3 ?_
  refine zlt <| zrt <| zf1 ⟨_, rfl, ?_⟩
  exact ⟨B_congr (by omega), hS⟩
theorem c_ixmp {v : Value} {n : Int} {f : Int → Int} (w0 : World) (hR : Row w0 v 1 n (ints f)) :
    Calls Tryz.prog 159 [v, .func (.func 152) #[] #[]].toArray w0 fun e w => ∃ v, e = .returned v ∧ ∃ r : Int, v = .int .i64 r ∧ ((r = -1 ∧ ∀ k, 0 ≤ k → k < n → ¬ (0 < f k)) ∨ (0 ≤ r ∧ r < n ∧ (0 < f r))) ∧ Sat w0 w [] := by
  have hn := hR.slh.n0; have hn1 := hR.slh.n1
  refine zenG Tryz.func159 Tryz.ntmps159 fun w hS => ?_
  refine zsr ?_
  refine zlv xas ?_
  refine zlt <| zsq <| zsr ?_
  refine zlv xmv ?_
  refine zlv (xln sl_22 hR.slh) ?_
  refine zlv xmv ?_
  refine zlt <| zbk <| zlp (fun mm M w => ∃ (i : Int), mm = ((n - i).toNat) ∧ (0 ≤ i) ∧ (i ≤ n) ∧ (∀ k, 0 ≤ k → k < i → ¬ (0 < f k)) ∧ M = [(0, v), (1, .func (.func 152) #[] #[]), (7, .int .i64 n), (8, .int .i64 i)] ∧ Sat w0 w []) ⟨0, rfl, (by omega), (by omega), ?_, rfl, hS⟩ ?_
  ·
   intro k h0 h1; omega
  clear hS w
  rintro mm M w ⟨i, rfl, h0, h1, hall, rfl, hS⟩
  refine zsr ?_
  refine zlv xlss ?_
  refine zlt <| zsq ?_
  refine zcif ?_ ?_ <;> intro hc
  ·
   refine zsk <| ztn <| zsq <| zbk <| zsr ?_
   refine zs2 ?_
   refine zlz ?_
   refine zs3 ?_
   refine zlv (xix (kk := i) sl_22 hR.slh) ?_
   refine zlv (xlr (u := .int .i64 (f i)) pl_3 (hR.below hS.below)) ?_
   refine zlc (xc0 cl_152) (c_mpos (x := (f i)) w) ?_; rintro _ w ⟨rfl, hS'⟩
   replace hS := hS.cmp hS'; clear hS'
   refine zlt ?_
   refine zcif ?_ ?_ <;> intro hc
   ·
    refine zsr ?_
    refine zs2 ?_
    refine zlt <| zrt <| zbr <| ztr <| ztr <| zbr <| ztr <| zf1 ⟨_, rfl, ?_⟩
    exact ⟨i, rfl, .inr ⟨by omega, by omega, ‹0 < f i›⟩, hS⟩
   refine zsk <| zbn <| ztn <| zrg ?_
   refine zlv (xadd (r := i + 1)) ?_
   refine zlv xmv ?_
   refine zln <| zlq ⟨i + 1, rfl, (by omega), (by omega), ?_, rfl, hS⟩
   ·
    intro k h0' h1'; rcases Int.lt_or_eq_of_le (show k ≤ i by omega) with hk | hk; exact hall k h0' hk; rw [hk]; assumption
  refine zxt <| ztx <| ztx <| zbh <| ztn <| zsr ?_
  refine zlv xas ?_
  refine zlt <| zrt <| zf1 ⟨_, rfl, ?_⟩
  exact ⟨-1, rfl, .inl ⟨rfl, fun k h0 h1 => hall k h0 (by omega)⟩, hS⟩
theorem c_comp {v : Value} {n : Int} {f : Int → Int} (w0 : World) (hR : Row w0 v 1 n (ints f)) :
    Calls Tryz.prog 151 [v, .func (.func 152) #[] #[]].toArray w0 fun e w => ∃ v, e = .returned v ∧ v = B (∃ k, 0 ≤ k ∧ k < n ∧ 0 < f k) ∧ Sat w0 w [] := by
  refine zenG Tryz.func151 Tryz.ntmps151 fun w hS => ?_
  refine zsr ?_
  refine zlv xas ?_
  refine zlz ?_
  refine zs2 ?_
  refine zlc (xc0 cl_159) (c_ixmp (n := n) (f := f) w (hR.below hS.below)) ?_; rintro _ w ⟨r1, rfl, hr1, hS'⟩
  replace hS := hS.cmp hS'; clear hS'
  refine zs2 ?_
  refine zlt <| zrt <| zf1 ⟨_, rfl, ?_⟩
  exact ⟨B_congr (by
   rcases hr1 with ⟨h1, h2⟩ | ⟨h1, h2, h3⟩
   · exact ⟨fun h => by omega, fun ⟨k, h4, h5, h6⟩ => absurd h6 (h2 k h4 h5)⟩
   · exact ⟨fun _ => ⟨_, h1, h2, h3⟩, fun _ => h1⟩), hS⟩
end Go.Proofs.YtkichmnjjblodaaGreat
namespace Go.Proofs.Gw
open Go Go.RowKit
def FZ (r : Option Nat) : Fence := { fn := fun _ => True, depth := none, alive := false, round := r }
theorem FZ_calls {P : Program} {f : FuncId} {args : Array Value} {w : World} {R : Ending → World → Prop} {r : Option Nat} {n : Nat} (h : Calls P f args w R) : CallsIn (FZ r) n P f args w R :=
  (callsIn_wide (n := n)).2 h
theorem FZ_calls' {P : Program} {f : FuncId} {args : Array Value} {w : World} {R : Ending → World → Prop} {r : Option Nat} {n : Nat} (h : CallsIn (FZ r) n P f args w R) : Calls P f args w R :=
  (callsIn_wide (n := n)).1 h
abbrev Frd (a : Act) (n : Nat) (ds : List Deferred) (L : List (Nat × Value)) : Prop := Fr a n ds L
def ndf (o : Oper) : Bool := match o.op with
  | .defer _ => false
  | _ => true
theorem ndf_sem {o : Oper} (h : ndf o = true) (r : Option Nat) (ρ : Operand → Value) : o.semAt r ρ = execOp ρ o :=
  Oper.semAt_eq _ _ _ (by intro c hc; unfold ndf at h; rw [hc] at h; cases h)
section
variable {P : Program} {l rest : List Oper} {Q Q' : Exit → Act → World → Prop} {w w' w0 : World} {o : Oper} {n d : Nat} {L M : List (Nat × Value)} {x y : Code} {c : Operand} {e : Exit} {p : Prop} {r : Option Nat} {ds : List Deferred}
def Hl (P : Program) (r : Option Nat) (n : Nat) (l : List Oper) (Q : Exit → Act → World → Prop) (rest : List Oper) (ds : List Deferred) (L : List (Nat × Value)) (w : World) : Prop := ∀ a, Frd a n ds L → wpListIn (FZ r) 0 P l.toArray Q rest a w
def Hc (P : Program) (r : Option Nat) (n : Nat) (Q : Exit → Act → World → Prop) (x : Code) (ds : List Deferred) (L : List (Nat × Value)) (w : World) : Prop := ∀ a, Frd a n ds L → x.wpIn (FZ r) 0 P Q a w
abbrev He (n : Nat) (Q : Exit → Act → World → Prop) (e : Exit) (ds : List Deferred) (L : List (Nat × Value)) (w : World) : Prop := Ge n ds Q e L w
theorem hwant {b : Bool} {a : Act} (hF : Frd a n ds L) (h : gdB l L o = some b) : Region.wanted o (yielded l.toArray a.tmps) = b := by
  exact (gdB_want h).wanted hF
theorem hle {R : World → Prop} (hr : ∃ w', Runs P L w o .skip w' ∧ R w') (K : ∀ w', R w' → Hl P r n l Q rest ds L w') (hg : gdB l L o = some true := by exact rfl) (hd : o.dst = none := by exact rfl) (hn : ndf o = true := by exact rfl) : Hl P r n l Q (o :: rest) ds L w := fun a hF => by
  obtain ⟨w', hr, hR⟩ := hr
  unfold wpListIn
  rw [if_pos (hwant hF hg)]
  refine ⟨fun _ _ => trivial, ?_⟩
  rw [ndf_sem hn, hr _ hF.agr, Oper.uponIn_skip, hd]
  exact K w' hR a hF
def Yld (P : Program) (l : Nat) (vs : List Value) (w : World) (R : Value → World → Prop) : Prop :=
  ∃ fn tmps assign body, (Instr.yield l vs.toArray).run P w = .ok (.round l fn tmps assign body) w ∧ RoundIn (FZ none) 0 P l fn tmps assign body w fun e w' => ∃ v, e = .returned v ∧ R v w'
theorem xyl {l0 : Nat} {xs : Array Operand} {ts : Array TypeId} {vs : List Value} {z : Operand} {N : Next} (hy : (Instr.yield l0 vs.toArray).run P w = .ok N w) (ho : o.op = .call { callee := .value z, args := xs, argTypes := ts }) (hx : evL L z = some (.func (.yield l0) #[] #[])) (ha : Args L xs vs) : Runs P L w o N w := fun ρ h => by
  have h1 := ha ρ h
  simp [execOp, ho, resolve, h _ _ hx, Deferred.ofValue, invoke, h1, hy]
theorem hln (K : He n Q .normal ds L w) : Hl P r n l Q [] ds L w := K
theorem hlb (d : Nat) (ht : p → Hl P r n l Q rest ds ((d, .bool true) :: L) w) (hf : ¬ p → Hl P r n l Q rest ds ((d, .bool false) :: L) w) (hd : lk L d = some (B p) := by exact rfl) : Hl P r n l Q rest ds L w := fun a hF =>
  by_slot hF hd (fun hp h => ht hp _ h) (fun hp h => hf hp _ h)
theorem hsq (h : Hc P r n (Exit.then (y.wpIn (FZ r) 0 P Q) Q) x ds L w) : Hc P r n Q (.seq x y) ds L w := fun a hF => wpIn_seq (h a hF)
def onlyN (Q : Exit → Act → World → Prop) : Exit → Act → World → Prop := fun e a w => e = .normal ∧ Q .normal a w
theorem not_letsOut : ¬ LetsOut (onlyN Q) := fun ⟨_, _, h⟩ => by cases h.1
theorem rows_in {row : String} {args : Array Value} {R : Value → World → Prop} (h : Rows P row args w R) : RowsIn (FZ r) 0 P row args w R := fun c cs _ => by
  obtain ⟨v, w', h1, h2⟩ := h c cs
  exact ⟨v, w', h1, (stepsIn_wide (P := P)).2 h2⟩
theorem ops_in {ops : Array Oper} {Qn : Exit → Act → World → Prop} (q1 : ∀ a w, Qn .normal a w → Q .normal a w) (q2 : ∀ ch a w, ¬ Qn (.panic ch) a w) (q3 : ¬ LetsOut Qn) (hn : ops.toList.all ndf = true) : ∀ (is : List Nat) (a : Act) (w : World), wpOps P ops Qn is a w → wpOpsIn (FZ r) 0 P ops Q is a w
  | [], a, w, h => q1 _ _ h
  | i :: is, a, w, h => by
    unfold wpOps at h
    unfold wpOpsIn
    cases ho : ops[i]? with
    | none => simp only [ho] at h ⊢; exact ops_in q1 q2 q3 hn is a w h
    | some o =>
      simp only [ho] at h ⊢
      have hndf : ndf o = true := List.all_eq_true.1 hn o (by
        obtain ⟨hi, rfl⟩ := Array.getElem?_eq_some_iff.1 ho
        simp)
      by_cases hw : Region.wanted o (yielded ops a.tmps) = true
      · rw [if_pos hw] at h ⊢
        refine ⟨fun _ _ => trivial, ?_⟩
        rw [ndf_sem hndf]
        rcases h with h | h
        · unfold Oper.wp at h
          cases he : (execOp a.eval o).run P w with
          | ok N w1 =>
            rw [he] at h
            cases N with
            | value v => exact ops_in q1 q2 q3 hn is _ _ h
            | skip => exact ops_in q1 q2 q3 hn is _ _ h
            | defer d => exact ops_in q1 q2 q3 hn is _ _ h
            | enter f args =>
              refine ⟨fun h => (by cases h), FZ_calls (Calls.mono h fun e w' hh => ?_)⟩
              cases e with
              | returned v => exact ops_in q1 q2 q3 hn is _ _ hh
              | panicked ch => exact absurd hh (q2 _ _ _)
              | outgrown => exact absurd hh q3
            | row rw args => 
              refine ⟨fun h => (by cases h), rows_in (Rows.mono h fun v w' hh => ops_in q1 q2 q3 hn is _ _ hh)⟩
            | _ => exact h.elim
          | halt x w1 =>
            rw [he] at h
            cases x with
            | panic v => exact absurd h (q2 _ _ _)
            | _ => exact h.elim
        · exact absurd h.2 q3
      · rw [if_neg hw] at h ⊢
        exact ⟨fun _ _ => trivial, ops_in q1 q2 q3 hn is _ _ h⟩
theorem only1 : ∀ a w, onlyN Q .normal a w → Q .normal a w := fun _ _ h => h.2
theorem only2 : ∀ ch a w, ¬ onlyN Q (.panic ch) a w := fun _ _ _ h => by cases h.1
theorem zh (h : Ge n ds Q .normal L w) : Ge n ds (onlyN Q) .normal L w := fun a hF => ⟨rfl, h a hF⟩
theorem ops_of_list {ops : Array Oper} {a : Act} (h : wpList P ops Q ops.toList a w) : wpOps P ops Q (List.range ops.size) a w := by
  rw [List.range_eq_range', ← Array.length_toList, wpOps_eq_wpList ops.toList 0 (by simp)]; exact h
theorem hrz {id : Nat} (h : Gl P n ds l (onlyN Q) l L w) (hn : l.all ndf = true := by exact rfl) : Hc P r n Q (.region id l.toArray false) ds L w := fun a hF =>
  wpIn_region (ops_in only1 only2 not_letsOut (by simpa using hn) _ _ _ (ops_of_list (by have := h a hF; simpa using this)))
theorem hdst {w0 : World} {id : Nat} {m m0 m1 : List Ent} {fuel : Nat} (is js : List Nat) (brk : Nat) (hm : P.follows .mixedOrders = true) (hS : Sat w0 w m) (K : ∀ w', Sat w0 w' m → Gd P n ds l (onlyN Q) (fun w' => Sat w0 w' m0) (fun w' => Sat w0 w' m1) brk fuel (Array.replicate fuel false) L w')
    (h0 : pkL m is = m0 := by exact rfl) (h1 : pkL m js = m1 := by exact rfl) (hn0 : is.Nodup := by decide) (hn1 : js.Nodup := by decide) (hn : l.length = fuel := by exact rfl) (hnd : l.all ndf = true := by exact rfl) : Hc P r n Q (.region id l.toArray true) ds L w := fun a hF => by
  subst h0; subst h1; subst hn
  refine wpIn_region_draw fun t => ops_in (Qn := NoPanic (onlyN Q)) (fun _ _ h => h.2) (fun _ _ _ h => h.elim) (fun ⟨_, _, h⟩ => by cases h.1) (by simpa using hnd) _ _ _ ?_
  simp only [Region.schedule, hm, Bool.true_or, if_true]
  have hcl : Closed l.toArray (Array.replicate l.length false) := by have := Closed.start (ops := l.toArray); simpa using this
  have h2 := wpAny_of_B _ _ _ _ (K w.drew hS.draw hcl ⟨fun _ => hS.draw.pk is hn0, hS.draw.pk js hn1⟩ a hF)
  have h3 := wpAny_sound l.length t _ a _ h2
  have e : l.toArray.size = l.length := by simp
  first | exact h3 | (unfold Region.linearise; rw [e]; exact h3)
theorem hcif (ht : p → Hc P r n Q x ds L w) (hf : ¬ p → Hc P r n Q y ds L w) (hc : evL L c = some (B p) := by exact rfl) : Hc P r n Q (.cond c x y) ds L w := fun a hF => by
  have := hF.agr _ _ hc
  by_cases hp : p
  · exact wpIn_cond_true (by rw [this, B_true hp]) (ht hp a hF)
  · exact wpIn_cond_false (by rw [this, B_false hp]) (hf hp a hF)
theorem hsk (h : He n Q .normal ds L w) : Hc P r n Q .skip ds L w := fun a hF => wpIn_skip (h a hF)
theorem hrt (h : He n Q .ret ds L w) : Hc P r n Q .ret ds L w := fun a hF => wpIn_ret (h a hF)
theorem hxt {id : Nat} (h : He n Q (.exit id) ds L w) : Hc P r n Q (.exit id) ds L w := fun a hF => wpIn_exit (h a hF)
theorem hbk {id : Nat} (h : Hc P r n (Exit.inBlock id Q) x ds L w) : Hc P r n Q (.block id x) ds L w := fun a hF => wpIn_block (h a hF)
theorem htn (h : Hc P r n Q y ds L w) : He n (Exit.then (y.wpIn (FZ r) 0 P Q) Q') .normal ds L w := h
theorem wpIn_loopJ {F : Fence} {nn : Nat} {body : Code} {a : Act} (I : Nat → Act → World → Prop) {m : Nat} (h0 : I m a w) (round : ∀ m a w, I m a w → body.wpIn F nn P (Exit.then (fun a' w' => ∃ m', m' < m ∧ I m' a' w') Q) a w) : (Code.loop body).wpIn F nn P Q a w := by
  intro b k cs hro hb hr
  have key : ∀ m a w, I m a w → ∃ e a' w', Q e a' w' ∧ ArrivesIn (Machine.fenced P F) P (lone (b.atR a (.code body :: .inLoop body :: k)) cs w) b k cs e a' w' := by
    intro m
    induction m using Nat.strongRecOn with
    | _ m ih =>
      intro a w hI
      obtain ⟨e, a₁, w₁, hq, harr⟩ := round m a w hI b (.inLoop body :: k) cs hro hb hr
      cases e with
      | normal =>
        obtain ⟨m', hlt, hI₁⟩ := hq
        obtain ⟨e₂, a₂, w₂, hq₂, harr₂⟩ := ih m' hlt a₁ w₁ hI₁
        exact ⟨e₂, a₂, w₂, hq₂, .of_steps (StepsIn.trans harr (.one (fenced_calm hb hr rfl) stepR_inLoop)) harr₂⟩
      | exit id => exact ⟨_, a₁, w₁, hq, .pass (x := .inLoop body) rfl (fun _ _ => .inl (by simp)) harr⟩
      | goto l => exact ⟨_, a₁, w₁, hq, .pass (x := .inLoop body) rfl (fun _ _ => .inl (by simp)) harr⟩
      | ret => exact ⟨_, a₁, w₁, hq, .pass (x := .inLoop body) rfl (fun _ _ => .inl (by simp)) harr⟩
      | panic ch => exact ⟨_, a₁, w₁, hq, .pass (x := .inLoop body) rfl (fun _ _ => .inl (by simp)) harr⟩
      | outgrown => exact ⟨_, a₁, w₁, hq, .pass (x := .inLoop body) rfl (fun _ _ => .inl (by simp)) harr⟩
  obtain ⟨e, a', w', hq, harr⟩ := key m a w h0
  exact ⟨e, a', w', hq, .of_steps (.one (fenced_calm hb hr rfl) stepR_loop) harr⟩
theorem hlp (J : Nat → List (Nat × Value) → World → Prop) {m : Nat} (h0 : J m M w) (round : ∀ m M w, J m M w → Hc P r n (Exit.then (fun a w => ∃ m', m' < m ∧ ∃ M', J m' M' w ∧ Frd a n ds M') Q) x ds M w)
    (hM : Sub L M := by repeat' first | exact zpk0 | refine zpk rfl ?_) : Hc P r n Q (.loop x) ds L w := fun a hF =>
  wpIn_loopJ (fun m a w => ∃ M, J m M w ∧ Frd a n ds M) ⟨M, h0, hF.sub hM⟩ fun m a w ⟨M', hJ, hF'⟩ => round m M' w hJ a hF'
theorem hlq {J : Nat → List (Nat × Value) → World → Prop} {m m' : Nat} (hJ : J m' M w) (hlt : m' < m := by omega) (hM : Sub L M := by repeat' first | exact zpk0 | refine zpk rfl ?_) : He n (Exit.then (fun a w => ∃ m', m' < m ∧ ∃ M', J m' M' w ∧ Frd a n ds M') Q) .normal ds L w :=
  fun a hF => ⟨m', hlt, M, hJ, hF.sub hM⟩
theorem henM {f : FuncId} {fn : Func} {vs : List Value} {R : Ending → World → Prop} (hf : P.funcs[f]? = some fn) (hn : fn.ntmps = n) (K : ∀ w, Sat w0 w [] → Hc P none n (bodyPostM (FZ none) 0 P fn R) x [] (num 0 vs) w) (hb : fn.body = some x := by exact rfl) (hv : Nat.ble vs.length n = true := by exact rfl) : Calls P f vs.toArray w0 R :=
  FZ_calls' (r := none) (n := 0) (callsIn_of_wp_marks hf hb trivial (by
    rw [hn]
    exact K _ (Sat.start w0) _ ((Fr.enter (vs := vs.toArray) (by simpa using Nat.le_of_ble_eq_true hv) fun t v ht => by have := (lk_num vs 0 t v ht).2; simpa using this))))
theorem henI {f : FuncId} {fn : Func} {vs : List Value} {R : Ending → World → Prop} (hf : P.funcs[f]? = some fn) (hn : fn.ntmps = n) (K : Hc P none n (bodyPost P fn R) x [] (num 0 vs) w) (hb : fn.body = some x := by exact rfl) (hv : Nat.ble vs.length n = true := by exact rfl) : Calls P f vs.toArray w R :=
  enter hf hb hn hv fun a hF => (wpIn_wide (n := 0)).1 (K a hF)
def Frame.obj (g : Nat) (o : Obj) : Frame where
  holds w := w.heap[g]? = some o
  has k := k = g
  keep h hk := (hk g rfl).trans h
  lt h hg := by rw [hg]; exact (Array.getElem?_eq_some_iff.1 h).1
abbrev dfE (D : Nat) (b : Bool) : Ent := .sem (Frame.obj D (.deferred (if b then some [] else none)))
def mrk (D : Nat) : Deferred := { target := .collected D, args := #[] }
theorem Sat.putObj {l1 l2 : List Ent} {g : Nat} {o o' : Obj} (h : Sat w0 w (l1 ++ .sem (Frame.obj g o) :: l2)) : Sat w0 (w.putObj g o') (l1 ++ .sem (Frame.obj g o') :: l2) := by
  have hg : w.heap[g]? = some o := h.get
  refine h.turn (d := .sem (Frame.obj g o)) (fun k _ hk => World.putObj_heap_other (fun e => hk e)) rfl rfl rfl (by simp) ?_ (fun _ h => .inl h)
  exact World.putObj_heap_same (Array.getElem?_eq_some_iff.1 hg).1
theorem hmk1 {fn : Func} {R : Ending → World → Prop} {E : List Ent} {D : Nat} (i : Nat) (hS : Sat w0 w E) (K : ∀ w', Sat w0 w' (E.set i (dfE D false)) → Ge n [] (bodyPost P fn R) .ret L w') (hi : E[i]? = some (dfE D true) := by exact rfl) : He n (bodyPostM (FZ none) 0 P fn R) .ret [mrk D] L w := fun a hF => by
  have e := hF.defers
  show LeavesInM _ _ _ _ _ _ a.defers _ _
  rw [e]
  have hD : w.heap[D]? = some (.deferred (some [])) := hS.holds _ (List.mem_of_getElem? hi)
  refine ⟨by simp, .inl ⟨D, _, rfl, run_takeDeferred hD, ?_⟩⟩
  have h1 : Sat w0 (w.putObj D (.deferred none)) (E.set i (dfE D false)) := by
    have h' := hS
    rw [split_at hi] at h'
    rw [set_at hi]
    exact h'.putObj
  obtain ⟨_, v, h2, h3⟩ := K _ h1 { a with defers := [] } ⟨hF.size, rfl, hF.get⟩
  exact ⟨v, h2, h3⟩
end
theorem hasg {J : List (Nat × Value) → List Ent → Prop} {F : List Ent → List Ent} {Q : Exit → Act → World → Prop} {w w0 : World} {n : Nat} {L M : List (Nat × Value)} {es : List Ent} (hJ : J M es) (hS : Sat w0 w (F es)) (hM : Sub L M := by repeat' first | exact zpk0 | refine zpk rfl ?_) :
    Ge n [] (Exit.then (fun a w' => ∃ M es, J M es ∧ Frd a n [] M ∧ Sat w0 w' (F es)) Q) .normal L w := fun a hF => ⟨M, es, hJ, hF.sub hM, hS⟩
theorem zfc2 {P : Program} {L : List (Nat × Value)} {w : World} {n : Nat} {fn : Func} {R : Ending → World → Prop} {T1 T2 : TypeId} {s1 s2 : Nat} {a1 a2 : Addr} {v1 v2 : Value} (t1 : plainT P T1 = true) (t2 : plainT P T2 = true) (c1 : w.cell? a1 = some v1) (c2 : w.cell? a2 = some v2) (h : R (.returned (.tuple #[v1, v2])) w)
    (hr : fn.results = #[.cell s1 T1, .cell s2 T2] := by exact rfl) (h1 : lk L s1 = some (.pointer (some a1)) := by exact rfl) (h2 : lk L s2 = some (.pointer (some a2)) := by exact rfl) : Ge n [] (bodyPost P fn R) .ret L w := fun a hF => by
  refine ⟨hF.defers, _, ?_, h⟩
  obtain ⟨⟨_, _, q1⟩, _⟩ := plain_of (w := w) t1
  obtain ⟨⟨_, _, q2⟩, _⟩ := plain_of (w := w) t2
  have e1 := hF.get s1 _ h1
  have e2 := hF.get s2 _ h2
  rw [Array.getD_eq_getD_getElem?] at e1 e2
  simp [results, hr, e1, e2, asAddr, loadVar, q1, q2, c1, c2]
theorem perm_of {l m : List Ent} (h : ∀ f : Ent → Nat, (l.map f).sum = (m.map f).sum) : l.Perm m := by
  classical
  rw [List.perm_iff_count]
  intro z
  have := h (fun x => if x = z then 1 else 0)
  have e : ∀ l : List Ent, (l.map fun x => if x = z then 1 else 0).sum = l.count z := fun l => by
    induction l with
    | nil => rfl
    | cons x l ih =>
      rw [List.map_cons, List.sum_cons, ih, List.count_cons]
      by_cases hx : x = z
      · subst hx; simp; omega
      · simp [hx]
  rw [e, e] at this
  exact this
section
variable {P : Program} {Q : Exit → Act → World → Prop} {w w' w0 : World} {n : Nat} {L : List (Nat × Value)} {ds : List Deferred}
def zipL : List Nat → List Value → List (Nat × Value) → List (Nat × Value)
  | t :: ts, v :: vs, L => zipL ts vs ((t, v) :: L)
  | _, _, L => L
theorem zipL_fr {a : Act} : ∀ (ts : List Nat) (vs : List Value) (T : Array Value) {L : List (Nat × Value)}, Frd { tmps := T, defers := [] } n [] L → (ts.all fun t => Nat.blt t n) = true →
    Frd { tmps := (ts.zip vs).foldl (fun t (p : Nat × Value) => t.setIfInBounds p.1 p.2) T, defers := [] } n [] (zipL ts vs L)
  | [], vs, T, L, h, _ => by simpa [zipL] using h
  | t :: ts, [], T, L, h, _ => by simpa [zipL] using h
  | t :: ts, v :: vs, T, L, h, hb => by
    simp only [List.all_cons, Bool.and_eq_true] at hb
    have h1 := h.put (by simpa [Nat.blt_eq] using hb.1) v
    simp only [List.zip_cons_cons, List.foldl_cons, zipL]
    exact zipL_fr (a := a) ts vs _ h1 hb.2
def rdQ {St Tt : Type} (w0 : World) (C : St → List Ent) (D : Tt → List Ent) (jc : Tt → Code) (Sh : List Ent) (N : St → Prop) (S : Tt → Prop) (rest : Frame) : Exit → Act → World → Prop
  | .normal, _, w' => ∃ s', N s' ∧ Sat w0 w' (C s' ++ (Sh ++ [.sem rest]))
  | .ret, _, w' => ∃ t, S t ∧ jc t = .ret ∧ Sat w0 w' (D t ++ (Sh ++ [.sem rest]))
  | .exit id, _, w' => ∃ t, S t ∧ jc t = .exit id ∧ Sat w0 w' (D t ++ (Sh ++ [.sem rest]))
  | _, _, _ => False
theorem hrdN {St Tt : Type} {w0 w : World} {C : St → List Ent} {D : Tt → List Ent} {jc : Tt → Code} {Sh : List Ent} {N : St → Prop} {S : Tt → Prop} {rest : Frame} {n : Nat} {L : List (Nat × Value)} (s' : St) (hN : N s') (hS : Sat w0 w (C s' ++ (Sh ++ [.sem rest]))) : Ge n [] (rdQ w0 C D jc Sh N S rest) .normal L w := fun _ _ => ⟨s', hN, hS⟩
theorem hrdR {St Tt : Type} {w0 w : World} {C : St → List Ent} {D : Tt → List Ent} {jc : Tt → Code} {Sh : List Ent} {N : St → Prop} {S : Tt → Prop} {rest : Frame} {n : Nat} {L : List (Nat × Value)} (t : Tt) (hN : S t) (hj : jc t = .ret) (hS : Sat w0 w (D t ++ (Sh ++ [.sem rest]))) : Ge n [] (rdQ w0 C D jc Sh N S rest) .ret L w := fun _ _ => ⟨t, hN, hj, hS⟩
def exitOf : Code → Exit
  | .ret => .ret
  | .exit id => .exit id
  | _ => .normal
theorem Sat.unbun {l1 l2 l3 : List Ent} (h : Sat w0 w (l1 ++ .sem (Frame.bun l2) :: l3)) : Sat w0 w (l1 ++ (l2 ++ l3)) := h.unbundle
end
end Go.Proofs.Gw
namespace Go.Proofs.Gw
open Go Go.RowKit
section
variable {P : Program} {l rest : List Oper} {Q Q' : Exit → Act → World → Prop} {w w' w0 : World} {o : Oper} {n d fuel i : Nat} {L M : List (Nat × Value)} {x y : Code} {c : Operand} {e : Exit} {p : Prop} {r : Option Nat} {ds : List Deferred} {listed : Array Bool} {K : Act → World → Prop}
def Hd (P : Program) (r : Option Nat) (n : Nat) (l : List Oper) (Q : Exit → Act → World → Prop) (fuel : Nat) (listed : Array Bool) (ds : List Deferred) (L : List (Nat × Value)) (w : World) : Prop := ∀ a, Frd a n ds L → wpAnyIn (FZ r) 0 P .any l.toArray Q fuel listed a w
def Ho (P : Program) (r : Option Nat) (n : Nat) (l : List Oper) (Q : Exit → Act → World → Prop) (o : Oper) (K : Act → World → Prop) (ds : List Deferred) (L : List (Nat × Value)) (w : World) : Prop := ∀ a, Frd a n ds L → if Region.wanted o (yielded l.toArray a.tmps) = true then o.wpIn (FZ r) 0 P a w K Q else (∀ f, o.about P w a.eval = some f → (FZ r).fn f) ∧ K (a.put o.dst undef) w
theorem Ho.op {i : Nat} (h : Ho P r n l Q o K ds L w) (ho : l[i]? = some o) {a : Act} (hF : Frd a n ds L) : wpOpIn (FZ r) 0 P l.toArray Q i K a w := by
  unfold wpOpIn
  rw [show l.toArray[i]? = some o by simpa using ho]
  exact h a hF
theorem hdr {id : Nat} {m : List Ent} (fuel : Nat) (hm : P.follows .mixedOrders = true) (hS : Sat w0 w m) (K : ∀ w, Sat w0 w m → Hd P r n l Q fuel (Array.replicate fuel false) ds L w) (hn : l.length = fuel := by exact rfl) : Hc P r n Q (.region id l.toArray true) ds L w := fun a hF => by
  subst hn
  exact wpIn_region_any hm (by have := K _ hS.draw a hF; simpa using this)
theorem hd0 (h : He n Q .normal ds L w) (hr : Region.ready .any l.toArray listed = [] := by kernel_rfl) : Hd P r n l Q fuel listed ds L w := fun a hF => wpAnyIn_done hr (h a hF) _
theorem hd1 (i : Nat) {o : Oper} (h : Ho P r n l Q o (wpAnyIn (FZ r) 0 P .any l.toArray Q fuel (listed.setIfInBounds i true)) ds L w) (hr : Region.ready .any l.toArray listed = [i] := by kernel_rfl) (ho : l[i]? = some o := by exact rfl) : Hd P r n l Q (fuel + 1) listed ds L w := fun a hF =>
  wpAnyIn_all hr (by simp) fun j hj => by obtain rfl : j = i := by simpa using hj
                                          exact h.op ho hF
theorem hd2 (i j : Nat) {o o' : Oper} (hi : Ho P r n l Q o (wpAnyIn (FZ r) 0 P .any l.toArray Q fuel (listed.setIfInBounds i true)) ds L w) (hj : Ho P r n l Q o' (wpAnyIn (FZ r) 0 P .any l.toArray Q fuel (listed.setIfInBounds j true)) ds L w) (hr : Region.ready .any l.toArray listed = [i, j] := by kernel_rfl) (ho : l[i]? = some o := by exact rfl) (ho' : l[j]? = some o' := by exact rfl) : Hd P r n l Q (fuel + 1) listed ds L w := fun a hF =>
  wpAnyIn_all hr (by simp) fun k hk => by
    rcases List.mem_cons.1 hk with rfl | hk
    · exact hi.op ho hF
    · obtain rfl : k = j := by simpa using hk
      exact hj.op ho' hF
theorem hov {v : Value} (hr : Runs P L w o (.value v) w') (K : Hd P r n l Q fuel listed ds ((d, v) :: L) w') (hg : gdB l L o = some true := by exact rfl) (hd : o.dst = some d := by exact rfl) (hdn : Nat.blt d n = true := by exact rfl) (hn : ndf o = true := by exact rfl) : Ho P r n l Q o (wpAnyIn (FZ r) 0 P .any l.toArray Q fuel listed) ds L w := fun a hF => by
  rw [if_pos (hwant hF hg)]
  refine ⟨fun _ _ => trivial, ?_⟩
  rw [ndf_sem hn, hr _ hF.agr, Oper.uponIn_value, hd]
  exact K _ (hF.put (by simpa [Nat.blt_eq] using hdn) v)
theorem hof (K : Hd P r n l Q fuel listed ds ((d, undef) :: L) w) (hg : gdB l L o = some false := by exact rfl) (hd : o.dst = some d := by exact rfl) (hdn : Nat.blt d n = true := by exact rfl) : Ho P r n l Q o (wpAnyIn (FZ r) 0 P .any l.toArray Q fuel listed) ds L w := fun a hF => by
  rw [if_neg (by rw [hwant hF hg]; simp)]
  refine ⟨fun _ _ => trivial, ?_⟩
  rw [hd]
  exact K _ (hF.put (by simpa [Nat.blt_eq] using hdn) undef)
theorem hoc {f : FuncId} {args : Array Value} {R : Value → World → Prop} (hr : Runs P L w o (.enter f args) w) (hc : Calls P f args w fun e w' => ∃ v, e = .returned v ∧ R v w') (K : ∀ v w', R v w' → Hd P r n l Q fuel listed ds ((d, v) :: L) w')
    (hg : gdB l L o = some true := by exact rfl) (hd : o.dst = some d := by exact rfl) (hdn : Nat.blt d n = true := by exact rfl) (hn : ndf o = true := by exact rfl) : Ho P r n l Q o (wpAnyIn (FZ r) 0 P .any l.toArray Q fuel listed) ds L w := fun a hF => by
  rw [if_pos (hwant hF hg)]
  refine ⟨fun _ _ => trivial, ?_⟩
  rw [ndf_sem hn, hr _ hF.agr, Oper.uponIn_enter]
  refine ⟨fun h => (by cases h), FZ_calls (hc.mono fun e w' ⟨v, he, hR⟩ => ?_)⟩
  subst he
  rw [hd]
  exact K v w' hR _ (hF.put (by simpa [Nat.blt_eq] using hdn) v)
theorem hoy {l0 : Nat} {xs : Array Operand} {ts : Array TypeId} {vs : List Value} {z : Operand} {R : Value → World → Prop} (hY : Yld P l0 vs w R) (K : ∀ v w', R v w' → Hd P r n l Q fuel listed ds ((d, v) :: L) w')
    (hop : o.op = .call { callee := .value z, args := xs, argTypes := ts } := by exact rfl) (hx : evL L z = some (.func (.yield l0) #[] #[]) := by exact rfl) (ha : Args L xs vs := by repeat' first | exact args0 | apply args_cons rfl)
    (hg : gdB l L o = some true := by exact rfl) (hd : o.dst = some d := by exact rfl) (hdn : Nat.blt d n = true := by exact rfl) : Ho P r n l Q o (wpAnyIn (FZ r) 0 P .any l.toArray Q fuel listed) ds L w := fun a hF => by
  obtain ⟨fn, tmps, assign, body, hy, hR⟩ := hY
  have hr := xyl (P := P) (L := L) (o := o) hy hop hx ha
  rw [if_pos (hwant hF hg)]
  refine ⟨fun _ _ => trivial, ?_⟩
  rw [ndf_sem (by unfold ndf; rw [hop]), hr _ hF.agr, Oper.uponIn_round]
  refine ⟨fun h => (by cases h), (show RoundIn (FZ r) (0 - 1) P l0 fn tmps assign body w fun e w' => ∃ v, e = .returned v ∧ R v w' from hR).mono fun e w' ⟨v, he, hR⟩ => ?_⟩
  subst he
  rw [hd]
  exact K v w' hR _ (hF.put (by simpa [Nat.blt_eq] using hdn) v)
end
end Go.Proofs.Gw
namespace Go.Proofs.Gw
open Go Go.RowKit
section
variable {P : Program} {Q : Exit → Act → World → Prop} {w w' w0 : World} {n : Nat} {L : List (Nat × Value)} {ds : List Deferred}
def ItG {St X Tt : Type} (P : Program) (w0 : World) (gf : FuncId) (lb : List Value) (Sh : List Ent) (enc : X → List Value) (Gx : X → List Ent) (Pre : St → X → Frame → Prop) (Nx : St → X → St → Prop) (Sx : St → X → Tt → Prop) (s0 : St) (Fin : St → Frame → Prop) (FinX : Tt → Frame → Prop) : Prop :=
  ∀ (l : Nat) (C : St → Frame) (D : Tt → Frame) (w : World), Sat w0 w (.sem (C s0) :: Sh) →
    (∀ s x rest w, Pre s x rest → Sat w0 w (.sem (C s) :: (Sh ++ (Gx x ++ [.sem rest]))) → Yld P l (enc x) w fun v w' =>
      (v = .bool true ∧ ∃ s', Nx s x s' ∧ Sat w0 w' (.sem (C s') :: (Sh ++ [.sem rest]))) ∨ (v = .bool false ∧ ∃ t, Sx s x t ∧ Sat w0 w' (.sem (D t) :: (Sh ++ [.sem rest])))) →
    Calls P gf (.func (.yield l) #[] #[] :: lb).toArray w fun e w' => ∃ v, e = .returned v ∧
      ((∃ s rest, Fin s rest ∧ Sat w0 w' (.sem (C s) :: (Sh ++ [.sem rest]))) ∨ (∃ t rest, FinX t rest ∧ Sat w0 w' (.sem (D t) :: (Sh ++ [.sem rest]))))
theorem hrfG {St X Tt : Type} {gf : FuncId} {lb : List Value} {g : Operand} {ps : Array Tmp} {assign body : Code} {Sh : List Ent} {enc : X → List Value} {Gx : X → List Ent} {Pre : St → X → Frame → Prop} {Nx : St → X → St → Prop} {Sx : St → X → Tt → Prop} {Fin : St → Frame → Prop} {FinX : Tt → Frame → Prop}
    (C : St → List Ent) (D : Tt → List Ent) (jc : Tt → Code) (s0 : St) (J : X → List (Nat × Value) → List Ent → Prop) (hit : ItG P w0 gf lb Sh enc Gx Pre Nx Sx s0 Fin FinX) (hS : Sat w0 w (C s0 ++ Sh)) (hcl : calledT P gf = true)
    (hpl : ∀ x, (enc x).length = ps.size) (hjc : ∀ t, jc t = .ret ∨ ∃ id, jc t = .exit id)
    (hassign : ∀ l s x rest w, Pre s x rest → ∀ rest', (∀ w, rest'.holds w → rest.holds w) → Sat w0 w (C s ++ (Sh ++ (.sem rest' :: Gx x))) → Hc P (some l) n (Exit.then (fun a w' => ∃ M es, J x M es ∧ Frd a n [] M ∧ Sat w0 w' (C s ++ (Sh ++ (.sem rest' :: es)))) (fun _ _ _ => False)) assign [] (zipL ps.toList (enc x) L) w)
    (hbody : ∀ l s x M es rest w, Pre s x rest → J x M es → ∀ rest', (∀ w, rest'.holds w → rest.holds w) → Sat w0 w (C s ++ (Sh ++ (.sem rest' :: es))) → Hc P (some l) n (rdQ w0 C D jc Sh (Nx s x) (Sx s x) rest') body [] M w)
    (hdone : ∀ Dk s rest w', Fin s rest → Sat w0 w' (C s ++ (Sh ++ [.sem rest, dfE Dk true])) → He n Q .normal (mrk Dk :: ds) L w')
    (hstop : ∀ Dk t rest w', FinX t rest → Sat w0 w' (D t ++ (Sh ++ [.sem rest, dfE Dk true])) → He n Q (exitOf (jc t)) (mrk Dk :: ds) L w')
    (hg : evL L g = some (.func (.func gf) #[] lb.toArray) := by exact rfl) (hpb : (ps.toList.all fun t => Nat.blt t n) = true := by exact rfl) : Hc P none n Q (.rangeFunc g ps assign body) ds L w := by
  intro a hF
  refine wpIn_rangeFunc ?_
  intro fn hfn
  obtain ⟨rec, hrec⟩ : ∃ rec : LoopState → Option Code → Loop, rec = fun st pe => { state := st, pending := pe, fn, tmps := a.tmps, params := ps, assign, body, defers := w.heap.size } := ⟨_, rfl⟩
  obtain ⟨W1, hW1⟩ : ∃ W1, (w.alloc (.deferred (some []))).alloc (.loop (rec .ready none)) = W1 := ⟨_, rfl⟩
  obtain ⟨l, hl⟩ : ∃ l, w.heap.size + 1 = l := ⟨_, rfl⟩
  obtain ⟨Dk, hDk⟩ : ∃ Dk, w.heap.size = Dk := ⟨_, rfl⟩
  have hS1 : Sat w0 W1 ((C s0 ++ Sh) ++ [dfE Dk true] ++ [.sem (Frame.obj l (.loop (rec .ready none)))]) := by
    rw [← hW1]
    refine (hS.alloc _ (e := dfE Dk true) ?_ ?_).alloc _ (e := .sem (Frame.obj l (.loop (rec .ready none)))) ?_ ?_
    · rw [← hDk]; exact heap_alloc_new w _
    · intro g hg; rw [← hDk] at hg; exact hg
    · have := heap_alloc_new (w.alloc (.deferred (some []))) (.loop (rec .ready none))
      rw [World.size_alloc, hl] at this; exact this
    · intro g hg; rw [World.size_alloc, hl]; exact hg
  have eval : a.eval g = .func (.func gf) #[] lb.toArray := hF.agr _ _ hg
  have hfun : ∃ fnn, P.funcs[gf]? = some fnn ∧ fnn.body.isSome = true ∧ (fnn.name == "runtime.NumGoroutine") = false := by
    unfold calledT at hcl
    cases hf : P.funcs[gf]? with
    | none => simp [hf] at hcl
    | some fnn =>
      simp only [hf, Bool.and_eq_true, Bool.not_eq_true'] at hcl
      exact ⟨fnn, rfl, hcl.1, hcl.2⟩
  obtain ⟨fnn, hf1, hf2, hf3⟩ := hfun
  have hf2' : fnn.body ≠ none := by intro e; rw [e] at hf2; simp at hf2
  have hf3' : fnn.name ≠ "runtime.NumGoroutine" := by simpa using hf3
  let C' : St → Frame := fun s => Frame.bun (C s ++ [.sem (Frame.obj l (.loop (rec .ready none))), dfE Dk true])
  let D' : Tt → Frame := fun t => Frame.bun (D t ++ [.sem (Frame.obj l (.loop (rec .done (some (jc t))))), dfE Dk true])
  have hS2 : Sat w0 W1 (.sem (C' s0) :: Sh) := by
    have h1 : Sat w0 W1 (Sh ++ (C s0 ++ [.sem (Frame.obj l (.loop (rec .ready none))), dfE Dk true])) := hS1.perm (perm_of fun f => by simp only [List.map_append, List.map_cons, List.map_nil, List.sum_append, List.sum_cons, List.sum_nil]; omega)
    have h2 := h1.bundle
    exact h2.perm List.perm_append_comm
  refine ⟨l, [mrk Dk], W1, { target := .fn (.func gf) lb.toArray, args := #[.func (.yield l) #[] #[]] }, W1, gf, #[.func (.yield l) #[] #[]] ++ lb.toArray, W1, ?_, ?_, ?_, ?_, fun h => (by cases h), ?_⟩
  · rw [← hW1, hrec, ← hl, ← hDk]; exact run_enterLoop_outer _ _ _ _ _
  · simp only [resolve, eval]
    simp [go_sem]
  · intro f' hf'; trivial
  · simp [invoke, go_sem, callFunc, hf1, hf2', hf3']
  have eargs : (#[.func (.yield l) #[] #[]] ++ lb.toArray : Array Value) = (.func (.yield l) #[] #[] :: lb).toArray := by simp
  rw [eargs]
  refine FZ_calls ((hit l C' D' W1 hS2 ?_).mono ?_)
  · 
    intro s x rest W hpre hSW
    have h1 : Sat w0 W (C s ++ (Sh ++ (Gx x ++ [.sem rest, .sem (Frame.obj l (.loop (rec .ready none))), dfE Dk true]))) := by
      have := Sat.unbun (l1 := []) hSW
      exact this.perm (perm_of fun f => by simp only [List.map_append, List.map_cons, List.map_nil, List.sum_append, List.sum_cons, List.sum_nil]; omega)
    have hlr : W.heap[l]? = some (.loop (rec .ready none)) := h1.holds (.sem (Frame.obj l (.loop (rec .ready none)))) (by simp)
    have hy := run_yield (P := P) (args := (enc x).toArray) hlr (by rw [hrec]; simp [hpl x])
    rw [hrec] at hy
    refine ⟨fn, _, assign, body, hy, roundIn_of_wpIn trivial ?_⟩
    clear hy
    let r1 : Frame := Frame.bun [.sem rest, .sem (Frame.obj l (.loop (rec .ready none))), dfE Dk true]
    have h2 : Sat w0 W (C s ++ (Sh ++ (.sem r1 :: Gx x))) := by
      have h1b : Sat w0 W ((C s ++ (Sh ++ Gx x)) ++ [.sem r1]) := by
        have h1c : Sat w0 W ((C s ++ (Sh ++ Gx x)) ++ [.sem rest, .sem (Frame.obj l (.loop (rec .ready none))), dfE Dk true]) := by
          rw [List.append_assoc, List.append_assoc]; exact h1
        exact h1c.bundle
      exact h1b.perm (perm_of fun f => by simp only [List.map_append, List.map_cons, List.map_nil, List.sum_append, List.sum_cons, List.sum_nil]; omega)
    have hfr : Frd { tmps := (ps.zip (enc x).toArray).foldl (fun t (p, v) => t.setIfInBounds p v) a.tmps, defers := [] } n [] (zipL ps.toList (enc x) L) := by
      have := zipL_fr (a := a) (n := n) ps.toList (enc x) a.tmps (L := L) ⟨hF.size, rfl, hF.get⟩ hpb
      have e : (ps.zip (enc x).toArray).foldl (fun t (p, v) => t.setIfInBounds p v) a.tmps = (ps.toList.zip (enc x)).foldl (fun t (p : Nat × Value) => t.setIfInBounds p.1 p.2) a.tmps := by
        rw [← Array.foldl_toList, Array.toList_zip]
      rw [e]; exact this
    refine Go.wpIn_mono (hassign l s x rest W hpre r1 (fun w h => h.1 (.sem rest) (by simp)) h2 _ hfr) ?_
    intro e a1 Wa hp
    cases e <;> try exact hp.elim
    obtain ⟨M, es, hJ, hFM, hSa⟩ := hp
    have h3 : Sat w0 Wa ((C s ++ (Sh ++ ([.sem rest] ++ es)) ++ [dfE Dk true]) ++ .sem (Frame.obj l (.loop (rec .ready none))) :: []) := by
      have := Sat.unbun (l1 := C s ++ Sh) (l3 := es) (by rw [List.append_assoc]; exact hSa)
      exact this.perm (perm_of fun f => by simp only [List.map_append, List.map_cons, List.map_nil, List.sum_append, List.sum_cons, List.sum_nil]; omega)
    have hlr : Wa.heap[l]? = some (.loop (rec .ready none)) := h3.get
    refine ⟨_, run_beginRound hlr (by rw [hrec]), ?_⟩
    have h4 := h3.putObj (o' := .loop { rec .ready none with state := .busy })
    let r2 : Frame := Frame.bun [.sem rest, .sem (Frame.obj l (.loop { rec .ready none with state := .busy })), dfE Dk true]
    have h5 : Sat w0 (Wa.putObj l (.loop { rec .ready none with state := .busy })) (C s ++ (Sh ++ (.sem r2 :: es))) := by
      have h : Sat w0 (Wa.putObj l (.loop { rec .ready none with state := .busy })) ((C s ++ (Sh ++ es)) ++ [.sem rest, .sem (Frame.obj l (.loop { rec .ready none with state := .busy })), dfE Dk true]) := by
        exact h4.perm (perm_of fun f => by simp only [List.map_append, List.map_cons, List.map_nil, List.sum_append, List.sum_cons, List.sum_nil]; omega)
      have hb : Sat w0 (Wa.putObj l (.loop { rec .ready none with state := .busy })) ((C s ++ (Sh ++ es)) ++ [.sem r2]) := h.bundle
      exact hb.perm (perm_of fun f => by simp only [List.map_append, List.map_cons, List.map_nil, List.sum_append, List.sum_cons, List.sum_nil]; omega)
    refine Go.wpIn_mono (hbody l s x M es rest _ hpre hJ r2 (fun w h => h.1 (.sem rest) (by simp)) h5 _ hFM) ?_
    have fin : ∀ (jump : Option Code) (A : List Ent) (W3 : World), Sat w0 W3 (A ++ (Sh ++ [.sem r2])) →
        (Instr.endRound l jump).run P W3 = .ok (.bool jump.isNone) (W3.putObj l (.loop (rec (if jump.isNone then .ready else .done) jump))) ∧
        Sat w0 (W3.putObj l (.loop (rec (if jump.isNone then .ready else .done) jump))) (.sem (Frame.bun (A ++ [.sem (Frame.obj l (.loop (rec (if jump.isNone then .ready else .done) jump))), dfE Dk true])) :: (Sh ++ [.sem rest])) := fun jump A W3 hA => by
      have h6 : Sat w0 W3 ((Sh ++ [.sem rest] ++ (A ++ [dfE Dk true])) ++ .sem (Frame.obj l (.loop { rec .ready none with state := .busy })) :: []) := by
        have := Sat.unbun (l1 := A ++ Sh) (l3 := []) (by rw [List.append_assoc]; exact hA)
        exact this.perm (perm_of fun f => by simp only [List.map_append, List.map_cons, List.map_nil, List.sum_append, List.sum_cons, List.sum_nil]; omega)
      have hlb : W3.heap[l]? = some (.loop { rec .ready none with state := .busy }) := h6.get
      have hr := run_endRound (P := P) jump hlb
      have h7 := h6.putObj (o' := .loop (rec (if jump.isNone then .ready else .done) jump))
      refine ⟨by rw [hrec] at hr ⊢; exact hr, ?_⟩
      have h8 : Sat w0 (W3.putObj l (.loop (rec (if jump.isNone then .ready else .done) jump))) ((Sh ++ [.sem rest]) ++ (A ++ [.sem (Frame.obj l (.loop (rec (if jump.isNone then .ready else .done) jump))), dfE Dk true])) := by
        exact h7.perm (perm_of fun f => by simp only [List.map_append, List.map_cons, List.map_nil, List.sum_append, List.sum_cons, List.sum_nil]; omega)
      exact h8.bundle.perm List.perm_append_comm
    intro e a3 W3 hp
    cases e with
    | normal =>
      obtain ⟨s', hn, hA⟩ := hp
      obtain ⟨hr, h6⟩ := fin none _ _ hA
      exact ⟨_, _, hr, _, rfl, .inl ⟨rfl, s', hn, h6⟩⟩
    | ret =>
      obtain ⟨t, hn, hj, hA⟩ := hp
      obtain ⟨hr, h6⟩ := fin (some .ret) _ _ hA
      refine ⟨_, _, hr, _, rfl, .inr ⟨rfl, t, hn, ?_⟩⟩
      simp only [D', hj]; exact h6
    | exit id =>
      obtain ⟨t, hn, hj, hA⟩ := hp
      obtain ⟨hr, h6⟩ := fin (some (.exit id)) _ _ hA
      refine ⟨_, _, hr, _, rfl, .inr ⟨rfl, t, hn, ?_⟩⟩
      simp only [D', hj]; exact h6
    | goto t => exact hp.elim
    | panic ch => exact hp.elim
    | outgrown => exact hp.elim
  · 
    have out : ∀ (st : LoopState) (pe : Option Code) (A : List Ent) (rest : Frame) (W2 : World), st ≠ .busy → Sat w0 W2 (.sem (Frame.bun (A ++ [.sem (Frame.obj l (.loop (rec st pe))), dfE Dk true])) :: (Sh ++ [.sem rest])) →
        (Instr.endLoop l).run P W2 = .ok pe (W2.putObj l (.loop { rec st pe with state := .exhausted })) ∧ Sat w0 (W2.putObj l (.loop { rec st pe with state := .exhausted })) (A ++ (Sh ++ [.sem rest, dfE Dk true])) := fun st pe A rest W2 hst h => by
      have h1 := Sat.unbun (l1 := []) h
      have h2 : Sat w0 W2 ((A ++ (Sh ++ [.sem rest, dfE Dk true])) ++ .sem (Frame.obj l (.loop (rec st pe))) :: []) := by
        exact h1.perm (perm_of fun f => by simp only [List.map_append, List.map_cons, List.map_nil, List.sum_append, List.sum_cons, List.sum_nil]; omega)
      have hl : W2.heap[l]? = some (.loop (rec st pe)) := h2.get
      have h3 := h2.putObj (o' := .loop { rec st pe with state := .exhausted })
      refine ⟨?_, h3.sub (List.sublist_append_left _ _)⟩
      have := run_endLoop (P := P) hl (by rw [hrec]; exact hst)
      rw [hrec] at this ⊢; exact this
    rintro e W2 ⟨v, rfl, h⟩
    have hF' : ∀ {L'}, Frd a n ds L' → Frd { a with defers := [mrk Dk] ++ a.defers } n (mrk Dk :: ds) L' := fun h => ⟨h.size, by rw [← h.defers]; rfl, h.get⟩
    rcases h with ⟨s, rest, hfin, h⟩ | ⟨t, rest, hfin, h⟩
    · obtain ⟨h1, h2⟩ := out .ready none _ rest W2 (by simp) h
      exact ⟨none, _, h1, hdone Dk s rest _ hfin h2 _ (hF' hF)⟩
    · obtain ⟨h1, h2⟩ := out .done (some (jc t)) _ rest W2 (by simp) h
      refine ⟨some (jc t), _, h1, ?_⟩
      have h3 := hstop Dk t rest _ hfin h2 _ (hF' hF)
      rcases hjc t with hj | ⟨id, hj⟩
      · rw [hj] at h3 ⊢; exact wpIn_ret h3
      · rw [hj] at h3 ⊢; exact wpIn_exit h3
end
end Go.Proofs.Gw
namespace Go.Proofs.Gw
open Go Go.RowKit
noncomputable def Frame.cd (p : Prop) (F G : Frame) : Frame := @ite _ p (Classical.propDecidable p) F G
theorem cd_yes {p : Prop} {F G : Frame} (h : p) : Frame.cd p F G = F := if_pos h
theorem cd_no {p : Prop} {F G : Frame} (h : ¬ p) : Frame.cd p F G = G := if_neg h
structure BX where
  v : Value
  n : Int
  f : Int → Int
theorem upd_triv {f : Int → Int} {i x : Int} (h : f i = x) : upd f i x = f := by
  funext k; unfold upd; split
  · rename_i e; rw [e, h]
  · rfl
theorem upd2_ints (f : Int → Int) (i x y : Int) : upd (ints (upd f i x)) i (.int .i64 y) = ints (upd f i y) := by
  funext k; unfold upd ints; dsimp only; split <;> rfl
end Go.Proofs.Gw
namespace Go.Proofs.YtkichmnjjblodaaGreat
open Go Go.RowKit Go.Proofs.Gw
theorem c_maximal {vL vD : Value} {p : Prob} {wi : Int} (w0 : World) (h : PAt w0 vL vD p) (hp : p.Ok) :
    Calls Tryz.prog 114 [.agg #[vL, vD, .int .i64 p.stock, .int .i64 p.kerf], .int .i64 wi].toArray w0 fun e w => ∃ v, e = .returned v ∧ ∃ g2 g3 g5 g6 vl, v = .func (.func 149) #[] #[.pointer (some ⟨g5, 0, none⟩), .pointer (some ⟨g6, 0, none⟩), .pointer (some ⟨g3, 0, none⟩), .pointer (some ⟨g2, 0, none⟩)] ∧ Slh vl (p.m + 1) ∧ Sat w0 w [.blk g2 [vL, vD, .int .i64 p.stock, .int .i64 p.kerf], .blk g3 [.int .i64 wi], .blk g5 [.int .i64 p.m], .blk g6 [vl], .own vl 1 3 (p.m + 1) (ints (LatI p))] := by
  have hm := h.L.slh.n0; have hm1 := h.L.slh.n1; have hd := h.D.slh.n0; have hd1 := h.D.slh.n1; have hs := h.is; have hk := h.ik
  have hpm := hp.m1; have hpm2 := hp.m2; have hpd := hp.d; have hs1 := hp.s1; have hs2 := hp.s2; have hk1 := hp.k1; have hk2 := hp.k2
  refine zenG Tryz.func114 Tryz.ntmps114 fun w hS => ?_
  refine zsr ?_
  refine zla (xbx (cs := [_, _, _, _]) hS) ?_; rintro _ w ⟨g1, rfl, hS⟩
  replace hS := hS.n1
  refine zla (xbx (cs := [_]) hS) ?_; rintro _ w ⟨g2, rfl, hS⟩
  replace hS := hS.n2
  refine zlv xas ?_
  refine zlz ?_
  refine zlv (xfb 0 fd_32_0) ?_
  refine zlv (xlb 0 pl_22 hS) ?_
  refine zlv (xln sl_22 h.L.slh) ?_
  refine zla (xal (cs := [_]) el_3 hS) ?_; rintro _ w ⟨g3, rfl, hS⟩
  replace hS := hS.n3
  refine zle (xsb 2 pl_3 hS) ?_; clear hS; rintro w hS
  replace hS := hS.n3
  refine zlz ?_
  refine zlv (xlb 2 pl_3 hS) ?_
  refine zlv (xadd (r := p.m + 1)) ?_
  refine zla (xmk sl_22 el_3 hS) ?_; rintro v1 w ⟨hS, hv1⟩
  replace hS := hS.n4
  refine zla (xal (cs := [_]) el_22 hS) ?_; rintro _ w ⟨g4, rfl, hS⟩
  replace hS := hS.n5
  refine zle (xsb 4 pl_22 hS (hv := hv1.one)) ?_; clear hS; rintro w hS
  replace hS := hS.n5
  refine zlt <| zsq <| zsr ?_
  refine zlv (xlb 2 pl_3 hS) ?_
  refine zlv (xsub (r := p.m - 1)) ?_
  refine zlv xas ?_
  refine zlt <| zbk <| zlp (fun mm M w => ∃ (g : Int → Int) (i : Int), mm = ((i + 1).toNat) ∧ (-1 ≤ i) ∧ (i < p.m) ∧ (∀ k, i < k → k ≤ p.m → g k = LatI p k) ∧ M = [(2, .pointer (some ⟨g1, 0, none⟩)), (3, .pointer (some ⟨g2, 0, none⟩)), (4, (Value.nilFunc)), (5, .pointer (some ⟨g3, 0, none⟩)), (6, .pointer (some ⟨g4, 0, none⟩)), (7, .int .i64 i)] ∧ Sat w0 w [.blk g1 [vL, vD, .int .i64 p.stock, .int .i64 p.kerf], .blk g2 [.int .i64 wi], .blk g3 [.int .i64 p.m], .own v1 1 3 (p.m + 1) (ints g), .blk g4 [v1]]) ⟨(fun _ => 0), p.m - 1, rfl, (by omega), (by omega), ?_, rfl, hS⟩ ?_
  ·
   intro k k0 k1; rw [LatI_end (by omega)]
  clear hS w
  rintro mm M w ⟨g, i, rfl, h0, h1, hg, rfl, hS⟩
  refine zsq <| zsr ?_
  refine zs2 ?_
  refine zlt ?_
  refine zcif ?_ ?_ <;> intro hc
  ·
   refine zsk <| ztn <| zsq <| zbk ?_
   refine zdst [0, 1, 2, 3, 4] [0, 1, 2, 4] 18 mx_ hS ?_; clear hS; intro w hS
   refine zdla 0 (fun w hS => (xlb 3 pl_22 hS)) ?_
   refine zdv 1 (fun _ => xmv) ?_
   refine zdla 2 (fun w hS => (xlb 3 pl_22 hS)) ?_
   refine zdv 3 (fun _ => xmv) ?_
   refine zdv 4 (fun _ => (xadd (r := i + 1))) ?_
   refine zdv 5 (fun _ => (xix (kk := i + 1) sl_22 hv1)) ?_
   refine zdl 6 (fun w hS => (xlr (u := .int .i64 (g (i + 1))) pl_3 (hS.rowN 3 rfl))) ?_
   have hei := hp.all i (by omega) (by omega); unfold Prob.each at hei
   have hLn := LatI_nn hp (i := i + 1) (by omega)
   have hgn := hg (i + 1) (by omega) (by omega)
   have hml : 0 ≤ p.D i * (p.L i + p.kerf) ∧ p.D i * (p.L i + p.kerf) ≤ 2100000 := ⟨Int.mul_nonneg (by omega) (by omega), Int.le_trans (Int.mul_le_mul (show p.D i ≤ 1000 by omega) (show p.L i + p.kerf ≤ 2100 by omega) (by omega) (by omega)) (by omega)⟩
   refine zdv 7 (fun _ => (xfb 1 fd_32_1)) ?_
   refine zdla 8 (fun w hS => (xlb 0 pl_22 hS)) ?_
   refine zdv 9 (fun _ => xmv) ?_
   refine zdv 10 (fun _ => (xix (kk := i) sl_22 h.D.slh)) ?_
   refine zdla 11 (fun w hS => (xlr (u := .int .i64 (p.D i)) pl_3 (h.D.below hS.below))) ?_
   have hbv := h.iD i
   refine zdla 12 (fun w hS => (xls 0 st_32 hS)) ?_
   refine zdv 13 (fun _ => xmv) ?_
   refine zdc 14 (xc0 cl_148) (c_size (p := p) (i := i) w (h.below hS.below) hp (by omega) (by omega)) ?_; rintro _ w ⟨rfl, hS'⟩
   replace hS := hS.cmp hS'; clear hS'
   refine ⟨⟨fun _ => hS, hS.pk [0, 1, 2, 4]⟩, ?_⟩
   refine zdv 15 (fun _ => (xmul (r := ((p.D i) * (p.L i + p.kerf))) (e := rfl) (hr := (by unfold I64; omega)))) ?_
   refine zdv 16 (fun _ => (xadd (r := g (i + 1) + ((p.D i) * (p.L i + p.kerf))))) ?_
   refine zdv 17 (fun _ => (xix (kk := i) sl_22 hv1)) ?_
   refine zde 18 (xso 3 pl_3 hS (upd_ints _ _ _)) ?_; clear hS; rintro w hS
   replace hS := hS.n5
   refine ⟨⟨fun h => absurd h (by decide), hS.pk [0, 1, 2, 4]⟩, ?_⟩
   refine zdd <| zbn <| ztn <| zrg ?_
   refine zlv xmv ?_
   refine zlv (xsub (r := i - 1)) ?_
   refine zlv xas ?_
   refine zln <| zlq ⟨(upd g i (g (i + 1) + ((p.D i) * (p.L i + p.kerf)))), i - 1, rfl, (by omega), (by omega), ?_, rfl, hS⟩
   ·
    intro k k0 k1; by_cases e : k = i
    · rw [e, upd_self, LatI_step (by omega) h1, ← hg (i + 1) (by omega) (by omega)]
    · rw [upd_ne _ _ e]; exact hg k (by omega) k1
  refine zxt <| ztx <| ztx <| zbh <| ztn <| zsr ?_
  refine zlv xmf ?_
  refine zlv xas ?_
  refine zlt <| zrt <| zf1 ⟨_, rfl, ?_⟩
  have hi : i = -1 := by omega
  replace hS := hS.recont 3 rfl (d := ints (LatI p)) (fun k k0 k1 => by unfold ints; rw [hg k (by omega) (by omega)])
  exact ⟨_, _, _, _, _, rfl, hv1, hS.pk [0, 1, 2, 4, 3]⟩
end Go.Proofs.YtkichmnjjblodaaGreat
namespace Go.Proofs.YtkichmnjjblodaaGreat
open Go Go.RowKit Go.Proofs.Gw
theorem cl_150 : calledT Tryz.prog 150 = true := by kernel_rfl
theorem cl_65 : calledT Tryz.prog 65 = true := by kernel_rfl
theorem pl_208 : plainT Tryz.prog 208 = true := by kernel_rfl
theorem pl_209 : plainT Tryz.prog 209 = true := by kernel_rfl
theorem c_visit {vL vD : Value} {p : Prob} (hp : p.Ok) {wi : Int} {St Tt : Type} (hist : St → List (Int → Int)) (Inv : St → Prop) (Stp : Tt → Prop) (t0 : Tt) {g2 g3 g5 g6 : Nat} {vl : Value} (hvl : Slh vl (p.m + 1)) {lq : Nat} {C : St → Go.Proofs.Gw.Frame} {D : Tt → Go.Proofs.Gw.Frame} (N : Nat) : ∀ {F : Go.Proofs.Gw.Frame} {s : St} {ga gy gv : Nat} {va : Value} {a : Int → Int} {i l need : Int} {pre post : List (Int → Int)} (w0 w : World) (hS : Sat w0 w [.sem (C s), .blk g2 [vL, vD, .int .i64 p.stock, .int .i64 p.kerf], .blk g3 [.int .i64 wi], .blk g5 [.int .i64 p.m], .blk g6 [vl], .own vl 1 3 (p.m + 1) (ints (LatI p)), .blk ga [va], .own va 1 3 p.m (ints a), .blk gy [.func (.yield lq) #[] #[]], .blk gv [.func (.func 150) #[] #[.pointer (some ⟨g6, 0, none⟩), .pointer (some ⟨g5, 0, none⟩), .pointer (some ⟨ga, 0, none⟩), .pointer (some ⟨gy, 0, none⟩), .pointer (some ⟨g3, 0, none⟩), .pointer (some ⟨g2, 0, none⟩), .pointer (some ⟨gv, 0, none⟩)]], .sem F]) (h : PAt w0 vL vD p) (hva : Slh va p.m) (h0 : 0 ≤ i) (h1 : i ≤ p.m) (hx : Pfx p i a l) (hn : NeedP p a i need) (hI : Inv s) (hh : hist s = pre) (hM : MX p wi = pre ++ (exI p wi i a l ++ post)) (hY : ∀ (s : St) (x : BX) (rest : Go.Proofs.Gw.Frame) (w : World), (fun (s : St) (x : BX) (rest : Go.Proofs.Gw.Frame) => Inv s ∧ Slh x.v x.n ∧ x.n = p.m ∧ ∃ r, MX p wi = hist s ++ x.f :: r) s x rest → Sat w0 w (.sem (C s) :: ([.blk g2 [vL, vD, .int .i64 p.stock, .int .i64 p.kerf], .blk g3 [.int .i64 wi], .blk g5 [.int .i64 p.m], .blk g6 [vl], .own vl 1 3 (p.m + 1) (ints (LatI p))] ++ ((fun (x : BX) => [.own x.v 1 3 x.n (ints x.f)]) x ++ [.sem rest]))) → Yld Tryz.prog lq [x.v] w fun v w' => (v = .bool true ∧ ∃ s', (fun (s : St) (x : BX) (s1 : St) => hist s1 = hist s ++ [x.f] ∧ Inv s1) s x s' ∧ Sat w0 w' (.sem (C s') :: ([.blk g2 [vL, vD, .int .i64 p.stock, .int .i64 p.kerf], .blk g3 [.int .i64 wi], .blk g5 [.int .i64 p.m], .blk g6 [vl], .own vl 1 3 (p.m + 1) (ints (LatI p))] ++ [.sem rest]))) ∨ (v = .bool false ∧ ∃ t, Stp t ∧ Sat w0 w' (.sem (D t) :: ([.blk g2 [vL, vD, .int .i64 p.stock, .int .i64 p.kerf], .blk g3 [.int .i64 wi], .blk g5 [.int .i64 p.m], .blk g6 [vl], .own vl 1 3 (p.m + 1) (ints (LatI p))] ++ [.sem rest])))) (hN : (p.m - i).toNat < N),
    Calls Tryz.prog 150 [.int .i64 i, .int .i64 l, .int .i64 need, .pointer (some ⟨g6, 0, none⟩), .pointer (some ⟨g5, 0, none⟩), .pointer (some ⟨ga, 0, none⟩), .pointer (some ⟨gy, 0, none⟩), .pointer (some ⟨g3, 0, none⟩), .pointer (some ⟨g2, 0, none⟩), .pointer (some ⟨gv, 0, none⟩)].toArray w fun e w => ∃ v, e = .returned v ∧ ∃ (ok : Prop) (s2 : St) (t2 : Tt) (a2 : Int → Int), v = B ok ∧ (ok → a2 = a ∧ Inv s2 ∧ hist s2 = pre ++ exI p wi i a l) ∧ (¬ ok → Stp t2) ∧ Sat w0 w [.sem (Frame.cd ok (C s2) (D t2)), .blk g2 [vL, vD, .int .i64 p.stock, .int .i64 p.kerf], .blk g3 [.int .i64 wi], .blk g5 [.int .i64 p.m], .blk g6 [vl], .own vl 1 3 (p.m + 1) (ints (LatI p)), .blk ga [va], .own va 1 3 p.m (ints a2), .blk gy [.func (.yield lq) #[] #[]], .blk gv [.func (.func 150) #[] #[.pointer (some ⟨g6, 0, none⟩), .pointer (some ⟨g5, 0, none⟩), .pointer (some ⟨ga, 0, none⟩), .pointer (some ⟨gy, 0, none⟩), .pointer (some ⟨g3, 0, none⟩), .pointer (some ⟨g2, 0, none⟩), .pointer (some ⟨gv, 0, none⟩)]], .sem F] := by
  induction N with
  | zero => intros; omega
  | succ N ih =>
    intro F s ga gy gv va a i l need pre post w0 w hS h hva h0 h1 hx hn hI hh hM hY hN
    have hm := h.L.slh.n0; have hm1 := h.L.slh.n1; have hdn := h.D.slh.n0; have hdn1 := h.D.slh.n1; have hs := h.is; have hk := h.ik
    have hpm := hp.m1; have hpm2 := hp.m2; have hpd := hp.d; have hs1 := hp.s1; have hs2 := hp.s2; have hk1 := hp.k1; have hk2 := hp.k2
    have hlx := pfx_le hp hx h0 h1; have hl0 := hx.l0; have hLn := LatI_nn hp h0; have hnt := hn.top
    refine henI Tryz.func150 Tryz.ntmps150 ?_
    refine hsq <| hrz ?_
    refine zlv xas ?_
    refine zln <| zh <| htn <| hsq <| hsq <| hrz ?_
    refine zlv xmv ?_
    refine zlv (xlb 4 pl_22 hS) ?_
    refine zlv xmv ?_
    refine zlv (xix (kk := i) sl_22 hvl) ?_
    refine zlv (xlr (u := .int .i64 (LatI p i)) pl_3 (hS.rowN 5 rfl)) ?_
    refine zlv (xsub (r := l - (LatI p i))) ?_
    refine zs2 ?_
    refine zln <| zh <| htn ?_
    refine hcif ?_ ?_ <;> intro hc
    ·
     refine hsq <| hrz ?_
     refine zlv xas ?_
     refine zln <| zh <| htn <| hrt <| ztr <| zf1 ⟨_, rfl, ?_⟩
     exact ⟨True, s, t0, a, (B_true trivial).symm, fun _ => ⟨rfl, hI, by first | rw [prune hp h0 h1 hx hn (by omega), hh, List.append_nil] | rw [leaf_no (by omega) ‹_›, hh, List.append_nil]⟩, fun hq => absurd trivial hq, by rw [cd_yes trivial]; exact hS.pk [0, 1, 2, 3, 4, 5, 6, 7, 8, 9, 10]⟩
    refine hsk <| htn <| hsq <| hsq <| hrz ?_
    refine zlv xmv ?_
    refine zlv (xlb 3 pl_3 hS) ?_
    refine zlv xeql ?_
    refine zln <| zh <| htn ?_
    refine hcif ?_ ?_ <;> intro hc
    ·
     refine hsq <| hrz ?_
     refine zlv (xlb 6 pl_22 hS) ?_
     refine zlc (xc0 cl_151) (c_comp (n := p.m) (f := a) w (hS.rowN 7 rfl)) ?_; rintro _ w ⟨rfl, hS'⟩
     replace hS := hS.cmp hS'; clear hS'
     refine zs2 ?_
     refine zlb 14 ?_ ?_ <;> intro hc
     ·
      refine zln <| zh <| htn <| hsq ?_
      refine hdr 8 mx_ hS ?_; clear hS; intro w hS
      refine hd1 0 ?_
      refine hov xmv ?_
      refine hd1 1 ?_
      refine hov xmv ?_
      refine hd2 2 3 ?_ ?_
      ·
       refine hof ?_
       refine hd1 3 ?_
       refine hof ?_
       refine hd1 4 ?_
       refine hof ?_
       refine hd1 5 ?_
       refine hof ?_
       refine hd1 6 ?_
       refine hov xpt ?_
       refine hd1 7 ?_
       refine hov xas ?_
       refine hd0 <| htn <| hrt <| ztr <| zf1 ⟨_, rfl, ?_⟩
       exact ⟨True, s, t0, a, (B_true trivial).symm, fun _ => ⟨rfl, hI, by first | rw [prune hp h0 h1 hx hn (by omega), hh, List.append_nil] | rw [leaf_no (by omega) ‹_›, hh, List.append_nil]⟩, fun hq => absurd trivial hq, by rw [cd_yes trivial]; exact hS.pk [0, 1, 2, 3, 4, 5, 6, 7, 8, 9, 10]⟩
      ·
       refine hof ?_
       refine hd2 2 4 ?_ ?_
       ·
        refine hof ?_
        refine hd1 4 ?_
        refine hof ?_
        refine hd1 5 ?_
        refine hof ?_
        refine hd1 6 ?_
        refine hov xpt ?_
        refine hd1 7 ?_
        refine hov xas ?_
        refine hd0 <| htn <| hrt <| ztr <| zf1 ⟨_, rfl, ?_⟩
        exact ⟨True, s, t0, a, (B_true trivial).symm, fun _ => ⟨rfl, hI, by first | rw [prune hp h0 h1 hx hn (by omega), hh, List.append_nil] | rw [leaf_no (by omega) ‹_›, hh, List.append_nil]⟩, fun hq => absurd trivial hq, by rw [cd_yes trivial]; exact hS.pk [0, 1, 2, 3, 4, 5, 6, 7, 8, 9, 10]⟩
       ·
        refine hof ?_
        refine hd1 2 ?_
        refine hof ?_
        refine hd1 5 ?_
        refine hof ?_
        refine hd1 6 ?_
        refine hov xpt ?_
        refine hd1 7 ?_
        refine hov xas ?_
        refine hd0 <| htn <| hrt <| ztr <| zf1 ⟨_, rfl, ?_⟩
        exact ⟨True, s, t0, a, (B_true trivial).symm, fun _ => ⟨rfl, hI, by first | rw [prune hp h0 h1 hx hn (by omega), hh, List.append_nil] | rw [leaf_no (by omega) ‹_›, hh, List.append_nil]⟩, fun hq => absurd trivial hq, by rw [cd_yes trivial]; exact hS.pk [0, 1, 2, 3, 4, 5, 6, 7, 8, 9, 10]⟩
     refine zln <| zh <| htn <| hsq ?_
     refine hdr 8 mx_ hS ?_; clear hS; intro w hS
     refine hd1 0 ?_
     refine hov xmv ?_
     refine hd1 1 ?_
     refine hov xmv ?_
     refine hd2 2 3 ?_ ?_
     ·
      refine hov (xlb 8 pl_208 hS) ?_
      refine hd1 3 ?_
      refine hov (xlb 6 pl_22 hS) ?_
      refine hd1 4 ?_
      refine hoc (xc0 cl_65) (c_clone (n := p.m) (f := a) w (hS.rowN 7 rfl) (by omega)) ?_; rintro vq1 w ⟨_, rfl, hslq1, hS'⟩
      replace hS : Sat w0 w [.sem (C s), .blk g2 [vL, vD, .int .i64 p.stock, .int .i64 p.kerf], .blk g3 [.int .i64 wi], .blk g5 [.int .i64 p.m], .blk g6 [vl], .own vl 1 3 (p.m + 1) (ints (LatI p)), .blk ga [va], .own va 1 3 p.m (ints a), .blk gy [.func (.yield lq) #[] #[]], .blk gv [.func (.func 150) #[] #[.pointer (some ⟨g6, 0, none⟩), .pointer (some ⟨g5, 0, none⟩), .pointer (some ⟨ga, 0, none⟩), .pointer (some ⟨gy, 0, none⟩), .pointer (some ⟨g3, 0, none⟩), .pointer (some ⟨g2, 0, none⟩), .pointer (some ⟨gv, 0, none⟩)]], .sem F, .own vq1 1 3 p.m (ints a)] := hS.comp hS'; clear hS'
      refine hd1 5 ?_
      replace hS := hS.pk [0, 1, 2, 3, 4, 5, 11, 6, 7, 8, 9, 10]
      replace hS := hS.n12
      refine hoy (hY s ⟨vq1, p.m, a⟩ _ w ⟨hI, hslq1, rfl, post, by rw [hM, leaf_yes (by omega) hn (by rw [LatI_end (by omega)] at *; omega) (Classical.not_not.1 ‹_›), hh]; rfl⟩ (Sat.bundle (l1 := [_, _, _, _, _, _, _]) hS)) ?_; rintro _ w (⟨rfl, sy1, hny1, hS⟩ | ⟨rfl, ty1, hdy1, hS⟩)
      ·
       replace hS := Sat.unbundle (l1 := [_, _, _, _, _, _]) (l3 := []) hS
       replace hS := hS.n11
       refine hd1 6 ?_
       refine hov xpf ?_
       refine hd1 7 ?_
       refine hov xas ?_
       refine hd0 <| htn <| hrt <| ztr <| zf1 ⟨_, rfl, ?_⟩
       exact ⟨True, sy1, t0, a, (B_true trivial).symm, fun _ => ⟨rfl, hny1.2, by rw [leaf_yes (by omega) hn (by rw [LatI_end (by omega)] at *; omega) (Classical.not_not.1 ‹_›), hny1.1, hh]⟩, fun hq => absurd trivial hq, by rw [cd_yes trivial]; exact hS.pk [0, 1, 2, 3, 4, 5, 6, 7, 8, 9, 10]⟩
      ·
       replace hS := Sat.unbundle (l1 := [_, _, _, _, _, _]) (l3 := []) hS
       replace hS := hS.n11
       refine hd1 6 ?_
       refine hov xpf ?_
       refine hd1 7 ?_
       refine hov xas ?_
       refine hd0 <| htn <| hrt <| ztr <| zf1 ⟨_, rfl, ?_⟩
       exact ⟨False, s, ty1, a, (B_false not_false).symm, fun hq => hq.elim, fun _ => hdy1, by rw [cd_no not_false]; exact hS.pk [0, 1, 2, 3, 4, 5, 6, 7, 8, 9, 10]⟩
     ·
      refine hov (xlb 6 pl_22 hS) ?_
      refine hd2 2 4 ?_ ?_
      ·
       refine hov (xlb 8 pl_208 hS) ?_
       refine hd1 4 ?_
       refine hoc (xc0 cl_65) (c_clone (n := p.m) (f := a) w (hS.rowN 7 rfl) (by omega)) ?_; rintro vq1 w ⟨_, rfl, hslq1, hS'⟩
       replace hS : Sat w0 w [.sem (C s), .blk g2 [vL, vD, .int .i64 p.stock, .int .i64 p.kerf], .blk g3 [.int .i64 wi], .blk g5 [.int .i64 p.m], .blk g6 [vl], .own vl 1 3 (p.m + 1) (ints (LatI p)), .blk ga [va], .own va 1 3 p.m (ints a), .blk gy [.func (.yield lq) #[] #[]], .blk gv [.func (.func 150) #[] #[.pointer (some ⟨g6, 0, none⟩), .pointer (some ⟨g5, 0, none⟩), .pointer (some ⟨ga, 0, none⟩), .pointer (some ⟨gy, 0, none⟩), .pointer (some ⟨g3, 0, none⟩), .pointer (some ⟨g2, 0, none⟩), .pointer (some ⟨gv, 0, none⟩)]], .sem F, .own vq1 1 3 p.m (ints a)] := hS.comp hS'; clear hS'
       refine hd1 5 ?_
       replace hS := hS.pk [0, 1, 2, 3, 4, 5, 11, 6, 7, 8, 9, 10]
       replace hS := hS.n12
       refine hoy (hY s ⟨vq1, p.m, a⟩ _ w ⟨hI, hslq1, rfl, post, by rw [hM, leaf_yes (by omega) hn (by rw [LatI_end (by omega)] at *; omega) (Classical.not_not.1 ‹_›), hh]; rfl⟩ (Sat.bundle (l1 := [_, _, _, _, _, _, _]) hS)) ?_; rintro _ w (⟨rfl, sy1, hny1, hS⟩ | ⟨rfl, ty1, hdy1, hS⟩)
       ·
        replace hS := Sat.unbundle (l1 := [_, _, _, _, _, _]) (l3 := []) hS
        replace hS := hS.n11
        refine hd1 6 ?_
        refine hov xpf ?_
        refine hd1 7 ?_
        refine hov xas ?_
        refine hd0 <| htn <| hrt <| ztr <| zf1 ⟨_, rfl, ?_⟩
        exact ⟨True, sy1, t0, a, (B_true trivial).symm, fun _ => ⟨rfl, hny1.2, by rw [leaf_yes (by omega) hn (by rw [LatI_end (by omega)] at *; omega) (Classical.not_not.1 ‹_›), hny1.1, hh]⟩, fun hq => absurd trivial hq, by rw [cd_yes trivial]; exact hS.pk [0, 1, 2, 3, 4, 5, 6, 7, 8, 9, 10]⟩
       ·
        replace hS := Sat.unbundle (l1 := [_, _, _, _, _, _]) (l3 := []) hS
        replace hS := hS.n11
        refine hd1 6 ?_
        refine hov xpf ?_
        refine hd1 7 ?_
        refine hov xas ?_
        refine hd0 <| htn <| hrt <| ztr <| zf1 ⟨_, rfl, ?_⟩
        exact ⟨False, s, ty1, a, (B_false not_false).symm, fun hq => hq.elim, fun _ => hdy1, by rw [cd_no not_false]; exact hS.pk [0, 1, 2, 3, 4, 5, 6, 7, 8, 9, 10]⟩
      ·
       refine hoc (xc0 cl_65) (c_clone (n := p.m) (f := a) w (hS.rowN 7 rfl) (by omega)) ?_; rintro vq1 w ⟨_, rfl, hslq1, hS'⟩
       replace hS : Sat w0 w [.sem (C s), .blk g2 [vL, vD, .int .i64 p.stock, .int .i64 p.kerf], .blk g3 [.int .i64 wi], .blk g5 [.int .i64 p.m], .blk g6 [vl], .own vl 1 3 (p.m + 1) (ints (LatI p)), .blk ga [va], .own va 1 3 p.m (ints a), .blk gy [.func (.yield lq) #[] #[]], .blk gv [.func (.func 150) #[] #[.pointer (some ⟨g6, 0, none⟩), .pointer (some ⟨g5, 0, none⟩), .pointer (some ⟨ga, 0, none⟩), .pointer (some ⟨gy, 0, none⟩), .pointer (some ⟨g3, 0, none⟩), .pointer (some ⟨g2, 0, none⟩), .pointer (some ⟨gv, 0, none⟩)]], .sem F, .own vq1 1 3 p.m (ints a)] := hS.comp hS'; clear hS'
       refine hd1 2 ?_
       refine hov (xlb 8 pl_208 hS) ?_
       refine hd1 5 ?_
       replace hS := hS.pk [0, 1, 2, 3, 4, 5, 11, 6, 7, 8, 9, 10]
       replace hS := hS.n12
       refine hoy (hY s ⟨vq1, p.m, a⟩ _ w ⟨hI, hslq1, rfl, post, by rw [hM, leaf_yes (by omega) hn (by rw [LatI_end (by omega)] at *; omega) (Classical.not_not.1 ‹_›), hh]; rfl⟩ (Sat.bundle (l1 := [_, _, _, _, _, _, _]) hS)) ?_; rintro _ w (⟨rfl, sy1, hny1, hS⟩ | ⟨rfl, ty1, hdy1, hS⟩)
       ·
        replace hS := Sat.unbundle (l1 := [_, _, _, _, _, _]) (l3 := []) hS
        replace hS := hS.n11
        refine hd1 6 ?_
        refine hov xpf ?_
        refine hd1 7 ?_
        refine hov xas ?_
        refine hd0 <| htn <| hrt <| ztr <| zf1 ⟨_, rfl, ?_⟩
        exact ⟨True, sy1, t0, a, (B_true trivial).symm, fun _ => ⟨rfl, hny1.2, by rw [leaf_yes (by omega) hn (by rw [LatI_end (by omega)] at *; omega) (Classical.not_not.1 ‹_›), hny1.1, hh]⟩, fun hq => absurd trivial hq, by rw [cd_yes trivial]; exact hS.pk [0, 1, 2, 3, 4, 5, 6, 7, 8, 9, 10]⟩
       ·
        replace hS := Sat.unbundle (l1 := [_, _, _, _, _, _]) (l3 := []) hS
        replace hS := hS.n11
        refine hd1 6 ?_
        refine hov xpf ?_
        refine hd1 7 ?_
        refine hov xas ?_
        refine hd0 <| htn <| hrt <| ztr <| zf1 ⟨_, rfl, ?_⟩
        exact ⟨False, s, ty1, a, (B_false not_false).symm, fun hq => hq.elim, fun _ => hdy1, by rw [cd_no not_false]; exact hS.pk [0, 1, 2, 3, 4, 5, 6, 7, 8, 9, 10]⟩
    refine hsk <| htn <| hsq <| hrz ?_
    refine zlv xas ?_
    refine zln <| zh <| htn <| hsq <| hsq <| hrz ?_
    refine zlv xmv ?_
    refine zlv (xlb 2 pl_3 hS) ?_
    refine zlv xeql ?_
    refine zln <| zh <| htn ?_
    refine hcif ?_ ?_ <;> intro hc
    ·
     refine hrz ?_
     refine zlv xas ?_
     refine zln <| zh <| htn <| hsq <| hsq ?_
     refine hdst [0, 1, 2, 3, 4, 5, 6, 7, 8, 9, 10] [0, 1, 2, 3, 4, 5, 6, 7, 8, 9, 10] 1000 mx_ hS ?_; clear hS; intro w hS
     refine zdv 0 (fun _ => (xfb 1 fd_32_1)) ?_
     refine zdla 1 (fun w hS => (xlb 1 pl_22 hS)) ?_
     refine zdv 2 (fun _ => xmv) ?_
     refine zdv 3 (fun _ => (xix (kk := i) sl_22 h.D.slh)) ?_
     refine zdla 4 (fun w hS => (xlr (u := .int .i64 (p.D i)) pl_3 (h.D.below hS.below))) ?_
     have hbv := h.iD i
     have hei := hp.all i h0 (by omega); unfold Prob.each at hei
     have hqd := quo_facts (a := l) (b := p.L i + p.kerf) (by omega) (by omega)
     have hml : min (p.D i) (Int.tdiv l (p.L i + p.kerf)) = most p i l := rfl
     refine zdv 5 (fun _ => xmv) ?_
     refine zdla 6 (fun w hS => (xls 1 st_32 hS)) ?_
     refine zdv 7 (fun _ => xmv) ?_
     refine zdc 8 (xc0 cl_148) (c_size (p := p) (i := i) w (h.below hS.below) hp (by omega) (by omega)) ?_; rintro _ w ⟨rfl, hS'⟩
     replace hS := hS.cmp hS'; clear hS'
     refine ⟨⟨fun _ => hS, hS⟩, ?_⟩
     refine zdv 9 (fun _ => (xquo (r := (Int.tdiv l (p.L i + p.kerf))))) ?_
     refine zdv 10 (fun _ => (xmin (r := (min (p.D i) (Int.tdiv l (p.L i + p.kerf)))))) ?_
     refine zdv 11 (fun _ => xas) ?_
     refine zdd <| zh <| htn <| hbk ?_
     have hlw : least wi i = 1 := by unfold least; first | rw [if_pos (by omega)] | rw [if_neg (by omega)]
     rw [← upd_triv (show a i = 0 from hx.zero i (by omega))] at hS
     replace hS := hS.n11
     refine hlp (fun mm M w => ∃ (s2 : St) (z : Int) (k : Int), mm = ((k + 1 - least wi i).toNat) ∧ (least wi i - 1 ≤ k ∨ k = most p i l) ∧ (k ≤ most p i l) ∧ (Inv s2) ∧ (MX p wi = hist s2 ++ (dn (kid p wi i a l) (least wi i) (k + 1 - least wi i).toNat ++ post)) ∧ M = [(0, .int .i64 i), (1, .int .i64 l), (2, .int .i64 need), (5, .pointer (some ⟨ga, 0, none⟩)), (8, .pointer (some ⟨g2, 0, none⟩)), (9, .pointer (some ⟨gv, 0, none⟩)), (15, .int .i64 1), (16, .int .i64 k)] ∧ Sat w0 w [.sem (C s2), .blk g2 [vL, vD, .int .i64 p.stock, .int .i64 p.kerf], .blk g3 [.int .i64 wi], .blk g5 [.int .i64 p.m], .blk g6 [vl], .own vl 1 3 (p.m + 1) (ints (LatI p)), .blk ga [va], .own va 1 3 p.m (ints (upd a i z)), .blk gy [.func (.yield lq) #[] #[]], .blk gv [.func (.func 150) #[] #[.pointer (some ⟨g6, 0, none⟩), .pointer (some ⟨g5, 0, none⟩), .pointer (some ⟨ga, 0, none⟩), .pointer (some ⟨gy, 0, none⟩), .pointer (some ⟨g3, 0, none⟩), .pointer (some ⟨g2, 0, none⟩), .pointer (some ⟨gv, 0, none⟩)]], .sem F]) ⟨s, 0, (min (p.D i) (Int.tdiv l (p.L i + p.kerf))), rfl, (by omega), (by omega), ?_, ?_, rfl, hS⟩ ?_
     ·
      exact hI
     ·
      rw [hM, exI_step h0 (by omega), hh]; rfl
     clear hS w
     rintro mm M w ⟨s2, z, k, rfl, k0, k1, hI2, hM2, rfl, hS⟩
     refine hsq <| hsq <| hrz ?_
     refine zs3 ?_
     refine zln <| zh <| htn ?_
     refine hcif ?_ ?_ <;> intro hc
     ·
      refine hsk <| htn <| hsq <| hbk <| hsq <| hrz ?_
      refine zs2 ?_
      refine zln <| zh <| htn <| hsq <| hsq <| hrz ?_
      refine zlv xmv ?_
      refine zlv (xfb 1 fd_32_1) ?_
      refine zlv (xlb 1 pl_22 hS) ?_
      refine zlv xmv ?_
      refine zlv (xix (kk := i) sl_22 h.D.slh) ?_
      refine zlv (xlr (u := .int .i64 (p.D i)) pl_3 (h.D.below hS.below)) ?_
      have hbv := h.iD i
      refine zlv xlss ?_
      refine zln <| zh <| htn ?_
      refine hcif ?_ ?_ <;> intro hc
      ·
       refine hrz ?_
       refine zlv xmv ?_
       refine zlv (xls 1 st_32 hS) ?_
       refine zlv xmv ?_
       refine zlc (xc0 cl_148) (c_size (p := p) (i := i) w (h.below hS.below) hp (by omega) (by omega)) ?_; rintro _ w ⟨rfl, hS'⟩
       replace hS := hS.cmp hS'; clear hS'
       refine zlv (xmin (r := (min need (p.L i + p.kerf)))) ?_
       refine zlv xas ?_
       refine zln <| zh <| htn <| hsq <| hrz ?_
       refine zlv (xlb 6 pl_22 hS) ?_
       refine zs2 ?_
       refine zlv (xix (kk := i) sl_22 hva) ?_
       refine zle (xso 7 pl_3 hS (upd2_ints a i z k)) ?_; clear hS; rintro w hS
       replace hS := hS.n11
       refine zln <| zh <| htn <| hsq ?_
       refine hdst [1, 2, 3, 4, 6, 8, 9, 5] [1, 2, 3, 4, 6, 8, 9, 5] 1000 mx_ hS ?_; clear hS; intro w hS
       refine zdla 0 (fun w hS => (xlb 6 pl_209 hS)) ?_
       refine zdv 1 (fun _ => xmv) ?_
       refine zdv 2 (fun _ => (xadd (r := i + 1))) ?_
       refine zdv 3 (fun _ => xmv) ?_
       refine zdv 4 (fun _ => xmv) ?_
       refine zdla 5 (fun w hS => (xls 0 st_32 hS)) ?_
       have hmm := most_mul hp h0 (by omega) hx.l0 (k := k) (by omega) (by omega)
       refine zdv 6 (fun _ => xmv) ?_
       refine zdv 10 (fun _ => xmv) ?_
       refine zdc 7 (xc0 cl_148) (c_size (p := p) (i := i) w (h.below hS.below) hp (by omega) (by omega)) ?_; rintro _ w ⟨rfl, hS'⟩
       replace hS := hS.cmp hS'; clear hS'
       refine ⟨⟨fun _ => hS.pk [1, 2, 3, 4, 6, 8, 9, 5], hS.pk [1, 2, 3, 4, 6, 8, 9, 5]⟩, ?_⟩
       refine zdv 8 (fun _ => (xmul (r := (k * (p.L i + p.kerf))) (e := rfl))) ?_
       refine zdv 9 (fun _ => (xsub (r := l - (k * (p.L i + p.kerf))))) ?_
       refine zdc 11 (xcc (vs := [_, _, _]) cl_150) (ih (s := s2) (i := i + 1) (a := upd a i k) (l := l - k * (p.L i + p.kerf)) (need := (min need (p.L i + p.kerf))) (pre := hist s2) (post := dn (kid p wi i a l) (least wi i) (k - least wi i).toNat ++ post) w0 w (Sat.bundle (l1 := [_, _, _, _, _, _, _, _, _, _]) (hS.pk [0, 1, 2, 3, 4, 5, 6, 7, 8, 9, 10])) h hva (by omega) (by omega) (hx.step hp h0 (by omega) (by omega) (by omega)) (hn.yes h0 (by omega)) hI2 rfl (by rw [hM2, dn_at (k := k) _ (by omega), List.append_assoc]; rfl) hY (by omega)) ?_; rintro _ w ⟨okz1, sz1, tz1, a2z1, rfl, hyz1, hfz1, hS⟩
       replace hS := Sat.unbundle (l1 := [_, _, _, _, _, _, _, _, _, _]) (l3 := []) hS
       replace hS := hS.n11
       refine ⟨⟨fun _ => hS.pk [1, 2, 3, 4, 6, 8, 9, 5], hS.pk [1, 2, 3, 4, 6, 8, 9, 5]⟩, ?_⟩
       refine zdv 12 (fun _ => xnot) ?_
       refine zdd <| zh <| htn ?_
       refine hcif ?_ ?_ <;> intro hc
       ·
        refine hsq <| hrz ?_
        refine zlv xas ?_
        refine zln <| zh <| htn <| hrt <| zbr <| ztr <| ztr <| zbr <| ztr <| zf1 ⟨_, rfl, ?_⟩
        have hqz1 := Classical.not_not.1 (fun hh9 => hh9 ‹¬ okz1›)
        exact ⟨False, s, tz1, a2z1, (B_false not_false).symm, fun hq => hq.elim, fun _ => hfz1 hqz1, by rw [cd_no not_false]; rw [cd_no hqz1] at hS; exact hS.pk [0, 1, 2, 3, 4, 5, 6, 7, 8, 9, 10]⟩
       refine hsk <| zbn <| htn <| hrz ?_
       refine zlv xmv ?_
       obtain ⟨rfl, hiz1, hhz1⟩ := hyz1 (Classical.not_not.1 ‹¬ ¬ okz1›)
       rw [cd_yes (Classical.not_not.1 ‹¬ ¬ okz1›)] at hS
       replace hS := hS.n11
       refine zlv (xsub (r := k - 1)) ?_
       refine zlv xas ?_
       refine zln <| zh <| hlq ⟨sz1, k, k - 1, rfl, (by omega), (by omega), ?_, ?_, rfl, hS⟩
       ·
        exact hiz1
       ·
        rw [hhz1, hM2, dn_at (k := k) _ (by omega), show k - 1 + 1 - least wi i = k - least wi i by omega, List.append_assoc, List.append_assoc]; rfl
      refine hsk <| htn <| hsq <| hrz ?_
      refine zlv (xlb 6 pl_22 hS) ?_
      refine zs2 ?_
      refine zlv (xix (kk := i) sl_22 hva) ?_
      refine zle (xso 7 pl_3 hS (upd2_ints a i z k)) ?_; clear hS; rintro w hS
      replace hS := hS.n11
      refine zln <| zh <| htn <| hsq ?_
      refine hdst [1, 2, 3, 4, 6, 8, 9, 5] [1, 2, 3, 4, 6, 8, 9, 5] 1000 mx_ hS ?_; clear hS; intro w hS
      refine zdla 0 (fun w hS => (xlb 6 pl_209 hS)) ?_
      refine zdv 1 (fun _ => xmv) ?_
      refine zdv 2 (fun _ => (xadd (r := i + 1))) ?_
      refine zdv 3 (fun _ => xmv) ?_
      refine zdv 4 (fun _ => xmv) ?_
      refine zdla 5 (fun w hS => (xls 0 st_32 hS)) ?_
      have hmm := most_mul hp h0 (by omega) hx.l0 (k := k) (by omega) (by omega)
      refine zdv 6 (fun _ => xmv) ?_
      refine zdv 10 (fun _ => xmv) ?_
      refine zdc 7 (xc0 cl_148) (c_size (p := p) (i := i) w (h.below hS.below) hp (by omega) (by omega)) ?_; rintro _ w ⟨rfl, hS'⟩
      replace hS := hS.cmp hS'; clear hS'
      refine ⟨⟨fun _ => hS.pk [1, 2, 3, 4, 6, 8, 9, 5], hS.pk [1, 2, 3, 4, 6, 8, 9, 5]⟩, ?_⟩
      refine zdv 8 (fun _ => (xmul (r := (k * (p.L i + p.kerf))) (e := rfl))) ?_
      refine zdv 9 (fun _ => (xsub (r := l - (k * (p.L i + p.kerf))))) ?_
      refine zdc 11 (xcc (vs := [_, _, _]) cl_150) (ih (s := s2) (i := i + 1) (a := upd a i k) (l := l - k * (p.L i + p.kerf)) (need := need) (pre := hist s2) (post := dn (kid p wi i a l) (least wi i) (k - least wi i).toNat ++ post) w0 w (Sat.bundle (l1 := [_, _, _, _, _, _, _, _, _, _]) (hS.pk [0, 1, 2, 3, 4, 5, 6, 7, 8, 9, 10])) h hva (by omega) (by omega) (hx.step hp h0 (by omega) (by omega) (by omega)) (hn.no h0 (by omega)) hI2 rfl (by rw [hM2, dn_at (k := k) _ (by omega), List.append_assoc]; rfl) hY (by omega)) ?_; rintro _ w ⟨okz1, sz1, tz1, a2z1, rfl, hyz1, hfz1, hS⟩
      replace hS := Sat.unbundle (l1 := [_, _, _, _, _, _, _, _, _, _]) (l3 := []) hS
      replace hS := hS.n11
      refine ⟨⟨fun _ => hS.pk [1, 2, 3, 4, 6, 8, 9, 5], hS.pk [1, 2, 3, 4, 6, 8, 9, 5]⟩, ?_⟩
      refine zdv 12 (fun _ => xnot) ?_
      refine zdd <| zh <| htn ?_
      refine hcif ?_ ?_ <;> intro hc
      ·
       refine hsq <| hrz ?_
       refine zlv xas ?_
       refine zln <| zh <| htn <| hrt <| zbr <| ztr <| ztr <| zbr <| ztr <| zf1 ⟨_, rfl, ?_⟩
       have hqz1 := Classical.not_not.1 (fun hh9 => hh9 ‹¬ okz1›)
       exact ⟨False, s, tz1, a2z1, (B_false not_false).symm, fun hq => hq.elim, fun _ => hfz1 hqz1, by rw [cd_no not_false]; rw [cd_no hqz1] at hS; exact hS.pk [0, 1, 2, 3, 4, 5, 6, 7, 8, 9, 10]⟩
      refine hsk <| zbn <| htn <| hrz ?_
      refine zlv xmv ?_
      obtain ⟨rfl, hiz1, hhz1⟩ := hyz1 (Classical.not_not.1 ‹¬ ¬ okz1›)
      rw [cd_yes (Classical.not_not.1 ‹¬ ¬ okz1›)] at hS
      replace hS := hS.n11
      refine zlv (xsub (r := k - 1)) ?_
      refine zlv xas ?_
      refine zln <| zh <| hlq ⟨sz1, k, k - 1, rfl, (by omega), (by omega), ?_, ?_, rfl, hS⟩
      ·
       exact hiz1
      ·
       rw [hhz1, hM2, dn_at (k := k) _ (by omega), show k - 1 + 1 - least wi i = k - least wi i by omega, List.append_assoc, List.append_assoc]; rfl
     refine hxt <| ztx <| ztx <| zbh <| htn <| hsq <| hrz ?_
     refine zlv (xlb 6 pl_22 hS) ?_
     refine zlv xmv ?_
     refine zlv (xix (kk := i) sl_22 hva) ?_
     refine zle (xso 7 pl_3 hS (upd2_ints a i z 0)) ?_; clear hS; rintro w hS
     replace hS := hS.n11
     refine zln <| zh <| htn <| hsq <| hrz ?_
     refine zlv xas ?_
     refine zln <| zh <| htn <| hrt <| zf1 ⟨_, rfl, ?_⟩
     rw [upd_triv (show a i = 0 from hx.zero i (by omega))] at hS
     have hk9 : k + 1 - least wi i = 0 := by omega
     rw [show (k + 1 - least wi i).toNat = 0 by omega] at hM2
     exact ⟨True, s2, t0, a, (B_true trivial).symm, fun _ => ⟨rfl, hI2, List.append_cancel_right (by rw [← hM2, hM, List.append_assoc]; rfl)⟩, fun hq => absurd trivial hq, by rw [cd_yes trivial]; exact hS.pk [0, 1, 2, 3, 4, 5, 6, 7, 8, 9, 10]⟩
    refine hsk <| htn <| hsq <| hsq ?_
    refine hdst [0, 1, 2, 3, 4, 5, 6, 7, 8, 9, 10] [0, 1, 2, 3, 4, 5, 6, 7, 8, 9, 10] 1000 mx_ hS ?_; clear hS; intro w hS
    refine zdv 0 (fun _ => (xfb 1 fd_32_1)) ?_
    refine zdla 1 (fun w hS => (xlb 1 pl_22 hS)) ?_
    refine zdv 2 (fun _ => xmv) ?_
    refine zdv 3 (fun _ => (xix (kk := i) sl_22 h.D.slh)) ?_
    refine zdla 4 (fun w hS => (xlr (u := .int .i64 (p.D i)) pl_3 (h.D.below hS.below))) ?_
    have hbv := h.iD i
    have hei := hp.all i h0 (by omega); unfold Prob.each at hei
    have hqd := quo_facts (a := l) (b := p.L i + p.kerf) (by omega) (by omega)
    have hml : min (p.D i) (Int.tdiv l (p.L i + p.kerf)) = most p i l := rfl
    refine zdv 5 (fun _ => xmv) ?_
    refine zdla 6 (fun w hS => (xls 1 st_32 hS)) ?_
    refine zdv 7 (fun _ => xmv) ?_
    refine zdc 8 (xc0 cl_148) (c_size (p := p) (i := i) w (h.below hS.below) hp (by omega) (by omega)) ?_; rintro _ w ⟨rfl, hS'⟩
    replace hS := hS.cmp hS'; clear hS'
    refine ⟨⟨fun _ => hS, hS⟩, ?_⟩
    refine zdv 9 (fun _ => (xquo (r := (Int.tdiv l (p.L i + p.kerf))))) ?_
    refine zdv 10 (fun _ => (xmin (r := (min (p.D i) (Int.tdiv l (p.L i + p.kerf)))))) ?_
    refine zdv 11 (fun _ => xas) ?_
    refine zdd <| zh <| htn <| hbk ?_
    have hlw : least wi i = 0 := by unfold least; first | rw [if_pos (by omega)] | rw [if_neg (by omega)]
    rw [← upd_triv (show a i = 0 from hx.zero i (by omega))] at hS
    replace hS := hS.n11
    refine hlp (fun mm M w => ∃ (s2 : St) (z : Int) (k : Int), mm = ((k + 1 - least wi i).toNat) ∧ (least wi i - 1 ≤ k ∨ k = most p i l) ∧ (k ≤ most p i l) ∧ (Inv s2) ∧ (MX p wi = hist s2 ++ (dn (kid p wi i a l) (least wi i) (k + 1 - least wi i).toNat ++ post)) ∧ M = [(0, .int .i64 i), (1, .int .i64 l), (2, .int .i64 need), (5, .pointer (some ⟨ga, 0, none⟩)), (8, .pointer (some ⟨g2, 0, none⟩)), (9, .pointer (some ⟨gv, 0, none⟩)), (15, .int .i64 0), (16, .int .i64 k)] ∧ Sat w0 w [.sem (C s2), .blk g2 [vL, vD, .int .i64 p.stock, .int .i64 p.kerf], .blk g3 [.int .i64 wi], .blk g5 [.int .i64 p.m], .blk g6 [vl], .own vl 1 3 (p.m + 1) (ints (LatI p)), .blk ga [va], .own va 1 3 p.m (ints (upd a i z)), .blk gy [.func (.yield lq) #[] #[]], .blk gv [.func (.func 150) #[] #[.pointer (some ⟨g6, 0, none⟩), .pointer (some ⟨g5, 0, none⟩), .pointer (some ⟨ga, 0, none⟩), .pointer (some ⟨gy, 0, none⟩), .pointer (some ⟨g3, 0, none⟩), .pointer (some ⟨g2, 0, none⟩), .pointer (some ⟨gv, 0, none⟩)]], .sem F]) ⟨s, 0, (min (p.D i) (Int.tdiv l (p.L i + p.kerf))), rfl, (by omega), (by omega), ?_, ?_, rfl, hS⟩ ?_
    ·
     exact hI
    ·
     rw [hM, exI_step h0 (by omega), hh]; rfl
    clear hS w
    rintro mm M w ⟨s2, z, k, rfl, k0, k1, hI2, hM2, rfl, hS⟩
    refine hsq <| hsq <| hrz ?_
    refine zs3 ?_
    refine zln <| zh <| htn ?_
    refine hcif ?_ ?_ <;> intro hc
    ·
     refine hsk <| htn <| hsq <| hbk <| hsq <| hrz ?_
     refine zs2 ?_
     refine zln <| zh <| htn <| hsq <| hsq <| hrz ?_
     refine zlv xmv ?_
     refine zlv (xfb 1 fd_32_1) ?_
     refine zlv (xlb 1 pl_22 hS) ?_
     refine zlv xmv ?_
     refine zlv (xix (kk := i) sl_22 h.D.slh) ?_
     refine zlv (xlr (u := .int .i64 (p.D i)) pl_3 (h.D.below hS.below)) ?_
     have hbv := h.iD i
     refine zlv xlss ?_
     refine zln <| zh <| htn ?_
     refine hcif ?_ ?_ <;> intro hc
     ·
      refine hrz ?_
      refine zlv xmv ?_
      refine zlv (xls 1 st_32 hS) ?_
      refine zlv xmv ?_
      refine zlc (xc0 cl_148) (c_size (p := p) (i := i) w (h.below hS.below) hp (by omega) (by omega)) ?_; rintro _ w ⟨rfl, hS'⟩
      replace hS := hS.cmp hS'; clear hS'
      refine zlv (xmin (r := (min need (p.L i + p.kerf)))) ?_
      refine zlv xas ?_
      refine zln <| zh <| htn <| hsq <| hrz ?_
      refine zlv (xlb 6 pl_22 hS) ?_
      refine zs2 ?_
      refine zlv (xix (kk := i) sl_22 hva) ?_
      refine zle (xso 7 pl_3 hS (upd2_ints a i z k)) ?_; clear hS; rintro w hS
      replace hS := hS.n11
      refine zln <| zh <| htn <| hsq ?_
      refine hdst [1, 2, 3, 4, 6, 8, 9, 5] [1, 2, 3, 4, 6, 8, 9, 5] 1000 mx_ hS ?_; clear hS; intro w hS
      refine zdla 0 (fun w hS => (xlb 6 pl_209 hS)) ?_
      refine zdv 1 (fun _ => xmv) ?_
      refine zdv 2 (fun _ => (xadd (r := i + 1))) ?_
      refine zdv 3 (fun _ => xmv) ?_
      refine zdv 4 (fun _ => xmv) ?_
      refine zdla 5 (fun w hS => (xls 0 st_32 hS)) ?_
      have hmm := most_mul hp h0 (by omega) hx.l0 (k := k) (by omega) (by omega)
      refine zdv 6 (fun _ => xmv) ?_
      refine zdv 10 (fun _ => xmv) ?_
      refine zdc 7 (xc0 cl_148) (c_size (p := p) (i := i) w (h.below hS.below) hp (by omega) (by omega)) ?_; rintro _ w ⟨rfl, hS'⟩
      replace hS := hS.cmp hS'; clear hS'
      refine ⟨⟨fun _ => hS.pk [1, 2, 3, 4, 6, 8, 9, 5], hS.pk [1, 2, 3, 4, 6, 8, 9, 5]⟩, ?_⟩
      refine zdv 8 (fun _ => (xmul (r := (k * (p.L i + p.kerf))) (e := rfl))) ?_
      refine zdv 9 (fun _ => (xsub (r := l - (k * (p.L i + p.kerf))))) ?_
      refine zdc 11 (xcc (vs := [_, _, _]) cl_150) (ih (s := s2) (i := i + 1) (a := upd a i k) (l := l - k * (p.L i + p.kerf)) (need := (min need (p.L i + p.kerf))) (pre := hist s2) (post := dn (kid p wi i a l) (least wi i) (k - least wi i).toNat ++ post) w0 w (Sat.bundle (l1 := [_, _, _, _, _, _, _, _, _, _]) (hS.pk [0, 1, 2, 3, 4, 5, 6, 7, 8, 9, 10])) h hva (by omega) (by omega) (hx.step hp h0 (by omega) (by omega) (by omega)) (hn.yes h0 (by omega)) hI2 rfl (by rw [hM2, dn_at (k := k) _ (by omega), List.append_assoc]; rfl) hY (by omega)) ?_; rintro _ w ⟨okz1, sz1, tz1, a2z1, rfl, hyz1, hfz1, hS⟩
      replace hS := Sat.unbundle (l1 := [_, _, _, _, _, _, _, _, _, _]) (l3 := []) hS
      replace hS := hS.n11
      refine ⟨⟨fun _ => hS.pk [1, 2, 3, 4, 6, 8, 9, 5], hS.pk [1, 2, 3, 4, 6, 8, 9, 5]⟩, ?_⟩
      refine zdv 12 (fun _ => xnot) ?_
      refine zdd <| zh <| htn ?_
      refine hcif ?_ ?_ <;> intro hc
      ·
       refine hsq <| hrz ?_
       refine zlv xas ?_
       refine zln <| zh <| htn <| hrt <| zbr <| ztr <| ztr <| zbr <| ztr <| zf1 ⟨_, rfl, ?_⟩
       have hqz1 := Classical.not_not.1 (fun hh9 => hh9 ‹¬ okz1›)
       exact ⟨False, s, tz1, a2z1, (B_false not_false).symm, fun hq => hq.elim, fun _ => hfz1 hqz1, by rw [cd_no not_false]; rw [cd_no hqz1] at hS; exact hS.pk [0, 1, 2, 3, 4, 5, 6, 7, 8, 9, 10]⟩
      refine hsk <| zbn <| htn <| hrz ?_
      refine zlv xmv ?_
      obtain ⟨rfl, hiz1, hhz1⟩ := hyz1 (Classical.not_not.1 ‹¬ ¬ okz1›)
      rw [cd_yes (Classical.not_not.1 ‹¬ ¬ okz1›)] at hS
      replace hS := hS.n11
      refine zlv (xsub (r := k - 1)) ?_
      refine zlv xas ?_
      refine zln <| zh <| hlq ⟨sz1, k, k - 1, rfl, (by omega), (by omega), ?_, ?_, rfl, hS⟩
      ·
       exact hiz1
      ·
       rw [hhz1, hM2, dn_at (k := k) _ (by omega), show k - 1 + 1 - least wi i = k - least wi i by omega, List.append_assoc, List.append_assoc]; rfl
     refine hsk <| htn <| hsq <| hrz ?_
     refine zlv (xlb 6 pl_22 hS) ?_
     refine zs2 ?_
     refine zlv (xix (kk := i) sl_22 hva) ?_
     refine zle (xso 7 pl_3 hS (upd2_ints a i z k)) ?_; clear hS; rintro w hS
     replace hS := hS.n11
     refine zln <| zh <| htn <| hsq ?_
     refine hdst [1, 2, 3, 4, 6, 8, 9, 5] [1, 2, 3, 4, 6, 8, 9, 5] 1000 mx_ hS ?_; clear hS; intro w hS
     refine zdla 0 (fun w hS => (xlb 6 pl_209 hS)) ?_
     refine zdv 1 (fun _ => xmv) ?_
     refine zdv 2 (fun _ => (xadd (r := i + 1))) ?_
     refine zdv 3 (fun _ => xmv) ?_
     refine zdv 4 (fun _ => xmv) ?_
     refine zdla 5 (fun w hS => (xls 0 st_32 hS)) ?_
     have hmm := most_mul hp h0 (by omega) hx.l0 (k := k) (by omega) (by omega)
     refine zdv 6 (fun _ => xmv) ?_
     refine zdv 10 (fun _ => xmv) ?_
     refine zdc 7 (xc0 cl_148) (c_size (p := p) (i := i) w (h.below hS.below) hp (by omega) (by omega)) ?_; rintro _ w ⟨rfl, hS'⟩
     replace hS := hS.cmp hS'; clear hS'
     refine ⟨⟨fun _ => hS.pk [1, 2, 3, 4, 6, 8, 9, 5], hS.pk [1, 2, 3, 4, 6, 8, 9, 5]⟩, ?_⟩
     refine zdv 8 (fun _ => (xmul (r := (k * (p.L i + p.kerf))) (e := rfl))) ?_
     refine zdv 9 (fun _ => (xsub (r := l - (k * (p.L i + p.kerf))))) ?_
     refine zdc 11 (xcc (vs := [_, _, _]) cl_150) (ih (s := s2) (i := i + 1) (a := upd a i k) (l := l - k * (p.L i + p.kerf)) (need := need) (pre := hist s2) (post := dn (kid p wi i a l) (least wi i) (k - least wi i).toNat ++ post) w0 w (Sat.bundle (l1 := [_, _, _, _, _, _, _, _, _, _]) (hS.pk [0, 1, 2, 3, 4, 5, 6, 7, 8, 9, 10])) h hva (by omega) (by omega) (hx.step hp h0 (by omega) (by omega) (by omega)) (hn.no h0 (by omega)) hI2 rfl (by rw [hM2, dn_at (k := k) _ (by omega), List.append_assoc]; rfl) hY (by omega)) ?_; rintro _ w ⟨okz1, sz1, tz1, a2z1, rfl, hyz1, hfz1, hS⟩
     replace hS := Sat.unbundle (l1 := [_, _, _, _, _, _, _, _, _, _]) (l3 := []) hS
     replace hS := hS.n11
     refine ⟨⟨fun _ => hS.pk [1, 2, 3, 4, 6, 8, 9, 5], hS.pk [1, 2, 3, 4, 6, 8, 9, 5]⟩, ?_⟩
     refine zdv 12 (fun _ => xnot) ?_
     refine zdd <| zh <| htn ?_
     refine hcif ?_ ?_ <;> intro hc
     ·
      refine hsq <| hrz ?_
      refine zlv xas ?_
      refine zln <| zh <| htn <| hrt <| zbr <| ztr <| ztr <| zbr <| ztr <| zf1 ⟨_, rfl, ?_⟩
      have hqz1 := Classical.not_not.1 (fun hh9 => hh9 ‹¬ okz1›)
      exact ⟨False, s, tz1, a2z1, (B_false not_false).symm, fun hq => hq.elim, fun _ => hfz1 hqz1, by rw [cd_no not_false]; rw [cd_no hqz1] at hS; exact hS.pk [0, 1, 2, 3, 4, 5, 6, 7, 8, 9, 10]⟩
     refine hsk <| zbn <| htn <| hrz ?_
     refine zlv xmv ?_
     obtain ⟨rfl, hiz1, hhz1⟩ := hyz1 (Classical.not_not.1 ‹¬ ¬ okz1›)
     rw [cd_yes (Classical.not_not.1 ‹¬ ¬ okz1›)] at hS
     replace hS := hS.n11
     refine zlv (xsub (r := k - 1)) ?_
     refine zlv xas ?_
     refine zln <| zh <| hlq ⟨sz1, k, k - 1, rfl, (by omega), (by omega), ?_, ?_, rfl, hS⟩
     ·
      exact hiz1
     ·
      rw [hhz1, hM2, dn_at (k := k) _ (by omega), show k - 1 + 1 - least wi i = k - least wi i by omega, List.append_assoc, List.append_assoc]; rfl
    refine hxt <| ztx <| ztx <| zbh <| htn <| hsq <| hrz ?_
    refine zlv (xlb 6 pl_22 hS) ?_
    refine zlv xmv ?_
    refine zlv (xix (kk := i) sl_22 hva) ?_
    refine zle (xso 7 pl_3 hS (upd2_ints a i z 0)) ?_; clear hS; rintro w hS
    replace hS := hS.n11
    refine zln <| zh <| htn <| hsq <| hrz ?_
    refine zlv xas ?_
    refine zln <| zh <| htn <| hrt <| zf1 ⟨_, rfl, ?_⟩
    rw [upd_triv (show a i = 0 from hx.zero i (by omega))] at hS
    have hk9 : k + 1 - least wi i = 0 := by omega
    rw [show (k + 1 - least wi i).toNat = 0 by omega] at hM2
    exact ⟨True, s2, t0, a, (B_true trivial).symm, fun _ => ⟨rfl, hI2, List.append_cancel_right (by rw [← hM2, hM, List.append_assoc]; rfl)⟩, fun hq => absurd trivial hq, by rw [cd_yes trivial]; exact hS.pk [0, 1, 2, 3, 4, 5, 6, 7, 8, 9, 10]⟩
end Go.Proofs.YtkichmnjjblodaaGreat
namespace Go.Proofs.YtkichmnjjblodaaGreat
open Go Go.RowKit Go.Proofs.Gw
theorem el_209 : elemT Tryz.prog 209 = some (.nilFunc, 1, 8) := by kernel_rfl
theorem c_max1 {vL vD : Value} {p : Prob} {wi : Int} {St Tt : Type} (hist : St → List (Int → Int)) (Inv : St → Prop) (Stp : Tt → Prop) (t0 : Tt) (s0 : St) (hs0 : hist s0 = []) (hI0 : Inv s0) {g2 g3 g5 g6 : Nat} {vl : Value} (w0 : World) (hvl : Slh vl (p.m + 1)) (hp : p.Ok) (h : PAt w0 vL vD p) : ItG (St := St) (X := BX) (Tt := Tt) Tryz.prog w0 149 [.pointer (some ⟨g5, 0, none⟩), .pointer (some ⟨g6, 0, none⟩), .pointer (some ⟨g3, 0, none⟩), .pointer (some ⟨g2, 0, none⟩)] [.blk g2 [vL, vD, .int .i64 p.stock, .int .i64 p.kerf], .blk g3 [.int .i64 wi], .blk g5 [.int .i64 p.m], .blk g6 [vl], .own vl 1 3 (p.m + 1) (ints (LatI p))] (fun x => [x.v]) (fun x => [.own x.v 1 3 x.n (ints x.f)]) (fun (s : St) (x : BX) (rest : Go.Proofs.Gw.Frame) => Inv s ∧ Slh x.v x.n ∧ x.n = p.m ∧ ∃ r, MX p wi = hist s ++ x.f :: r) (fun (s : St) (x : BX) (s1 : St) => hist s1 = hist s ++ [x.f] ∧ Inv s1) (fun _ _ t => Stp t) (s0) (fun s rest => Inv s ∧ hist s = MX p wi) (fun t _ => Stp t) := by
  intro l C D w hS hY
  have hm := h.L.slh.n0; have hm1 := h.L.slh.n1; have hdn := h.D.slh.n0; have hdn1 := h.D.slh.n1; have hs := h.is; have hk := h.ik
  have hpm := hp.m1; have hpm2 := hp.m2; have hpd := hp.d; have hs1 := hp.s1; have hs2 := hp.s2; have hk1 := hp.k1; have hk2 := hp.k2
  refine henI Tryz.func149 Tryz.ntmps149 ?_
  refine hsq <| hrz ?_
  refine zla (xbx (cs := [_]) hS) ?_; rintro _ w ⟨g7, rfl, hS⟩
  replace hS := hS.n7
  refine zln <| zh <| htn <| hsq <| hrz ?_
  refine zlv (xlb 3 pl_3 hS) ?_
  refine zla (xmk sl_22 el_3 hS) ?_; rintro v1 w ⟨hS, hv1⟩
  replace hS := hS.n8
  refine zla (xal (cs := [_]) el_22 hS) ?_; rintro _ w ⟨g8, rfl, hS⟩
  replace hS := hS.n9
  refine zle (xsb 8 pl_22 hS (hv := hv1.one)) ?_; clear hS; rintro w hS
  replace hS := hS.n9
  refine zln <| zh <| htn <| hsq <| hrz ?_
  refine zla (xal (cs := [_]) el_209 hS) ?_; rintro _ w ⟨g9, rfl, hS⟩
  replace hS := hS.n10
  refine zln <| zh <| htn <| hsq <| hrz ?_
  refine zlv xmf ?_
  refine zle (xsb 9 pl_209 hS) ?_; clear hS; rintro w hS
  replace hS := hS.n10
  refine zln <| zh <| htn <| hrz ?_
  refine zlv (xlb 9 pl_209 hS) ?_
  refine zlv (xfb 2 fd_32_2) ?_
  refine zlv (xlb 1 pl_3 hS) ?_
  refine zlv (xfb 3 fd_32_3) ?_
  refine zlv (xlb 1 pl_3 hS) ?_
  refine zlv (xadd (r := p.stock + p.kerf)) ?_
  refine zlv (xfb 2 fd_32_2) ?_
  refine zlv (xlb 1 pl_3 hS) ?_
  refine zlv (xfb 3 fd_32_3) ?_
  refine zlv (xlb 1 pl_3 hS) ?_
  refine zlv (xadd (r := p.stock + p.kerf)) ?_
  refine zlv (xadd (r := p.stock + p.kerf + 1)) ?_
  refine zlc (xcc (vs := [_, _, _]) cl_150) (c_visit hp hist Inv Stp t0 hvl _ (s := s0) (i := 0) (a := fun _ => 0) (l := p.stock + p.kerf) (need := p.stock + p.kerf + 1) (pre := []) (post := []) w0 w (Sat.bundle (l1 := [_, _, _, _, _, _, _, _, _, _]) (l2 := []) (hS.pk [0, 1, 2, 3, 4, 5, 8, 7, 6, 9])) h hv1 (by omega) (by omega) (Pfx.start hp) (NeedP.start p) hI0 hs0 (by rw [List.nil_append, List.append_nil]; rfl) hY (Nat.lt_succ_self _)) ?_; rintro _ w ⟨okz1, sz1, tz1, a2z1, rfl, hyz1, hfz1, hS⟩
  replace hS := Sat.unbundle (l1 := [_, _, _, _, _, _, _, _, _, _]) (l3 := []) hS
  replace hS := hS.n10
  refine zln <| zh <| zfn0 ⟨_, rfl, ?_⟩
  by_cases hok : okz1
  · obtain ⟨_, hi, hh⟩ := hyz1 hok
    rw [cd_yes hok] at hS
    exact .inl ⟨sz1, _, ⟨hi, by rw [hh, List.nil_append]; rfl⟩, Sat.bundle (l1 := [_, _, _, _, _, _]) hS⟩
  · rw [cd_no hok] at hS
    exact .inr ⟨tz1, _, hfz1 hok, Sat.bundle (l1 := [_, _, _, _, _, _]) hS⟩
end Go.Proofs.YtkichmnjjblodaaGreat
namespace Go.Proofs.YtkichmnjjblodaaGreat
open Go Go.RowKit Go.Proofs.Gw
theorem cl_114 : calledT Tryz.prog 114 = true := by kernel_rfl
theorem cl_149 : calledT Tryz.prog 149 = true := by kernel_rfl
theorem el_49 : elemT Tryz.prog 49 = some (.int .i64 0, 1, 8) := by kernel_rfl
theorem el_83 : elemT Tryz.prog 83 = some (.slice none 0 0, 1, 24) := by kernel_rfl
theorem pl_49 : plainT Tryz.prog 49 = true := by kernel_rfl
theorem pl_83 : plainT Tryz.prog 83 = true := by kernel_rfl
structure WSt where
  v : Value
  n : Int
  vv : Int → Value
  f : Int → Int → Int
  l : List (Int → Int)
def WInv (p : Prob) (s : WSt) : Prop := Slh s.v s.n ∧ Ls p.m s.n s.f s.l ∧ s.n ≤ 300
def FirstR (p : Prob) (wi u : Int) (f : Int → Int → Int) (e : Int) : Prop := (300 < (MX p wi).length ∧ e = 9 ∧ u = 0) ∨ ((MX p wi).length ≤ 300 ∧ e = 0 ∧ Ls p.m u f (MX p wi))
theorem c_pfirst {vL vD : Value} {p : Prob} {wi : Int} (w0 : World) (h : PAt w0 vL vD p) (hp : p.Ok) :
    Calls Tryz.prog 77 [.agg #[vL, vD, .int .i64 p.stock, .int .i64 p.kerf], .int .i64 wi].toArray w0 fun e w => ∃ v, e = .returned v ∧ ∃ r u vv f e, v = .tuple #[r, .int .i64 e] ∧ FirstR p wi u f e ∧ Slh r u ∧ Sat w0 w [.own r 1 22 u vv, .sem (Frame.rows 3 u vv (fun _ => p.m) f)] := by
  have hm := h.L.slh.n0; have hm1 := h.L.slh.n1; have hd := h.D.slh.n0; have hd1 := h.D.slh.n1; have hs := h.is; have hk := h.ik
  have hpm := hp.m1; have hpm2 := hp.m2; have hpd := hp.d; have hs1 := hp.s1; have hs2 := hp.s2; have hk1 := hp.k1; have hk2 := hp.k2
  refine henM Tryz.func77 Tryz.ntmps77 fun w hS => ?_
  refine hsq <| hrz ?_
  refine zla (xbx (cs := [_, _, _, _]) hS) ?_; rintro _ w ⟨g1, rfl, hS⟩
  replace hS := hS.n1
  refine zla (xal (cs := [_]) el_83 hS) ?_; rintro _ w ⟨g2, rfl, hS⟩
  replace hS := hS.n2
  refine zla (xal (cs := [_]) el_49 hS) ?_; rintro _ w ⟨g3, rfl, hS⟩
  replace hS := hS.n3
  refine zln <| zh <| htn <| hsq <| hrz ?_
  refine zla (xal (cs := [_]) el_83 hS) ?_; rintro _ w ⟨g4, rfl, hS⟩
  replace hS := hS.n4
  refine zln <| zh <| htn <| hsq <| hsq <| hrz ?_
  refine zlv (xls 0 st_32 hS) ?_
  refine zlv xmv ?_
  refine zlc (xc0 cl_114) (c_maximal (p := p) (wi := wi) w (h.below hS.below) hp) ?_; rintro _ w ⟨g5, g6, g7, g8, vl1, rfl, hvl1, hS'⟩
  replace hS : Sat w0 w [.blk g1 [vL, vD, .int .i64 p.stock, .int .i64 p.kerf], .blk g2 [.slice none 0 0], .blk g3 [.int .i64 0], .blk g4 [.slice none 0 0], .blk g5 [vL, vD, .int .i64 p.stock, .int .i64 p.kerf], .blk g6 [.int .i64 wi], .blk g7 [.int .i64 p.m], .blk g8 [vl1], .own vl1 1 3 (p.m + 1) (ints (LatI p))] := hS.comp hS'; clear hS'
  refine zln <| zh <| htn <| hbk ?_
  replace hS := hS.addnil 1 22 (fun _ => Value.slice none 0 0)
  replace hS := hS.n10
  replace hS := hS.addrows 3 (fun _ => Value.slice none 0 0) (fun _ => p.m) (fun _ _ => 0)
  replace hS := hS.n11
  refine hrfG (St := WSt) (X := BX) (Tt := Unit) (fun s => [.blk g1 [vL, vD, .int .i64 p.stock, .int .i64 p.kerf], .blk g2 [.slice none 0 0], .blk g3 [.int .i64 0], .blk g4 [s.v], .own s.v 1 22 s.n s.vv, .sem (Frame.rows 3 s.n s.vv (fun _ => p.m) s.f)]) (fun t => [.blk g2 [.slice none 0 0], .blk g3 [.int .i64 9]]) (fun _ => .ret) (⟨.slice none 0 0, 0, fun _ => .slice none 0 0, fun _ _ => 0, []⟩ : WSt) (fun x M es => M = [(0, .agg #[vL, vD, .int .i64 p.stock, .int .i64 p.kerf]), (1, .int .i64 wi), (2, .pointer (some ⟨g1, 0, none⟩)), (4, .pointer (some ⟨g2, 0, none⟩)), (5, .pointer (some ⟨g3, 0, none⟩)), (6, .pointer (some ⟨g4, 0, none⟩)), (8, .agg #[vL, vD, .int .i64 p.stock, .int .i64 p.kerf]), (9, .int .i64 wi), (10, .func (.func 149) #[] #[.pointer (some ⟨g7, 0, none⟩), .pointer (some ⟨g8, 0, none⟩), .pointer (some ⟨g6, 0, none⟩), .pointer (some ⟨g5, 0, none⟩)]), (11, x.v), (7, x.v)] ∧ es = [.own x.v 1 3 x.n (ints x.f)]) (c_max1 (wi := wi) (fun s => s.l) (WInv p) (fun (_ : Unit) => 300 < (MX p wi).length) () (⟨.slice none 0 0, 0, fun _ => .slice none 0 0, fun _ _ => 0, []⟩ : WSt) rfl ⟨slh_nil, Ls.nil, by show (0 : Int) ≤ 300; omega⟩ w0 hvl1 hp h) (hS.pk [0, 1, 2, 3, 9, 10, 4, 5, 6, 7, 8]) cl_149 (fun _ => rfl) (fun _ => .inl rfl) ?_ ?_ ?_ ?_
  ·
   intro lq s x rest w hpre rest1 hrr hS
   replace hS := hS.n13
   refine hrz ?_
   refine zlv xas ?_
   refine zln <| zh <| hasg ⟨rfl, rfl⟩ hS
  ·
   rintro lq s x _ _ rest w hpre ⟨rfl, rfl⟩ rest1 hrr hS
   replace hS := hS.n13
   obtain ⟨⟨hlO, hls, hn3⟩, hxv, hxn, r9, hM9⟩ := hpre
   have hrO := fun k (k0 : 0 ≤ k) (k1 : k < s.n) => hS.slhIn 5 rfl k0 k1
   have hsn := hlO.n0
   have hlen := hls.1
   refine hbk <| hsq <| hsq <| hrz ?_
   refine zlv (xlb 3 pl_83 hS) ?_
   refine zlv (xln sl_83 hlO) ?_
   refine zlv xeql ?_
   refine zln <| zh <| htn ?_
   refine hcif ?_ ?_ <;> intro hc
   ·
    refine hsq <| hrz ?_
    refine zle (xsb 1 pl_83 hS) ?_; clear hS; rintro w hS
    replace hS := hS.n13
    refine zle (xsb 2 pl_49 hS) ?_; clear hS; rintro w hS
    replace hS := hS.n13
    refine zln <| zh <| htn <| hrt <| ztr <| zbr <| hrdR () (by show 300 < (MX p wi).length; rw [hM9, List.length_append, List.length_cons]; omega) rfl (hS.pk [1, 2, 6, 7, 8, 9, 10, 11])
   refine hsk <| htn <| hrz ?_
   refine zlv (xlb 3 pl_83 hS) ?_
   refine zlv xmv ?_
   refine zla (xli (n := 1) (len := 1) (pv := [(0, x.v)]) (cs := [x.v]) (c := (fun _ => x.v)) sl_83 el_22 hS (hf := by have hz := hxv; revert hz; generalize x.v = z; rintro ⟨_, _, _, _, rfl, _⟩; show _ = _; kernel_rfl)) ?_; rintro v1 w ⟨hS, hv1⟩
   replace hS := hS.n14
   refine zla (xap 4 (r := s.n + 1) sl_83 el_22 hS (hS.rowN 13 rfl) (cat_gsn _ _ _) (h1 := fun _ _ _ => hxv.one)) ?_; rintro v2 w ⟨hS, hv2⟩
   replace hS := hS.n14
   replace hS := Sat.merge (l1 := [_, _, _, _, _]) (l2 := [_, _, _, _, _, _]) (l3 := [_]) hS (by omega)
   have hrs1 := fun k (k0 : 0 ≤ k) (k1 : k < s.n + 1) => hS.slhIn 5 rfl k0 k1
   replace hS := hS.n13
   refine zle (xsb 3 pl_83 hS (hv := hv2.one)) ?_; clear hS; rintro w hS
   replace hS := hS.n13
   refine zln <| zh <| zbn ?_
   replace hS := hS.rerows (vv' := (gsn s.vv s.n x.v)) (ln' := fun _ => p.m) (f' := (gsn s.f s.n x.f)) 5 rfl (fun k k0 k1 => ⟨rfl, by unfold gsn; split <;> (try dsimp only) <;> omega, fun _ _ _ => rfl⟩)
   replace hS := hS.n13
   refine hrdN ⟨v2, s.n + 1, gsn s.vv s.n x.v, gsn s.f s.n x.f, s.l ++ [x.f]⟩ ⟨rfl, hv2, hls.snoc fun _ _ _ => rfl, by show s.n + 1 ≤ 300; omega⟩ (hS.pk [0, 1, 2, 3, 4, 5, 6, 7, 8, 9, 10, 11])
  ·
   intro Dk s rest w hfin hS
   replace hS := hS.n13
   obtain ⟨⟨hlO, hls, hn3⟩, hh9⟩ := hfin
   have hrO := fun k (k0 : 0 ≤ k) (k1 : k < s.n) => hS.slhIn 5 rfl k0 k1
   have hsn := hlO.n0
   have hlen := hls.1
   refine zbn <| htn <| hsq <| hrz ?_
   refine zlv (xlb 3 pl_83 hS) ?_
   refine zle (xsb 1 pl_83 hS (hv := hlO.one)) ?_; clear hS; rintro w hS
   replace hS := hS.n13
   refine zle (xsb 2 pl_49 hS) ?_; clear hS; rintro w hS
   replace hS := hS.n13
   refine zln <| zh <| htn <| hrt <| hmk1 12 hS fun w hS => zfc2 pl_83 pl_49 (hS.cellN 1 rfl rfl) (hS.cellN 2 rfl rfl) ⟨_, rfl, ?_⟩
   exact ⟨_, _, _, _, 0, rfl, .inr ⟨by rw [← hh9]; omega, rfl, by rw [← hh9]; exact hls⟩, hlO, hS.pk [4, 5]⟩
  ·
   intro Dk t rest w hfin hS
   replace hS := hS.n9
   show Ge _ _ _ .ret _ _
   refine zbr <| ztr <| hmk1 8 hS fun w hS => zfc2 pl_83 pl_49 (hS.cellN 0 rfl rfl) (hS.cellN 1 rfl rfl) ⟨_, rfl, ?_⟩
   exact ⟨_, 0, _, _, _, rfl, .inl ⟨hfin, rfl, rfl⟩, slh_nil, ((hS.sub (.cons _ (.cons _ (.cons _ (.cons _ (.cons _ (.cons _ (.cons _ (.cons _ (.cons _ .slnil)))))))))).addnil 1 22 (fun _ => Value.slice none 0 0)).addrows 3 (fun _ => Value.slice none 0 0) (fun _ => p.m) (fun _ _ => 0)⟩
end Go.Proofs.YtkichmnjjblodaaGreat
namespace Go.Proofs.YtkichmnjjblodaaGreat
open Go Go.RowKit Go.Proofs.Gw
theorem cl_77 : calledT Tryz.prog 77 = true := by kernel_rfl
theorem c_pwith {vL vD : Value} {p : Prob} {wi : Int} (w0 : World) (h : PAt w0 vL vD p) :
    Calls Tryz.prog 44 [.agg #[vL, vD, .int .i64 p.stock, .int .i64 p.kerf], .int .i64 wi].toArray w0 fun e w => ∃ v, e = .returned v ∧ ∃ r u vv f e, v = .tuple #[r, .int .i64 e] ∧ WithR p wi u f e ∧ Slh r u ∧ Sat w0 w [.own r 1 22 u vv, .sem (Frame.rows 3 u vv (fun _ => p.m) f)] := by
  have hm := h.L.slh.n0; have hm1 := h.L.slh.n1; have hd := h.D.slh.n0; have hd1 := h.D.slh.n1; have hs := h.is; have hk := h.ik
  refine zenG Tryz.func44 Tryz.ntmps44 fun w hS => ?_
  refine zsr ?_
  refine zla (xbx (cs := [_, _, _, _]) hS) ?_; rintro _ w ⟨g1, rfl, hS⟩
  replace hS := hS.n1
  refine zs2 ?_
  refine zlt <| zsq <| zbk <| zsr ?_
  refine zlv (xls 0 st_32 hS) ?_
  refine zlc (xc0 cl_56) (c_pvalid (p := p) w (h.below hS.below)) ?_; rintro _ w ⟨rfl, hS'⟩
  replace hS := hS.cmp hS'; clear hS'
  refine zs2 ?_
  refine zlt ?_
  refine zcif ?_ ?_ <;> intro hc
  ·
   refine zsr ?_
   refine zs2 ?_
   refine zlt <| zrt <| zbr <| ztr <| zf2 ⟨_, rfl, ?_⟩
   exact ⟨_, 0, _, _, _, rfl, .inl ⟨‹¬ p.Ok›, rfl, rfl⟩, slh_nil, ((hS.sub (.cons _ .slnil)).addnil 1 22 (fun _ => Value.slice none 0 0)).addrows 3 (fun _ => Value.slice none 0 0) (fun _ => p.m) (fun _ _ => 0)⟩
  refine zsr ?_
  refine zs2 ?_
  have hp : p.Ok := by first | assumption | exact Classical.not_not.1 ‹_›
  have hpm := hp.m1; have hpm2 := hp.m2; have hpd := hp.d; have hs1 := hp.s1; have hs2 := hp.s2; have hk1 := hp.k1; have hk2 := hp.k2
  refine zlv xmv ?_
  refine zlb 13 ?_ ?_ <;> intro hc
  ·
   iterate 5 refine zlo ?_
   refine zs2 ?_
   refine zlt <| zct <| zsr ?_
   refine zs2 ?_
   refine zlt <| zrt <| zbr <| ztr <| zf2 ⟨_, rfl, ?_⟩
   exact ⟨_, 0, _, _, _, rfl, .inr (.inl ⟨hp, by omega, rfl, rfl⟩), slh_nil, ((hS.sub (.cons _ .slnil)).addnil 1 22 (fun _ => Value.slice none 0 0)).addrows 3 (fun _ => Value.slice none 0 0) (fun _ => p.m) (fun _ _ => 0)⟩
  refine zlv xmv ?_
  refine zlv (xfb 0 fd_32_0) ?_
  refine zlv (xlb 0 pl_22 hS) ?_
  refine zlv (xln sl_22 h.L.slh) ?_
  refine zs3 ?_
  refine zlt ?_
  refine zcif ?_ ?_ <;> intro hc
  ·
   refine zsr ?_
   refine zs2 ?_
   refine zlt <| zrt <| zbr <| ztr <| zf2 ⟨_, rfl, ?_⟩
   exact ⟨_, 0, _, _, _, rfl, .inr (.inl ⟨hp, by omega, rfl, rfl⟩), slh_nil, ((hS.sub (.cons _ .slnil)).addnil 1 22 (fun _ => Value.slice none 0 0)).addrows 3 (fun _ => Value.slice none 0 0) (fun _ => p.m) (fun _ _ => 0)⟩
  refine zsk <| zbn <| ztn <| zsr ?_
  refine zlv (xls 0 st_32 hS) ?_
  refine zlv xmv ?_
  refine zlc (xc0 cl_77) (c_pfirst (p := p) (wi := wi) w (h.below hS.below) hp) ?_; rintro _ w ⟨vox1, ux1, vvx1, fx1, ex1, rfl, hwx1, hvx1, hS'⟩
  replace hS : Sat w0 w [.blk g1 [vL, vD, .int .i64 p.stock, .int .i64 p.kerf], .own vox1 1 22 ux1 vvx1, .sem (Frame.rows 3 ux1 vvx1 (fun _ => p.m) fx1)] := hS.comp hS'; clear hS'
  have hrsx1 : ∀ k, 0 ≤ k → k < ux1 → Slh (vvx1 k) p.m := fun k k0 k1 => hS.slhIn 2 rfl k0 k1
  refine zs4 ?_
  refine zlt <| zrt <| zf2 ⟨_, rfl, ?_⟩
  exact ⟨_, _, _, _, _, rfl, (by rcases hwx1 with ⟨h8, h9⟩ | ⟨h8, h9, h7⟩; exact .inr (.inr (.inl ⟨hp, by omega, h8, h9⟩)); exact .inr (.inr (.inr ⟨hp, by omega, h8, h9, h7⟩))), hvx1, hS.pk [1, 2]⟩
end Go.Proofs.YtkichmnjjblodaaGreat
namespace Go.Proofs.Gw
open Go Go.RowKit
theorem ucells_at (pv : Int → Value) (cnt : Int → Int) {k i : Int} (h : k = 2 * i) : ∀ (j : Nat) u, [pv i, Value.int .i64 (cnt i)][j]? = some u → ucells pv cnt (k + j) = u := fun j u hu => by
  rcases j with _ | _ | j
  · cases hu; exact ucells0 pv cnt (by omega)
  · cases hu; exact ucells1 pv cnt (by omega)
  · simp at hu
theorem ucells_one {pv : Int → Value} {cnt : Int → Int} (h : ∀ i, (pv i).oneCell' = true) (k : Int) : (ucells pv cnt k).oneCell' = true := by
  unfold ucells
  split
  · exact h _
  · rfl
theorem cat_ucells (pv : Int → Value) (cnt : Int → Int) (n : Int) (r : Value) (x : Int) : cat (n * 2) (ucells pv cnt) (ucells (fun _ => r) (fun _ => x)) = ucells (gsn pv n r) (snoc cnt n x) := by
  funext k
  unfold cat ucells gsn snoc
  by_cases h : k < n * 2
  · have h2 : k / 2 < n := by omega
    simp only [if_pos h, if_pos h2]
  · have h2 : ¬ k / 2 < n := by omega
    simp only [if_neg h, if_neg h2]
    by_cases e : k % 2 = 0
    · rw [if_pos e, if_pos (by omega)]
    · rw [if_neg e, if_neg (by omega)]
structure VAt (w : World) (v : Value) (n : Int) (pv : Int → Value) (ln : Int → Int) (pt : Int → Int → Int) (cnt : Int → Int) : Prop where
  row : Row w v 2 n (ucells pv cnt)
  p : ∀ i, 0 ≤ i → i < n → Row w (pv i) 1 (ln i) (ints (pt i))
  room : ∀ i, 0 ≤ i → i < n → Roomy (pv i)
theorem VAt.below {w w' : World} {v : Value} {n : Int} {pv : Int → Value} {ln : Int → Int} {pt : Int → Int → Int} {cnt : Int → Int} (h : VAt w v n pv ln pt cnt) (hb : Below w.heap.size w w') : VAt w' v n pv ln pt cnt :=
  ⟨h.row.below hb, fun i h0 h1 => (h.p i h0 h1).below hb, h.room⟩
end Go.Proofs.Gw
namespace Go.Proofs.Gw
open Go Go.RowKit
def pr2 {α : Type} (x y : α) : Int → α := fun j => if j = 0 then x else y
def gcells (vv : Int → Value) (s k b : Int) : Int → Value := fun j => if j % 5 = 0 then vv (2 * (j / 5)) else if j % 5 = 1 then vv (2 * (j / 5) + 1) else if j % 5 = 2 then .int .i64 s else if j % 5 = 3 then .int .i64 k else .int .i64 b
theorem gcells0 (vv : Int → Value) (s k b : Int) {j i : Int} (h : j = 5 * i) : gcells vv s k b j = vv (2 * i) := by
  unfold gcells; rw [if_pos (by omega), show j / 5 = i by omega]
theorem gcells1 (vv : Int → Value) (s k b : Int) {j i : Int} (h : j = 5 * i + 1) : gcells vv s k b j = vv (2 * i + 1) := by
  unfold gcells; rw [if_neg (by omega), if_pos (by omega), show j / 5 = i by omega]
theorem gcells2 (vv : Int → Value) (s k b : Int) {j i : Int} (h : j = 5 * i + 2) : gcells vv s k b j = .int .i64 s := by
  unfold gcells; rw [if_neg (by omega), if_neg (by omega), if_pos (by omega)]
theorem gcells3 (vv : Int → Value) (s k b : Int) {j i : Int} (h : j = 5 * i + 3) : gcells vv s k b j = .int .i64 k := by
  unfold gcells; rw [if_neg (by omega), if_neg (by omega), if_neg (by omega), if_pos (by omega)]
theorem gcells4 (vv : Int → Value) (s k b : Int) {j i : Int} (h : j = 5 * i + 4) : gcells vv s k b j = .int .i64 b := by
  unfold gcells; rw [if_neg (by omega), if_neg (by omega), if_neg (by omega), if_neg (by omega)]
theorem gcells_at (vv : Int → Value) (s k b : Int) {q i : Int} (h : q = 5 * i) : ∀ (j : Nat) u, [vv (2 * i), vv (2 * i + 1), Value.int .i64 s, .int .i64 k, .int .i64 b][j]? = some u → gcells vv s k b (q + j) = u := fun j u hu => by
  rcases j with _ | _ | _ | _ | _ | j
  · cases hu; exact gcells0 vv s k b (by omega)
  · cases hu; exact gcells1 vv s k b (by omega)
  · cases hu; exact gcells2 vv s k b (i := i) (by omega)
  · cases hu; exact gcells3 vv s k b (i := i) (by omega)
  · cases hu; exact gcells4 vv s k b (i := i) (by omega)
  · simp at hu
theorem gcells_one {vv : Int → Value} {s k b : Int} (h : ∀ i, (vv i).oneCell' = true) (j : Int) : (gcells vv s k b j).oneCell' = true := by
  unfold gcells
  split
  · exact h _
  · split
    · exact h _
    · split
      · rfl
      · split <;> rfl
theorem pr2_one {x y : Value} (hx : x.oneCell' = true) (hy : y.oneCell' = true) (i : Int) : (pr2 x y i).oneCell' = true := by
  unfold pr2; split
  · exact hx
  · exact hy
theorem cat_gcells (vv : Int → Value) (s k b n : Int) (x y : Value) : cat (n * 5) (gcells vv s k b) (gcells (pr2 x y) s k b) = gcells (gsn (gsn vv (2 * n) x) (2 * n + 1) y) s k b := by
  funext j
  unfold cat gcells gsn pr2
  by_cases h : j < n * 5
  · simp only [if_pos h]
    have h1 : 2 * (j / 5) < 2 * n := by omega
    have h2 : 2 * (j / 5) + 1 < 2 * n := by omega
    have h3 : 2 * (j / 5) < 2 * n + 1 := by omega
    have h4 : 2 * (j / 5) + 1 < 2 * n + 1 := by omega
    simp only [if_pos h1, if_pos h2, if_pos h3, if_pos h4]
  · simp only [if_neg h]
    have e1 : (j - n * 5) % 5 = j % 5 := by omega
    have e2 : (j - n * 5) / 5 = j / 5 - n := by omega
    rw [e1, e2]
    have h1 : ¬ 2 * (j / 5) < 2 * n := by omega
    have h2 : ¬ 2 * (j / 5) + 1 < 2 * n + 1 := by omega
    have h3 : ¬ 2 * (j / 5 - n) + 1 = 0 := by omega
    simp only [if_neg h1, if_neg h2, if_neg h3]
    by_cases h5 : 2 * (j / 5) < 2 * n + 1
    · have h6 : 2 * (j / 5 - n) = 0 := by omega
      simp only [if_pos h5, if_pos h6]
    · have h6 : ¬ 2 * (j / 5 - n) = 0 := by omega
      simp only [if_neg h5, if_neg h6]
theorem Sat.rowsn {w w0 : World} {l : List Ent} {E : TypeId} {n m : Int} {vv : Int → Value} {ln : Int → Int} {f : Int → Int → Int} (i : Nat) (h : Sat w0 w l) (hi : l[i]? = some (.sem (Frame.rows E n vv ln f))) (e : n = m) : Sat w0 w (l.set i (.sem (Frame.rows E m vv ln f))) := by
  subst e
  rw [set_at hi, ← split_at hi]; exact h
def gfn (p : Prob) (X : List (Int → Int)) : Int → Int → Int := fun k => if k % 2 = 0 then p.L else fun j => p.D j - pat0 X (k / 2) j
theorem gfn0 (p : Prob) (X : List (Int → Int)) {k i : Int} (h : k = 2 * i) : gfn p X k = p.L := by unfold gfn; rw [if_pos (by omega)]
theorem gfn1 (p : Prob) (X : List (Int → Int)) {k i : Int} (h : k = 2 * i + 1) : gfn p X k = fun j => p.D j - pat0 X i j := by unfold gfn; rw [if_neg (by omega), show k / 2 = i by omega]
theorem goal_rows {p : Prob} (hd : p.d = p.m) {X : List (Int → Int)} {x : Int → Int} {i : Int} (i0 : 0 ≤ i) (hx : ∀ j, 0 ≤ j → j < p.m → x j = pat0 X i j) (vv : Int → Value) : ∀ k, 0 ≤ k → k < 2 * i + 2 → vv k = vv k ∧ gsn (gsn (fun _ => p.m) (2 * i) p.m) (2 * i + 1) p.d k = (fun _ => p.m) k ∧
    ∀ j, 0 ≤ j → j < gsn (gsn (fun _ => p.m) (2 * i) p.m) (2 * i + 1) p.d k → gsn (gsn (gfn p X) (2 * i) p.L) (2 * i + 1) (fun j => p.D j - x j) k j = gfn p X k j := fun k k0 k1 => by
  refine ⟨rfl, by unfold gsn; split <;> (try split) <;> first | rfl | exact hd, fun j j0 j1 => ?_⟩
  have hl : gsn (gsn (fun _ => p.m) (2 * i) p.m) (2 * i + 1) p.d k = p.m := by unfold gsn; split <;> (try split) <;> first | rfl | exact hd
  rw [hl] at j1
  by_cases e1 : k < 2 * i
  · rw [gsn_lt (by omega), gsn_lt e1]
  · by_cases e2 : k < 2 * i + 1
    · rw [gsn_lt e2, gsn_at e1, gfn0 p X (i := i) (by omega)]
    · rw [gsn_at e2, gfn1 p X (i := i) (by omega)]
      show p.D j - x j = p.D j - pat0 X i j
      rw [hx j j0 j1]
end Go.Proofs.Gw
namespace Go.Proofs.YtkichmnjjblodaaGreat
open Go Go.RowKit Go.Proofs.Gw
theorem cl_37 : calledT Tryz.prog 37 = true := by kernel_rfl
theorem cl_43 : calledT Tryz.prog 43 = true := by kernel_rfl
theorem cl_47 : calledT Tryz.prog 47 = true := by kernel_rfl
theorem cl_48 : calledT Tryz.prog 48 = true := by kernel_rfl
theorem el_34 : elemT Tryz.prog 34 = some (.agg #[.slice none 0 0, .slice none 0 0, .int .i64 0, .int .i64 0, .int .i64 0], 5, 72) := by kernel_rfl
theorem fd_26_0 : fieldT Tryz.prog 26 0 = some 0 := by kernel_rfl
theorem fd_26_1 : fieldT Tryz.prog 26 1 = some 4 := by kernel_rfl
theorem fd_34_0 : fieldT Tryz.prog 34 0 = some 0 := by kernel_rfl
theorem fd_34_1 : fieldT Tryz.prog 34 1 = some 4 := by kernel_rfl
theorem st_26 : structT Tryz.prog 26 = some 5 := by kernel_rfl
theorem st_34 : structT Tryz.prog 34 = some 5 := by kernel_rfl
def PossP (p : Prob) (b : Int) : Prop := p.Ok ∧ 0 ≤ b ∧ b ≤ 1000
def SplOk (p : Prob) (b wi : Int) : Prop := PossP p b ∧ 1 ≤ b ∧ (0 ≤ wi ∧ wi < p.m) ∧ p.D wi ≠ 0 ∧ (MX p wi).length ≤ 300
noncomputable def partsN (p : Prob) (b wi : Int) : Int := @ite _ (SplOk p b wi) (Classical.propDecidable _) ((MX p wi).length : Int) 0
theorem partsN_yes {p : Prob} {b wi : Int} (h : SplOk p b wi) : partsN p b wi = (MX p wi).length := if_pos h
theorem partsN_no {p : Prob} {b wi : Int} (h : ¬ SplOk p b wi) : partsN p b wi = 0 := if_neg h
theorem part_rng {p : Prob} (hp : p.Ok) {wi u : Int} {f : Int → Int → Int} (h : Ls p.m u f (MX p wi)) {i : Int} (i0 : 0 ≤ i) (i1 : i < u) : ∀ k, 0 ≤ k → k < p.m → 0 ≤ f i k ∧ f i k ≤ p.D k := fun k k0 k1 => by
  rw [h.2 i i0 i1 k k0 k1]
  exact (MX_pat hp (pat0_mem i0 (by have := h.1; omega))).1.rng k k0 k1
def LeafP (p : Prob) (b n : Int) (l : Int → Int) : Prop := PossP p b ∧ 2 ≤ n ∧ Chk p (n - 1) (fun k => l (k + 1)) (l 0) = 0 ∧ b < BndOf p (n - 1) (fun k => l (k + 1)) (l 0)
theorem c_poss {vL vD : Value} {p : Prob} {b : Int} (w0 : World) (h : PAt w0 vL vD p) :
    Calls Tryz.prog 43 [.agg #[vL, vD, .int .i64 p.stock, .int .i64 p.kerf, .int .i64 b]].toArray w0 fun e w => ∃ v, e = .returned v ∧ v = B (PossP p b) ∧ Sat w0 w [] := by
  have hm := h.L.slh.n0; have hm1 := h.L.slh.n1; have hd := h.D.slh.n0; have hd1 := h.D.slh.n1; have hs := h.is; have hk := h.ik
  refine zenG Tryz.func43 Tryz.ntmps43 fun w hS => ?_
  refine zsr ?_
  refine zla (xbx (cs := [_, _, _, _, _]) hS) ?_; rintro _ w ⟨g1, rfl, hS⟩
  replace hS := hS.n1
  refine zlv xas ?_
  refine zlz ?_
  refine zlv (xfb 0 fd_34_0) ?_
  refine zlv (xlp 0 (ds := [vL, vD, .int .i64 p.stock, .int .i64 p.kerf]) st_32 hS) ?_
  refine zlc (xc0 cl_56) (c_pvalid (p := p) w (h.below hS.below)) ?_; rintro _ w ⟨rfl, hS'⟩
  replace hS := hS.cmp hS'; clear hS'
  refine zlv xmv ?_
  refine zlb 6 ?_ ?_ <;> intro hc
  ·
   refine zlv (xfb 4 fd_34_1) ?_
   refine zlv (xlb 0 pl_3 hS) ?_
   refine zs3 ?_
   refine zlb 11 ?_ ?_ <;> intro hc
   ·
    refine zlv (xfb 4 fd_34_1) ?_
    refine zlv (xlb 0 pl_3 hS) ?_
    refine zs3 ?_
    refine zlt <| zrt <| zf1 ⟨_, rfl, ?_⟩
    exact ⟨B_congr ⟨fun hh => ⟨by first | assumption | exact Classical.not_not.1 ‹_›, by omega, hh⟩, fun hh => hh.2.2⟩, hS.nl⟩
   iterate 3 refine zlo ?_
   refine zs2 ?_
   refine zlt <| zrt <| zf1 ⟨_, rfl, ?_⟩
   exact ⟨false_B (by rintro ⟨h1, h2, h3⟩; first | omega | exact absurd h1 ‹¬ p.Ok›), hS.nl⟩
  iterate 3 refine zlo ?_
  refine zs2 ?_
  iterate 3 refine zlo ?_
  refine zs2 ?_
  refine zlt <| zrt <| zf1 ⟨_, rfl, ?_⟩
  exact ⟨false_B (by rintro ⟨h1, h2, h3⟩; first | omega | exact absurd h1 ‹¬ p.Ok›), hS.nl⟩
theorem c_rposs {vL vD : Value} {p : Prob} {b : Int} (w0 : World) (h : PAt w0 vL vD p) :
    Calls Tryz.prog 37 [.agg #[vL, vD, .int .i64 p.stock, .int .i64 p.kerf, .int .i64 b]].toArray w0 fun e w => ∃ v, e = .returned v ∧ v = B (PossP p b) ∧ Sat w0 w [] := by
  have hm := h.L.slh.n0; have hm1 := h.L.slh.n1; have hd := h.D.slh.n0; have hd1 := h.D.slh.n1; have hs := h.is; have hk := h.ik
  refine zenG Tryz.func37 Tryz.ntmps37 fun w hS => ?_
  refine zsr ?_
  refine zla (xbx (cs := [_, _, _, _, _]) hS) ?_; rintro _ w ⟨g1, rfl, hS⟩
  replace hS := hS.n1
  refine zlv xas ?_
  refine zlz ?_
  refine zlv (xfb 0 fd_26_0) ?_
  refine zlv (xlp 0 (ds := [vL, vD, .int .i64 p.stock, .int .i64 p.kerf]) st_24 hS) ?_
  refine zlc (xc0 cl_28) (c_rvalid28 (p := p) w (h.below hS.below)) ?_; rintro _ w ⟨rfl, hS'⟩
  replace hS := hS.cmp hS'; clear hS'
  refine zlv xmv ?_
  refine zlb 6 ?_ ?_ <;> intro hc
  ·
   refine zlv (xfb 4 fd_26_1) ?_
   refine zlv (xlb 0 pl_3 hS) ?_
   refine zs3 ?_
   refine zlb 11 ?_ ?_ <;> intro hc
   ·
    refine zlv (xfb 4 fd_26_1) ?_
    refine zlv (xlb 0 pl_3 hS) ?_
    refine zs3 ?_
    refine zlt <| zrt <| zf1 ⟨_, rfl, ?_⟩
    exact ⟨B_congr ⟨fun hh => ⟨by first | assumption | exact Classical.not_not.1 ‹_›, by omega, hh⟩, fun hh => hh.2.2⟩, hS.nl⟩
   iterate 3 refine zlo ?_
   refine zs2 ?_
   refine zlt <| zrt <| zf1 ⟨_, rfl, ?_⟩
   exact ⟨false_B (by rintro ⟨h1, h2, h3⟩; first | omega | exact absurd h1 ‹¬ p.Ok›), hS.nl⟩
  iterate 3 refine zlo ?_
  refine zs2 ?_
  iterate 3 refine zlo ?_
  refine zs2 ?_
  refine zlt <| zrt <| zf1 ⟨_, rfl, ?_⟩
  exact ⟨false_B (by rintro ⟨h1, h2, h3⟩; first | omega | exact absurd h1 ‹¬ p.Ok›), hS.nl⟩
theorem c_own36 {vL vD : Value} {p : Prob} {b : Int} (w0 : World) (h : PAt w0 vL vD p) :
    Calls Tryz.prog 14 [.agg #[vL, vD, .int .i64 p.stock, .int .i64 p.kerf, .int .i64 b]].toArray w0 fun e w => ∃ v, e = .returned v ∧ v = .agg #[vL, vD, .int .i64 p.stock, .int .i64 p.kerf, .int .i64 b] ∧ Sat w0 w [] := by
  refine zenG Tryz.func14 Tryz.ntmps14 fun w hS => ?_
  refine zsr ?_
  refine zla (xbx (cs := [_, _, _, _, _]) hS) ?_; rintro _ w ⟨g1, rfl, hS⟩
  replace hS := hS.n1
  refine zla (xal (cs := [_, _, _, _, _]) el_34 hS) ?_; rintro _ w ⟨g2, rfl, hS⟩
  replace hS := hS.n2
  refine zlz ?_
  refine zlv (xfb 0 fd_26_0) ?_
  refine zlv (xlp 0 (ds := [vL, vD, .int .i64 p.stock, .int .i64 p.kerf]) st_24 hS) ?_
  refine zlv (xfb 4 fd_26_1) ?_
  refine zlv (xlb 0 pl_3 hS) ?_
  refine zlv (xany (v := .agg #[vL, vD, .int .i64 p.stock, .int .i64 p.kerf, .int .i64 b]) (hr := by obtain ⟨_, _, _, _, rfl, _⟩ := h.L.slh; obtain ⟨_, _, _, _, rfl, _⟩ := h.D.slh; kernel_rfl)) ?_
  refine zle (xsw 1 st_34 hS (hd := (ones_cons h.L.slh.one (ones_cons h.D.slh.one (ones_cons rfl (ones_cons rfl (ones_cons rfl ones_nil))))))) ?_; clear hS; rintro w hS
  replace hS := hS.n2
  refine zlt <| zrt <| zfc 1 st_34 hS ⟨_, rfl, ?_⟩
  exact ⟨rfl, hS.nl⟩
theorem c_leaf {vL vD : Value} {p : Prob} {b : Int} {vl : Value} {nl : Int} {l : Int → Int} (w0 : World) (h : PAt w0 vL vD p) (hl : IAt w0 vl nl l) (hrm : Go.Proofs.Gw.Roomy vl) :
    Calls Tryz.prog 16 [.agg #[vL, vD, .int .i64 p.stock, .int .i64 p.kerf, .int .i64 b], vl].toArray w0 fun e w => ∃ v, e = .returned v ∧ v = B (LeafP p b nl l) ∧ Sat w0 w [] := by
  have hm := h.L.slh.n0; have hm1 := h.L.slh.n1; have hd := h.D.slh.n0; have hd1 := h.D.slh.n1; have hs := h.is; have hk := h.ik
  have hl0 := hl.n0; have hl1 := hl.n1; have hrm := hrm
  refine zenG Tryz.func16 Tryz.ntmps16 fun w hS => ?_
  refine zsr ?_
  refine zla (xbx (cs := [_, _, _, _, _]) hS) ?_; rintro _ w ⟨g1, rfl, hS⟩
  replace hS := hS.n1
  refine zlv xas ?_
  refine zlt <| zsq <| zsr ?_
  refine zlv (xls 0 st_34 hS) ?_
  refine zlc (xc0 cl_43) (c_poss (p := p) (b := b) w (h.below hS.below)) ?_; rintro _ w ⟨rfl, hS'⟩
  replace hS := hS.cmp hS'; clear hS'
  refine zs2 ?_
  refine zlb 10 ?_ ?_ <;> intro hc
  ·
   iterate 3 refine zlo ?_
   refine zlv xpt ?_
   refine zlt <| zct <| zsr ?_
   refine zlv xas ?_
   refine zlt <| zrt <| ztr <| zf1 ⟨_, rfl, ?_⟩
   exact ⟨false_B (by rintro ⟨h1, h2, h3, h4⟩; first | omega | exact absurd h1 ‹¬ PossP p b›), hS.nl⟩
  refine zlv xmv ?_
  refine zlv (xln sl_22 hl.row.slh) ?_
  refine zs2 ?_
  refine zlt ?_
  refine zcif ?_ ?_ <;> intro hc
  ·
   refine zsr ?_
   refine zlv xas ?_
   refine zlt <| zrt <| ztr <| zf1 ⟨_, rfl, ?_⟩
   exact ⟨false_B (by rintro ⟨h1, h2, h3, h4⟩; first | omega | exact absurd h1 ‹¬ PossP p b›), hS.nl⟩
  refine zsk <| ztn <| zsq ?_
  refine zdst [0] [0] 1000 mx_ hS ?_; clear hS; intro w hS
  refine zdv 0 (fun _ => (xfb 0 fd_34_0)) ?_
  refine zdla 1 (fun w hS => (xlp 0 (ds := [vL, vD, .int .i64 p.stock, .int .i64 p.kerf]) st_32 hS)) ?_
  refine zdv 2 (fun _ => xmv) ?_
  refine zdvr 3 rfl rfl rfl rfl (by kernel_rfl) rfl (fun w => (ex_slice_lo (q := 1) rfl sl_22 rfl rfl rfl hl.row.slh rfl (by omega) (by omega))) ?_
  refine zdv 4 (fun _ => xmv) ?_
  refine zdv 5 (fun _ => (xix (kk := 0) sl_22 hl.row.slh)) ?_
  refine zdla 6 (fun w hS => (xlr (u := .int .i64 (l 0)) pl_3 (hl.row.below hS.below))) ?_
  have hbv := hl.i 0
  refine zdv 7 (fun _ => (xany (v := .agg #[(sufV vl 1), .int .i64 (l 0)]) (hr := by have hz := (suf_of (q := 1) hl.row.slh hrm (by omega)).slh; revert hz; generalize (sufV vl 1) = z; rintro ⟨_, _, _, _, rfl, _⟩; show _ = _; kernel_rfl))) ?_
  refine zdc 8 (xc0 cl_47) (c_bound (p := p) w (h.below hS.below) (show Row _ _ 1 (nl - 1) (ints (fun z9 => l (z9 + 1))) from Suf.row (c := ints l) (suf_of (q := 1) hl.row.slh hrm (by omega)) (by omega) (hl.row.below hS.below)) (by omega)) ?_; rintro _ w ⟨rfl, hS'⟩
  replace hS := hS.cmp hS'; clear hS'
  refine ⟨⟨fun _ => hS, hS⟩, ?_⟩
  refine zdv 9 (fun _ => xmv) ?_
  refine zdv 10 (fun _ => xex) ?_
  refine zdv 11 (fun _ => xex) ?_
  refine zdv 12 (fun _ => xas) ?_
  refine zdv 13 (fun _ => xas) ?_
  refine zdd <| ztn <| zsr ?_
  refine zs3 ?_
  refine zlb 29 ?_ ?_ <;> intro hc
  ·
   refine zlv xmv ?_
   refine zlv (xfb 4 fd_34_1) ?_
   refine zlv (xlb 0 pl_3 hS) ?_
   refine zs3 ?_
   refine zlt <| zrt <| zf1 ⟨_, rfl, ?_⟩
   exact ⟨B_congr ⟨fun hh => ⟨Classical.not_not.1 ‹_›, by omega, by omega, hh⟩, fun hh => hh.2.2.2⟩, hS.nl⟩
  iterate 4 refine zlo ?_
  refine zs2 ?_
  refine zlt <| zrt <| zf1 ⟨_, rfl, ?_⟩
  exact ⟨false_B (by rintro ⟨h1, h2, h3, h4⟩; first | omega | exact absurd h1 ‹¬ PossP p b›), hS.nl⟩
theorem c_rleaf {vL vD : Value} {p : Prob} {b : Int} {vl : Value} {nl : Int} {l : Int → Int} (w0 : World) (h : PAt w0 vL vD p) (hl : IAt w0 vl nl l) (hrm : Go.Proofs.Gw.Roomy vl) :
    Calls Tryz.prog 17 [.agg #[vL, vD, .int .i64 p.stock, .int .i64 p.kerf, .int .i64 b], vl].toArray w0 fun e w => ∃ v, e = .returned v ∧ v = B (LeafP p b nl l) ∧ Sat w0 w [] := by
  have hm := h.L.slh.n0; have hm1 := h.L.slh.n1; have hd := h.D.slh.n0; have hd1 := h.D.slh.n1; have hs := h.is; have hk := h.ik
  have hl0 := hl.n0; have hl1 := hl.n1; have hrm := hrm
  refine zenG Tryz.func17 Tryz.ntmps17 fun w hS => ?_
  refine zsr ?_
  refine zla (xbx (cs := [_, _, _, _, _]) hS) ?_; rintro _ w ⟨g1, rfl, hS⟩
  replace hS := hS.n1
  refine zlv xas ?_
  refine zlt <| zsq <| zsr ?_
  refine zlv (xls 0 st_26 hS) ?_
  refine zlc (xc0 cl_37) (c_rposs (p := p) (b := b) w (h.below hS.below)) ?_; rintro _ w ⟨rfl, hS'⟩
  replace hS := hS.cmp hS'; clear hS'
  refine zs2 ?_
  refine zlb 10 ?_ ?_ <;> intro hc
  ·
   iterate 3 refine zlo ?_
   refine zlv xpt ?_
   refine zlt <| zct <| zsr ?_
   refine zlv xas ?_
   refine zlt <| zrt <| ztr <| zf1 ⟨_, rfl, ?_⟩
   exact ⟨false_B (by rintro ⟨h1, h2, h3, h4⟩; first | omega | exact absurd h1 ‹¬ PossP p b›), hS.nl⟩
  refine zlv xmv ?_
  refine zlv (xln sl_22 hl.row.slh) ?_
  refine zs2 ?_
  refine zlt ?_
  refine zcif ?_ ?_ <;> intro hc
  ·
   refine zsr ?_
   refine zlv xas ?_
   refine zlt <| zrt <| ztr <| zf1 ⟨_, rfl, ?_⟩
   exact ⟨false_B (by rintro ⟨h1, h2, h3, h4⟩; first | omega | exact absurd h1 ‹¬ PossP p b›), hS.nl⟩
  refine zsk <| ztn <| zsq ?_
  refine zdst [0] [0] 1000 mx_ hS ?_; clear hS; intro w hS
  refine zdv 0 (fun _ => (xfb 0 fd_26_0)) ?_
  refine zdla 1 (fun w hS => (xlp 0 (ds := [vL, vD, .int .i64 p.stock, .int .i64 p.kerf]) st_24 hS)) ?_
  refine zdv 2 (fun _ => xmv) ?_
  refine zdvr 3 rfl rfl rfl rfl (by kernel_rfl) rfl (fun w => (ex_slice_lo (q := 1) rfl sl_22 rfl rfl rfl hl.row.slh rfl (by omega) (by omega))) ?_
  refine zdv 4 (fun _ => xmv) ?_
  refine zdv 5 (fun _ => (xix (kk := 0) sl_22 hl.row.slh)) ?_
  refine zdla 6 (fun w hS => (xlr (u := .int .i64 (l 0)) pl_3 (hl.row.below hS.below))) ?_
  have hbv := hl.i 0
  refine zdv 7 (fun _ => (xany (v := .agg #[(sufV vl 1), .int .i64 (l 0)]) (hr := by have hz := (suf_of (q := 1) hl.row.slh hrm (by omega)).slh; revert hz; generalize (sufV vl 1) = z; rintro ⟨_, _, _, _, rfl, _⟩; show _ = _; kernel_rfl))) ?_
  refine zdc 8 (xc0 cl_48) (c_rbound (p := p) w (h.below hS.below) (show Row _ _ 1 (nl - 1) (ints (fun z9 => l (z9 + 1))) from Suf.row (c := ints l) (suf_of (q := 1) hl.row.slh hrm (by omega)) (by omega) (hl.row.below hS.below)) (by omega)) ?_; rintro _ w ⟨rfl, hS'⟩
  replace hS := hS.cmp hS'; clear hS'
  refine ⟨⟨fun _ => hS, hS⟩, ?_⟩
  refine zdv 9 (fun _ => xmv) ?_
  refine zdv 10 (fun _ => xex) ?_
  refine zdv 11 (fun _ => xex) ?_
  refine zdv 12 (fun _ => xas) ?_
  refine zdv 13 (fun _ => xas) ?_
  refine zdd <| ztn <| zsr ?_
  refine zs3 ?_
  refine zlb 29 ?_ ?_ <;> intro hc
  ·
   refine zlv xmv ?_
   refine zlv (xfb 4 fd_26_1) ?_
   refine zlv (xlb 0 pl_3 hS) ?_
   refine zs3 ?_
   refine zlt <| zrt <| zf1 ⟨_, rfl, ?_⟩
   exact ⟨B_congr ⟨fun hh => ⟨Classical.not_not.1 ‹_›, by omega, by omega, hh⟩, fun hh => hh.2.2.2⟩, hS.nl⟩
  iterate 4 refine zlo ?_
  refine zs2 ?_
  refine zlt <| zrt <| zf1 ⟨_, rfl, ?_⟩
  exact ⟨false_B (by rintro ⟨h1, h2, h3, h4⟩; first | omega | exact absurd h1 ‹¬ PossP p b›), hS.nl⟩
end Go.Proofs.YtkichmnjjblodaaGreat
namespace Go.Proofs.YtkichmnjjblodaaGreat
open Go Go.RowKit Go.Proofs.Gw
theorem el_32 : elemT Tryz.prog 32 = some (.agg #[.slice none 0 0, .slice none 0 0, .int .i64 0, .int .i64 0], 4, 64) := by kernel_rfl
theorem c_less {vL vD : Value} {p : Prob} {b : Int} {vA : Value} {n : Int} {x : Int → Int} (w0 : World) (h : PAt w0 vL vD p) (hp : p.Ok) (hb : 0 ≤ b ∧ b ≤ 1000) (hA : Row w0 vA 1 n (ints x)) (hnm : n = p.m) (hx : ∀ k, 0 ≤ k → k < p.m → 0 ≤ x k ∧ x k ≤ p.D k) :
    Calls Tryz.prog 45 [.agg #[vL, vD, .int .i64 p.stock, .int .i64 p.kerf, .int .i64 b], vA].toArray w0 fun e w => ∃ v, e = .returned v ∧ ∃ r1 r2, v = .agg #[r1, r2, .int .i64 p.stock, .int .i64 p.kerf, .int .i64 (b - 1)] ∧ Slh r1 p.m ∧ Slh r2 p.d ∧ Sat w0 w [.own r1 1 3 p.m (ints p.L), .own r2 1 3 p.d (ints fun k => p.D k - x k)] := by
  subst hnm
  have hm := h.L.slh.n0; have hm1 := h.L.slh.n1; have hd := h.D.slh.n0; have hd1 := h.D.slh.n1; have hs := h.is; have hk := h.ik
  have hpm := hp.m1; have hpm2 := hp.m2; have hpd := hp.d; have hs1 := hp.s1; have hs2 := hp.s2; have hk1 := hp.k1; have hk2 := hp.k2
  refine zenG Tryz.func45 Tryz.ntmps45 fun w hS => ?_
  refine zsr ?_
  refine zla (xbx (cs := [_, _, _, _, _]) hS) ?_; rintro _ w ⟨g1, rfl, hS⟩
  replace hS := hS.n1
  refine zla (xal (cs := [_, _, _, _, _]) el_34 hS) ?_; rintro _ w ⟨g2, rfl, hS⟩
  replace hS := hS.n2
  refine zlz ?_
  refine zlv (xfb 0 fd_34_0) ?_
  refine zlv (xlp 0 (ds := [vL, vD, .int .i64 p.stock, .int .i64 p.kerf]) st_32 hS) ?_
  refine zla (xal (cs := [_, _, _, _]) el_32 hS) ?_; rintro _ w ⟨g3, rfl, hS⟩
  replace hS := hS.n3
  refine zle (xsw 2 st_32 hS (hd := (ones_cons h.L.slh.one (ones_cons h.D.slh.one (ones_cons rfl (ones_cons rfl ones_nil)))))) ?_; clear hS; rintro w hS
  replace hS := hS.n3
  refine zlt <| zsq ?_
  refine zdst [0, 1, 2] [0, 1, 2] 1000 mx_ hS ?_; clear hS; intro w hS
  refine zdv 0 (fun _ => (xfb 0 fd_32_0)) ?_
  refine zdla 1 (fun w hS => (xlb 2 pl_22 hS)) ?_
  refine zdv 2 (fun _ => (xln sl_22 h.L.slh)) ?_
  refine zdv 4 (fun _ => (xfb 1 fd_32_1)) ?_
  refine zdla 5 (fun w hS => (xlb 2 pl_22 hS)) ?_
  refine zdv 6 (fun _ => (xln sl_22 h.D.slh)) ?_
  refine zdfk (r := [3, 7]) ((zdn1 ?_ (zdn1 ?_ zdn0)))
  ·
   refine zka (xmk sl_22 el_3 hS) ?_; rintro v1 w ⟨hS, hv1⟩
   replace hS := hS.n4
   refine ⟨⟨fun _ => hS.pk [0, 1, 2], hS.pk [0, 1, 2]⟩, ?_⟩
   refine zdv 8 (fun _ => xas) ?_
   refine zda 7 (xmk sl_22 el_3 hS) ?_; rintro v2 w ⟨hS, hv2⟩
   replace hS := hS.n5
   refine ⟨⟨fun _ => hS.pk [0, 1, 2], hS.pk [0, 1, 2]⟩, ?_⟩
   refine zdv 9 (fun _ => xas) ?_
   refine zdd <| ztn <| zsr ?_
   refine zlv xmv ?_
   refine zlv (xfb 0 fd_32_0) ?_
   refine zlv (xlb 2 pl_22 hS) ?_
   refine zlar rfl rfl rfl (ex_copy 3 rfl sl_22 rfl rfl hS rfl (h.L.below hS.below) (fun _ _ _ => rfl)) ?_; rintro _ w ⟨rfl, hS⟩
   replace hS := hS.n5
   refine zlz ?_
   refine zlv xmv ?_
   refine zlv (xfb 1 fd_32_1) ?_
   refine zlv (xlb 2 pl_22 hS) ?_
   refine zlar rfl rfl rfl (ex_copy 4 rfl sl_22 rfl rfl hS rfl (h.D.below hS.below) (fun _ _ _ => rfl)) ?_; rintro _ w ⟨rfl, hS⟩
   replace hS := hS.n5
   refine zlt <| zsq <| zsr ?_
   refine zlv xmv ?_
   refine zlv (xln sl_22 hA.slh) ?_
   refine zlv xmv ?_
   refine zlt <| zbk <| zlp (fun mm M w => ∃ (fd : Int → Int) (i : Int), mm = ((p.m - i).toNat) ∧ (0 ≤ i) ∧ (i ≤ p.m) ∧ (∀ k, 0 ≤ k → k < p.m → fd k = if k < i then p.D k - x k else p.D k) ∧ M = [(2, .pointer (some ⟨g1, 0, none⟩)), (4, .pointer (some ⟨g2, 0, none⟩)), (5, .pointer (some ⟨g3, 0, none⟩)), (6, v1), (7, v2), (28, vA), (29, .int .i64 p.m), (30, .int .i64 i)] ∧ Sat w0 w [.blk g1 [vL, vD, .int .i64 p.stock, .int .i64 p.kerf, .int .i64 b], .blk g2 [.slice none 0 0, .slice none 0 0, .int .i64 0, .int .i64 0, .int .i64 0], .blk g3 [vL, vD, .int .i64 p.stock, .int .i64 p.kerf], .own v1 1 3 p.m (ints p.L), .own v2 1 3 p.d (ints fd)]) ⟨p.D, 0, rfl, (by omega), (by omega), ?_, rfl, hS⟩ ?_
   ·
    intro k k0 k1; rw [if_neg (by omega)]
   clear hS w
   rintro mm M w ⟨fd, i, rfl, h0, h1, hfd, rfl, hS⟩
   refine zsr ?_
   refine zlv xlss ?_
   refine zlt <| zsq ?_
   refine zcif ?_ ?_ <;> intro hc
   ·
    refine zsk <| ztn <| zsq <| zbk <| zsr ?_
    refine zlv xmv ?_
    refine zlv (xix (kk := i) sl_22 hA.slh) ?_
    refine zlv (xlr (u := .int .i64 (x i)) pl_3 (hA.below hS.below)) ?_
    have hxi := hx i h0 (by omega); have hei := hp.all i h0 (by omega); unfold Prob.each at hei; have hfi := hfd i h0 (by omega); rw [if_neg (by omega)] at hfi
    refine zs2 ?_
    refine zlt <| zrg ?_
    refine zs2 ?_
    refine zlv (xix (kk := i) sl_22 hv2) ?_
    refine zlv (xlr (u := .int .i64 (fd i)) pl_3 (hS.rowN 4 rfl)) ?_
    refine zlv xmv ?_
    refine zlv (xsub (r := fd i - (x i))) ?_
    refine zlv (xix (kk := i) sl_22 hv2) ?_
    refine zle (xso 4 pl_3 hS (upd_ints _ _ _)) ?_; clear hS; rintro w hS
    replace hS := hS.n5
    refine zln <| zbn <| ztn <| zrg ?_
    refine zlv (xadd (r := i + 1)) ?_
    refine zlv xmv ?_
    refine zln <| zlq ⟨(upd fd i (fd i - (x i))), i + 1, rfl, (by omega), (by omega), ?_, rfl, hS⟩
    ·
     intro k k0 k1; unfold upd; by_cases e : k = i
     · rw [if_pos e, if_pos (by omega), e]; omega
     · rw [if_neg e, hfd k k0 k1]; by_cases e2 : k < i
       · rw [if_pos e2, if_pos (by omega)]
       · rw [if_neg e2, if_neg (by omega)]
   refine zxt <| ztx <| ztx <| zbh <| ztn <| zsr ?_
   refine zs2 ?_
   refine zlv (xfb 0 fd_32_0) ?_
   refine zle (xsb 2 pl_22 hS (hv := hv1.one)) ?_; clear hS; rintro w hS
   replace hS := hS.n5
   refine zlv (xfb 1 fd_32_1) ?_
   refine zle (xsb 2 pl_22 hS (hv := hv2.one)) ?_; clear hS; rintro w hS
   replace hS := hS.n5
   refine zlz ?_
   refine zlv (xls 2 st_32 hS) ?_
   refine zlv (xfb 4 fd_34_1) ?_
   refine zlv (xlb 0 pl_3 hS) ?_
   refine zlv (xsub (r := b - 1)) ?_
   refine zlv (xany (v := .agg #[v1, v2, .int .i64 p.stock, .int .i64 p.kerf, .int .i64 (b - 1)]) (hr := by obtain ⟨_, _, _, _, rfl, _⟩ := hv1; obtain ⟨_, _, _, _, rfl, _⟩ := hv2; kernel_rfl)) ?_
   refine zle (xsw 1 st_34 hS (hd := (ones_cons hv1.one (ones_cons hv2.one (ones_cons rfl (ones_cons rfl (ones_cons rfl ones_nil))))))) ?_; clear hS; rintro w hS
   replace hS := hS.n5
   refine zlt <| zrt <| zfc 1 st_34 hS ⟨_, rfl, ?_⟩
   replace hS := hS.recont 4 rfl (d := ints fun k => p.D k - x k) (fun k k0 k1 => by unfold ints; rw [hfd k k0 (by omega), if_pos (by omega)])
   exact ⟨_, _, rfl, hv1, hv2, hS.pk [3, 4]⟩
  refine zka (xmk sl_22 el_3 hS) ?_; rintro v1 w ⟨hS, hv1⟩
  replace hS := hS.n4
  refine ⟨⟨fun _ => hS.pk [0, 1, 2], hS.pk [0, 1, 2]⟩, ?_⟩
  refine zda 3 (xmk sl_22 el_3 hS) ?_; rintro v2 w ⟨hS, hv2⟩
  replace hS := hS.n5
  refine ⟨⟨fun _ => hS.pk [0, 1, 2], hS.pk [0, 1, 2]⟩, ?_⟩
  refine zdv 8 (fun _ => xas) ?_
  refine zdv 9 (fun _ => xas) ?_
  refine zdd <| ztn <| zsr ?_
  refine zlv xmv ?_
  refine zlv (xfb 0 fd_32_0) ?_
  refine zlv (xlb 2 pl_22 hS) ?_
  refine zlar rfl rfl rfl (ex_copy 4 rfl sl_22 rfl rfl hS rfl (h.L.below hS.below) (fun _ _ _ => rfl)) ?_; rintro _ w ⟨rfl, hS⟩
  replace hS := hS.n5
  refine zlz ?_
  refine zlv xmv ?_
  refine zlv (xfb 1 fd_32_1) ?_
  refine zlv (xlb 2 pl_22 hS) ?_
  refine zlar rfl rfl rfl (ex_copy 3 rfl sl_22 rfl rfl hS rfl (h.D.below hS.below) (fun _ _ _ => rfl)) ?_; rintro _ w ⟨rfl, hS⟩
  replace hS := hS.n5
  refine zlt <| zsq <| zsr ?_
  refine zlv xmv ?_
  refine zlv (xln sl_22 hA.slh) ?_
  refine zlv xmv ?_
  refine zlt <| zbk <| zlp (fun mm M w => ∃ (fd : Int → Int) (i : Int), mm = ((p.m - i).toNat) ∧ (0 ≤ i) ∧ (i ≤ p.m) ∧ (∀ k, 0 ≤ k → k < p.m → fd k = if k < i then p.D k - x k else p.D k) ∧ M = [(2, .pointer (some ⟨g1, 0, none⟩)), (4, .pointer (some ⟨g2, 0, none⟩)), (5, .pointer (some ⟨g3, 0, none⟩)), (6, v2), (7, v1), (28, vA), (29, .int .i64 p.m), (30, .int .i64 i)] ∧ Sat w0 w [.blk g1 [vL, vD, .int .i64 p.stock, .int .i64 p.kerf, .int .i64 b], .blk g2 [.slice none 0 0, .slice none 0 0, .int .i64 0, .int .i64 0, .int .i64 0], .blk g3 [vL, vD, .int .i64 p.stock, .int .i64 p.kerf], .own v1 1 3 p.d (ints fd), .own v2 1 3 p.m (ints p.L)]) ⟨p.D, 0, rfl, (by omega), (by omega), ?_, rfl, hS⟩ ?_
  ·
   intro k k0 k1; rw [if_neg (by omega)]
  clear hS w
  rintro mm M w ⟨fd, i, rfl, h0, h1, hfd, rfl, hS⟩
  refine zsr ?_
  refine zlv xlss ?_
  refine zlt <| zsq ?_
  refine zcif ?_ ?_ <;> intro hc
  ·
   refine zsk <| ztn <| zsq <| zbk <| zsr ?_
   refine zlv xmv ?_
   refine zlv (xix (kk := i) sl_22 hA.slh) ?_
   refine zlv (xlr (u := .int .i64 (x i)) pl_3 (hA.below hS.below)) ?_
   have hxi := hx i h0 (by omega); have hei := hp.all i h0 (by omega); unfold Prob.each at hei; have hfi := hfd i h0 (by omega); rw [if_neg (by omega)] at hfi
   refine zs2 ?_
   refine zlt <| zrg ?_
   refine zs2 ?_
   refine zlv (xix (kk := i) sl_22 hv1) ?_
   refine zlv (xlr (u := .int .i64 (fd i)) pl_3 (hS.rowN 3 rfl)) ?_
   refine zlv xmv ?_
   refine zlv (xsub (r := fd i - (x i))) ?_
   refine zlv (xix (kk := i) sl_22 hv1) ?_
   refine zle (xso 3 pl_3 hS (upd_ints _ _ _)) ?_; clear hS; rintro w hS
   replace hS := hS.n5
   refine zln <| zbn <| ztn <| zrg ?_
   refine zlv (xadd (r := i + 1)) ?_
   refine zlv xmv ?_
   refine zln <| zlq ⟨(upd fd i (fd i - (x i))), i + 1, rfl, (by omega), (by omega), ?_, rfl, hS⟩
   ·
    intro k k0 k1; unfold upd; by_cases e : k = i
    · rw [if_pos e, if_pos (by omega), e]; omega
    · rw [if_neg e, hfd k k0 k1]; by_cases e2 : k < i
      · rw [if_pos e2, if_pos (by omega)]
      · rw [if_neg e2, if_neg (by omega)]
  refine zxt <| ztx <| ztx <| zbh <| ztn <| zsr ?_
  refine zs2 ?_
  refine zlv (xfb 0 fd_32_0) ?_
  refine zle (xsb 2 pl_22 hS (hv := hv2.one)) ?_; clear hS; rintro w hS
  replace hS := hS.n5
  refine zlv (xfb 1 fd_32_1) ?_
  refine zle (xsb 2 pl_22 hS (hv := hv1.one)) ?_; clear hS; rintro w hS
  replace hS := hS.n5
  refine zlz ?_
  refine zlv (xls 2 st_32 hS) ?_
  refine zlv (xfb 4 fd_34_1) ?_
  refine zlv (xlb 0 pl_3 hS) ?_
  refine zlv (xsub (r := b - 1)) ?_
  refine zlv (xany (v := .agg #[v2, v1, .int .i64 p.stock, .int .i64 p.kerf, .int .i64 (b - 1)]) (hr := by obtain ⟨_, _, _, _, rfl, _⟩ := hv2; obtain ⟨_, _, _, _, rfl, _⟩ := hv1; kernel_rfl)) ?_
  refine zle (xsw 1 st_34 hS (hd := (ones_cons hv2.one (ones_cons hv1.one (ones_cons rfl (ones_cons rfl (ones_cons rfl ones_nil))))))) ?_; clear hS; rintro w hS
  replace hS := hS.n5
  refine zlt <| zrt <| zfc 1 st_34 hS ⟨_, rfl, ?_⟩
  replace hS := hS.recont 3 rfl (d := ints fun k => p.D k - x k) (fun k k0 k1 => by unfold ints; rw [hfd k k0 (by omega), if_pos (by omega)])
  exact ⟨_, _, rfl, hv2, hv1, hS.pk [4, 3]⟩
end Go.Proofs.YtkichmnjjblodaaGreat
namespace Go.Proofs.YtkichmnjjblodaaGreat
open Go Go.RowKit Go.Proofs.Gw
theorem cl_44 : calledT Tryz.prog 44 = true := by kernel_rfl
theorem cl_45 : calledT Tryz.prog 45 = true := by kernel_rfl
theorem sl_29 : sliceT Tryz.prog 29 = some (34, 5) := by kernel_rfl
theorem c_split {vL vD : Value} {p : Prob} {b : Int} {wi : Int} (w0 : World) (h : PAt w0 vL vD p) :
    Calls Tryz.prog 13 [.agg #[vL, vD, .int .i64 p.stock, .int .i64 p.kerf, .int .i64 b], .int .i64 wi].toArray w0 fun e w => ∃ v, e = .returned v ∧ ∃ r vv, v = .tuple #[r, B (SplOk p b wi)] ∧ Slh r (partsN p b wi) ∧ Sat w0 w [.own r 5 34 (partsN p b wi) (gcells vv p.stock p.kerf (b - 1)), .sem (Frame.rows 3 (2 * partsN p b wi) vv (fun _ => p.m) (gfn p (MX p wi)))] := by
  have hm := h.L.slh.n0; have hm1 := h.L.slh.n1; have hd := h.D.slh.n0; have hd1 := h.D.slh.n1; have hs := h.is; have hk := h.ik
  refine zenG Tryz.func13 Tryz.ntmps13 fun w hS => ?_
  refine zsr ?_
  refine zla (xbx (cs := [_, _, _, _, _]) hS) ?_; rintro _ w ⟨g1, rfl, hS⟩
  replace hS := hS.n1
  refine zs2 ?_
  refine zlt <| zsq <| zsr ?_
  refine zlv (xls 0 st_34 hS) ?_
  refine zlc (xc0 cl_43) (c_poss (p := p) (b := b) w (h.below hS.below)) ?_; rintro _ w ⟨rfl, hS'⟩
  replace hS := hS.cmp hS'; clear hS'
  refine zs2 ?_
  refine zlb 14 ?_ ?_ <;> intro hc
  ·
   iterate 3 refine zlo ?_
   refine zs2 ?_
   iterate 2 refine zlo ?_
   refine zs2 ?_
   iterate 6 refine zlo ?_
   refine zs2 ?_
   iterate 7 refine zlo ?_
   refine zlv xpt ?_
   refine zlt <| zct <| zsr ?_
   refine zs2 ?_
   refine zlt <| zrt <| ztr <| zf2 ⟨_, rfl, ?_⟩
   have hno : ¬ SplOk p b wi := by
     rintro ⟨⟨q1, q2, q3⟩, q4, ⟨q5, q6⟩, q7, q8⟩
     first | omega | exact absurd (show PossP p b from ⟨q1, q2, q3⟩) ‹¬ PossP p b› | (rcases hwx1 with ⟨g1, _⟩ | ⟨_, g1, _⟩ | ⟨_, _, g1, _⟩ | ⟨_, _, _, g1, _⟩; exact absurd q1 g1; exact absurd ⟨q5, q6⟩ g1; omega; omega)
   rw [partsN_no hno]
   exact ⟨_, (fun _ => Value.slice none 0 0), by rw [B_false hno], slh_nil, ((hS.sub (.cons _ .slnil)).addnil 5 34 (gcells (fun _ => Value.slice none 0 0) p.stock p.kerf (b - 1))).addrows 3 (fun _ => Value.slice none 0 0) (fun _ => p.m) (gfn p (MX p wi))⟩
  refine zlv (xfb 4 fd_34_1) ?_
  refine zlv (xlb 0 pl_3 hS) ?_
  have hpo : PossP p b := by first | assumption | exact Classical.not_not.1 ‹_›
  have hp := hpo.1; have hpb := hpo.2
  have hpm := hp.m1; have hpm2 := hp.m2; have hpd := hp.d; have hs1 := hp.s1; have hs2 := hp.s2; have hk1 := hp.k1; have hk2 := hp.k2
  refine zs3 ?_
  refine zlb 19 ?_ ?_ <;> intro hc
  ·
   iterate 2 refine zlo ?_
   refine zs2 ?_
   iterate 6 refine zlo ?_
   refine zs2 ?_
   iterate 7 refine zlo ?_
   refine zlv xpt ?_
   refine zlt <| zct <| zsr ?_
   refine zs2 ?_
   refine zlt <| zrt <| ztr <| zf2 ⟨_, rfl, ?_⟩
   have hno : ¬ SplOk p b wi := by
     rintro ⟨⟨q1, q2, q3⟩, q4, ⟨q5, q6⟩, q7, q8⟩
     first | omega | exact absurd (show PossP p b from ⟨q1, q2, q3⟩) ‹¬ PossP p b› | (rcases hwx1 with ⟨g1, _⟩ | ⟨_, g1, _⟩ | ⟨_, _, g1, _⟩ | ⟨_, _, _, g1, _⟩; exact absurd q1 g1; exact absurd ⟨q5, q6⟩ g1; omega; omega)
   rw [partsN_no hno]
   exact ⟨_, (fun _ => Value.slice none 0 0), by rw [B_false hno], slh_nil, ((hS.sub (.cons _ .slnil)).addnil 5 34 (gcells (fun _ => Value.slice none 0 0) p.stock p.kerf (b - 1))).addrows 3 (fun _ => Value.slice none 0 0) (fun _ => p.m) (gfn p (MX p wi))⟩
  refine zs4 ?_
  refine zlb 23 ?_ ?_ <;> intro hc
  ·
   iterate 6 refine zlo ?_
   refine zs2 ?_
   iterate 7 refine zlo ?_
   refine zlv xpt ?_
   refine zlt <| zct <| zsr ?_
   refine zs2 ?_
   refine zlt <| zrt <| ztr <| zf2 ⟨_, rfl, ?_⟩
   have hno : ¬ SplOk p b wi := by
     rintro ⟨⟨q1, q2, q3⟩, q4, ⟨q5, q6⟩, q7, q8⟩
     first | omega | exact absurd (show PossP p b from ⟨q1, q2, q3⟩) ‹¬ PossP p b› | (rcases hwx1 with ⟨g1, _⟩ | ⟨_, g1, _⟩ | ⟨_, _, g1, _⟩ | ⟨_, _, _, g1, _⟩; exact absurd q1 g1; exact absurd ⟨q5, q6⟩ g1; omega; omega)
   rw [partsN_no hno]
   exact ⟨_, (fun _ => Value.slice none 0 0), by rw [B_false hno], slh_nil, ((hS.sub (.cons _ .slnil)).addnil 5 34 (gcells (fun _ => Value.slice none 0 0) p.stock p.kerf (b - 1))).addrows 3 (fun _ => Value.slice none 0 0) (fun _ => p.m) (gfn p (MX p wi))⟩
  refine zlv xmv ?_
  refine zlv (xfb 0 fd_34_0) ?_
  refine zlv (xfb 0 fd_32_0) ?_
  refine zlv (xlb 0 pl_22 hS) ?_
  refine zlv (xln sl_22 h.L.slh) ?_
  refine zs3 ?_
  refine zlb 31 ?_ ?_ <;> intro hc
  ·
   iterate 7 refine zlo ?_
   refine zlv xpt ?_
   refine zlt <| zct <| zsr ?_
   refine zs2 ?_
   refine zlt <| zrt <| ztr <| zf2 ⟨_, rfl, ?_⟩
   have hno : ¬ SplOk p b wi := by
     rintro ⟨⟨q1, q2, q3⟩, q4, ⟨q5, q6⟩, q7, q8⟩
     first | omega | exact absurd (show PossP p b from ⟨q1, q2, q3⟩) ‹¬ PossP p b› | (rcases hwx1 with ⟨g1, _⟩ | ⟨_, g1, _⟩ | ⟨_, _, g1, _⟩ | ⟨_, _, _, g1, _⟩; exact absurd q1 g1; exact absurd ⟨q5, q6⟩ g1; omega; omega)
   rw [partsN_no hno]
   exact ⟨_, (fun _ => Value.slice none 0 0), by rw [B_false hno], slh_nil, ((hS.sub (.cons _ .slnil)).addnil 5 34 (gcells (fun _ => Value.slice none 0 0) p.stock p.kerf (b - 1))).addrows 3 (fun _ => Value.slice none 0 0) (fun _ => p.m) (gfn p (MX p wi))⟩
  refine zlv (xfb 0 fd_34_0) ?_
  refine zlv (xfb 1 fd_32_1) ?_
  refine zlv (xlb 0 pl_22 hS) ?_
  refine zlv xmv ?_
  refine zlv (xix (kk := wi) sl_22 h.D.slh) ?_
  refine zlv (xlr (u := .int .i64 (p.D wi)) pl_3 (h.D.below hS.below)) ?_
  have hbv := h.iD wi
  refine zs2 ?_
  refine zlt ?_
  refine zcif ?_ ?_ <;> intro hc
  ·
   refine zsr ?_
   refine zs2 ?_
   refine zlt <| zrt <| ztr <| zf2 ⟨_, rfl, ?_⟩
   have hno : ¬ SplOk p b wi := by
     rintro ⟨⟨q1, q2, q3⟩, q4, ⟨q5, q6⟩, q7, q8⟩
     first | omega | exact absurd (show PossP p b from ⟨q1, q2, q3⟩) ‹¬ PossP p b› | (rcases hwx1 with ⟨g1, _⟩ | ⟨_, g1, _⟩ | ⟨_, _, g1, _⟩ | ⟨_, _, _, g1, _⟩; exact absurd q1 g1; exact absurd ⟨q5, q6⟩ g1; omega; omega)
   rw [partsN_no hno]
   exact ⟨_, (fun _ => Value.slice none 0 0), by rw [B_false hno], slh_nil, ((hS.sub (.cons _ .slnil)).addnil 5 34 (gcells (fun _ => Value.slice none 0 0) p.stock p.kerf (b - 1))).addrows 3 (fun _ => Value.slice none 0 0) (fun _ => p.m) (gfn p (MX p wi))⟩
  refine zsk <| ztn <| zsr ?_
  refine zlv (xfb 0 fd_34_0) ?_
  refine zlv (xlp 0 (ds := [vL, vD, .int .i64 p.stock, .int .i64 p.kerf]) st_32 hS) ?_
  refine zlv xmv ?_
  refine zlc (xc0 cl_44) (c_pwith (p := p) (wi := wi) w (h.below hS.below)) ?_; rintro _ w ⟨vox1, ux1, vvx1, fx1, ex1, rfl, hwx1, hvx1, hS'⟩
  replace hS : Sat w0 w [.blk g1 [vL, vD, .int .i64 p.stock, .int .i64 p.kerf, .int .i64 b], .own vox1 1 22 ux1 vvx1, .sem (Frame.rows 3 ux1 vvx1 (fun _ => p.m) fx1)] := hS.comp hS'; clear hS'
  have hrsx1 : ∀ k, 0 ≤ k → k < ux1 → Slh (vvx1 k) p.m := fun k k0 k1 => hS.slhIn 2 rfl k0 k1
  refine zs5 ?_
  refine zlt <| zsq <| zsr ?_
  refine zs2 ?_
  refine zlt ?_
  refine zcif ?_ ?_ <;> intro hc
  ·
   refine zsr ?_
   refine zs2 ?_
   refine zlt <| zrt <| ztr <| zf2 ⟨_, rfl, ?_⟩
   have hno : ¬ SplOk p b wi := by
     rintro ⟨⟨q1, q2, q3⟩, q4, ⟨q5, q6⟩, q7, q8⟩
     first | omega | exact absurd (show PossP p b from ⟨q1, q2, q3⟩) ‹¬ PossP p b› | (rcases hwx1 with ⟨g1, _⟩ | ⟨_, g1, _⟩ | ⟨_, _, g1, _⟩ | ⟨_, _, _, g1, _⟩; exact absurd q1 g1; exact absurd ⟨q5, q6⟩ g1; omega; omega)
   rw [partsN_no hno]
   exact ⟨_, (fun _ => Value.slice none 0 0), by rw [B_false hno], slh_nil, ((hS.sub (.cons _ (.cons _ (.cons _ .slnil)))).addnil 5 34 (gcells (fun _ => Value.slice none 0 0) p.stock p.kerf (b - 1))).addrows 3 (fun _ => Value.slice none 0 0) (fun _ => p.m) (gfn p (MX p wi))⟩
  refine zsk <| ztn <| zsr ?_
  refine zlv xas ?_
  refine zlt <| zsq <| zsr ?_
  refine zlv xmv ?_
  refine zlv (xln sl_83 hvx1) ?_
  refine zlv xmv ?_
  have hlx9 : Ls p.m ux1 fx1 (MX p wi) ∧ (MX p wi).length ≤ 300 := by rcases hwx1 with ⟨_, g1, _⟩ | ⟨_, _, g1, _⟩ | ⟨_, _, _, g1, _⟩ | ⟨_, _, g2, _, g1⟩; omega; omega; omega; exact ⟨g1, g2⟩
  have hlx8 := hlx9.2
  replace hlx9 := hlx9.1
  have hun := hvx1.n0; have hul := hlx9.1
  refine zlt <| zbk ?_
  replace hS := (hS.addnil 5 34 (gcells (fun _ => Value.slice none 0 0) p.stock p.kerf (b - 1))).addrows 3 (fun _ => Value.slice none 0 0) (fun _ => p.m) (gfn p (MX p wi))
  replace hS := hS.n5
  replace hS := hS.rowsn 4 rfl (show (0 : Int) = 2 * 0 from rfl)
  refine zlp (fun mm M w => ∃ (i : Int) (vv : Int → Value) (wG : Value), mm = ((ux1 - i).toNat) ∧ (0 ≤ i) ∧ (i ≤ ux1) ∧ (Slh wG i) ∧ M = [(2, .pointer (some ⟨g1, 0, none⟩)), (4, .slice none 0 0), (5, .bool false), (8, wG), (49, vox1), (50, .int .i64 ux1), (51, .int .i64 i)] ∧ Sat w0 w [.blk g1 [vL, vD, .int .i64 p.stock, .int .i64 p.kerf, .int .i64 b], .own vox1 1 22 ux1 vvx1, .sem (Frame.rows 3 ux1 vvx1 (fun _ => p.m) fx1), .own wG 5 34 i (gcells vv p.stock p.kerf (b - 1)), .sem (Frame.rows 3 (2 * i) vv (fun _ => p.m) (gfn p (MX p wi)))]) ⟨0, (fun _ => Value.slice none 0 0), (.slice none 0 0), rfl, (by omega), (by omega), ?_, rfl, hS⟩ ?_
  ·
   exact slh_nil
  clear hS w
  rintro mm M w ⟨i, vv, wG, rfl, h0, h1, hwG, rfl, hS⟩
  have hrG : ∀ k, 0 ≤ k → k < 2 * i → Slh (vv k) p.m := fun k k0 k1 => hS.slhIn 4 rfl k0 k1
  refine zsr ?_
  refine zlv xlss ?_
  refine zlt <| zsq ?_
  refine zcif ?_ ?_ <;> intro hc
  ·
   refine zsk <| ztn <| zsq <| zbk <| zsr ?_
   refine zlv (xix (kk := i) sl_83 hvx1) ?_
   refine zlv (xlr (u := (vvx1 i)) pl_22 (hS.rowN 1 rfl)) ?_
   refine zlv xas ?_
   refine zlt <| zrg ?_
   refine zlv xmv ?_
   refine zlv (xls 0 st_34 hS) ?_
   refine zlv xmv ?_
   refine zlc (xc0 cl_45) (c_less (p := p) (b := b) (x := (fx1 i)) w (h.below hS.below) hp hpb (show Row _ _ 1 p.m _ from (hS.rowIn (k := i) 2 rfl (by omega) (by omega))) rfl (part_rng hp hlx9 h0 (by omega))) ?_; rintro _ w ⟨vLl1, vDl1, rfl, hvLl1, hvDl1, hS'⟩
   replace hS : Sat w0 w [.blk g1 [vL, vD, .int .i64 p.stock, .int .i64 p.kerf, .int .i64 b], .own vox1 1 22 ux1 vvx1, .sem (Frame.rows 3 ux1 vvx1 (fun _ => p.m) fx1), .own wG 5 34 i (gcells vv p.stock p.kerf (b - 1)), .sem (Frame.rows 3 (2 * i) vv (fun _ => p.m) (gfn p (MX p wi))), .own vLl1 1 3 p.m (ints p.L), .own vDl1 1 3 p.d (ints (fun k => p.D k - (fx1 i) k))] := hS.comp hS'; clear hS'
   refine zla (xli (n := 1) (len := 1) (pv := [(0, .agg #[vLl1, vDl1, .int .i64 p.stock, .int .i64 p.kerf, .int .i64 (b - 1)])]) (cs := [vLl1, vDl1, .int .i64 p.stock, .int .i64 p.kerf, .int .i64 (b - 1)]) (c := gcells (pr2 vLl1 vDl1) p.stock p.kerf (b - 1)) sl_29 el_34 hS (hf := by obtain ⟨_, _, _, _, rfl, _⟩ := hvLl1; obtain ⟨_, _, _, _, rfl, _⟩ := hvDl1; kernel_rfl)) ?_; rintro v1 w ⟨hS, hv1⟩
   replace hS := hS.n8
   refine zla (xap 3 (r := i + 1) sl_29 el_34 hS (hS.rowN 7 rfl) (cat_gcells _ _ _ _ _ _ _) (h1 := fun k _ _ => gcells_one (pr2_one hvLl1.one hvDl1.one) k)) ?_; rintro v2 w ⟨hS, hv2⟩
   replace hS := hS.n8
   replace hS := Sat.merge (l1 := [_, _, _, _]) (l2 := []) (l3 := [_, _]) hS (by omega)
   replace hS := hS.n7
   replace hS := hS.rowsn 4 rfl (show _ = 2 * i + 1 by omega)
   have hrs1 := fun k (k0 : 0 ≤ k) (k1 : k < 2 * i + 1) => hS.slhIn 4 rfl k0 k1
   replace hS := hS.n7
   replace hS := Sat.merge (l1 := [_, _, _, _]) (l2 := []) (l3 := [_]) hS (by omega)
   replace hS := hS.n6
   replace hS := hS.rowsn 4 rfl (show _ = 2 * i + 2 by omega)
   have hrs2 := fun k (k0 : 0 ≤ k) (k1 : k < 2 * i + 2) => hS.slhIn 4 rfl k0 k1
   replace hS := hS.n6
   replace hS := hS.rerows (vv' := (gsn (gsn vv (2 * i) vLl1) (2 * i + 1) vDl1)) (ln' := fun _ => p.m) (f' := (gfn p (MX p wi))) 4 rfl (goal_rows hpd h0 (hlx9.2 i h0 (by omega)) _)
   replace hS := hS.rowsn 4 rfl (show 2 * i + 2 = 2 * (i + 1) by omega)
   replace hS := hS.n6
   refine zlv xas ?_
   refine zln <| zbn <| ztn <| zrg ?_
   refine zlv (xadd (r := i + 1)) ?_
   refine zlv xmv ?_
   have hlx9 : Ls p.m ux1 fx1 (MX p wi) ∧ (MX p wi).length ≤ 300 := by rcases hwx1 with ⟨_, g1, _⟩ | ⟨_, _, g1, _⟩ | ⟨_, _, _, g1, _⟩ | ⟨_, _, g2, _, g1⟩; omega; omega; omega; exact ⟨g1, g2⟩
   have hlx8 := hlx9.2
   replace hlx9 := hlx9.1
   have hun := hvx1.n0; have hul := hlx9.1
   refine zln <| zlq ⟨i + 1, (gsn (gsn vv (2 * i) vLl1) (2 * i + 1) vDl1), v2, rfl, (by omega), (by omega), ?_, rfl, hS.pk [0, 1, 2, 3, 4]⟩
   ·
    exact hv2
  refine zxt <| ztx <| ztx <| zbh <| ztn <| zsr ?_
  refine zs3 ?_
  refine zlt <| zrt <| zf2 ⟨_, rfl, ?_⟩
  have hi9 : i = ((MX p wi).length : Int) := by have := hlx9.1; omega
  have hyes : SplOk p b wi := ⟨hpo, by omega, by omega, by omega, by have := hlx9.1; omega⟩
  rw [partsN_yes hyes]
  subst hi9
  exact ⟨_, _, by rw [B_true hyes], hwG, hS.pk [3, 4]⟩
end Go.Proofs.YtkichmnjjblodaaGreat
namespace Go.Proofs.YtkichmnjjblodaaGreat
open Go Go.RowKit Go.Proofs.Gw
theorem cl_46 : calledT Tryz.prog 46 = true := by kernel_rfl
theorem el_24 : elemT Tryz.prog 24 = some (.agg #[.slice none 0 0, .slice none 0 0, .int .i64 0, .int .i64 0], 4, 64) := by kernel_rfl
theorem el_26 : elemT Tryz.prog 26 = some (.agg #[.slice none 0 0, .slice none 0 0, .int .i64 0, .int .i64 0, .int .i64 0], 5, 72) := by kernel_rfl
theorem sl_36 : sliceT Tryz.prog 36 = some (26, 5) := by kernel_rfl
theorem c_rsplit {vL vD : Value} {p : Prob} {b : Int} {wi : Int} (w0 : World) (h : PAt w0 vL vD p) :
    Calls Tryz.prog 15 [.agg #[vL, vD, .int .i64 p.stock, .int .i64 p.kerf, .int .i64 b], .int .i64 wi].toArray w0 fun e w => ∃ v, e = .returned v ∧ ∃ r vv, v = .tuple #[r, B (SplOk p b wi)] ∧ Slh r (partsN p b wi) ∧ Sat w0 w [.own r 5 26 (partsN p b wi) (gcells vv p.stock p.kerf (b - 1)), .sem (Frame.rows 3 (2 * partsN p b wi) vv (fun _ => p.m) (gfn p (MX p wi)))] := by
  have hm := h.L.slh.n0; have hm1 := h.L.slh.n1; have hd := h.D.slh.n0; have hd1 := h.D.slh.n1; have hs := h.is; have hk := h.ik
  refine zenG Tryz.func15 Tryz.ntmps15 fun w hS => ?_
  refine zsr ?_
  refine zla (xbx (cs := [_, _, _, _, _]) hS) ?_; rintro _ w ⟨g1, rfl, hS⟩
  replace hS := hS.n1
  refine zs2 ?_
  refine zlt <| zsq <| zsr ?_
  refine zlv (xls 0 st_26 hS) ?_
  refine zlc (xc0 cl_37) (c_rposs (p := p) (b := b) w (h.below hS.below)) ?_; rintro _ w ⟨rfl, hS'⟩
  replace hS := hS.cmp hS'; clear hS'
  refine zs2 ?_
  refine zlb 15 ?_ ?_ <;> intro hc
  ·
   iterate 2 refine zlo ?_
   refine zs2 ?_
   iterate 6 refine zlo ?_
   refine zs2 ?_
   iterate 7 refine zlo ?_
   refine zs2 ?_
   iterate 3 refine zlo ?_
   refine zlv xpt ?_
   refine zlt <| zct <| zsr ?_
   refine zs2 ?_
   refine zlt <| zrt <| ztr <| zf2 ⟨_, rfl, ?_⟩
   have hno : ¬ SplOk p b wi := by
     rintro ⟨⟨q1, q2, q3⟩, q4, ⟨q5, q6⟩, q7, q8⟩
     first | omega | exact absurd (show PossP p b from ⟨q1, q2, q3⟩) ‹¬ PossP p b› | (rcases hwx1 with ⟨g1, _⟩ | ⟨_, g1, _⟩ | ⟨_, _, g1, _⟩ | ⟨_, _, _, g1, _⟩; exact absurd q1 g1; exact absurd ⟨q5, q6⟩ g1; omega; omega)
   rw [partsN_no hno]
   exact ⟨_, (fun _ => Value.slice none 0 0), by rw [B_false hno], slh_nil, ((hS.sub (.cons _ .slnil)).addnil 5 26 (gcells (fun _ => Value.slice none 0 0) p.stock p.kerf (b - 1))).addrows 3 (fun _ => Value.slice none 0 0) (fun _ => p.m) (gfn p (MX p wi))⟩
  refine zlv xmv ?_
  have hpo : PossP p b := by first | assumption | exact Classical.not_not.1 ‹_›
  have hp := hpo.1; have hpb := hpo.2
  have hpm := hp.m1; have hpm2 := hp.m2; have hpd := hp.d; have hs1 := hp.s1; have hs2 := hp.s2; have hk1 := hp.k1; have hk2 := hp.k2
  refine zs3 ?_
  refine zlb 19 ?_ ?_ <;> intro hc
  ·
   iterate 6 refine zlo ?_
   refine zs2 ?_
   iterate 7 refine zlo ?_
   refine zs2 ?_
   iterate 3 refine zlo ?_
   refine zlv xpt ?_
   refine zlt <| zct <| zsr ?_
   refine zs2 ?_
   refine zlt <| zrt <| ztr <| zf2 ⟨_, rfl, ?_⟩
   have hno : ¬ SplOk p b wi := by
     rintro ⟨⟨q1, q2, q3⟩, q4, ⟨q5, q6⟩, q7, q8⟩
     first | omega | exact absurd (show PossP p b from ⟨q1, q2, q3⟩) ‹¬ PossP p b› | (rcases hwx1 with ⟨g1, _⟩ | ⟨_, g1, _⟩ | ⟨_, _, g1, _⟩ | ⟨_, _, _, g1, _⟩; exact absurd q1 g1; exact absurd ⟨q5, q6⟩ g1; omega; omega)
   rw [partsN_no hno]
   exact ⟨_, (fun _ => Value.slice none 0 0), by rw [B_false hno], slh_nil, ((hS.sub (.cons _ .slnil)).addnil 5 26 (gcells (fun _ => Value.slice none 0 0) p.stock p.kerf (b - 1))).addrows 3 (fun _ => Value.slice none 0 0) (fun _ => p.m) (gfn p (MX p wi))⟩
  refine zlv xmv ?_
  refine zlv (xfb 0 fd_26_0) ?_
  refine zlv (xfb 0 fd_24_0) ?_
  refine zlv (xlb 0 pl_22 hS) ?_
  refine zlv (xln sl_22 h.L.slh) ?_
  refine zs3 ?_
  refine zlb 27 ?_ ?_ <;> intro hc
  ·
   iterate 7 refine zlo ?_
   refine zs2 ?_
   iterate 3 refine zlo ?_
   refine zlv xpt ?_
   refine zlt <| zct <| zsr ?_
   refine zs2 ?_
   refine zlt <| zrt <| ztr <| zf2 ⟨_, rfl, ?_⟩
   have hno : ¬ SplOk p b wi := by
     rintro ⟨⟨q1, q2, q3⟩, q4, ⟨q5, q6⟩, q7, q8⟩
     first | omega | exact absurd (show PossP p b from ⟨q1, q2, q3⟩) ‹¬ PossP p b› | (rcases hwx1 with ⟨g1, _⟩ | ⟨_, g1, _⟩ | ⟨_, _, g1, _⟩ | ⟨_, _, _, g1, _⟩; exact absurd q1 g1; exact absurd ⟨q5, q6⟩ g1; omega; omega)
   rw [partsN_no hno]
   exact ⟨_, (fun _ => Value.slice none 0 0), by rw [B_false hno], slh_nil, ((hS.sub (.cons _ .slnil)).addnil 5 26 (gcells (fun _ => Value.slice none 0 0) p.stock p.kerf (b - 1))).addrows 3 (fun _ => Value.slice none 0 0) (fun _ => p.m) (gfn p (MX p wi))⟩
  refine zlv (xfb 0 fd_26_0) ?_
  refine zlv (xfb 1 fd_24_1) ?_
  refine zlv (xlb 0 pl_22 hS) ?_
  refine zlv xmv ?_
  refine zlv (xix (kk := wi) sl_22 h.D.slh) ?_
  refine zlv (xlr (u := .int .i64 (p.D wi)) pl_3 (h.D.below hS.below)) ?_
  have hbv := h.iD wi
  refine zs3 ?_
  refine zlb 36 ?_ ?_ <;> intro hc
  ·
   iterate 3 refine zlo ?_
   refine zlv xpt ?_
   refine zlt <| zct <| zsr ?_
   refine zs2 ?_
   refine zlt <| zrt <| ztr <| zf2 ⟨_, rfl, ?_⟩
   have hno : ¬ SplOk p b wi := by
     rintro ⟨⟨q1, q2, q3⟩, q4, ⟨q5, q6⟩, q7, q8⟩
     first | omega | exact absurd (show PossP p b from ⟨q1, q2, q3⟩) ‹¬ PossP p b› | (rcases hwx1 with ⟨g1, _⟩ | ⟨_, g1, _⟩ | ⟨_, _, g1, _⟩ | ⟨_, _, _, g1, _⟩; exact absurd q1 g1; exact absurd ⟨q5, q6⟩ g1; omega; omega)
   rw [partsN_no hno]
   exact ⟨_, (fun _ => Value.slice none 0 0), by rw [B_false hno], slh_nil, ((hS.sub (.cons _ .slnil)).addnil 5 26 (gcells (fun _ => Value.slice none 0 0) p.stock p.kerf (b - 1))).addrows 3 (fun _ => Value.slice none 0 0) (fun _ => p.m) (gfn p (MX p wi))⟩
  refine zlv (xfb 4 fd_26_1) ?_
  refine zlv (xlb 0 pl_3 hS) ?_
  refine zs2 ?_
  refine zlt ?_
  refine zcif ?_ ?_ <;> intro hc
  ·
   refine zsr ?_
   refine zs2 ?_
   refine zlt <| zrt <| ztr <| zf2 ⟨_, rfl, ?_⟩
   have hno : ¬ SplOk p b wi := by
     rintro ⟨⟨q1, q2, q3⟩, q4, ⟨q5, q6⟩, q7, q8⟩
     first | omega | exact absurd (show PossP p b from ⟨q1, q2, q3⟩) ‹¬ PossP p b› | (rcases hwx1 with ⟨g1, _⟩ | ⟨_, g1, _⟩ | ⟨_, _, g1, _⟩ | ⟨_, _, _, g1, _⟩; exact absurd q1 g1; exact absurd ⟨q5, q6⟩ g1; omega; omega)
   rw [partsN_no hno]
   exact ⟨_, (fun _ => Value.slice none 0 0), by rw [B_false hno], slh_nil, ((hS.sub (.cons _ .slnil)).addnil 5 26 (gcells (fun _ => Value.slice none 0 0) p.stock p.kerf (b - 1))).addrows 3 (fun _ => Value.slice none 0 0) (fun _ => p.m) (gfn p (MX p wi))⟩
  refine zsk <| ztn <| zsr ?_
  refine zlv (xfb 0 fd_26_0) ?_
  refine zlv (xlp 0 (ds := [vL, vD, .int .i64 p.stock, .int .i64 p.kerf]) st_24 hS) ?_
  refine zlv xmv ?_
  refine zlc (xc0 cl_46) (c_rwith (p := p) (wi := wi) w (h.below hS.below)) ?_; rintro _ w ⟨vox1, ux1, vvx1, fx1, ex1, rfl, hwx1, hvx1, hS'⟩
  replace hS : Sat w0 w [.blk g1 [vL, vD, .int .i64 p.stock, .int .i64 p.kerf, .int .i64 b], .own vox1 1 22 ux1 vvx1, .sem (Frame.rows 3 ux1 vvx1 (fun _ => p.m) fx1)] := hS.comp hS'; clear hS'
  have hrsx1 : ∀ k, 0 ≤ k → k < ux1 → Slh (vvx1 k) p.m := fun k k0 k1 => hS.slhIn 2 rfl k0 k1
  refine zs5 ?_
  refine zlt <| zsq <| zsr ?_
  refine zs2 ?_
  refine zlt ?_
  refine zcif ?_ ?_ <;> intro hc
  ·
   refine zsr ?_
   refine zs2 ?_
   refine zlt <| zrt <| ztr <| zf2 ⟨_, rfl, ?_⟩
   have hno : ¬ SplOk p b wi := by
     rintro ⟨⟨q1, q2, q3⟩, q4, ⟨q5, q6⟩, q7, q8⟩
     first | omega | exact absurd (show PossP p b from ⟨q1, q2, q3⟩) ‹¬ PossP p b› | (rcases hwx1 with ⟨g1, _⟩ | ⟨_, g1, _⟩ | ⟨_, _, g1, _⟩ | ⟨_, _, _, g1, _⟩; exact absurd q1 g1; exact absurd ⟨q5, q6⟩ g1; omega; omega)
   rw [partsN_no hno]
   exact ⟨_, (fun _ => Value.slice none 0 0), by rw [B_false hno], slh_nil, ((hS.sub (.cons _ (.cons _ (.cons _ .slnil)))).addnil 5 26 (gcells (fun _ => Value.slice none 0 0) p.stock p.kerf (b - 1))).addrows 3 (fun _ => Value.slice none 0 0) (fun _ => p.m) (gfn p (MX p wi))⟩
  refine zsk <| ztn <| zsr ?_
  refine zlv xas ?_
  refine zlt <| zsq <| zsr ?_
  refine zlv xas ?_
  have hlx9 : Ls p.m ux1 fx1 (MX p wi) ∧ (MX p wi).length ≤ 300 := by rcases hwx1 with ⟨_, g1, _⟩ | ⟨_, _, g1, _⟩ | ⟨_, _, _, g1, _⟩ | ⟨_, _, g2, _, g1⟩; omega; omega; omega; exact ⟨g1, g2⟩
  have hlx8 := hlx9.2
  replace hlx9 := hlx9.1
  have hun := hvx1.n0; have hul := hlx9.1
  refine zlt <| zbk ?_
  replace hS := (hS.addnil 5 26 (gcells (fun _ => Value.slice none 0 0) p.stock p.kerf (b - 1))).addrows 3 (fun _ => Value.slice none 0 0) (fun _ => p.m) (gfn p (MX p wi))
  replace hS := hS.n5
  replace hS := hS.rowsn 4 rfl (show (0 : Int) = 2 * 0 from rfl)
  refine zlp (fun mm M w => ∃ (i : Int) (vv : Int → Value) (wG : Value), mm = ((ux1 - i).toNat) ∧ (0 ≤ i) ∧ (i ≤ ux1) ∧ (Slh wG i) ∧ M = [(2, .pointer (some ⟨g1, 0, none⟩)), (4, .slice none 0 0), (5, .bool false), (6, vox1), (8, wG), (9, .int .i64 i)] ∧ Sat w0 w [.blk g1 [vL, vD, .int .i64 p.stock, .int .i64 p.kerf, .int .i64 b], .own vox1 1 22 ux1 vvx1, .sem (Frame.rows 3 ux1 vvx1 (fun _ => p.m) fx1), .own wG 5 26 i (gcells vv p.stock p.kerf (b - 1)), .sem (Frame.rows 3 (2 * i) vv (fun _ => p.m) (gfn p (MX p wi)))]) ⟨0, (fun _ => Value.slice none 0 0), (.slice none 0 0), rfl, (by omega), (by omega), ?_, rfl, hS⟩ ?_
  ·
   exact slh_nil
  clear hS w
  rintro mm M w ⟨i, vv, wG, rfl, h0, h1, hwG, rfl, hS⟩
  have hrG : ∀ k, 0 ≤ k → k < 2 * i → Slh (vv k) p.m := fun k k0 k1 => hS.slhIn 4 rfl k0 k1
  refine zsq <| zsr ?_
  refine zs2 ?_
  refine zlv (xln sl_83 hvx1) ?_
  refine zlv xlss ?_
  refine zlt ?_
  refine zcif ?_ ?_ <;> intro hc
  ·
   refine zsk <| ztn <| zsq <| zbk <| zsr ?_
   refine zlv (xfb 0 fd_26_0) ?_
   refine zlv (xlp 0 (ds := [vL, vD, .int .i64 p.stock, .int .i64 p.kerf]) st_24 hS) ?_
   refine zla (xal (cs := [_, _, _, _]) el_24 hS) ?_; rintro _ w ⟨g2, rfl, hS⟩
   replace hS := hS.n6
   refine zle (xsw 5 st_24 hS (hd := (ones_cons h.L.slh.one (ones_cons h.D.slh.one (ones_cons rfl (ones_cons rfl ones_nil)))))) ?_; clear hS; rintro w hS
   replace hS := hS.n6
   refine zlz ?_
   refine zla (xl0 (c := ints p.L) sl_22 hS) ?_; rintro v1 w ⟨hS, hv1⟩
   replace hS := hS.n7
   refine zlv (xfb 0 fd_24_0) ?_
   refine zlv (xlb 5 pl_22 hS) ?_
   refine zla (xap 6 (r := p.m) (f := ints p.L) sl_22 el_3 hS (h.L.below hS.below) (by exact cat_self _ _)) ?_; rintro v2 w ⟨hS, hv2⟩
   replace hS := hS.n7
   refine zlv (xfb 0 fd_24_0) ?_
   refine zle (xsb 5 pl_22 hS (hv := hv2.one)) ?_; clear hS; rintro w hS
   replace hS := hS.n7
   refine zlz ?_
   refine zla (xl0 (c := ints p.D) sl_22 hS) ?_; rintro v3 w ⟨hS, hv3⟩
   replace hS := hS.n8
   refine zlv (xfb 1 fd_24_1) ?_
   refine zlv (xlb 5 pl_22 hS) ?_
   refine zla (xap 7 (r := p.d) (f := ints p.D) sl_22 el_3 hS (h.D.below hS.below) (by exact cat_self _ _)) ?_; rintro v4 w ⟨hS, hv4⟩
   replace hS := hS.n8
   refine zlv (xfb 1 fd_24_1) ?_
   refine zle (xsb 5 pl_22 hS (hv := hv4.one)) ?_; clear hS; rintro w hS
   replace hS := hS.n8
   refine zlt <| zsq <| zsr ?_
   refine zlv xas ?_
   refine zlt <| zbk <| zlp (fun mm M w => ∃ (fd : Int → Int) (n : Int), mm = ((p.m - n).toNat) ∧ (0 ≤ n) ∧ (n ≤ p.m) ∧ (∀ k, 0 ≤ k → k < p.m → fd k = if k < n then p.D k - fx1 i k else p.D k) ∧ M = [(2, .pointer (some ⟨g1, 0, none⟩)), (4, .slice none 0 0), (5, .bool false), (6, vox1), (8, wG), (9, .int .i64 i), (10, .pointer (some ⟨g2, 0, none⟩)), (11, .int .i64 n)] ∧ Sat w0 w [.blk g1 [vL, vD, .int .i64 p.stock, .int .i64 p.kerf, .int .i64 b], .own vox1 1 22 ux1 vvx1, .sem (Frame.rows 3 ux1 vvx1 (fun _ => p.m) fx1), .own wG 5 26 i (gcells vv p.stock p.kerf (b - 1)), .sem (Frame.rows 3 (2 * i) vv (fun _ => p.m) (gfn p (MX p wi))), .blk g2 [v2, v4, .int .i64 p.stock, .int .i64 p.kerf], .own v2 1 3 p.m (ints p.L), .own v4 1 3 p.d (ints fd)]) ⟨p.D, 0, rfl, (by omega), (by omega), ?_, rfl, hS⟩ ?_
   ·
    intro k k0 k1; rw [if_neg (by omega)]
   clear hS w
   rintro mm M w ⟨fd, n, rfl, n0, n1, hfd, rfl, hS⟩
   refine zsq <| zsr ?_
   refine zs3 ?_
   refine zlv (xix (kk := i) sl_83 hvx1) ?_
   refine zlv (xlr (u := (vvx1 i)) pl_22 (hS.rowN 1 rfl)) ?_
   refine zlv (xln sl_22 (hrsx1 i (by omega) (by omega))) ?_
   refine zlv xlss ?_
   refine zlt ?_
   refine zcif ?_ ?_ <;> intro hc
   ·
    refine zsk <| ztn <| zsq <| zbk ?_
    refine zdst [0, 1, 2, 3, 4, 5, 6, 7] [0, 1, 2, 3, 4, 5, 6] 14 mx_ hS ?_; clear hS; intro w hS
    refine zdv 0 (fun _ => (xfb 1 fd_24_1)) ?_
    refine zdla 1 (fun w hS => (xlb 5 pl_22 hS)) ?_
    refine zdv 2 (fun _ => xmv) ?_
    refine zdv 3 (fun _ => (xix (kk := n) sl_22 hv4)) ?_
    refine zdl 4 (fun w hS => (xlr (u := .int .i64 (fd n)) pl_3 (hS.rowN 7 rfl))) ?_
    have hxi := part_rng hp hlx9 h0 (show i < ux1 by omega) n n0 (by omega); have hei := hp.all n n0 (by omega); unfold Prob.each at hei; have hfi := hfd n n0 (by omega); rw [if_neg (by omega)] at hfi
    refine zdv 5 (fun _ => xmv) ?_
    refine zdv 6 (fun _ => xmv) ?_
    refine zdv 7 (fun _ => (xix (kk := i) sl_83 hvx1)) ?_
    refine zdla 8 (fun w hS => (xlr (u := (vvx1 i)) pl_22 (hS.rowN 1 rfl))) ?_
    refine zdv 9 (fun _ => xmv) ?_
    refine zdv 10 (fun _ => (xix (kk := n) sl_22 (hrsx1 i (by omega) (by omega)))) ?_
    refine zdla 11 (fun w hS => (xlr (u := .int .i64 (fx1 i n)) pl_3 (show Row _ _ 1 p.m _ from (hS.rowIn (k := i) 2 rfl (by omega) (by omega))))) ?_
    refine zdv 12 (fun _ => (xsub (r := fd n - (fx1 i n)))) ?_
    refine zdv 13 (fun _ => (xix (kk := n) sl_22 hv4)) ?_
    refine zde 14 (xso 7 pl_3 hS (upd_ints _ _ _)) ?_; clear hS; rintro w hS
    replace hS := hS.n8
    refine ⟨⟨fun h => absurd h (by decide), hS.pk [0, 1, 2, 3, 4, 5, 6]⟩, ?_⟩
    refine zdd <| zbn <| ztn <| zrg ?_
    refine zlv xmv ?_
    refine zlv (xadd (r := n + 1)) ?_
    refine zlv xas ?_
    refine zln <| zlq ⟨(upd fd n (fd n - (fx1 i n))), n + 1, rfl, (by omega), (by omega), ?_, rfl, hS⟩
    ·
     intro k k0 k1; unfold upd; by_cases e : k = n
     · rw [if_pos e, if_pos (by omega), e]; omega
     · rw [if_neg e, hfd k k0 k1]; by_cases e2 : k < n
       · rw [if_pos e2, if_pos (by omega)]
       · rw [if_neg e2, if_neg (by omega)]
   refine zxt <| ztx <| ztx <| zbh <| ztn <| zrg ?_
   refine zlv xmv ?_
   replace hS := hS.recont 7 rfl (d := ints (fun k => p.D k - (fx1 i) k)) (fun k k0 k1 => by unfold ints; rw [hfd k k0 (by omega), if_pos (by omega)])
   replace hS := hS.n8
   refine zlv (xls 5 st_24 hS) ?_
   refine zlv (xfb 4 fd_26_1) ?_
   refine zlv (xlb 0 pl_3 hS) ?_
   refine zlv (xsub (r := b - 1)) ?_
   refine zlv (xany (v := .agg #[v2, v4, .int .i64 p.stock, .int .i64 p.kerf, .int .i64 (b - 1)]) (hr := by obtain ⟨_, _, _, _, rfl, _⟩ := hv2; obtain ⟨_, _, _, _, rfl, _⟩ := hv4; kernel_rfl)) ?_
   refine zla (xli (n := 1) (len := 1) (pv := [(0, .agg #[v2, v4, .int .i64 p.stock, .int .i64 p.kerf, .int .i64 (b - 1)])]) (cs := [v2, v4, .int .i64 p.stock, .int .i64 p.kerf, .int .i64 (b - 1)]) (c := gcells (pr2 v2 v4) p.stock p.kerf (b - 1)) sl_36 el_26 hS (hf := by obtain ⟨_, _, _, _, rfl, _⟩ := hv2; obtain ⟨_, _, _, _, rfl, _⟩ := hv4; kernel_rfl)) ?_; rintro v5 w ⟨hS, hv5⟩
   replace hS := hS.n9
   refine zla (xap 3 (r := i + 1) sl_36 el_26 hS (hS.rowN 8 rfl) (cat_gcells _ _ _ _ _ _ _) (h1 := fun k _ _ => gcells_one (pr2_one hv2.one hv4.one) k)) ?_; rintro v6 w ⟨hS, hv6⟩
   replace hS := hS.n9
   replace hS := Sat.merge (l1 := [_, _, _, _]) (l2 := [_]) (l3 := [_, _]) hS (by omega)
   replace hS := hS.n8
   replace hS := hS.rowsn 4 rfl (show _ = 2 * i + 1 by omega)
   have hrs1 := fun k (k0 : 0 ≤ k) (k1 : k < 2 * i + 1) => hS.slhIn 4 rfl k0 k1
   replace hS := hS.n8
   replace hS := Sat.merge (l1 := [_, _, _, _]) (l2 := [_]) (l3 := [_]) hS (by omega)
   replace hS := hS.n7
   replace hS := hS.rowsn 4 rfl (show _ = 2 * i + 2 by omega)
   have hrs2 := fun k (k0 : 0 ≤ k) (k1 : k < 2 * i + 2) => hS.slhIn 4 rfl k0 k1
   replace hS := hS.n7
   replace hS := hS.rerows (vv' := (gsn (gsn vv (2 * i) v2) (2 * i + 1) v4)) (ln' := fun _ => p.m) (f' := (gfn p (MX p wi))) 4 rfl (goal_rows hpd h0 (hlx9.2 i h0 (by omega)) _)
   replace hS := hS.rowsn 4 rfl (show 2 * i + 2 = 2 * (i + 1) by omega)
   replace hS := hS.n7
   refine zlv xas ?_
   refine zln <| zbn <| ztn <| zrg ?_
   refine zlv xmv ?_
   refine zlv (xadd (r := i + 1)) ?_
   refine zlv xas ?_
   refine zln <| zlq ⟨i + 1, (gsn (gsn vv (2 * i) v2) (2 * i + 1) v4), v6, rfl, (by omega), (by omega), ?_, rfl, hS.pk [0, 1, 2, 3, 4]⟩
   ·
    exact hv6
  refine zxt <| ztx <| ztx <| zbh <| ztn <| zsr ?_
  refine zs3 ?_
  refine zlt <| zrt <| zf2 ⟨_, rfl, ?_⟩
  have hi9 : i = ((MX p wi).length : Int) := by have := hlx9.1; omega
  have hyes : SplOk p b wi := ⟨hpo, by omega, by omega, by omega, by have := hlx9.1; omega⟩
  rw [partsN_yes hyes]
  subst hi9
  exact ⟨_, _, by rw [B_true hyes], hwG, hS.pk [3, 4]⟩
end Go.Proofs.YtkichmnjjblodaaGreat
namespace Go.Proofs.Ev
open Go Go.RowKit Go.Proofs.Gw
inductive T (α : Type) where
  | n (l r : T α)
  | f (a : List (Nat × α))
noncomputable def look {α : Type} (a : List (Nat × α)) (i : Nat) : Option α := List.rec none (fun p _ ih => Bool.rec ih (some p.2) (Nat.beq p.1 i)) a
noncomputable def put {α : Type} (a : List (Nat × α)) (i : Nat) (v : α) : List (Nat × α) := List.rec [(i, v)] (fun p r ih => Bool.rec (p :: ih) ((i, v) :: r) (Nat.beq p.1 i)) a
noncomputable def T.get {α : Type} (t : T α) : Nat → Option α :=
  T.rec (motive := fun _ => Nat → Option α) (fun _ _ gl gr i => Bool.rec (gr (Nat.div i 2)) (gl (Nat.div i 2)) (Nat.beq (Nat.mod i 2) 0)) (fun a i => look a i) t
noncomputable def T.set {α : Type} (t : T α) (i : Nat) (v : α) : T α :=
  T.rec (motive := fun _ => Nat → T α) (fun l r gl gr i => Bool.rec (.n l (gr (Nat.div i 2))) (.n (gl (Nat.div i 2)) r) (Nat.beq (Nat.mod i 2) 0)) (fun a i => .f (put a i v)) t i
theorem look_nil {α : Type} (i : Nat) : look ([] : List (Nat × α)) i = none := rfl
theorem look_cons {α : Type} (k : Nat) (v : α) (r : List (Nat × α)) (i : Nat) : look ((k, v) :: r) i = bif Nat.beq k i then some v else look r i := by
  show (Bool.rec (look r i) (some v) (Nat.beq k i) : Option α) = _
  cases Nat.beq k i <;> rfl
theorem put_nil {α : Type} (i : Nat) (v : α) : put [] i v = [(i, v)] := rfl
theorem put_cons {α : Type} (k : Nat) (u : α) (r : List (Nat × α)) (i : Nat) (v : α) : put ((k, u) :: r) i v = bif Nat.beq k i then (i, v) :: r else (k, u) :: put r i v := by
  show (Bool.rec ((k, u) :: put r i v) ((i, v) :: r) (Nat.beq k i) : List (Nat × α)) = _
  cases Nat.beq k i <;> rfl
theorem T.get_f {α : Type} (a : List (Nat × α)) (i : Nat) : (T.f a).get i = look a i := rfl
theorem T.get_n {α : Type} (l r : T α) (i : Nat) : (T.n l r).get i = bif Nat.beq (i % 2) 0 then l.get (i / 2) else r.get (i / 2) := by
  show (Bool.rec (r.get (i / 2)) (l.get (i / 2)) (Nat.beq (i % 2) 0) : Option α) = _
  cases Nat.beq (i % 2) 0 <;> rfl
theorem T.set_f {α : Type} (a : List (Nat × α)) (i : Nat) (v : α) : (T.f a).set i v = .f (put a i v) := rfl
theorem T.set_n {α : Type} (l r : T α) (i : Nat) (v : α) : (T.n l r).set i v = bif Nat.beq (i % 2) 0 then .n (l.set (i / 2) v) r else .n l (r.set (i / 2) v) := by
  show (Bool.rec (.n l (r.set (i / 2) v)) (.n (l.set (i / 2) v) r) (Nat.beq (i % 2) 0) : T α) = _
  cases Nat.beq (i % 2) 0 <;> rfl
noncomputable def T.mk {α : Type} : Nat → T α
  | 0 => .f []
  | d + 1 => .n (T.mk d) (T.mk d)
theorem beq_iff {a b : Nat} : Nat.beq a b = true ↔ a = b := ⟨Nat.eq_of_beq_eq_true, fun h => by subst h; exact Nat.beq_refl a⟩
theorem beq_no {a b : Nat} (h : a ≠ b) : Nat.beq a b = false := nbeq h
theorem look_put {α : Type} (v : α) (i : Nat) : ∀ (a : List (Nat × α)) (j : Nat), look (put a i v) j = if i = j then some v else look a j
  | [], j => by
    rw [put_nil, look_cons, look_nil]
    by_cases h : i = j
    · subst h; simp
    · simp [beq_no h, h]
  | (k, u) :: r, j => by
    rw [put_cons]
    by_cases hk : k = i
    · subst hk
      simp only [Nat.beq_refl, cond_true, look_cons]
      by_cases h : k = j
      · subst h; simp
      · simp [beq_no h, h]
    · simp only [beq_no hk, cond_false, look_cons, look_put v i r j]
      by_cases h : k = j
      · subst h; simp [Ne.symm hk]
      · simp [beq_no h]
theorem T.get_set {α : Type} (v : α) : ∀ (t : T α) (i j : Nat), (t.set i v).get j = if i = j then some v else t.get j
  | .f a, i, j => by rw [T.set_f, T.get_f, T.get_f]; exact look_put v i a j
  | .n l r, i, j => by
    rw [T.set_n]
    by_cases hi : i % 2 = 0
    · simp only [hi, Nat.beq_refl, cond_true, T.get_n]
      by_cases hj : j % 2 = 0
      · simp only [hj, Nat.beq_refl, cond_true, T.get_set v l]
        by_cases h : i = j
        · subst h; simp
        · rw [if_neg (by omega), if_neg h]
      · simp only [beq_no hj, cond_false]
        rw [if_neg (by omega)]
    · simp only [beq_no hi, cond_false, T.get_n]
      by_cases hj : j % 2 = 0
      · simp only [hj, Nat.beq_refl, cond_true]
        rw [if_neg (by omega)]
      · simp only [beq_no hj, cond_false, T.get_set v r]
        by_cases h : i = j
        · subst h; simp
        · rw [if_neg (by omega), if_neg h]
theorem T.get_mk {α : Type} : ∀ (d i : Nat), (T.mk d : T α).get i = none
  | 0, _ => rfl
  | d + 1, i => by
    unfold T.mk
    rw [T.get_n]
    simp only [T.get_mk d]
    cases Nat.beq (i % 2) 0 <;> rfl
inductive V where
  | bool (b : Bool)
  | int (k : IntKind) (n : Int)
  | pn
  | p (k off : Nat)
  | sn
  | s (k off n cap : Nat)
  | su (k n : Nat)
  | so (k off n : Nat)
  | fn (f : Nat) (cap : List V)
  | yl (l : Nat)
  | nf
  | str (s : ByteArray)
  | agg (l : List V)
  | tup (l : List V)
abbrev Env := Nat → Option (Nat × Nat)
mutual
inductive VR (β : Env) : V → Value → Prop
  | bool (b : Bool) : VR β (.bool b) (.bool b)
  | int (k : IntKind) (n : Int) : VR β (.int k n) (.int k n)
  | pn : VR β .pn (.pointer none)
  | p {k off b c : Nat} : β k = some (b, c) → VR β (.p k off) (.pointer (some ⟨b, off, none⟩))
  | sn : VR β .sn (.slice none 0 0)
  | s {k off n cap b c : Nat} : β k = some (b, c) → VR β (.s k off n cap) (.slice (some ⟨b, off, none⟩) n cap)
  | su {k n b c : Nat} : β k = some (b, c) → n ≤ c → VR β (.su k n) (.slice (some ⟨b, 0, none⟩) n c)
  | so {k off n b c o cap : Nat} : β k = some (b, c) → n ≤ cap → (n = 0 ∨ o = off) → VR β (.so k off n) (.slice (some ⟨b, o, none⟩) n cap)
  | fn {f : Nat} {l : List V} {vs : List Value} : VRs β l vs → VR β (.fn f l) (.func (.func f) #[] vs.toArray)
  | yl {l b c : Nat} : β l = some (b, c) → VR β (.yl l) (.func (.yield b) #[] #[])
  | nf : VR β .nf .nilFunc
  | str (s : ByteArray) : VR β (.str s) (.string s)
  | agg {l : List V} {vs : List Value} : VRs β l vs → VR β (.agg l) (.agg vs.toArray)
  | tup {l : List V} {vs : List Value} : VRs β l vs → VR β (.tup l) (.tuple vs.toArray)
inductive VRs (β : Env) : List V → List Value → Prop
  | nil : VRs β [] []
  | cons {v : V} {u : Value} {l : List V} {us : List Value} : VR β v u → VRs β l us → VRs β (v :: l) (u :: us)
end
noncomputable def Ext (β β' : Env) : Prop := ∀ k x, β k = some x → β' k = some x
theorem Ext.refl (β : Env) : Ext β β := fun _ _ h => h
theorem Ext.trans {β β' β'' : Env} (h : Ext β β') (h' : Ext β' β'') : Ext β β'' := fun k x hk => h' k x (h k x hk)
mutual
theorem VR.mono {β β' : Env} (h : Ext β β') : ∀ {v : V} {u : Value}, VR β v u → VR β' v u
  | _, _, .bool b => .bool b
  | _, _, .int k n => .int k n
  | _, _, .pn => .pn
  | _, _, .p e => .p (h _ _ e)
  | _, _, .sn => .sn
  | _, _, .s e => .s (h _ _ e)
  | _, _, .su e l => .su (h _ _ e) l
  | _, _, .so e l o => .so (h _ _ e) l o
  | _, _, .fn e => .fn (VRs.mono h e)
  | _, _, .yl e => .yl (h _ _ e)
  | _, _, .nf => .nf
  | _, _, .str s => .str s
  | _, _, .agg e => .agg (VRs.mono h e)
  | _, _, .tup e => .tup (VRs.mono h e)
theorem VRs.mono {β β' : Env} (h : Ext β β') : ∀ {l : List V} {us : List Value}, VRs β l us → VRs β' l us
  | _, _, .nil => .nil
  | _, _, .cons a b => .cons (VR.mono h a) (VRs.mono h b)
end
theorem VRs.len {β : Env} : ∀ {l : List V} {us : List Value}, VRs β l us → us.length = l.length
  | _, _, .nil => rfl
  | _, _, .cons _ b => by simp [VRs.len b]
theorem VRs.get {β : Env} : ∀ {l : List V} {us : List Value}, VRs β l us → ∀ {i : Nat} {v : V}, l[i]? = some v → ∃ u, us[i]? = some u ∧ VR β v u
  | _, _, .nil, i, v, h => by simp at h
  | _, _, .cons a b, 0, v, h => by simp at h; subst h; exact ⟨_, rfl, a⟩
  | _, _, .cons a b, i + 1, v, h => by simp at h; simpa using VRs.get b h
theorem VRs.app {β : Env} : ∀ {l : List V} {us : List Value}, VRs β l us → ∀ {m : List V} {ws : List Value}, VRs β m ws → VRs β (l ++ m) (us ++ ws)
  | _, _, .nil, _, _, h => h
  | _, _, .cons a b, _, _, h => .cons a (VRs.app b h)
theorem VRs.take {β : Env} : ∀ {l : List V} {us : List Value}, VRs β l us → ∀ (n : Nat), VRs β (l.take n) (us.take n)
  | _, _, .nil, n => by simp; exact .nil
  | _, _, .cons a b, 0 => .nil
  | _, _, .cons a b, n + 1 => .cons a (VRs.take b n)
theorem VRs.drop {β : Env} : ∀ {l : List V} {us : List Value}, VRs β l us → ∀ (n : Nat), VRs β (l.drop n) (us.drop n)
  | _, _, .nil, n => by simp; exact .nil
  | _, _, .cons a b, 0 => .cons a b
  | _, _, .cons a b, n + 1 => VRs.drop b n
theorem VRs.set {β : Env} {v : V} {u : Value} (h : VR β v u) : ∀ {l : List V} {us : List Value}, VRs β l us → ∀ (n : Nat), VRs β (l.set n v) (us.set n u)
  | _, _, .nil, n => by simp; exact .nil
  | _, _, .cons a b, 0 => .cons h b
  | _, _, .cons a b, n + 1 => .cons a (VRs.set h b n)
noncomputable def cellsV : V → List V
  | .agg l => l
  | v => [v]
noncomputable def one : V → Bool
  | .agg _ | .tup _ => false
  | _ => true
theorem VR.cells {β : Env} {v : V} {u : Value} (h : VR β v u) : VRs β (cellsV v) u.cells.toList := by
  cases h <;> first | exact .cons (by constructor <;> assumption) .nil | skip
  · rename_i h; simpa [Value.cells, cellsV] using h
theorem VR.one {β : Env} {v : V} {u : Value} (h : VR β v u) (h1 : one v = true) : u.oneCell' = true := by
  cases h <;> first | rfl | cases h1
theorem VRs.one {β : Env} : ∀ {l : List V} {us : List Value}, VRs β l us → l.all Ev.one = true → ∀ u ∈ us, u.oneCell' = true
  | _, _, .nil, _, u, hu => by cases hu
  | _, _, .cons a b, h, u, hu => by
    rw [List.all_cons, Bool.and_eq_true] at h
    rcases List.mem_cons.1 hu with rfl | hu
    · exact a.one h.1
    · exact VRs.one b h.2 u hu
inductive Ob where
  | cells (l : List V) (E : Nat) (o : Option Nat)
  | loop (st : LoopState) (pd : Option Code) (g : Nat) (t : T V) (n : Nat) (ps : List Nat) (asg body : Code) (d : Nat)
  | dfr (taken : Bool)
abbrev Heap := T (Option Ob)
structure X where
  h : Heap
  c : Nat
noncomputable def X.get (x : X) (k : Nat) : Option Ob := match x.h.get k with
  | some (some o) => some o
  | _ => none
noncomputable def X.set (x : X) (k : Nat) (o : Ob) : X := X.rec (motive := fun _ => X) (fun h c => ⟨h.set k (some o), c⟩) x
noncomputable def X.kill (x : X) (k : Nat) : X := X.rec (motive := fun _ => X) (fun h c => ⟨h.set k none, c⟩) x
noncomputable def X.bump (x : X) (n : Nat) : X := X.rec (motive := fun _ => X) (fun h c => ⟨h, c + n⟩) x
theorem X.get_set (x : X) (k : Nat) (o : Ob) (j : Nat) : (x.set k o).get j = if k = j then some o else x.get j := by
  obtain ⟨h, c⟩ := x
  unfold X.get X.set
  simp only [T.get_set]
  by_cases h : k = j
  · simp [h]
  · simp [h]
theorem X.get_kill (x : X) (k j : Nat) : (x.kill k).get j = if k = j then none else x.get j := by
  obtain ⟨h, c⟩ := x
  unfold X.get X.kill
  simp only [T.get_set]
  by_cases h : k = j
  · simp [h]
  · simp [h]
def TA (β : Env) (g : Nat → Option V) (a : Array Value) : Prop := ∀ i v, g i = some v → ∃ u, a[i]? = some u ∧ VR β v u
theorem TA.mono {β β' : Env} {g : Nat → Option V} {a : Array Value} (h : TA β g a) (e : Ext β β') : TA β' g a := fun i v hi => let ⟨u, h1, h2⟩ := h i v hi; ⟨u, h1, h2.mono e⟩
theorem TA.sub {β : Env} {g g' : Nat → Option V} {a : Array Value} (h : TA β g a) (hs : ∀ i v, g' i = some v → g i = some v) : TA β g' a := fun i v hi => h i v (hs i v hi)
theorem TA.put {β : Env} {g g' : Nat → Option V} {a : Array Value} (h : TA β g a) {d : Nat} (hd : d < a.size) {v : V} {u : Value} (hv : VR β v u) (hg : ∀ i, g' i = if d = i then some v else g i) : TA β g' (a.setIfInBounds d u) := fun i x hi => by
  rw [hg] at hi
  by_cases e : d = i
  · subst e
    simp at hi; subst hi
    exact ⟨u, by simp [hd], hv⟩
  · simp [e] at hi
    obtain ⟨u', h1, h2⟩ := h i x hi
    exact ⟨u', by rw [Array.getElem?_setIfInBounds_ne e]; exact h1, h2⟩
def Gi (g : Nat) (t : T V) : Prop := ∀ i v, t.get i = some v → Nat.testBit g i = true
noncomputable def OR (β : Env) (c : Nat) : Ob → Obj → Prop
  | .cells l E o, ob => ∃ l1 l2 : List Value, ob = .cells (l1 ++ l2).toArray E (0, 0) ∧ VRs β l l1 ∧ (match o with
    | none => l2 = []
    | some s => l1.length + l2.length = c * s ∧ c ≤ maxLen)
  | .loop st pd g t n ps asg body d, ob => ∃ fn tm db dx, ob = .loop { state := st, pending := pd, fn := fn, tmps := tm, params := ps.toArray, assign := asg, body := body, defers := db } ∧ TA β t.get tm ∧ tm.size = n ∧ β d = some (db, dx) ∧ Gi g t
  | .dfr t, ob => ob = .deferred (bif t then none else some [])
theorem OR.mono {β β' : Env} (e : Ext β β') {c : Nat} {o : Ob} {ob : Obj} (h : OR β c o ob) : OR β' c o ob := by
  cases o with
  | cells l E o => obtain ⟨l1, l2, h1, h2, h3⟩ := h; exact ⟨l1, l2, h1, h2.mono e, h3⟩
  | loop st pd g t n ps asg body d => obtain ⟨fn, tm, db, dx, h1, h2, h3, h4, h5⟩ := h; exact ⟨fn, tm, db, dx, h1, h2.mono e, h3, e _ _ h4, h5⟩
  | dfr t => exact h
structure Base where
  w : World
  U : Nat → Prop
def Base.own (B : Base) (b : Nat) : Prop := B.w.heap.size ≤ b ∨ B.U b
structure Since (B : Base) (w : World) : Prop where
  os : w.os = B.w.os
  tape : w.tape = B.w.tape
  output : w.output = B.w.output
  size : B.w.heap.size ≤ w.heap.size
  block : ∀ k, k < B.w.heap.size → ¬ B.U k → w.heap[k]? = B.w.heap[k]?
theorem Since.drew {B : Base} {w : World} (h : Since B w) : Since B w.drew := ⟨h.os, h.tape, h.output, h.size, h.block⟩
theorem Since.grown {B : Base} {w w' : World} {row : Option Nat} (h : Since B w) (hg : w.grownBy w' row) (hr : ∀ b, row = some b → B.own b) : Since B w' :=
  ⟨hg.os.trans h.os, hg.tape.trans h.tape, hg.output.trans h.output, Nat.le_trans h.size hg.size, fun k hk hu => (hg.block k (Nat.lt_of_lt_of_le hk h.size) (fun e => by
    rcases hr k e.symm with h1 | h1
    · omega
    · exact hu h1)).trans (h.block k hk hu)⟩
structure HR (w0 : Base) (β : Env) (x : X) (w : World) : Prop where
  below : Since w0 w
  obj : ∀ {k b c o}, β k = some (b, c) → x.get k = some o → w0.own b ∧ ∃ ob, w.heap[b]? = some ob ∧ OR β c o ob
  inj : ∀ {k k' b c c' o o'}, β k = some (b, c) → β k' = some (b, c') → x.get k = some o → x.get k' = some o' → k = k'
  lt : ∀ {k b c}, β k = some (b, c) → k < x.c ∧ b < w.heap.size
end Go.Proofs.Ev
