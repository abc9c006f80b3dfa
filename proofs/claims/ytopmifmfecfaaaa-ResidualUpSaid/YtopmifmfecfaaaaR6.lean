/- The walks of FirstFit, Bars, Material. -/
import Derived.Test.YtopmifmfecfaaaaGv
import Derived.Test.YtopmifmfecfaaaaP3
import Derived.Test.YtopmifmfecfaaaaFf
import Derived.Test.YtopmifmfecfaaaaGh
namespace Go.Proofs.Ytopmifmfecfaaaa
open Go Go.RowKit Go.Proofs.Gw
set_option linter.unusedVariables false

theorem cl_44 : calledT Try.prog 44 = true := by kernel_rfl
theorem cl_45 : calledT Try.prog 45 = true := by kernel_rfl
theorem cl_76 : calledT Try.prog 76 = true := by kernel_rfl
theorem cl_77 : calledT Try.prog 77 = true := by kernel_rfl
theorem cl_79 : calledT Try.prog 79 = true := by kernel_rfl
theorem cl_80 : calledT Try.prog 80 = true := by kernel_rfl
theorem cl_95 : calledT Try.prog 95 = true := by kernel_rfl
theorem el_32 : elemT Try.prog 32 = some (.slice none 0 0, 1, 24) := by kernel_rfl
set_option maxRecDepth 20000 in
theorem c_total {vL vD : Value} {p : Prob} (w0 : World) (h : PAt w0 vL vD p) (hok : p.Ok) :
    Calls Try.prog 76 [.agg #[vL, vD, .int .i64 p.stock, .int .i64 p.kerf]].toArray w0 fun e w => ∃ v, e = .returned v ∧ v = .int .i64 (psum (fun _ => 1) p.D p.m.toNat) ∧ Sat w0 w [] := by
  have hm := h.L.slh.n0; have hm1 := h.L.slh.n1; have hd := h.D.slh.n0; have hd1 := h.D.slh.n1; have hs := h.is; have hk := h.ik
  have hpd := hok.d; have hpm2 := hok.m2
  refine zenG Try.func76 Try.ntmps76 fun w hS => ?_
  refine zsr ?_
  refine zla (xbx (cs := [_, _, _, _]) hS) ?_; rintro _ w ⟨g1, rfl, hS⟩
  replace hS := hS.n1
  refine zlv xas ?_
  refine zlz ?_
  refine zlv xas ?_
  refine zlt <| zsq <| zsr ?_
  refine zlv (xfb 1 fd_39_1) ?_
  refine zlv (xlb 0 pl_22 hS) ?_
  refine zlv (xln sl_22 h.D.slh) ?_
  refine zlv xmv ?_
  refine zlt <| zbk <| zlp (fun mm M w => ∃ (s : Int) (i : Int), mm = ((p.d - i).toNat) ∧ (0 ≤ i) ∧ (i ≤ p.d) ∧ (s = psum (fun _ => 1) p.D i.toNat) ∧ (0 ≤ s ∧ s ≤ 1000000 * i) ∧ M = [(2, .int .i64 0), (3, .int .i64 s), (7, vD), (8, .int .i64 p.d), (9, .int .i64 i)] ∧ Sat w0 w [.blk g1 [vL, vD, .int .i64 p.stock, .int .i64 p.kerf]]) ⟨0, 0, rfl, (by omega), (by omega), ?_, (by omega), rfl, hS⟩ ?_
  ·
   rfl
  clear hS w
  rintro mm M w ⟨s, i, rfl, h0, h1, hs9, hsb, rfl, hS⟩
  refine zsr ?_
  refine zlv xlss ?_
  refine zlt <| zsq ?_
  refine zcif ?_ ?_ <;> intro hc
  ·
   refine zsk <| ztn <| zsq <| zbk <| zsr ?_
   refine zlv (xix (kk := i) sl_22 h.D.slh) ?_
   refine zlv (xlr (u := .int .i64 (p.D i)) pl_3 (h.D.below hS.below)) ?_
   have hbv := h.iD i
   have he := hok.all i h0 (by omega); unfold Prob.each at he
   refine zlv xas ?_
   refine zlt <| zrg ?_
   refine zs2 ?_
   refine zlv (xadd (r := s + p.D i)) ?_
   refine zlv xas ?_
   refine zln <| zbn <| ztn <| zrg ?_
   refine zlv (xadd (r := i + 1)) ?_
   refine zlv xmv ?_
   refine zln <| zlq ⟨s + p.D i, i + 1, rfl, (by omega), (by omega), ?_, (by omega), rfl, hS⟩
   ·
    rw [psum_next _ _ h0, ← hs9]; omega
  refine zxt <| ztx <| ztx <| zbh <| ztn <| zsr ?_
  refine zs2 ?_
  refine zlt <| zrt <| zf1 ⟨_, rfl, ?_⟩
  obtain rfl : p.m = i := by omega
  rw [← hs9]
  exact ⟨rfl, hS.nl⟩

def ChkR (p : Prob) (e : Int) : Prop := (¬ p.Ok ∧ e = 1) ∨ (p.Ok ∧ 1000 < psum (fun _ => 1) p.D p.m.toNat ∧ e = 9) ∨ (p.Ok ∧ psum (fun _ => 1) p.D p.m.toNat ≤ 1000 ∧ e = 0)
set_option maxRecDepth 20000 in
theorem c_chk34 {vL vD : Value} {p : Prob} (w0 : World) (h : PAt w0 vL vD p) :
    Calls Try.prog 44 [.agg #[vL, vD, .int .i64 p.stock, .int .i64 p.kerf]].toArray w0 fun e w => ∃ v, e = .returned v ∧ ∃ e : Int, v = .int .i64 e ∧ ChkR p e ∧ Sat w0 w [] := by
  have hm := h.L.slh.n0; have hm1 := h.L.slh.n1; have hd := h.D.slh.n0; have hd1 := h.D.slh.n1; have hs := h.is; have hk := h.ik
  refine zenG Try.func44 Try.ntmps44 fun w hS => ?_
  refine zsr ?_
  refine zla (xbx (cs := [_, _, _, _]) hS) ?_; rintro _ w ⟨g1, rfl, hS⟩
  replace hS := hS.n1
  refine zlv xas ?_
  refine zlt <| zsq <| zbk <| zsr ?_
  refine zlv (xls 0 st_39 hS) ?_
  refine zlc (xc0 cl_34) (c_pvalid (p := p) w (h.below hS.below)) ?_; rintro _ w ⟨rfl, hS'⟩
  replace hS := hS.cmp hS'; clear hS'
  refine zs2 ?_
  refine zlt ?_
  refine zcif ?_ ?_ <;> intro hc
  ·
   refine zsr ?_
   refine zlv xas ?_
   refine zlt <| zrt <| zbr <| ztr <| zf1 ⟨_, rfl, ?_⟩
   exact ⟨1, rfl, .inl ⟨‹¬ p.Ok›, rfl⟩, hS.nl⟩
  refine zsr ?_
  refine zlv (xls 0 st_39 hS) ?_
  have hok9 : p.Ok := by first | assumption | exact Classical.not_not.1 ‹_›
  refine zlc (xc0 cl_76) (c_total (p := p) w (h.below hS.below) hok9) ?_; rintro _ w ⟨rfl, hS'⟩
  replace hS := hS.cmp hS'; clear hS'
  refine zs2 ?_
  refine zlt ?_
  refine zcif ?_ ?_ <;> intro hc
  ·
   refine zsr ?_
   refine zlv xas ?_
   refine zlt <| zrt <| zbr <| ztr <| zf1 ⟨_, rfl, ?_⟩
   exact ⟨9, rfl, .inr (.inl ⟨hok9, by omega, rfl⟩), hS.nl⟩
  refine zsk <| zbn <| ztn <| zsr ?_
  refine zlv xas ?_
  refine zlt <| zrt <| zf1 ⟨_, rfl, ?_⟩
  exact ⟨0, rfl, .inr (.inr ⟨hok9, by omega, rfl⟩), hS.nl⟩

theorem c_pieces {vL vD : Value} {p : Prob} (w0 : World) (h : PAt w0 vL vD p) :
    Calls Try.prog 77 [.agg #[vL, vD, .int .i64 p.stock, .int .i64 p.kerf]].toArray w0 fun e w => ∃ v, e = .returned v ∧ ∃ g, v = .func (.func 95) #[] #[.pointer (some ⟨g, 0, none⟩)] ∧ Sat w0 w [.blk g [vL, vD, .int .i64 p.stock, .int .i64 p.kerf]] := by
  refine zenG Try.func77 Try.ntmps77 fun w hS => ?_
  refine zsr ?_
  refine zla (xbx (cs := [_, _, _, _]) hS) ?_; rintro _ w ⟨g1, rfl, hS⟩
  replace hS := hS.n1
  refine zlv xas ?_
  refine zlz ?_
  refine zlv xmf ?_
  refine zlv xas ?_
  refine zlt <| zrt <| zf1 ⟨_, rfl, ?_⟩
  exact ⟨_, rfl, hS⟩

set_option maxRecDepth 20000 in
theorem c_pieces1 {vL vD : Value} {p : Prob} {gp : Nat} {St : Type} (hist : St → List Int) (Inv : St → Prop) (s0 : St) (hs0 : hist s0 = []) (hI0 : Inv s0) (w0 : World) (h : PAt w0 vL vD p) (hok : p.Ok) : ItC (St := St) (X := Int) (Tt := Unit) Try.prog w0 95 [.pointer (some ⟨gp, 0, none⟩)] [.blk gp [vL, vD, .int .i64 p.stock, .int .i64 p.kerf]] (fun x => [.int .i64 x]) (fun s x rest => Inv s ∧ ∃ c, 0 ≤ x ∧ x < p.m ∧ 0 ≤ c ∧ c < p.D x ∧ hist s = pcsTo p.D x c) (fun s x s1 => hist s1 = hist s ++ [x] ∧ Inv s1) (fun _ _ _ => False) (s0) (fun s rest => Inv s ∧ hist s = pcsTo p.D p.m 0) (fun _ _ => False) := by
  intro l C D w hS hY
  have hm := h.L.slh.n0; have hm1 := h.L.slh.n1; have hd := h.D.slh.n0; have hd1 := h.D.slh.n1; have hs := h.is; have hk := h.ik
  have hpd := hok.d; have hpm2 := hok.m2
  refine henI Try.func95 Try.ntmps95 ?_
  refine hsq <| hrz ?_
  refine zlv (xfb 1 fd_39_1) ?_
  refine zlv (xlb 1 pl_22 hS) ?_
  refine zlv (xln sl_22 h.D.slh) ?_
  refine zlv xmv ?_
  refine zln <| zh <| htn <| hbk <| hlp (fun mm M w => ∃ (s : St) (i : Int), mm = ((p.d - i).toNat) ∧ (0 ≤ i) ∧ (i ≤ p.d) ∧ (Inv s) ∧ (hist s = pcsTo p.D i 0) ∧ M = [(0, .func (.yield l) #[] #[]), (6, vD), (7, .int .i64 p.d), (8, .int .i64 i)] ∧ Sat w0 w [.sem (C s), .blk gp [vL, vD, .int .i64 p.stock, .int .i64 p.kerf]]) ⟨s0, 0, rfl, (by omega), (by omega), ?_, ?_, rfl, hS⟩ ?_
  ·
   exact hI0
  ·
   exact hs0
  clear hS w
  rintro mm M w ⟨s, i, rfl, h0, h1, hI, hh, rfl, hS⟩
  refine hsq <| hrz ?_
  refine zlv xlss ?_
  refine zln <| zh <| htn <| hsq ?_
  refine hcif ?_ ?_ <;> intro hc
  ·
   refine hsk <| htn <| hsq <| hbk <| hsq <| hrz ?_
   refine zlv xmv ?_
   refine zlv (xix (kk := i) sl_22 h.D.slh) ?_
   refine zlv (xlr (u := .int .i64 (p.D i)) pl_3 (h.D.below hS.below)) ?_
   have hbv := h.iD i
   have he := hok.all i h0 (by omega); unfold Prob.each at he
   refine zs2 ?_
   refine zln <| zh <| htn <| hsq <| hrz ?_
   refine zs2 ?_
   refine zln <| zh <| htn <| hbk <| hlp (fun mm M w => ∃ (s2 : St) (c : Int), mm = ((p.D i - c).toNat) ∧ (0 ≤ c) ∧ (c ≤ p.D i) ∧ (Inv s2) ∧ (hist s2 = pcsTo p.D i c) ∧ M = [(0, .func (.yield l) #[] #[]), (3, .int .i64 i), (6, vD), (7, .int .i64 p.d), (8, .int .i64 i), (13, .int .i64 (p.D i)), (14, .int .i64 c)] ∧ Sat w0 w [.sem (C s2), .blk gp [vL, vD, .int .i64 p.stock, .int .i64 p.kerf]]) ⟨s, 0, rfl, (by omega), (by omega), ?_, ?_, rfl, hS⟩ ?_
   ·
    exact hI
   ·
    exact hh
   clear hS w
   rintro mm M w ⟨s2, c, rfl, c0, c1, hI2, hh2, rfl, hS⟩
   refine hsq <| hrz ?_
   refine zlv xlss ?_
   refine zln <| zh <| htn <| hsq ?_
   refine hcif ?_ ?_ <;> intro hc
   ·
    refine hsk <| htn <| hsq <| hbk <| hsq <| hrg ?_
    iterate 2 refine hlv xmv ?_
    refine hly (hY s2 i _ w ⟨hI2, c, h0, by omega, c0, by omega, hh2⟩ (Sat.bundle (l1 := [_, _]) (l2 := []) hS)) ?_; rintro _ w (⟨rfl, sy1, hny1, hS⟩ | ⟨rfl, ty1, hdy1, hS⟩)
    ·
     replace hS := Sat.unbundle (l1 := [_, _]) (l3 := []) hS
     replace hS := hS.n2
     refine hlv xnt ?_
     refine hln <| htn <| hcf <| hsk <| zbn <| htn <| hrz ?_
     refine zlv (xadd (r := c + 1)) ?_
     refine zlv xmv ?_
     refine zln <| zh <| hlq ⟨sy1, c + 1, rfl, (by omega), (by omega), ?_, ?_, rfl, hS⟩
     ·
      exact hny1.2
     ·
      rw [hny1.1, hh2, ← pcsTo_next _ c0]
    ·
     replace hS := Sat.unbundle (l1 := [_, _]) (l3 := []) hS
     replace hS := hS.n2
     refine hlv xnf ?_
     refine hln <| htn <| hct <| hrt <| zbr <| ztr <| ztr <| zbr <| zbr <| ztr <| ztr <| zbr <| zf0 ⟨_, rfl, ?_⟩
     exact hdy1.elim
   refine hxt <| ztx <| ztx <| zbh <| zbn <| htn <| hrz ?_
   refine zlv (xadd (r := i + 1)) ?_
   refine zlv xmv ?_
   refine zln <| zh <| hlq ⟨s2, i + 1, rfl, (by omega), (by omega), ?_, ?_, rfl, hS⟩
   ·
    exact hI2
   ·
    rw [pcsTo_kind _ h0 (c := c) (by omega)]; exact hh2
  refine hxt <| ztx <| ztx <| zbh <| zfn0 ⟨_, rfl, ?_⟩
  exact .inl ⟨s, _, ⟨hI, by rw [hh, show i = p.m by omega]⟩, Sat.bundle (l1 := [_, _]) (l2 := []) hS⟩

theorem pcsTo_ok {d : Int → Int} {m i c : Int} (hd : ∀ k, 0 ≤ k → k < m → 0 ≤ d k) (i0 : 0 ≤ i) (i1 : i ≤ m) (c0 : 0 ≤ c) (c1 : i < m → c ≤ d i) (c2 : i = m → c = 0) : (∀ x ∈ pcsTo d i c, 0 ≤ x ∧ x < m) ∧ ((pcsTo d i c).length : Int) ≤ psum (fun _ => 1) d m.toNat := by
  constructor
  · intro x hx
    unfold pcsTo at hx
    rcases List.mem_append.1 hx with h | h
    · have := pcs_mem x h; omega
    · have h1 := List.mem_replicate.1 h
      have h2 := h1.2
      rcases Int.lt_or_eq_of_le i1 with h3 | h3
      · omega
      · have := c2 h3; have := h1.1; omega
  · rw [pcsTo_len d i0 c0 fun k k0 k1 => hd k k0 (by omega)]
    rcases Int.lt_or_eq_of_le i1 with h3 | h3
    · have h4 := c1 h3
      have h5 := psum_next (fun _ => 1) d i0
      have h6 := psum_mono (d := d) (f := fun _ => 1) (i := (i + 1).toNat) (n := m.toNat) (by omega) fun k hk => by have := hd k (by omega) (by omega); omega
      rw [h5] at h6; omega
    · have := c2 h3; rw [h3]; omega
theorem puse_ge {sz : Int → Int} {p : List Int} (hp : ∀ v ∈ p, 0 ≤ v) (hs : ∀ k : Nat, k < p.length → 1 ≤ sz k) {j : Nat} (hj : j < p.length) : p.getD j 0 ≤ puse sz p := by
  have key : ∀ (l : List Nat) (f : Nat → Int), (∀ k ∈ l, 0 ≤ f k) → ∀ j ∈ l, f j ≤ (l.map f).sum := by
    intro l f
    induction l with
    | nil => intro _ j h; simp at h
    | cons a l ih =>
      intro h0 j h
      have h1 : 0 ≤ (l.map f).sum := by
        clear ih h
        induction l with
        | nil => simp
        | cons b l ih2 => rw [List.map_cons, List.sum_cons]; have := h0 b (by simp); have := ih2 (fun k hk => h0 k (by rcases List.mem_cons.1 hk with h | h <;> simp [h])); omega
      rw [List.map_cons, List.sum_cons]
      rcases List.mem_cons.1 h with e | e
      · rw [e]; omega
      · have := ih (fun k hk => h0 k (by simp [hk])) j e; have := h0 a (by simp); omega
  have nn : ∀ k : Nat, k < p.length → 0 ≤ p.getD k 0 := fun k hk => by
    rw [List.getD_eq_getElem?_getD, List.getElem?_eq_getElem hk]
    exact hp _ (List.getElem_mem hk)
  have h1 := key (List.range p.length) (fun k => p.getD k 0 * sz k) (fun k hk => by
    have hk := List.mem_range.1 hk
    exact Int.mul_nonneg (nn k hk) (by have := hs k hk; omega)) j (List.mem_range.2 hj)
  have h2 := nn j hj
  have h3 := hs j hj
  have h4 := Int.mul_le_mul_of_nonneg_left h3 h2
  exact Int.le_trans (show p.getD j 0 ≤ p.getD j 0 * sz j by omega) h1
/-- The state of first fit in memory. -/
structure FSt where
  h : List Int
  vB : Value
  n : Int
  vv : Int → Value
  P : Int → Int → Int
  vL : Value
  L : Int → Int
abbrev szP (p : Prob) : Int → Int := fun k => p.L k + p.kerf
def FInv (p : Prob) (s : FSt) : Prop := plL s.n (fun _ => p.m) s.P s.L = ffRun p.m (p.stock + p.kerf) (szP p) s.h ∧ Slh s.vB s.n ∧ Slh s.vL s.n
def FSt.zer : FSt := ⟨[], .slice none 0 0, 0, fun _ => .slice none 0 0, fun _ _ => 0, .slice none 0 0, fun _ => 0⟩
theorem FInv.zer (p : Prob) : FInv p FSt.zer := ⟨rfl, slh_nil, slh_nil⟩
theorem szP_ok {p : Prob} (hok : p.Ok) {x : Int} (x0 : 0 ≤ x) (x1 : x < p.m) : 1 ≤ szP p x ∧ szP p x ≤ p.stock + p.kerf := by
  have he := hok.all x x0 x1
  unfold Prob.each at he
  have := hok.k1
  unfold szP; omega
theorem ffRun_p {p : Prob} (hok : p.Ok) {l : List Int} (hm : ∀ x ∈ l, 0 ≤ x ∧ x < p.m) : FFOk p.m (p.stock + p.kerf) (szP p) l (ffRun p.m (p.stock + p.kerf) (szP p) l) :=
  ffRun_ok fun x hx => by
    have h1 := hm x hx
    have h2 := szP_ok hok h1.1 h1.2
    exact ⟨h1.1, h1.2, by omega, h2.2⟩
theorem FInv.rng {p : Prob} {s : FSt} (hok : p.Ok) (h : FInv p s) (hm : ∀ x ∈ s.h, 0 ≤ x ∧ x < p.m) (hl : (s.h.length : Int) ≤ 1000) : s.n ≤ 1000 ∧ ∀ k, 0 ≤ k → k < s.n → (0 ≤ s.L k ∧ s.L k ≤ p.stock + p.kerf) ∧ ∀ j, 0 ≤ j → j < p.m → 0 ≤ s.P k j ∧ s.P k j ≤ p.stock + p.kerf := by
  have hk := ffRun_p hok hm
  rw [← h.1] at hk
  have h1 := hk.ln
  rw [plL_len] at h1
  refine ⟨by omega, fun k k0 k1 => ?_⟩
  have hb : (lst p.m (s.P k), s.L k) ∈ plL s.n (fun _ => p.m) s.P s.L := List.mem_iff_getElem?.2 ⟨k.toNat, by rw [plL_get, Int.toNat_of_nonneg k0, if_pos k1]⟩
  obtain ⟨h2, h3, h4⟩ := hk.ok _ hb
  have h5 := hk.nn _ hb
  dsimp only at h2 h3 h4 h5
  have hg : ∀ j, 0 ≤ j → j < p.m → (lst p.m (s.P k)).getD j.toNat 0 = s.P k j := fun j j0 j1 => by rw [List.getD_eq_getElem?_getD, lst_get, Int.toNat_of_nonneg j0, if_pos j1]; rfl
  have h8 : ∀ j : Nat, j < (lst p.m (s.P k)).length → 1 ≤ szP p j := fun j hj => by
    rw [lst_len] at hj
    exact (szP_ok hok (by omega) (by omega)).1
  have h9 : 0 ≤ puse (szP p) (lst p.m (s.P k)) := by
    have hm1 := hok.m1
    have h10 := puse_ge h5 h8 (j := 0) (by rw [lst_len]; omega)
    have h11 := hg 0 (by omega) (by omega)
    have h12 := h5 (s.P k 0) (by
      have := lst_get p.m (s.P k) 0
      rw [if_pos (by omega)] at this
      exact List.mem_of_getElem? this)
    rw [show (0 : Int).toNat = 0 from rfl] at h11
    omega
  refine ⟨⟨h4, by omega⟩, fun j j0 j1 => ?_⟩
  have h6 := puse_ge h5 h8 (j := j.toNat) (by rw [lst_len]; omega)
  rw [hg j j0 j1] at h6
  have h7 := h5 (s.P k j) (by
    have := lst_get p.m (s.P k) j.toNat
    rw [Int.toNat_of_nonneg j0, if_pos j1] at this
    exact List.mem_of_getElem? this)
  exact ⟨h7, by omega⟩
theorem ffm_at {n m room r x y : Int} {sz L : Int → Int} {P : Int → Int → Int} (n0 : 0 ≤ n) (x0 : 0 ≤ x) (r0 : 0 ≤ r) (r1 : r < n) (h : sz x ≤ L r) (hf : ∀ j, 0 ≤ j → j < r → ¬ (sz x ≤ L j)) (hy : y = L r - sz x) :
    plL n (fun _ => m) (upd P r (upd (P r) x (P r x + 1))) (upd L r y) = ffPut m room sz x (plL n (fun _ => m) P L) :=
  ff_at n0 x0 r0 r1 h (fun j j0 j1 => by have := hf j j0 j1; omega) (fun a a0 a1 b b0 b1 => by
    unfold upd
    by_cases ha : a = r
    · subst ha
      by_cases hb : b = x
      · subst hb; simp
      · simp [hb]
    · simp [ha]) (fun a a0 a1 => by
    unfold upd
    by_cases ha : a = r
    · subst ha; simp [hy]
    · simp [ha])
theorem ffm_new {n m room x y : Int} {sz L : Int → Int} {P : Int → Int → Int} (n0 : 0 ≤ n) (x0 : 0 ≤ x) (hf : ∀ j, 0 ≤ j → j < n → ¬ (sz x ≤ L j)) (hy : y = snoc L n room n - sz x) :
    plL (n + 1) (fun _ => m) (upd (gsn P n (fun _ => 0)) n (upd (gsn P n (fun _ => 0) n) x (gsn P n (fun _ => 0) n x + 1))) (upd (snoc L n room) n y) = ffPut m room sz x (plL n (fun _ => m) P L) := by
  have e1 : gsn P n (fun _ => 0) n = fun _ => 0 := gsn_at (by omega)
  have e2 : snoc L n room n = room := snoc_at (by omega)
  rw [e2] at hy
  rw [e1]
  refine ff_new n0 x0 (fun j j0 j1 => by have := hf j j0 j1; omega) (fun a a0 a1 b b0 b1 => ?_) (fun b b0 b1 => ?_) (fun a a0 a1 => ?_) ?_
  · unfold upd; rw [if_neg (by omega), gsn_lt a1]
  · unfold upd; rw [if_pos rfl]
    by_cases hb : b = x
    · simp [hb]
    · simp [hb]
  · unfold upd; rw [if_neg (by omega), snoc_lt a1]
  · unfold upd; rw [if_pos rfl]; exact hy
theorem ones_plL (n : Int) (ln : Int → Int) (pt : Int → Int → Int) (cnt : Int → Int) : ones (plL n ln pt cnt) = plL n ln pt (fun _ => 1) := by
  unfold ones plL
  rw [List.map_map]; rfl
theorem gsn_const {α : Type} (a : α) (n : Int) : gsn (fun _ => a) n a = fun _ => a := by
  funext k; unfold gsn; split <;> rfl

theorem c_ff1 {x m : Int} {a1 : Addr} (w0 : World) (hp1 : w0.cell? a1 = some (.int .i64 m)) :
    Calls Try.prog 79 [.int .i64 x, .pointer (some a1)].toArray w0 fun e w => ∃ v, e = .returned v ∧ v = B (m ≤ x) ∧ Sat w0 w [] := by
  refine zenG Try.func79 Try.ntmps79 fun w hS => ?_
  refine zsr ?_
  refine zlv xas ?_
  refine zlz ?_
  refine zlv xmv ?_
  refine zlv (xlf pl_3 hp1 hS) ?_
  refine zs2 ?_
  refine zlt <| zrt <| zf1 ⟨_, rfl, ?_⟩
  exact ⟨B_congr (by omega), hS⟩

set_option maxRecDepth 20000 in
theorem c_ixff {v : Value} {n m : Int} {f : Int → Int} {a1 : Addr} (w0 : World) (hR : Row w0 v 1 n (ints f)) (hp1 : w0.cell? a1 = some (.int .i64 m)) :
    Calls Try.prog 78 [v, .func (.func 79) #[] #[.pointer (some a1)]].toArray w0 fun e w => ∃ v, e = .returned v ∧ ∃ r : Int, v = .int .i64 r ∧ ((r = -1 ∧ ∀ k, 0 ≤ k → k < n → ¬ (m ≤ f k)) ∨ (0 ≤ r ∧ r < n ∧ (m ≤ f r) ∧ ∀ k, 0 ≤ k → k < r → ¬ (m ≤ f k))) ∧ Sat w0 w [] := by
  have hn := hR.slh.n0; have hn1 := hR.slh.n1
  refine zenG Try.func78 Try.ntmps78 fun w hS => ?_
  refine zsr ?_
  refine zlv xas ?_
  refine zlt <| zsq <| zsr ?_
  refine zlv xmv ?_
  refine zlv (xln sl_22 hR.slh) ?_
  refine zlv xmv ?_
  refine zlt <| zbk <| zlp (fun mm M w => ∃ (i : Int), mm = ((n - i).toNat) ∧ (0 ≤ i) ∧ (i ≤ n) ∧ (∀ k, 0 ≤ k → k < i → ¬ (m ≤ f k)) ∧ M = [(0, v), (1, .func (.func 79) #[] #[.pointer (some a1)]), (7, .int .i64 n), (8, .int .i64 i)] ∧ Sat w0 w []) ⟨0, rfl, (by omega), (by omega), ?_, rfl, hS⟩ ?_
  ·
   intro k h0 h1; omega
  clear hS w
  rintro mm M w ⟨i, rfl, h0, h1, hall, rfl, hS⟩
  refine zsr ?_
  refine zlv xlss ?_
  refine zlt <| zsq ?_
  refine zcif ?_ ?_ <;> intro hc
  ·
   refine zsk <| ztn <| zsq <| zbk <| zsr ?_
   refine zs2 ?_
   refine zlz ?_
   refine zs3 ?_
   refine zlv (xix (kk := i) sl_22 hR.slh) ?_
   refine zlv (xlr (u := .int .i64 (f i)) pl_3 (hR.below hS.below)) ?_
   refine zlc (xcc (vs := [_]) cl_79) (c_ff1 (x := (f i)) (m := m) w (hS.ref hp1)) ?_; rintro _ w ⟨rfl, hS'⟩
   replace hS := hS.cmp hS'; clear hS'
   refine zlt ?_
   refine zcif ?_ ?_ <;> intro hc
   ·
    refine zsr ?_
    refine zs2 ?_
    refine zlt <| zrt <| zbr <| ztr <| ztr <| zbr <| ztr <| zf1 ⟨_, rfl, ?_⟩
    exact ⟨i, rfl, .inr ⟨by omega, by omega, ‹m ≤ f i›, hall⟩, hS⟩
   refine zsk <| zbn <| ztn <| zrg ?_
   refine zlv (xadd (r := i + 1)) ?_
   refine zlv xmv ?_
   refine zln <| zlq ⟨i + 1, rfl, (by omega), (by omega), ?_, rfl, hS⟩
   ·
    intro k h0' h1'; rcases Int.lt_or_eq_of_le (show k ≤ i by omega) with hk | hk; exact hall k h0' hk; rw [hk]; assumption
  refine zxt <| ztx <| ztx <| zbh <| ztn <| zsr ?_
  refine zlv xas ?_
  refine zlt <| zrt <| zf1 ⟨_, rfl, ?_⟩
  exact ⟨-1, rfl, .inl ⟨rfl, fun k h0 h1 => hall k h0 (by omega)⟩, hS⟩

set_option maxHeartbeats 4000000 in
set_option maxRecDepth 20000 in
theorem c_firstfit {vL vD : Value} {p : Prob} (w0 : World) (h : PAt w0 vL vD p) (hok : p.Ok) (htot : psum (fun _ => 1) p.D p.m.toNat ≤ 1000) :
    Calls Try.prog 45 [.agg #[vL, vD, .int .i64 p.stock, .int .i64 p.kerf]].toArray w0 fun e w => ∃ v, e = .returned v ∧ ∃ r n2 pv2 ln2 pt2 cnt2, v = r ∧ NormR (ones (ffRun p.m (p.stock + p.kerf) (szP p) (pcsTo p.D p.m 0))) (plL n2 ln2 pt2 cnt2) ∧ 0 ≤ n2 ∧ n2 ≤ 1000 ∧ (∀ k, 0 ≤ k → k < n2 → 1 ≤ cnt2 k ∧ cnt2 k ≤ 1000000) ∧ Slh r n2 ∧ Sat w0 w [.own r 2 50 n2 (ucells pv2 cnt2), .sem (Frame.rows 3 n2 pv2 ln2 pt2)] := by
  have hm := h.L.slh.n0; have hm1 := h.L.slh.n1; have hd := h.D.slh.n0; have hd1 := h.D.slh.n1; have hs := h.is; have hk := h.ik
  have hpd := hok.d; have hpm2 := hok.m2; have hpm1 := hok.m1; have hs1 := hok.s1; have hs2 := hok.s2; have hk1 := hok.k1; have hk2 := hok.k2
  refine henM Try.func45 Try.ntmps45 fun w hS => ?_
  refine hsq <| hrz ?_
  refine zla (xbx (cs := [_, _, _, _]) hS) ?_; rintro _ w ⟨g1, rfl, hS⟩
  replace hS := hS.n1
  refine zlv xas ?_
  refine zln <| zh <| htn <| hsq <| hrz ?_
  refine zla (xal (cs := [_]) el_32 hS) ?_; rintro _ w ⟨g2, rfl, hS⟩
  replace hS := hS.n2
  refine zln <| zh <| htn <| hsq <| hrz ?_
  refine zla (xal (cs := [_]) el_22 hS) ?_; rintro _ w ⟨g3, rfl, hS⟩
  replace hS := hS.n3
  refine zln <| zh <| htn <| hsq <| hsq <| hrz ?_
  refine zlv (xls 0 st_39 hS) ?_
  refine zlc (xc0 cl_77) (c_pieces (p := p) w (h.below hS.below)) ?_; rintro _ w ⟨g4, rfl, hS'⟩
  replace hS : Sat w0 w [.blk g1 [vL, vD, .int .i64 p.stock, .int .i64 p.kerf], .blk g2 [.slice none 0 0], .blk g3 [.slice none 0 0], .blk g4 [vL, vD, .int .i64 p.stock, .int .i64 p.kerf]] := hS.comp hS'; clear hS'
  refine zln <| zh <| htn <| hbk ?_
  replace hS := hS.addnil 1 22 (fun _ => Value.slice none 0 0)
  replace hS := hS.n5
  replace hS := hS.addrows 3 (fun _ => Value.slice none 0 0) (fun _ => p.m) (fun _ _ => 0)
  replace hS := hS.n6
  replace hS := hS.addnil 1 3 (ints (fun _ => 0))
  replace hS := hS.n7
  refine hrf (St := FSt) (X := Int) (Tt := Unit) (fun s => [.blk g1 [vL, vD, .int .i64 p.stock, .int .i64 p.kerf], .blk g2 [s.vB], .blk g3 [s.vL], .own s.vB 1 22 s.n s.vv, .sem (Frame.rows 3 s.n s.vv (fun _ => p.m) s.P), .own s.vL 1 3 s.n (ints s.L)]) (fun t => []) (fun _ => .ret) FSt.zer (fun x M es => M = [(0, .agg #[vL, vD, .int .i64 p.stock, .int .i64 p.kerf]), (1, .pointer (some ⟨g1, 0, none⟩)), (2, .slice none 0 0), (3, .pointer (some ⟨g2, 0, none⟩)), (4, .pointer (some ⟨g3, 0, none⟩)), (11, .agg #[vL, vD, .int .i64 p.stock, .int .i64 p.kerf]), (12, .func (.func 95) #[] #[.pointer (some ⟨g4, 0, none⟩)]), (13, .int .i64 x), (5, .int .i64 x)] ∧ es = []) (c_pieces1 (gp := g4) (fun s => s.h) (FInv p) FSt.zer rfl (FInv.zer p) w0 h hok) (hS.pk [0, 1, 2, 4, 5, 6, 3]) cl_95 (fun _ => rfl) (fun _ => .inl rfl) ?_ ?_ ?_ ?_
  ·
   intro lq s x rest w hpre rest1 hrr hS
   replace hS := hS.n8
   refine hrz ?_
   refine zlv xas ?_
   refine zln <| zh <| hasg ⟨rfl, rfl⟩ hS
  ·
   rintro lq s x _ _ rest w hpre ⟨rfl, rfl⟩ rest1 hrr hS
   replace hS := hS.n8
   obtain ⟨hIv, c, x0, x1, c0, c1, hh⟩ := hpre
   have hlB := hIv.2.1; have hlL := hIv.2.2
   obtain ⟨hmem, hlen⟩ := pcsTo_ok (d := p.D) (i := x) (c := c) (fun k k0 k1 => by have he := hok.all k k0 k1; unfold Prob.each at he; omega) x0 (by omega) c0 (fun _ => by omega) (fun _ => by omega)
   rw [← hh] at hmem hlen
   obtain ⟨hn9, hrg⟩ := hIv.rng hok hmem (by omega)
   have hex := hok.all x x0 x1; unfold Prob.each at hex
   have hsn := hlB.n0
   have hrB := fun k (k0 : 0 ≤ k) (k1 : k < s.n) => hS.slhIn 4 rfl k0 k1
   refine hbk <| hsq ?_
   refine hdst [0, 1, 2, 3, 4, 5, 6, 7] [0, 1, 2, 3, 4, 5, 6, 7] 9 mx_ hS ?_; clear hS; intro w hS
   refine zdv 0 (fun _ => (xfb 0 fd_39_0)) ?_
   refine zdla 1 (fun w hS => (xlb 0 pl_22 hS)) ?_
   refine zdv 2 (fun _ => xmv) ?_
   refine zdv 3 (fun _ => (xix (kk := x) sl_22 h.L.slh)) ?_
   refine zdla 4 (fun w hS => (xlr (u := .int .i64 (p.L x)) pl_3 (h.L.below hS.below))) ?_
   have hbv := h.iL x
   refine zdv 5 (fun _ => (xfb 3 fd_39_3)) ?_
   refine zdla 6 (fun w hS => (xlb 0 pl_3 hS)) ?_
   refine zdv 7 (fun _ => (xadd (r := p.L x + p.kerf))) ?_
   refine zda 8 (xal (cs := [_]) el_3 hS) ?_; rintro _ w ⟨g5, rfl, hS⟩
   replace hS := hS.n9
   refine ⟨⟨fun _ => hS.pk [0, 1, 2, 3, 4, 5, 6, 7], hS.pk [0, 1, 2, 3, 4, 5, 6, 7]⟩, ?_⟩
   refine zde 9 (xsb 8 pl_3 hS) ?_; clear hS; rintro w hS
   replace hS := hS.n9
   refine ⟨⟨fun h => absurd h (by decide), hS.pk [0, 1, 2, 3, 4, 5, 6, 7]⟩, ?_⟩
   refine zdd <| zh <| htn <| hsq <| hrz ?_
   refine zlv (xlb 2 pl_22 hS) ?_
   refine zlv xmf ?_
   refine zlc (xc0 cl_78) (c_ixff (n := s.n) (m := (p.L x + p.kerf)) (f := s.L) w (hS.rowN 5 rfl) (hS.cellN 8 rfl rfl)) ?_; rintro _ w ⟨r1, rfl, hr1, hS'⟩
   replace hS := hS.cmp hS'; clear hS'
   have hrr : r1 = -1 ∨ (0 ≤ r1 ∧ r1 < s.n) := by rcases hr1 with ⟨h2, _⟩ | ⟨h2, h3, _⟩ <;> omega
   have hbr : 0 ≤ r1 → (0 ≤ s.L r1 ∧ s.L r1 ≤ p.stock + p.kerf) ∧ 0 ≤ s.P r1 x ∧ s.P r1 x ≤ p.stock + p.kerf := fun h => by have h9 := hrg r1 h (by omega); exact ⟨h9.1, h9.2 x x0 x1⟩
   refine zlv xas ?_
   refine zln <| zh <| htn <| hsq <| hsq <| hrz ?_
   refine zs2 ?_
   refine zln <| zh <| htn ?_
   refine hcif ?_ ?_ <;> intro hc
   ·
    refine hsq <| hrz ?_
    refine zlv (xlb 1 pl_32 hS) ?_
    refine zlv (xln sl_32 hlB) ?_
    refine zlv xas ?_
    refine zln <| zh <| htn <| hsq ?_
    refine hdst [0, 1, 2, 6, 7, 8] [0, 2, 6, 7, 8] 7 mx_ hS ?_; clear hS; intro w hS
    refine zdl 0 (fun w hS => (xlb 1 pl_32 hS)) ?_
    refine zdv 1 (fun _ => (xfb 0 fd_39_0)) ?_
    refine zdla 2 (fun w hS => (xlb 0 pl_22 hS)) ?_
    refine zdv 3 (fun _ => (xln sl_22 h.L.slh)) ?_
    refine zda 4 (xmk sl_22 el_3 hS) ?_; rintro v1 w ⟨hS, hv1⟩
    replace hS := hS.n10
    refine ⟨⟨fun _ => hS.pk [0, 1, 2, 6, 7, 8], hS.pk [0, 2, 6, 7, 8]⟩, ?_⟩
    refine zda 5 (xli (n := 1) (len := 1) (pv := [(0, v1)]) (cs := [v1]) (c := (fun _ => v1)) sl_32 el_22 hS (hf := by obtain ⟨_, _, _, _, rfl, _⟩ := hv1; kernel_rfl)) ?_; rintro v2 w ⟨hS, hv2⟩
    replace hS := hS.n11
    refine ⟨⟨fun _ => hS.pk [0, 1, 2, 6, 7, 8], hS.pk [0, 2, 6, 7, 8]⟩, ?_⟩
    refine zda 6 (xap 3 (r := s.n + 1) sl_32 el_22 hS (hS.rowN 10 rfl) (cat_gsn _ _ _) (h1 := fun _ _ _ => hv1.one)) ?_; rintro v3 w ⟨hS, hv3⟩
    replace hS := hS.n11
    replace hS := Sat.merge (l1 := [_, _, _, _]) (l2 := [_, _, _, _]) (l3 := [_]) hS (by omega)
    have hrs1 := fun k (k0 : 0 ≤ k) (k1 : k < s.n + 1) => hS.slhIn 4 rfl k0 k1
    replace hS := hS.n10
    refine ⟨⟨fun _ => hS.pk [0, 1, 2, 6, 7, 8], hS.pk [0, 2, 6, 7, 8]⟩, ?_⟩
    refine zde 7 (xsb 1 pl_32 hS (hv := hv3.one)) ?_; clear hS; rintro w hS
    replace hS := hS.n10
    refine ⟨⟨fun h => absurd h (by decide), hS.pk [0, 2, 6, 7, 8]⟩, ?_⟩
    refine zdd <| zh <| htn <| hrz ?_
    refine zlv (xlb 2 pl_22 hS) ?_
    refine zlv (xfb 2 fd_39_2) ?_
    refine zlv (xlb 0 pl_3 hS) ?_
    refine zlv (xfb 3 fd_39_3) ?_
    refine zlv (xlb 0 pl_3 hS) ?_
    refine zlv (xadd (r := p.stock + p.kerf)) ?_
    refine zla (xli (n := 1) (len := 1) (pv := [(0, .int .i64 (p.stock + p.kerf))]) (cs := [.int .i64 (p.stock + p.kerf)]) (c := ints (fun _ => p.stock + p.kerf)) sl_22 el_3 hS) ?_; rintro v4 w ⟨hS, hv4⟩
    replace hS := hS.n11
    refine zla (xap 5 (r := s.n + 1) sl_22 el_3 hS (hS.rowN 10 rfl) (cat_snoc _ _ _)) ?_; rintro v5 w ⟨hS, hv5⟩
    replace hS := hS.n11
    rw [gsn_const] at hS hrs1
    have hz9 : gsn s.P s.n (fun _ => 0) s.n x = 0 := by rw [gsn_at (by omega)]
    have hl9 : snoc s.L s.n (p.stock + p.kerf) s.n = p.stock + p.kerf := snoc_at (by omega)
    refine zle (xsb 2 pl_22 hS (hv := hv5.one)) ?_; clear hS; rintro w hS
    replace hS := hS.n11
    refine zln <| zh <| htn <| hsq <| hrz ?_
    refine zlv (xlb 1 pl_32 hS) ?_
    refine zlv xmv ?_
    refine zlv (xix (kk := s.n) sl_32 hv3) ?_
    refine zlv (xlr (u := ((gsn s.vv s.n v1) s.n)) pl_22 (hS.rowN 3 rfl)) ?_
    refine zlv xmv ?_
    refine zlv (xix (kk := x) sl_22 (hrs1 s.n (by omega) (by omega))) ?_
    refine zlv (xlr (u := .int .i64 ((gsn s.P s.n (fun _ => 0)) s.n x)) pl_3 (hS.rowIn (k := s.n) 4 rfl (by omega) (by omega))) ?_
    refine zlv (xadd (r := ((gsn s.P s.n (fun _ => 0)) s.n x) + 1)) ?_
    refine zlv (xix (kk := x) sl_22 (hrs1 s.n (by omega) (by omega))) ?_
    refine zle (xsr 4 pl_3 hS rfl) ?_; clear hS; rintro w hS
    replace hS := hS.n11
    refine zln <| zh <| htn ?_
    refine hdst [0, 1, 2, 3, 4, 5, 6, 7, 8, 9, 10] [0, 1, 2, 3, 4, 6, 7, 8, 9, 10] 7 mx_ hS ?_; clear hS; intro w hS
    refine zdla 0 (fun w hS => (xlb 2 pl_22 hS)) ?_
    refine zdv 1 (fun _ => xmv) ?_
    refine zdv 2 (fun _ => (xix (kk := s.n) sl_22 hv5)) ?_
    refine zdl 3 (fun w hS => (xlr (u := .int .i64 ((snoc s.L s.n (p.stock + p.kerf)) s.n)) pl_3 (hS.rowN 5 rfl))) ?_
    refine zdla 4 (fun w hS => (xlb 7 pl_3 hS)) ?_
    refine zdv 5 (fun _ => (xsub (r := ((snoc s.L s.n (p.stock + p.kerf)) s.n) - p.L x - p.kerf))) ?_
    refine zdv 6 (fun _ => (xix (kk := s.n) sl_22 hv5)) ?_
    refine zde 7 (xso 5 pl_3 hS (upd_ints _ _ _)) ?_; clear hS; rintro w hS
    replace hS := hS.n11
    refine ⟨⟨fun h => absurd h (by decide), hS.pk [0, 1, 2, 3, 4, 6, 7, 8, 9, 10]⟩, ?_⟩
    refine zdd <| zh <| zbn <| hrdN ⟨s.h ++ [x], v3, s.n + 1, gsn s.vv s.n v1, upd (gsn s.P s.n (fun _ => 0)) s.n (upd ((gsn s.P s.n (fun _ => 0)) s.n) x (((gsn s.P s.n (fun _ => 0)) s.n x) + 1)), v5, (upd (snoc s.L s.n (p.stock + p.kerf)) s.n (((snoc s.L s.n (p.stock + p.kerf)) s.n) - p.L x - p.kerf))⟩ ⟨rfl, (by show plL _ _ _ _ = ffRun _ _ _ (s.h ++ [x]); rw [ffRun_snoc, ← hIv.1]; first | exact ffm_new (sz := szP p) hsn x0 (hr1.resolve_right (fun h => by omega)).2 (by unfold szP; omega) | (have hr9 := hr1.resolve_left (fun h => by omega); exact ffm_at (sz := szP p) hsn x0 hr9.1 hr9.2.1 hr9.2.2.1 hr9.2.2.2 (by unfold szP; omega))), hv3, hv5⟩ (hS.pk [0, 1, 2, 3, 4, 5, 6, 7])
   refine hsk <| htn <| hsq <| hrz ?_
   refine zlv (xlb 1 pl_32 hS) ?_
   refine zlv xmv ?_
   refine zlv (xix (kk := r1) sl_32 hlB) ?_
   refine zlv (xlr (u := (s.vv r1)) pl_22 (hS.rowN 3 rfl)) ?_
   refine zlv xmv ?_
   refine zlv (xix (kk := x) sl_22 (hrB r1 (by omega) (by omega))) ?_
   refine zlv (xlr (u := .int .i64 (s.P r1 x)) pl_3 (hS.rowIn (k := r1) 4 rfl (by omega) (by omega))) ?_
   refine zlv (xadd (r := (s.P r1 x) + 1)) ?_
   refine zlv (xix (kk := x) sl_22 (hrB r1 (by omega) (by omega))) ?_
   refine zle (xsr 4 pl_3 hS rfl) ?_; clear hS; rintro w hS
   replace hS := hS.n9
   refine zln <| zh <| htn ?_
   refine hdst [0, 1, 2, 3, 4, 5, 6, 7, 8] [0, 1, 2, 3, 4, 6, 7, 8] 7 mx_ hS ?_; clear hS; intro w hS
   refine zdla 0 (fun w hS => (xlb 2 pl_22 hS)) ?_
   refine zdv 1 (fun _ => xmv) ?_
   refine zdv 2 (fun _ => (xix (kk := r1) sl_22 hlL)) ?_
   refine zdl 3 (fun w hS => (xlr (u := .int .i64 (s.L r1)) pl_3 (hS.rowN 5 rfl))) ?_
   refine zdla 4 (fun w hS => (xlb 7 pl_3 hS)) ?_
   refine zdv 5 (fun _ => (xsub (r := (s.L r1) - p.L x - p.kerf))) ?_
   refine zdv 6 (fun _ => (xix (kk := r1) sl_22 hlL)) ?_
   refine zde 7 (xso 5 pl_3 hS (upd_ints _ _ _)) ?_; clear hS; rintro w hS
   replace hS := hS.n9
   refine ⟨⟨fun h => absurd h (by decide), hS.pk [0, 1, 2, 3, 4, 6, 7, 8]⟩, ?_⟩
   refine zdd <| zh <| zbn <| hrdN ⟨s.h ++ [x], s.vB, s.n, s.vv, upd s.P r1 (upd (s.P r1) x ((s.P r1 x) + 1)), s.vL, (upd s.L r1 ((s.L r1) - p.L x - p.kerf))⟩ ⟨rfl, (by show plL _ _ _ _ = ffRun _ _ _ (s.h ++ [x]); rw [ffRun_snoc, ← hIv.1]; first | exact ffm_new (sz := szP p) hsn x0 (hr1.resolve_right (fun h => by omega)).2 (by unfold szP; omega) | (have hr9 := hr1.resolve_left (fun h => by omega); exact ffm_at (sz := szP p) hsn x0 hr9.1 hr9.2.1 hr9.2.2.1 hr9.2.2.2 (by unfold szP; omega))), hlB, hlL⟩ (hS.pk [0, 1, 2, 3, 4, 5, 6, 7])
  ·
   intro Dk s rest w hfin hS
   replace hS := hS.n9
   obtain ⟨hIv, hh⟩ := hfin
   have hlB := hIv.2.1; have hlL := hIv.2.2
   obtain ⟨hmem, hlen⟩ := pcsTo_ok (d := p.D) (i := p.m) (c := 0) (fun k k0 k1 => by have he := hok.all k k0 k1; unfold Prob.each at he; omega) (by omega) (by omega) (by omega) (fun h => by omega) (fun _ => rfl)
   rw [← hh] at hmem hlen
   obtain ⟨hn9, hrg⟩ := hIv.rng hok hmem (by omega)
   have hsn := hlB.n0
   have hrB := fun k (k0 : 0 ≤ k) (k1 : k < s.n) => hS.slhIn 4 rfl k0 k1
   refine zbn <| htn <| hsq <| hrz ?_
   refine zlv xas ?_
   refine zln <| zh <| htn <| hsq <| hsq <| hrz ?_
   refine zlv (xlb 1 pl_32 hS) ?_
   refine zlv (xln sl_32 hlB) ?_
   refine zlv xmv ?_
   refine zln <| zh <| htn <| hbk ?_
   replace hS := hS.addnil 2 50 (ucells (fun _ => Value.slice none 0 0) (fun _ => 0))
   replace hS := hS.n10
   refine hlp (fun mm M w => ∃ (nC : Int) (wv : Int → Value) (cC : Int → Int) (i : Int) (wC : Value), mm = ((s.n - i).toNat) ∧ (0 ≤ i) ∧ (i ≤ s.n) ∧ (nC = i) ∧ (∀ k, 0 ≤ k → k < i → wv k = s.vv k) ∧ (∀ k, 0 ≤ k → k < i → cC k = 1) ∧ (Slh wC nC) ∧ M = [(2, .slice none 0 0), (8, wC), (60, s.vB), (61, .int .i64 s.n), (62, .int .i64 i)] ∧ Sat w0 w [.blk g1 [vL, vD, .int .i64 p.stock, .int .i64 p.kerf], .blk g2 [s.vB], .blk g3 [s.vL], .own s.vB 1 22 s.n s.vv, .sem (Frame.rows 3 s.n s.vv (fun _ => p.m) s.P), .own s.vL 1 3 s.n (ints s.L), .blk g4 [vL, vD, .int .i64 p.stock, .int .i64 p.kerf], .sem rest, .sem (Frame.obj Dk (.deferred (some []))), .own wC 2 50 nC (ucells wv cC)]) ⟨0, (fun _ => Value.slice none 0 0), (fun _ => 0), 0, (.slice none 0 0), rfl, (by omega), (by omega), (by omega), ?_, ?_, ?_, rfl, hS⟩ ?_
   ·
    intro k k0 k1; omega
   ·
    intro k k0 k1; omega
   ·
    exact slh_nil
   clear hS w
   rintro mm M w ⟨nC, wv, cC, i, wC, rfl, h0, h1, hnC, hwv, hcC, hwC, rfl, hS⟩
   refine hsq <| hrz ?_
   refine zlv xlss ?_
   refine zln <| zh <| htn <| hsq ?_
   refine hcif ?_ ?_ <;> intro hc
   ·
    refine hsk <| htn <| hsq <| hbk <| hsq <| hrz ?_
    refine zlv (xix (kk := i) sl_32 hlB) ?_
    refine zlv (xlr (u := (s.vv i)) pl_22 (hS.rowN 3 rfl)) ?_
    refine zlv xas ?_
    refine zln <| zh <| htn <| hrz ?_
    refine zs2 ?_
    refine zlv (xany (v := .agg #[(s.vv i), .int .i64 1]) (hr := by have hz := (hrB i (by omega) (by omega)); revert hz; generalize (s.vv i) = z; rintro ⟨_, _, _, _, rfl, _⟩; show _ = _; kernel_rfl)) ?_
    refine zla (xli (n := 1) (len := 1) (pv := [(0, .agg #[(s.vv i), .int .i64 1])]) (cs := [(s.vv i), .int .i64 1]) (c := ucells (fun _ => (s.vv i)) (fun _ => 1)) sl_43 el_50 hS (hf := by have hz := (hrB i (by omega) (by omega)); revert hz; generalize (s.vv i) = z; rintro ⟨_, _, _, _, rfl, _⟩; show _ = _; kernel_rfl)) ?_; rintro v6 w ⟨hS, hv6⟩
    replace hS := hS.n11
    refine zla (xap 9 (r := nC + 1) sl_43 el_50 hS (hS.rowN 10 rfl) (cat_ucells _ _ _ _ _) (h1 := fun k _ _ => ucells_one (fun _ => (hrB i (by omega) (by omega)).one) k)) ?_; rintro v7 w ⟨hS, hv7⟩
    replace hS := hS.n11
    refine zlv xas ?_
    refine zln <| zh <| zbn <| htn <| hrz ?_
    refine zlv (xadd (r := i + 1)) ?_
    refine zlv xmv ?_
    refine zln <| zh <| hlq ⟨nC + 1, (gsn wv nC (s.vv i)), (snoc cC nC 1), i + 1, v7, rfl, (by omega), (by omega), (by omega), ?_, ?_, ?_, rfl, hS.pk [0, 1, 2, 3, 4, 5, 6, 7, 8, 9]⟩
    ·
     intro k k0 k1; by_cases e : k < nC
     · rw [gsn_lt e]; exact hwv k k0 (by omega)
     · rw [gsn_at e, show k = i by omega]
    ·
     intro k k0 k1; by_cases e : k < nC
     · rw [snoc_lt e]; exact hcC k k0 (by omega)
     · rw [snoc_at e]
    ·
     exact hv7
   refine hxt <| ztx <| ztx <| zbh <| htn <| hsq <| hrz ?_
   refine zlv xmv ?_
   have hiN : i = s.n := by omega
   have hnN : nC = s.n := by omega
   subst hnN
   replace hS := hS.recont 9 rfl (d := ucells s.vv (fun _ => 1)) (fun k k0 k1 => by unfold ucells; rw [hwv _ (by omega) (by omega), hcC _ (by omega) (by omega)])
   replace hS := hS.n10
   refine zlc (xc0 cl_80) (c_norm (u := s.n) (pv := s.vv) (ln := (fun _ => p.m)) (pt := s.P) (cnt := (fun _ => 1)) w (⟨(hS.rowN 9 rfl), fun k k0 k1 => hS.rowIn 4 rfl k0 k1, fun k k0 k1 => hS.roomIn 4 rfl k0 k1⟩ : VAt _ wC s.n s.vv (fun _ => p.m) s.P (fun _ => 1)) (by omega) (fun k k0 k1 => by omega) (fun k k0 k1 => by omega)) ?_; rintro vnn1 w ⟨_, nnn1, pnn1, lnn1, gnn1, cnn1, rfl, hnrn1, hn0n1, hn1n1, hncn1, hvnn1, hS'⟩
   replace hS : Sat w0 w [.blk g1 [vL, vD, .int .i64 p.stock, .int .i64 p.kerf], .blk g2 [s.vB], .blk g3 [s.vL], .own s.vB 1 22 s.n s.vv, .sem (Frame.rows 3 s.n s.vv (fun _ => p.m) s.P), .own s.vL 1 3 s.n (ints s.L), .blk g4 [vL, vD, .int .i64 p.stock, .int .i64 p.kerf], .sem rest, .sem (Frame.obj Dk (.deferred (some []))), .own wC 2 50 s.n (ucells s.vv (fun _ => 1)), .own vnn1 2 50 nnn1 (ucells pnn1 cnn1), .sem (Frame.rows 3 nnn1 pnn1 lnn1 gnn1)] := hS.comp hS'; clear hS'
   have hrnn1 := fun k (k0 : 0 ≤ k) (k1 : k < nnn1) => hS.slhIn 11 rfl k0 k1
   refine zlv xas ?_
   refine zln <| zh <| htn <| hrt <| hmk1 8 hS fun w hS => zf1 ⟨_, rfl, ?_⟩
   exact ⟨_, _, _, _, _, _, rfl, (by rw [← hh, ← hIv.1, ones_plL]; exact hnrn1), hn0n1, by omega, fun k k0 k1 => by have := hncn1 k k0 k1; omega, hvnn1, hS.pk [10, 11]⟩
  ·
   intro Dk t rest w hfin hS
   replace hS := hS.n3
   exact hfin.elim

theorem wsum_plL (f : List Int → Int) {ln : Int → Int} {pt : Int → Int → Int} {cnt : Int → Int} : ∀ n : Nat, wsum f (plL (n : Int) ln pt cnt) = psum (fun k => f (lst (ln k) (pt k))) cnt n
  | 0 => rfl
  | n + 1 => by
    rw [show ((n + 1 : Nat) : Int) = (n : Int) + 1 by omega, plL_next (by omega), wsum_append, wsum_plL f n]
    simp only [wsum, psum]; omega
theorem wsum_plL' (f : List Int → Int) {n : Int} {ln : Int → Int} {pt : Int → Int → Int} {cnt : Int → Int} (n0 : 0 ≤ n) : wsum f (plL n ln pt cnt) = psum (fun k => f (lst (ln k) (pt k))) cnt n.toNat := by
  have := wsum_plL f (ln := ln) (pt := pt) (cnt := cnt) n.toNat
  rwa [Int.toNat_of_nonneg n0] at this
theorem sum_range (f : Nat → Int) : ∀ n : Nat, ((List.range (n + 1)).map f).sum = ((List.range n).map f).sum + f n := fun n => by
  rw [List.range_succ, List.map_append, List.sum_append]; simp
theorem puse_lst (sz : Int → Int) (f : Int → Int) : ∀ n : Nat, puse sz (lst (n : Int) f) = psum sz f n := fun n => by
  have key : ∀ j : Nat, j ≤ n → ((List.range j).map fun (k : Nat) => (lst (n : Int) f).getD k 0 * sz k).sum = psum sz f j := by
    intro j
    induction j with
    | zero => intro _; rfl
    | succ j ih =>
      intro hj
      rw [sum_range, ih (by omega), psum, List.getD_eq_getElem?_getD, lst_get, if_pos (by omega), Int.mul_comm]; rfl
  unfold puse
  rw [lst_len, Int.toNat_natCast]
  exact key n (Nat.le_refl _)
theorem puse_lst' (sz : Int → Int) (f : Int → Int) {n : Int} (n0 : 0 ≤ n) : puse sz (lst n f) = psum sz f n.toNat := by
  have := puse_lst sz f n.toNat
  rwa [Int.toNat_of_nonneg n0] at this
/-- Equal as lists. -/
theorem SameP.of_plL {n n2 : Int} {ln ln2 : Int → Int} {pt pt2 : Int → Int → Int} {cnt cnt2 : Int → Int} (n0 : 0 ≤ n) (m0 : 0 ≤ n2) (h1 : ∀ k, 0 ≤ k → k < n → 0 ≤ ln k) (h2 : ∀ k, 0 ≤ k → k < n2 → 0 ≤ ln2 k) (h : plL n ln pt cnt = plL n2 ln2 pt2 cnt2) : SameP n n2 ln ln2 pt pt2 cnt cnt2 := by
  have hl := congrArg List.length h
  rw [plL_len, plL_len] at hl
  refine ⟨by omega, fun k k0 k1 => ?_⟩
  have hk := congrArg (fun l => l[k.toNat]?) h
  simp only [plL_get] at hk
  rw [Int.toNat_of_nonneg k0, if_pos k1, if_pos (by omega)] at hk
  injection hk with hk
  injection hk with hk1 hk2
  obtain ⟨h3, h4⟩ := (lst_eq (h1 k k0 k1) (h2 k k0 (by omega))).1 hk1
  exact ⟨hk2, h3, h4⟩
/-- What FirstFit returns. -/
def FFitR (p : Prob) (l : Us) (e : Int) : Prop := ChkR p e ∧ (e = 0 → NormR (ones (ffRun p.m (p.stock + p.kerf) (szP p) (pcsTo p.D p.m 0))) l) ∧ (e ≠ 0 → l = [])
theorem ChkR.same {p : Prob} {e f : Int} (h : ChkR p e) (k : ChkR p f) : e = f := by
  rcases h with ⟨h1, h2⟩ | ⟨h1, h2, h3⟩ | ⟨h1, h2, h3⟩ <;> rcases k with ⟨k1, k2⟩ | ⟨k1, k2, k3⟩ | ⟨k1, k2, k3⟩ <;> first | exact absurd h1 k1 | exact absurd k1 h1 | omega
theorem FFitR.same {p : Prob} {l m : Us} {e f : Int} (h : FFitR p l e) (k : FFitR p m f) : l = m ∧ e = f := by
  have he := h.1.same k.1
  subst he
  refine ⟨?_, rfl⟩
  by_cases h0 : e = 0
  · exact (h.2.1 h0).same (k.2.1 h0)
  · rw [h.2.2 h0, k.2.2 h0]
/-- The example of the document. -/
def pR : Prob := ⟨2, fun k => [5, 3].getD k.toNat 0, 2, fun k => [3, 4].getD k.toNat 0, 11, 1⟩
theorem okR : pR.Ok := ⟨by decide, by decide, rfl, by decide, by decide, by decide, by decide, fun i i0 i1 => by
  have i1' : i < 2 := i1
  have : i = 0 ∨ i = 1 := by omega
  rcases this with rfl | rfl <;> (unfold Prob.each; decide)⟩
def exPt : Int → Int → Int := fun k j => ([[2, 0], [1, 1], [0, 3]].getD k.toNat []).getD j.toNat 0
theorem runR : ones (ffRun pR.m (pR.stock + pR.kerf) (szP pR) (pcsTo pR.D pR.m 0)) = plL 3 (fun _ => 2) exPt (fun _ => 1) := by decide +kernel
theorem normR : NormR (ones (ffRun pR.m (pR.stock + pR.kerf) (szP pR) (pcsTo pR.D pR.m 0))) (plL 3 (fun _ => 2) exPt (fun _ => 1)) := by
  rw [runR]
  refine ⟨by decide +kernel, ?_⟩
  have e : plL 3 (fun _ => 2) exPt (fun _ => 1) = [([2, 0], 1), ([1, 1], 1), ([0, 3], 1)] := by decide +kernel
  rw [e]
  have a1 : ahd [2, 0] [1, 1] := ⟨0, fun k hk => by omega, by simp [olt]⟩
  have a2 : ahd [1, 1] [0, 3] := ⟨0, fun k hk => by omega, by simp [olt]⟩
  refine .cons (fun b hb => ?_) (.cons (fun b hb => ?_) (.cons (fun b hb => by simp at hb) .nil))
  · simp at hb; rcases hb with rfl | rfl
    · exact a1
    · exact ahd_trans a1 a2
  · simp at hb; subst hb; exact a2
theorem ffitEx {l : Us} {e : Int} (h : FFitR pR l e) : e = 0 ∧ l = plL 3 (fun _ => 2) exPt (fun _ => 1) := by
  have k : FFitR pR (plL 3 (fun _ => 2) exPt (fun _ => 1)) 0 := ⟨.inr (.inr ⟨okR, by decide +kernel, rfl⟩), fun _ => normR, fun h => absurd rfl h⟩
  obtain ⟨h1, h2⟩ := h.same k
  exact ⟨h2, h1⟩

set_option maxRecDepth 20000 in
theorem c_ffit {vL vD : Value} {p : Prob} (w0 : World) (h : PAt w0 vL vD p) :
    Calls Try.prog 18 [.agg #[vL, vD, .int .i64 p.stock, .int .i64 p.kerf]].toArray w0 fun e w => ∃ v, e = .returned v ∧ ∃ r n pv ln pt cnt e, v = .tuple #[r, .int .i64 e] ∧ FFitR p (plL n ln pt cnt) e ∧ (∀ k, 0 ≤ k → k < n → 1 ≤ cnt k ∧ cnt k ≤ 1000000) ∧ n ≤ 1000 ∧ Slh r n ∧ Sat w0 w [.own r 2 50 n (ucells pv cnt), .sem (Frame.rows 3 n pv ln pt)] := by
  have hm := h.L.slh.n0; have hm1 := h.L.slh.n1; have hd := h.D.slh.n0; have hd1 := h.D.slh.n1; have hs := h.is; have hk := h.ik
  refine zenG Try.func18 Try.ntmps18 fun w hS => ?_
  refine zsr ?_
  refine zla (xbx (cs := [_, _, _, _]) hS) ?_; rintro _ w ⟨g1, rfl, hS⟩
  replace hS := hS.n1
  refine zs2 ?_
  refine zlt <| zsq <| zsr ?_
  refine zlv (xls 0 st_39 hS) ?_
  refine zlc (xc0 cl_44) (c_chk34 (p := p) w (h.below hS.below)) ?_; rintro _ w ⟨eck1, rfl, hck1, hS'⟩
  replace hS := hS.cmp hS'; clear hS'
  refine zlv xas ?_
  refine zlz ?_
  refine zs2 ?_
  refine zlt ?_
  refine zcif ?_ ?_ <;> intro hc
  ·
   refine zsr ?_
   refine zs3 ?_
   refine zlt <| zrt <| ztr <| zf2 ⟨_, rfl, ?_⟩
   exact ⟨_, 0, fun _ => undef, fun _ => 0, fun _ _ => 0, fun _ => 0, _, rfl, ⟨hck1, fun h => by omega, fun _ => rfl⟩, fun k k0 k1 => by omega, by omega, slh_nil, ((hS.sub (.cons _ .slnil)).addnil 2 50 (ucells (fun _ => undef) (fun _ => 0))).addrows 3 (fun _ => undef) (fun _ => 0) (fun _ _ => 0)⟩
  refine zsk <| ztn <| zsr ?_
  refine zlv (xls 0 st_39 hS) ?_
  obtain ⟨hok9, htot⟩ : p.Ok ∧ psum (fun _ => 1) p.D p.m.toNat ≤ 1000 := by rcases hck1 with ⟨_, h9⟩ | ⟨_, _, h9⟩ | ⟨h8, h9, _⟩; omega; omega; exact ⟨h8, h9⟩
  refine zlc (xc0 cl_45) (c_firstfit (p := p) w (h.below hS.below) hok9 (by omega)) ?_; rintro vnn1 w ⟨_, nnn1, pnn1, lnn1, gnn1, cnn1, rfl, hnrn1, hn0n1, hn1n1, hncn1, hvnn1, hS'⟩
  replace hS : Sat w0 w [.blk g1 [vL, vD, .int .i64 p.stock, .int .i64 p.kerf], .own vnn1 2 50 nnn1 (ucells pnn1 cnn1), .sem (Frame.rows 3 nnn1 pnn1 lnn1 gnn1)] := hS.comp hS'; clear hS'
  have hrnn1 := fun k (k0 : 0 ≤ k) (k1 : k < nnn1) => hS.slhIn 2 rfl k0 k1
  refine zs2 ?_
  refine zlt <| zrt <| zf2 ⟨_, rfl, ?_⟩
  exact ⟨_, _, _, _, _, _, 0, rfl, ⟨(show eck1 = 0 by omega) ▸ hck1, fun _ => hnrn1, fun h => absurd rfl h⟩, hncn1, hn1n1, hvnn1, hS.pk [1, 2]⟩

set_option maxRecDepth 20000 in
theorem c_pbars {vV : Value} {u : Int} {pv : Int → Value} {ln : Int → Int} {pt : Int → Int → Int} {cnt : Int → Int} (w0 : World) (hV : VAt w0 vV u pv ln pt cnt) (hu6 : u ≤ 100000) (hbc : ∀ k, 0 ≤ k → k < u → 0 ≤ cnt k ∧ cnt k ≤ 1000000000) :
    Calls Try.prog 16 [vV].toArray w0 fun e w => ∃ v, e = .returned v ∧ v = .int .i64 (psum (fun _ => 1) cnt u.toNat) ∧ Sat w0 w [] := by
  have hn := hV.row.slh.n0; have hn1 := hV.row.slh.n1
  refine zenG Try.func16 Try.ntmps16 fun w hS => ?_
  refine zsr ?_
  refine zlv xas ?_
  refine zlz ?_
  refine zlv xas ?_
  refine zlt <| zsq <| zsr ?_
  refine zlv xmv ?_
  refine zlv (xln sl_43 hV.row.slh) ?_
  refine zlv xmv ?_
  refine zlt <| zbk <| zlp (fun mm M w => ∃ (s : Int) (i : Int), mm = ((u - i).toNat) ∧ (0 ≤ i) ∧ (i ≤ u) ∧ (s = psum (fun _ => 1) cnt i.toNat) ∧ (0 ≤ s ∧ s ≤ 1000000000 * i) ∧ M = [(2, .int .i64 0), (3, .int .i64 s), (6, vV), (7, .int .i64 u), (8, .int .i64 i)] ∧ Sat w0 w []) ⟨0, 0, rfl, (by omega), (by omega), ?_, (by omega), rfl, hS⟩ ?_
  ·
   rfl
  clear hS w
  rintro mm M w ⟨s, i, rfl, h0, h1, hs9, hsb, rfl, hS⟩
  refine zsr ?_
  refine zlv xlss ?_
  refine zlt <| zsq ?_
  refine zcif ?_ ?_ <;> intro hc
  ·
   refine zsk <| ztn <| zsq <| zbk <| zsr ?_
   refine zlv (xix (kk := 2 * i) sl_43 hV.row.slh) ?_
   refine zlv (xlw (cs := [(pv i), .int .i64 (cnt i)]) st_50 (hV.row.below hS.below) (ucells_at (k := 2 * i) (i := i) pv cnt (by omega))) ?_
   have hci := hbc i h0 (by omega)
   refine zla (xal (cs := [_, _]) el_50 hS) ?_; rintro _ w ⟨g1, rfl, hS⟩
   replace hS := hS.n1
   refine zle (xsw 0 st_50 hS (hd := (ones_cons (hV.p i (by omega) (by omega)).slh.one (ones_cons rfl ones_nil)))) ?_; clear hS; rintro w hS
   replace hS := hS.n1
   refine zlt <| zrg ?_
   refine zlv xmv ?_
   refine zlv (xfb 1 fd_50_1) ?_
   refine zlv (xlb 0 pl_3 hS) ?_
   refine zlv (xadd (r := s + (cnt i))) ?_
   refine zlv xas ?_
   refine zln <| zbn <| ztn <| zrg ?_
   refine zlv (xadd (r := i + 1)) ?_
   refine zlv xmv ?_
   refine zln <| zlq ⟨s + (cnt i), i + 1, rfl, (by omega), (by omega), ?_, (by omega), rfl, hS.nl⟩
   ·
    rw [psum_next _ _ h0, ← hs9]; omega
  refine zxt <| ztx <| ztx <| zbh <| ztn <| zsr ?_
  refine zs2 ?_
  refine zlt <| zrt <| zf1 ⟨_, rfl, ?_⟩
  obtain rfl : i = u := by omega
  exact ⟨congrArg (Value.int .i64) hs9, hS⟩

def MatR (p : Prob) (m e : Int) : Prop := (¬ p.Ok ∧ m = 0 ∧ e = 1) ∨ (p.Ok ∧ m = (Used p p.D p.m.toNat + (p.stock + p.kerf) - 1).tdiv (p.stock + p.kerf) ∧ e = 0)
set_option maxRecDepth 20000 in
theorem c_mat28 {vL vD : Value} {p : Prob} (w0 : World) (h : PAt w0 vL vD p) (hua : p.Ok → ∀ k, 0 ≤ k → k < p.m → 0 ≤ p.D k ∧ p.D k ≤ 2000) :
    Calls Try.prog 19 [.agg #[vL, vD, .int .i64 p.stock, .int .i64 p.kerf]].toArray w0 fun e w => ∃ v, e = .returned v ∧ ∃ m e : Int, v = .tuple #[.int .i64 m, .int .i64 e] ∧ MatR p m e ∧ Sat w0 w [] := by
  have hm := h.L.slh.n0; have hm1 := h.L.slh.n1; have hd := h.D.slh.n0; have hd1 := h.D.slh.n1; have hs := h.is; have hk := h.ik
  refine zenG Try.func19 Try.ntmps19 fun w hS => ?_
  refine zsr ?_
  refine zla (xbx (cs := [_, _, _, _]) hS) ?_; rintro _ w ⟨g1, rfl, hS⟩
  replace hS := hS.n1
  refine zs2 ?_
  refine zlt <| zsq <| zsr ?_
  refine zlv (xls 0 st_24 hS) ?_
  refine zlc (xc0 cl_10) (c_rvalid28 (p := p) w (h.below hS.below)) ?_; rintro _ w ⟨rfl, hS'⟩
  replace hS := hS.cmp hS'; clear hS'
  refine zlv xnot ?_
  refine zlt ?_
  refine zcif ?_ ?_ <;> intro hc
  ·
   refine zsr ?_
   refine zs2 ?_
   refine zlt <| zrt <| ztr <| zf2 ⟨_, rfl, ?_⟩
   exact ⟨0, 1, rfl, .inl ⟨‹¬ p.Ok›, rfl, rfl⟩, hS.nl⟩
  refine zsk <| ztn <| zsr ?_
  refine zlv (xfb 2 fd_24_2) ?_
  refine zlv (xlb 0 pl_3 hS) ?_
  have hp : p.Ok := by first | assumption | exact Classical.not_not.1 ‹_›
  have hpm := hp.m1; have hpm2 := hp.m2; have hpd := hp.d; have hs1 := hp.s1; have hs2 := hp.s2; have hk1 := hp.k1; have hk2 := hp.k2
  refine zlv (xfb 3 fd_24_3) ?_
  refine zlv (xlb 0 pl_3 hS) ?_
  refine zlv (xadd (r := p.stock + p.kerf)) ?_
  refine zlv xas ?_
  refine zlz ?_
  refine zlv (xls 0 st_24 hS) ?_
  refine zlv (xfb 1 fd_24_1) ?_
  refine zlv (xlb 0 pl_22 hS) ?_
  refine zlc (xc0 cl_46) (c_used (p := p) w (h.below hS.below) (Classical.not_not.1 ‹¬ ¬ (p.Ok)›) (h.D.below hS.below) (by omega) (hua hp)) ?_; rintro _ w ⟨rfl, hS'⟩
  replace hS := hS.cmp hS'; clear hS'
  have hub := used_bound hp (hua hp) (n := p.m) (by omega) (by omega)
  have hqd := tdiv_abs (a := Used p p.D p.m.toNat + p.stock + p.kerf - 1) (d := p.stock + p.kerf) (A := 1000000000000) (by omega) (by omega)
  refine zlv xmv ?_
  refine zlv (xadd (r := (Used p p.D p.m.toNat) + p.stock + p.kerf)) ?_
  refine zlv (xsub (r := (Used p p.D p.m.toNat) + p.stock + p.kerf - 1)) ?_
  refine zlv xmv ?_
  refine zlv (xquo (r := (Int.tdiv ((Used p p.D p.m.toNat) + p.stock + p.kerf - 1) (p.stock + p.kerf)))) ?_
  refine zs2 ?_
  refine zlt <| zrt <| zf2 ⟨_, rfl, ?_⟩
  exact ⟨_, 0, rfl, .inr ⟨hp, (by first | rfl | (congr 1; omega)), rfl⟩, hS.nl⟩

end Go.Proofs.Ytopmifmfecfaaaa
