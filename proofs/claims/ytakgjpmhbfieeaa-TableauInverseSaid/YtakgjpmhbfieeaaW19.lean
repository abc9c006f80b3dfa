/- The walk of Refute, of tableau. -/
import Derived.Test.YtakgjpmhbfieeaaW18
import Derived.Test.YtakgjpmhbfieeaaFy
namespace Go.Proofs.Ytakgjpmhbfieeaa
open Go Go.RowKit Go.Proofs.Gw
set_option linter.unusedVariables false

set_option maxRecDepth 20000 in
theorem c_refute {vc vA vb : Value} {vq : Int → Value} {p : Lp} (w0 : World) (hL : LAt w0 vc vA vb vq p) :
    Calls Try.prog 34 [.agg #[vc, vA, vb]].toArray w0 fun e w => ∃ v, e = .returned v ∧ ∃ vy y my e, v = .tuple #[vy, .int .i64 e] ∧ RefuteR p y my e ∧ Slh vy my ∧ Sat w0 w [.own vy 1 3 my (ints y)] := by
  have hn := hL.c.slh.n0; have hn1 := hL.c.slh.n1; have hm := hL.A.row.slh.n0; have hm1 := hL.A.row.slh.n1; have hk := hL.b.slh.n0; have hk1 := hL.b.slh.n1
  refine enterS (vs := [.agg #[vc, vA, vb]]) Try.func34 rfl Try.ntmps34 rfl ?_
  intro a w hS hF
  refine cw_seq ?_
  refine wp_region_lit ?_
  refine ls_any hF (.free rfl) rfl rfl (ex_box (cs := [vc, vA, vb]) rfl hS rfl rfl) ?_; clear hF; rintro _ w ⟨g1, rfl, hS⟩ a hF
  replace hS : Sat w0 w [.blk g1 [vc, vA, vb]] := hS
  refine ls_val hF (.free rfl) rfl rfl (ex_assign rfl rfl) ?_; clear hF a; intro a hF
  refine ls_val hF (.free rfl) rfl rfl (ex_assign rfl rfl) ?_; clear hF a; intro a hF
  refine ls_nil ?_
  refine then_normal ?_
  refine cw_seq ?_
  refine wp_region_lit ?_
  refine ls_val hF (.free rfl) rfl rfl (ex_loads_blk 0 rfl st_34 rfl hS rfl rfl) ?_; clear hF a; intro a hF
  refine ls_call hF (.free rfl) rfl rfl (ex_call0 rfl rfl cl_20 (args_cons rfl args0)) (c_start (p := p) w (hL.below hS.below)) ?_; clear hF; rintro _ w ⟨vBk1, vFk1, vCk1, vvk1, tk1, ek1, rfl, hstk1, hsBk1, hsFk1, hsCk1, hS'⟩ a hF
  replace hS : Sat w0 w [.blk g1 [vc, vA, vb], .own vBk1 1 3 tk1.nb (ints tk1.B), .own vFk1 1 3 tk1.nf (ints tk1.F), .own vCk1 1 22 tk1.nc vvk1, .sem (Frame.rows 3 tk1.nc vvk1 tk1.ln tk1.C)] := hS.comp hS'; clear hS'
  have hrsk1 := fun k (k0 : 0 ≤ k) (k1 : k < tk1.nc) => hS.slhIn 4 rfl k0 k1
  refine ls_val hF (.free rfl) rfl rfl (ex_move rfl rfl) ?_; clear hF a; intro a hF
  refine ls_val hF (.free rfl) rfl rfl (ex_extract rfl rfl rfl) ?_; clear hF a; intro a hF
  refine ls_val hF (.free rfl) rfl rfl (ex_extract rfl rfl rfl) ?_; clear hF a; intro a hF
  refine ls_any hF (.free rfl) rfl rfl (ex_alloc (cs := [.int .i64 0, .int .i64 0, .slice none 0 0, .slice none 0 0, .slice none 0 0]) rfl el_43 hS rfl) ?_; clear hF; rintro _ w ⟨g2, rfl, hS⟩ a hF
  replace hS : Sat w0 w [.blk g1 [vc, vA, vb], .own vBk1 1 3 tk1.nb (ints tk1.B), .own vFk1 1 3 tk1.nf (ints tk1.F), .own vCk1 1 22 tk1.nc vvk1, .sem (Frame.rows 3 tk1.nc vvk1 tk1.ln tk1.C), .blk g2 [.int .i64 0, .int .i64 0, .slice none 0 0, .slice none 0 0, .slice none 0 0]] := hS
  refine ls_effx hF (.free rfl) rfl (st_blks 5 (ds := [.int .i64 tk1.vars, .int .i64 tk1.den, vBk1, vFk1, vCk1]) rfl st_43 hS rfl rfl rfl rfl (ones_cons rfl (ones_cons rfl (ones_cons hsBk1.one (ones_cons hsFk1.one (ones_cons hsCk1.one ones_nil)))))) ?_; clear hS; rintro w hS
  replace hS : Sat w0 w [.blk g1 [vc, vA, vb], .own vBk1 1 3 tk1.nb (ints tk1.B), .own vFk1 1 3 tk1.nf (ints tk1.F), .own vCk1 1 22 tk1.nc vvk1, .sem (Frame.rows 3 tk1.nc vvk1 tk1.ln tk1.C), .blk g2 [.int .i64 tk1.vars, .int .i64 tk1.den, vBk1, vFk1, vCk1]] := hS
  refine ls_val hF (.free rfl) rfl rfl (ex_assign rfl rfl) ?_; clear hF a; intro a hF
  refine ls_nil ?_
  refine then_normal ?_
  refine cw_seq ?_
  refine cw_seq ?_
  refine wp_region_lit ?_
  refine ls_val hF (.free rfl) rfl rfl (ex_move rfl rfl) ?_; clear hF a; intro a hF
  refine ls_val hF (.free rfl) rfl rfl (ex_neq rfl rfl rfl) ?_; clear hF a; intro a hF
  refine ls_nil ?_
  refine then_normal ?_
  refine cw_if hF rfl (fun hc => ?_) (fun hc => ?_)
  ·
   refine cw_seq ?_
   refine wp_region_lit ?_
   refine ls_val hF (.free rfl) rfl rfl (ex_move rfl rfl) ?_; clear hF a; intro a hF
   refine ls_val hF (.free rfl) rfl rfl (ex_assign rfl rfl) ?_; clear hF a; intro a hF
   refine ls_val hF (.free rfl) rfl rfl (ex_assign rfl rfl) ?_; clear hF a; intro a hF
   refine ls_nil ?_
   refine then_normal ?_
   refine wp_ret ?_
   refine then_ret ((fin2 hF rfl rfl rfl ⟨_, rfl, ?_⟩))
   obtain ⟨hl0, hl1⟩ := hstk1.err (by omega)
   exact ⟨_, _, 0, _, rfl, .inl ⟨hl0, rfl, hl1⟩, slh_nil, (hS.sub (.cons _ (.cons _ (.cons _ (.cons _ (.cons _ (.cons _ .slnil))))))).addnil 1 3 (ints (fun _ => 0))⟩
  ·
   refine wp_skip ?_
   refine then_normal ?_
   refine cw_seq ?_
   refine wp_region_lit ?_
   refine ls_val hF (.free rfl) rfl rfl (ex_loads_blk 5 rfl st_43 rfl hS rfl rfl) ?_; clear hF a; intro a hF
   refine ls_call hF (.free rfl) rfl rfl (ex_call0 rfl rfl cl_40 (args_cons rfl args0)) (c_optimize (t := tk1) w (⟨(hS.rowN 1 rfl), (hS.rowN 2 rfl), (⟨(hS.rowN 3 rfl), fun k k0 k1 => hS.rowIn 4 rfl k0 k1, fun k k0 k1 => hS.roomIn 4 rfl k0 k1⟩ : MAt _ vCk1 tk1.nc vvk1 tk1.ln tk1.C)⟩ : TAt _ vBk1 vFk1 vCk1 vvk1 tk1)) ?_; clear hF; rintro _ w ⟨xBu1, xFu1, xCu1, xvu1, uu1, euu1, rfl, hrunu1, hxBu1, hxFu1, hxCu1, hS'⟩ a hF
   replace hS : Sat w0 w [.blk g1 [vc, vA, vb], .own vBk1 1 3 tk1.nb (ints tk1.B), .own vFk1 1 3 tk1.nf (ints tk1.F), .own vCk1 1 22 tk1.nc vvk1, .sem (Frame.rows 3 tk1.nc vvk1 tk1.ln tk1.C), .blk g2 [.int .i64 tk1.vars, .int .i64 tk1.den, vBk1, vFk1, vCk1], .sem (Frame.alt (uu1 = tk1 ∧ xBu1 = vBk1 ∧ xFu1 = vFk1 ∧ xCu1 = vCk1 ∧ xvu1 = vvk1) (Frame.bun [.own xBu1 1 3 uu1.nb (ints uu1.B), .own xFu1 1 3 uu1.nf (ints uu1.F), .own xCu1 1 22 uu1.nc xvu1, .sem (Frame.rows 3 uu1.nc xvu1 uu1.ln uu1.C)]))] := hS.comp hS'; clear hS'
   have hxru1 := fun k (k0 : 0 ≤ k) (k1 : k < uu1.nc) => ((tat_alt (⟨(hS.rowN 1 rfl), (hS.rowN 2 rfl), (⟨(hS.rowN 3 rfl), fun k k0 k1 => hS.rowIn 4 rfl k0 k1, fun k k0 k1 => hS.roomIn 4 rfl k0 k1⟩ : MAt _ vCk1 tk1.nc vvk1 tk1.ln tk1.C)⟩ : TAt _ vBk1 vFk1 vCk1 vvk1 tk1) hS 6 rfl).C.p k k0 k1).slh
   refine ls_val hF (.free rfl) rfl rfl (ex_move rfl rfl) ?_; clear hF a; intro a hF
   refine ls_val hF (.free rfl) rfl rfl (ex_extract rfl rfl rfl) ?_; clear hF a; intro a hF
   refine ls_val hF (.free rfl) rfl rfl (ex_extract rfl rfl rfl) ?_; clear hF a; intro a hF
   refine ls_effx hF (.free rfl) rfl (st_blks 5 (ds := [.int .i64 uu1.vars, .int .i64 uu1.den, xBu1, xFu1, xCu1]) rfl st_43 hS rfl rfl rfl rfl (ones_cons rfl (ones_cons rfl (ones_cons hxBu1.one (ones_cons hxFu1.one (ones_cons hxCu1.one ones_nil)))))) ?_; clear hS; rintro w hS
   replace hS : Sat w0 w [.blk g1 [vc, vA, vb], .own vBk1 1 3 tk1.nb (ints tk1.B), .own vFk1 1 3 tk1.nf (ints tk1.F), .own vCk1 1 22 tk1.nc vvk1, .sem (Frame.rows 3 tk1.nc vvk1 tk1.ln tk1.C), .blk g2 [.int .i64 uu1.vars, .int .i64 uu1.den, xBu1, xFu1, xCu1], .sem (Frame.alt (uu1 = tk1 ∧ xBu1 = vBk1 ∧ xFu1 = vFk1 ∧ xCu1 = vCk1 ∧ xvu1 = vvk1) (Frame.bun [.own xBu1 1 3 uu1.nb (ints uu1.B), .own xFu1 1 3 uu1.nf (ints uu1.F), .own xCu1 1 22 uu1.nc xvu1, .sem (Frame.rows 3 uu1.nc xvu1 uu1.ln uu1.C)]))] := hS
   refine ls_val hF (.free rfl) rfl rfl (ex_assign rfl rfl) ?_; clear hF a; intro a hF
   refine ls_nil ?_
   refine then_normal ?_
   refine cw_seq ?_
   refine cw_seq ?_
   refine wp_region_lit ?_
   refine ls_val hF (.free rfl) rfl rfl (ex_move rfl rfl) ?_; clear hF a; intro a hF
   refine ls_nil ?_
   refine then_normal ?_
   refine wp_block ?_
   refine cw_seq ?_
   refine wp_region_lit ?_
   refine ls_val hF (.free rfl) rfl rfl (ex_eql rfl rfl rfl) ?_; clear hF a; intro a hF
   refine ls_val hF (.free rfl) rfl rfl (ex_assign rfl rfl) ?_; clear hF a; intro a hF
   refine ls_nil ?_
   refine then_normal ?_
   refine cw_if hF rfl (fun hc => ?_) (fun hc => ?_)
   ·
    refine cw_seq ?_
    refine wp_region_lit ?_
    refine ls_val hF (.free rfl) rfl rfl (ex_assign rfl rfl) ?_; clear hF a; intro a hF
    refine ls_val hF (.free rfl) rfl rfl (ex_assign rfl rfl) ?_; clear hF a; intro a hF
    refine ls_nil ?_
    refine then_normal ?_
    refine wp_ret ?_
    refine inb_ret (then_ret ((fin2 hF rfl rfl rfl ⟨_, rfl, ?_⟩)))
    obtain ⟨hl, hts⟩ := hstk1.ok (by omega); rw [hts] at hrunu1
    exact ⟨_, _, 0, _, rfl, .inr ⟨hl, _, _, hrunu1, .inl ⟨by omega, rfl, rfl⟩⟩, slh_nil, (hS.sub (.cons _ (.cons _ (.cons _ (.cons _ (.cons _ (.cons _ (.cons _ .slnil)))))))).addnil 1 3 (ints (fun _ => 0))⟩
   ·
    refine cw_seq ?_
    refine wp_region_lit ?_
    refine ls_val hF (.free rfl) rfl rfl (ex_eql rfl rfl rfl) ?_; clear hF a; intro a hF
    refine ls_val hF (.free rfl) rfl rfl (ex_assign rfl rfl) ?_; clear hF a; intro a hF
    refine ls_nil ?_
    refine then_normal ?_
    refine cw_if hF rfl (fun hc => ?_) (fun hc => ?_)
    ·
     refine wp_skip ?_
     refine inb_normal ?_
     refine then_normal ?_
     refine cw_seq ?_
     refine wp_region_lit ?_
     refine ls_val hF (.free rfl) rfl rfl (ex_field (b := ⟨g1, 1, none⟩) rfl fd_34_1 rfl rfl) ?_; clear hF a; intro a hF
     obtain ⟨hl, hts⟩ := hstk1.ok (by omega)
     have b1 := hl.n1
     have b2 := hl.n2
     have b3 := hl.m2
     have b4 := hl.k
     have hdm := hrunu1.dims
     obtain ⟨hp, hco, _, hlv⟩ := hrunu1.fin (.inr (by omega))
     obtain ⟨hr0, hre⟩ := hlv (by omega)
     have hlr := leav_rng uu1 uu1.nb.toNat
     have hd1 : uu1.nb = p.m := by rw [hdm.1, hts]; rfl
     have hd2 : uu1.nf = p.n := by rw [hdm.2.1, hts]; rfl
     have hd3 : uu1.vars = p.n := by rw [hdm.2.2.2, hts]; rfl
     have hd4 := hp.c; have hl0 := hp.len (i := 0) (by omega) (by omega); have hden1 := hp.d1; have hden2 := hp.d2
     refine ls_val hF (.free rfl) rfl rfl (ex_load_blk 0 rfl pl_23 rfl hS rfl rfl) ?_; clear hF a; intro a hF
     refine ls_val hF (.free rfl) rfl rfl (ex_len rfl sl_23 rfl hL.A.row.slh) ?_; clear hF a; intro a hF
     refine ls_any hF (.free rfl) rfl rfl (ex_make rfl sl_22 el_3 rfl rfl hS rfl rfl (by omega) (by omega) (by omega)) ?_; clear hF; rintro v1 w ⟨hS, hv1⟩ a hF
     replace hS : Sat w0 w [.blk g1 [vc, vA, vb], .own vBk1 1 3 tk1.nb (ints tk1.B), .own vFk1 1 3 tk1.nf (ints tk1.F), .own vCk1 1 22 tk1.nc vvk1, .sem (Frame.rows 3 tk1.nc vvk1 tk1.ln tk1.C), .blk g2 [.int .i64 uu1.vars, .int .i64 uu1.den, xBu1, xFu1, xCu1], .sem (Frame.alt (uu1 = tk1 ∧ xBu1 = vBk1 ∧ xFu1 = vFk1 ∧ xCu1 = vCk1 ∧ xvu1 = vvk1) (Frame.bun [.own xBu1 1 3 uu1.nb (ints uu1.B), .own xFu1 1 3 uu1.nf (ints uu1.F), .own xCu1 1 22 uu1.nc xvu1, .sem (Frame.rows 3 uu1.nc xvu1 uu1.ln uu1.C)])), .own v1 1 3 p.m (ints (fun _ => 0))] := hS
     refine ls_val hF (.free rfl) rfl rfl (ex_assign rfl rfl) ?_; clear hF a; intro a hF
     refine ls_nil ?_
     refine then_normal ?_
     refine cw_seq ?_
     refine wp_region_lit ?_
     refine ls_val hF (.free rfl) rfl rfl (ex_assign rfl rfl) ?_; clear hF a; intro a hF
     refine ls_nil ?_
     refine then_normal ?_
     refine cw_seq ?_
     refine cw_seq ?_
     refine wp_region_lit ?_
     refine ls_val hF (.free rfl) rfl rfl (ex_field (b := ⟨g2, 2, none⟩) rfl fd_43_2 rfl rfl) ?_; clear hF a; intro a hF
     refine ls_val hF (.free rfl) rfl rfl (ex_load_blk 5 rfl pl_22 rfl hS rfl rfl) ?_; clear hF a; intro a hF
     refine ls_val hF (.free rfl) rfl rfl (ex_len rfl sl_22 rfl hxBu1) ?_; clear hF a; intro a hF
     refine ls_val hF (.free rfl) rfl rfl (ex_move rfl rfl) ?_; clear hF a; intro a hF
     refine ls_nil ?_
     refine then_normal ?_
     refine wp_block ?_
     refine cw_loop (fun mm a w => ∃ (row : Int) (i : Int), mm = ((uu1.nb - i).toNat) ∧ (0 ≤ i) ∧ (i ≤ uu1.nb) ∧ (row = leav uu1 i.toNat) ∧ Fr a 116 [(2, .slice none 0 0), (3, .int .i64 0), (4, .pointer (some ⟨g2, 0, none⟩)), (6, v1), (7, .int .i64 row), (37, xBu1), (38, .int .i64 uu1.nb), (39, .int .i64 i)] ∧ Sat w0 w [.blk g1 [vc, vA, vb], .own vBk1 1 3 tk1.nb (ints tk1.B), .own vFk1 1 3 tk1.nf (ints tk1.F), .own vCk1 1 22 tk1.nc vvk1, .sem (Frame.rows 3 tk1.nc vvk1 tk1.ln tk1.C), .blk g2 [.int .i64 uu1.vars, .int .i64 uu1.den, xBu1, xFu1, xCu1], .sem (Frame.alt (uu1 = tk1 ∧ xBu1 = vBk1 ∧ xFu1 = vFk1 ∧ xCu1 = vCk1 ∧ xvu1 = vvk1) (Frame.bun [.own xBu1 1 3 uu1.nb (ints uu1.B), .own xFu1 1 3 uu1.nf (ints uu1.F), .own xCu1 1 22 uu1.nc xvu1, .sem (Frame.rows 3 uu1.nc xvu1 uu1.ln uu1.C)])), .own v1 1 3 p.m (ints (fun _ => 0))]) ?_ ?_ (m := ((uu1.nb - 0).toNat))
     ·
      refine ⟨(-1), 0, rfl, (by omega), (by omega), ?_, (hF.pick (hF.pick (hF.pick (hF.pick (hF.pick (hF.pick (hF.pick (hF.pick hF.nil 39 rfl) 38 rfl) 37 rfl) 7 rfl) 6 rfl) 4 rfl) 3 rfl) 2 rfl), hS⟩
      ·
       rfl
     ·
      clear hF hS a w
      rintro mm a w ⟨row, i, rfl, h0, h1, hrow, hF, hS⟩
      refine cw_seq ?_
      refine wp_region_lit ?_
      refine ls_val hF (.free rfl) rfl rfl (ex_lss rfl rfl rfl) ?_; clear hF a; intro a hF
      refine ls_nil ?_
      refine then_normal ?_
      refine cw_seq ?_
      refine cw_if hF rfl (fun hc => ?_) (fun hc => ?_)
      ·
       refine wp_skip ?_
       refine then_normal ?_
       refine cw_seq ?_
       refine wp_block ?_
       refine cw_seq ?_
       refine wp_region_lit ?_
       refine ls_val hF (.free rfl) rfl rfl (ex_move rfl rfl) ?_; clear hF a; intro a hF
       refine ls_val hF (.free rfl) rfl rfl (ex_index (k := i) rfl sl_22 rfl rfl hxBu1 (by omega) (by omega) (by omega)) ?_; clear hF a; intro a hF
       refine ls_val hF (.free rfl) rfl rfl (ex_load_row (u := .int .i64 (uu1.B i)) rfl pl_3 rfl (tat_alt (⟨(hS.rowN 1 rfl), (hS.rowN 2 rfl), (⟨(hS.rowN 3 rfl), fun k k0 k1 => hS.rowIn 4 rfl k0 k1, fun k k0 k1 => hS.roomIn 4 rfl k0 k1⟩ : MAt _ vCk1 tk1.nc vvk1 tk1.ln tk1.C)⟩ : TAt _ vBk1 vFk1 vCk1 vvk1 tk1) hS 6 rfl).B (by omega) (by omega) rfl) ?_; clear hF a; intro a hF
       refine ls_val hF (.free rfl) rfl rfl (ex_assign rfl rfl) ?_; clear hF a; intro a hF
       refine ls_val hF (.free rfl) rfl rfl (ex_assign rfl rfl) ?_; clear hF a; intro a hF
       refine ls_nil ?_
       refine then_normal ?_
       refine cw_seq ?_
       refine wp_region_lit ?_
       refine ls_val hF (.free rfl) rfl rfl (ex_field (b := ⟨g2, 4, none⟩) rfl fd_43_4 rfl rfl) ?_; clear hF a; intro a hF
       refine ls_val hF (.free rfl) rfl rfl (ex_load_blk 5 rfl pl_23 rfl hS rfl rfl) ?_; clear hF a; intro a hF
       refine ls_val hF (.free rfl) rfl rfl (ex_move rfl rfl) ?_; clear hF a; intro a hF
       have hli := hp.len (i := i + 1) (by omega) (by omega); have hlri := leav_rng uu1 i.toNat
       refine ls_val hF (.free rfl) rfl rfl (ex_add (r := i + 1) rfl rfl rfl (by omega) (by unfold I64; omega)) ?_; clear hF a; intro a hF
       refine ls_val hF (.free rfl) rfl rfl (ex_index (k := i + 1) rfl sl_23 rfl rfl hxCu1 (by omega) (by omega) (by omega)) ?_; clear hF a; intro a hF
       refine ls_val hF (.free rfl) rfl rfl (ex_load_row (u := (xvu1 (i + 1))) rfl pl_22 rfl (tat_alt (⟨(hS.rowN 1 rfl), (hS.rowN 2 rfl), (⟨(hS.rowN 3 rfl), fun k k0 k1 => hS.rowIn 4 rfl k0 k1, fun k k0 k1 => hS.roomIn 4 rfl k0 k1⟩ : MAt _ vCk1 tk1.nc vvk1 tk1.ln tk1.C)⟩ : TAt _ vBk1 vFk1 vCk1 vvk1 tk1) hS 6 rfl).C.row (by omega) (by omega) rfl) ?_; clear hF a; intro a hF
       refine ls_val hF (.free rfl) rfl rfl (ex_index (k := 0) rfl sl_22 rfl rfl (hxru1 (i + 1) (by omega) (by omega)) (by omega) (by omega) (by omega)) ?_; clear hF a; intro a hF
       refine ls_val hF (.free rfl) rfl rfl (ex_load_row (u := .int .i64 (uu1.C (i + 1) 0)) rfl pl_3 rfl ((tat_alt (⟨(hS.rowN 1 rfl), (hS.rowN 2 rfl), (⟨(hS.rowN 3 rfl), fun k k0 k1 => hS.rowIn 4 rfl k0 k1, fun k k0 k1 => hS.roomIn 4 rfl k0 k1⟩ : MAt _ vCk1 tk1.nc vvk1 tk1.ln tk1.C)⟩ : TAt _ vBk1 vFk1 vCk1 vvk1 tk1) hS 6 rfl).C.p (i + 1) (by omega) (by omega)) (by omega) (by omega) rfl) ?_; clear hF a; intro a hF
       refine ls_val hF (.free rfl) rfl rfl (ex_lss rfl rfl rfl) ?_; clear hF a; intro a hF
       refine ls_val hF (.free rfl) rfl rfl (ex_move rfl rfl) ?_; clear hF a; intro a hF
       refine by_slot hF (d := 53) rfl ?_ ?_ <;> clear hF <;> intro hc hF
       ·
        refine ls_val hF (.on rfl rfl rfl rfl rfl) rfl rfl (ex_move rfl rfl) ?_; clear hF a; intro a hF
        refine ls_val hF (.on rfl rfl rfl rfl rfl) rfl rfl (ex_lss rfl rfl rfl) ?_; clear hF a; intro a hF
        refine ls_val hF (.on rfl rfl rfl rfl rfl) rfl rfl (ex_move rfl rfl) ?_; clear hF a; intro a hF
        refine by_slot hF (d := 56) rfl ?_ ?_ <;> clear hF <;> intro hc hF
        ·
         refine ls_off hF (.on rfl rfl rfl rfl rfl) rfl rfl ?_; clear hF a; intro a hF
         refine ls_off hF (.on rfl rfl rfl rfl rfl) rfl rfl ?_; clear hF a; intro a hF
         refine ls_off hF (.on rfl rfl rfl rfl rfl) rfl rfl ?_; clear hF a; intro a hF
         refine ls_off hF (.on rfl rfl rfl rfl rfl) rfl rfl ?_; clear hF a; intro a hF
         refine ls_off hF (.on rfl rfl rfl rfl rfl) rfl rfl ?_; clear hF a; intro a hF
         refine ls_off hF (.on rfl rfl rfl rfl rfl) rfl rfl ?_; clear hF a; intro a hF
         refine ls_off hF (.on rfl rfl rfl rfl rfl) rfl rfl ?_; clear hF a; intro a hF
         refine ls_val hF (.on rfl rfl rfl rfl rfl) rfl rfl (ex_pick_t rfl rfl rfl) ?_; clear hF a; intro a hF
         refine ls_val hF (.free rfl) rfl rfl (ex_pick_t rfl rfl rfl) ?_; clear hF a; intro a hF
         refine ls_nil ?_
         refine then_normal ?_
         refine cw_t hF rfl ?_
         refine wp_region_lit ?_
         refine ls_val hF (.free rfl) rfl rfl (ex_move rfl rfl) ?_; clear hF a; intro a hF
         refine ls_val hF (.free rfl) rfl rfl (ex_assign rfl rfl) ?_; clear hF a; intro a hF
         refine ls_nil ?_
         refine inb_normal ?_
         refine then_normal ?_
         refine wp_region_lit ?_
         refine ls_val hF (.free rfl) rfl rfl (ex_add (r := i + 1) rfl rfl rfl (by omega) (by unfold I64; omega)) ?_; clear hF a; intro a hF
         refine ls_val hF (.free rfl) rfl rfl (ex_move rfl rfl) ?_; clear hF a; intro a hF
         refine ls_nil ?_
         refine then_normal ?_
         refine ⟨_, (by omega), i, i + 1, rfl, (by omega), (by omega), ?_, (hF.pick (hF.pick (hF.pick (hF.pick (hF.pick (hF.pick (hF.pick (hF.pick hF.nil 39 rfl) 38 rfl) 37 rfl) 7 rfl) 6 rfl) 4 rfl) 3 rfl) 2 rfl), hS⟩
         ·
          rw [leav_next uu1 h0, ← hrow]; first | rw [if_pos (by omega)] | rw [if_neg (by omega)]
        ·
         refine ls_val hF (.on rfl rfl rfl rfl rfl) rfl rfl (ex_move rfl rfl) ?_; clear hF a; intro a hF
         refine ls_val hF (.on rfl rfl rfl rfl rfl) rfl rfl (ex_field (b := ⟨g2, 2, none⟩) rfl fd_43_2 rfl rfl) ?_; clear hF a; intro a hF
         refine ls_val hF (.on rfl rfl rfl rfl rfl) rfl rfl (ex_load_blk 5 rfl pl_22 rfl hS rfl rfl) ?_; clear hF a; intro a hF
         refine ls_val hF (.on rfl rfl rfl rfl rfl) rfl rfl (ex_move rfl rfl) ?_; clear hF a; intro a hF
         refine ls_val hF (.on rfl rfl rfl rfl rfl) rfl rfl (ex_index (k := row) rfl sl_22 rfl rfl hxBu1 (by omega) (by omega) (by omega)) ?_; clear hF a; intro a hF
         refine ls_val hF (.on rfl rfl rfl rfl rfl) rfl rfl (ex_load_row (u := .int .i64 (uu1.B row)) rfl pl_3 rfl (tat_alt (⟨(hS.rowN 1 rfl), (hS.rowN 2 rfl), (⟨(hS.rowN 3 rfl), fun k k0 k1 => hS.rowIn 4 rfl k0 k1, fun k k0 k1 => hS.roomIn 4 rfl k0 k1⟩ : MAt _ vCk1 tk1.nc vvk1 tk1.ln tk1.C)⟩ : TAt _ vBk1 vFk1 vCk1 vvk1 tk1) hS 6 rfl).B (by omega) (by omega) rfl) ?_; clear hF a; intro a hF
         refine ls_val hF (.on rfl rfl rfl rfl rfl) rfl rfl (ex_lss rfl rfl rfl) ?_; clear hF a; intro a hF
         refine ls_val hF (.on rfl rfl rfl rfl rfl) rfl rfl (ex_pick_f rfl rfl rfl) ?_; clear hF a; intro a hF
         refine ls_val hF (.free rfl) rfl rfl (ex_pick_t rfl rfl rfl) ?_; clear hF a; intro a hF
         refine ls_nil ?_
         refine then_normal ?_
         refine cw_if hF rfl (fun hc => ?_) (fun hc => ?_)
         ·
          refine wp_region_lit ?_
          refine ls_val hF (.free rfl) rfl rfl (ex_move rfl rfl) ?_; clear hF a; intro a hF
          refine ls_val hF (.free rfl) rfl rfl (ex_assign rfl rfl) ?_; clear hF a; intro a hF
          refine ls_nil ?_
          refine inb_normal ?_
          refine then_normal ?_
          refine wp_region_lit ?_
          refine ls_val hF (.free rfl) rfl rfl (ex_add (r := i + 1) rfl rfl rfl (by omega) (by unfold I64; omega)) ?_; clear hF a; intro a hF
          refine ls_val hF (.free rfl) rfl rfl (ex_move rfl rfl) ?_; clear hF a; intro a hF
          refine ls_nil ?_
          refine then_normal ?_
          refine ⟨_, (by omega), i, i + 1, rfl, (by omega), (by omega), ?_, (hF.pick (hF.pick (hF.pick (hF.pick (hF.pick (hF.pick (hF.pick (hF.pick hF.nil 39 rfl) 38 rfl) 37 rfl) 7 rfl) 6 rfl) 4 rfl) 3 rfl) 2 rfl), hS⟩
          ·
           rw [leav_next uu1 h0, ← hrow]; first | rw [if_pos (by omega)] | rw [if_neg (by omega)]
         ·
          refine wp_skip ?_
          refine inb_normal ?_
          refine then_normal ?_
          refine wp_region_lit ?_
          refine ls_val hF (.free rfl) rfl rfl (ex_add (r := i + 1) rfl rfl rfl (by omega) (by unfold I64; omega)) ?_; clear hF a; intro a hF
          refine ls_val hF (.free rfl) rfl rfl (ex_move rfl rfl) ?_; clear hF a; intro a hF
          refine ls_nil ?_
          refine then_normal ?_
          refine ⟨_, (by omega), row, i + 1, rfl, (by omega), (by omega), ?_, (hF.pick (hF.pick (hF.pick (hF.pick (hF.pick (hF.pick (hF.pick (hF.pick hF.nil 39 rfl) 38 rfl) 37 rfl) 7 rfl) 6 rfl) 4 rfl) 3 rfl) 2 rfl), hS⟩
          ·
           rw [leav_next uu1 h0, ← hrow]; first | rw [if_pos (by omega)] | rw [if_neg (by omega)]
       ·
        refine ls_off hF (.on rfl rfl rfl rfl rfl) rfl rfl ?_; clear hF a; intro a hF
        refine ls_off hF (.on rfl rfl rfl rfl rfl) rfl rfl ?_; clear hF a; intro a hF
        refine ls_off hF (.on rfl rfl rfl rfl rfl) rfl rfl ?_; clear hF a; intro a hF
        refine ls_off hF (.off rfl rfl rfl rfl) rfl rfl ?_; clear hF a; intro a hF
        refine ls_off hF (.off rfl rfl rfl rfl) rfl rfl ?_; clear hF a; intro a hF
        refine ls_off hF (.off rfl rfl rfl rfl) rfl rfl ?_; clear hF a; intro a hF
        refine ls_off hF (.off rfl rfl rfl rfl) rfl rfl ?_; clear hF a; intro a hF
        refine ls_off hF (.off rfl rfl rfl rfl) rfl rfl ?_; clear hF a; intro a hF
        refine ls_off hF (.off rfl rfl rfl rfl) rfl rfl ?_; clear hF a; intro a hF
        refine ls_off hF (.off rfl rfl rfl rfl) rfl rfl ?_; clear hF a; intro a hF
        refine ls_off hF (.on rfl rfl rfl rfl rfl) rfl rfl ?_; clear hF a; intro a hF
        refine ls_val hF (.free rfl) rfl rfl (ex_pick_f rfl rfl rfl) ?_; clear hF a; intro a hF
        refine ls_nil ?_
        refine then_normal ?_
        refine cw_f hF rfl ?_
        refine wp_skip ?_
        refine inb_normal ?_
        refine then_normal ?_
        refine wp_region_lit ?_
        refine ls_val hF (.free rfl) rfl rfl (ex_add (r := i + 1) rfl rfl rfl (by omega) (by unfold I64; omega)) ?_; clear hF a; intro a hF
        refine ls_val hF (.free rfl) rfl rfl (ex_move rfl rfl) ?_; clear hF a; intro a hF
        refine ls_nil ?_
        refine then_normal ?_
        refine ⟨_, (by omega), row, i + 1, rfl, (by omega), (by omega), ?_, (hF.pick (hF.pick (hF.pick (hF.pick (hF.pick (hF.pick (hF.pick (hF.pick hF.nil 39 rfl) 38 rfl) 37 rfl) 7 rfl) 6 rfl) 4 rfl) 3 rfl) 2 rfl), hS⟩
        ·
         rw [leav_next uu1 h0, ← hrow]; first | rw [if_pos (by omega)] | rw [if_neg (by omega)]
      ·
       refine wp_exit ?_
       refine then_exit ?_
       refine then_exit ?_
       refine inb_hit ?_
       refine then_normal ?_
       refine cw_seq ?_
       refine cw_seq ?_
       refine wp_region_lit ?_
       refine ls_val hF (.free rfl) rfl rfl (ex_field (b := ⟨g2, 2, none⟩) rfl fd_43_2 rfl rfl) ?_; clear hF a; intro a hF
       refine ls_val hF (.free rfl) rfl rfl (ex_load_blk 5 rfl pl_22 rfl hS rfl rfl) ?_; clear hF a; intro a hF
       refine ls_val hF (.free rfl) rfl rfl (ex_move rfl rfl) ?_; clear hF a; intro a hF
       have hri : row = leav uu1 uu1.nb.toNat := by rw [hrow]; congr 1; omega
       have hrB := hp.rngB (i := row) (by omega) (by omega); have hlr1 := hp.len (i := row + 1) (by omega) (by omega)
       refine ls_val hF (.free rfl) rfl rfl (ex_index (k := row) rfl sl_22 rfl rfl hxBu1 (by omega) (by omega) (by omega)) ?_; clear hF a; intro a hF
       refine ls_val hF (.free rfl) rfl rfl (ex_load_row (u := .int .i64 (uu1.B row)) rfl pl_3 rfl (tat_alt (⟨(hS.rowN 1 rfl), (hS.rowN 2 rfl), (⟨(hS.rowN 3 rfl), fun k k0 k1 => hS.rowIn 4 rfl k0 k1, fun k k0 k1 => hS.roomIn 4 rfl k0 k1⟩ : MAt _ vCk1 tk1.nc vvk1 tk1.ln tk1.C)⟩ : TAt _ vBk1 vFk1 vCk1 vvk1 tk1) hS 6 rfl).B (by omega) (by omega) rfl) ?_; clear hF a; intro a hF
       refine ls_val hF (.free rfl) rfl rfl (ex_assign rfl rfl) ?_; clear hF a; intro a hF
       refine ls_nil ?_
       refine then_normal ?_
       refine cw_seq ?_
       refine wp_region_lit ?_
       refine ls_val hF (.free rfl) rfl rfl (ex_move rfl rfl) ?_; clear hF a; intro a hF
       refine ls_val hF (.free rfl) rfl rfl (ex_field (b := ⟨g2, 0, none⟩) rfl fd_43_0 rfl rfl) ?_; clear hF a; intro a hF
       refine ls_val hF (.free rfl) rfl rfl (ex_load_blk 5 rfl pl_3 rfl hS rfl rfl) ?_; clear hF a; intro a hF
       refine ls_val hF (.free rfl) rfl rfl (ex_geq rfl rfl rfl) ?_; clear hF a; intro a hF
       refine ls_nil ?_
       refine then_normal ?_
       refine cw_if hF rfl (fun hc => ?_) (fun hc => ?_)
       ·
        refine wp_region_lit ?_
        refine ls_val hF (.free rfl) rfl rfl (ex_move rfl rfl) ?_; clear hF a; intro a hF
        refine ls_val hF (.free rfl) rfl rfl (ex_move rfl rfl) ?_; clear hF a; intro a hF
        refine ls_val hF (.free rfl) rfl rfl (ex_field (b := ⟨g2, 0, none⟩) rfl fd_43_0 rfl rfl) ?_; clear hF a; intro a hF
        refine ls_val hF (.free rfl) rfl rfl (ex_load_blk 5 rfl pl_3 rfl hS rfl rfl) ?_; clear hF a; intro a hF
        refine ls_val hF (.free rfl) rfl rfl (ex_sub (r := (uu1.B row) - uu1.vars) rfl rfl rfl (by omega) (by unfold I64; omega)) ?_; clear hF a; intro a hF
        refine ls_val hF (.free rfl) rfl rfl (ex_field (b := ⟨g2, 1, none⟩) rfl fd_43_1 rfl rfl) ?_; clear hF a; intro a hF
        refine ls_val hF (.free rfl) rfl rfl (ex_load_blk 5 rfl pl_3 rfl hS rfl rfl) ?_; clear hF a; intro a hF
        refine ls_val hF (.free rfl) rfl rfl (ex_index (k := (uu1.B row) - uu1.vars) rfl sl_22 rfl rfl hv1 (by omega) (by omega) (by omega)) ?_; clear hF a; intro a hF
        refine ls_effx hF (.free rfl) rfl (st_own 7 rfl pl_3 hS rfl rfl rfl rfl (by omega) (by omega) (upd_ints _ _ _)) ?_; clear hS; rintro w hS
        replace hS : Sat w0 w [.blk g1 [vc, vA, vb], .own vBk1 1 3 tk1.nb (ints tk1.B), .own vFk1 1 3 tk1.nf (ints tk1.F), .own vCk1 1 22 tk1.nc vvk1, .sem (Frame.rows 3 tk1.nc vvk1 tk1.ln tk1.C), .blk g2 [.int .i64 uu1.vars, .int .i64 uu1.den, xBu1, xFu1, xCu1], .sem (Frame.alt (uu1 = tk1 ∧ xBu1 = vBk1 ∧ xFu1 = vFk1 ∧ xCu1 = vCk1 ∧ xvu1 = vvk1) (Frame.bun [.own xBu1 1 3 uu1.nb (ints uu1.B), .own xFu1 1 3 uu1.nf (ints uu1.F), .own xCu1 1 22 uu1.nc xvu1, .sem (Frame.rows 3 uu1.nc xvu1 uu1.ln uu1.C)])), .own v1 1 3 p.m (ints (upd (fun _ => 0) ((uu1.B row) - uu1.vars) uu1.den))] := hS
        refine ls_nil ?_
        refine then_normal ?_
        refine cw_seq ?_
        refine cw_seq ?_
        refine wp_region_lit ?_
        refine ls_val hF (.free rfl) rfl rfl (ex_field (b := ⟨g2, 3, none⟩) rfl fd_43_3 rfl rfl) ?_; clear hF a; intro a hF
        refine ls_val hF (.free rfl) rfl rfl (ex_load_blk 5 rfl pl_22 rfl hS rfl rfl) ?_; clear hF a; intro a hF
        refine ls_val hF (.free rfl) rfl rfl (ex_len rfl sl_22 rfl hxFu1) ?_; clear hF a; intro a hF
        refine ls_val hF (.free rfl) rfl rfl (ex_move rfl rfl) ?_; clear hF a; intro a hF
        refine ls_nil ?_
        refine then_normal ?_
        refine wp_block ?_
        refine cw_loop (fun mm a w => ∃ (j : Int) (fY : Int → Int), mm = ((uu1.nf - j).toNat) ∧ (0 ≤ j) ∧ (j ≤ uu1.nf) ∧ (fY = rdG uu1 (ref0 uu1 row) (fun j => -uu1.C (row + 1) (j + 1)) j.toNat) ∧ Fr a 116 [(2, .slice none 0 0), (3, .int .i64 0), (4, .pointer (some ⟨g2, 0, none⟩)), (6, v1), (7, .int .i64 row), (86, xFu1), (87, .int .i64 uu1.nf), (88, .int .i64 j)] ∧ Sat w0 w [.blk g1 [vc, vA, vb], .own vBk1 1 3 tk1.nb (ints tk1.B), .own vFk1 1 3 tk1.nf (ints tk1.F), .own vCk1 1 22 tk1.nc vvk1, .sem (Frame.rows 3 tk1.nc vvk1 tk1.ln tk1.C), .blk g2 [.int .i64 uu1.vars, .int .i64 uu1.den, xBu1, xFu1, xCu1], .sem (Frame.alt (uu1 = tk1 ∧ xBu1 = vBk1 ∧ xFu1 = vFk1 ∧ xCu1 = vCk1 ∧ xvu1 = vvk1) (Frame.bun [.own xBu1 1 3 uu1.nb (ints uu1.B), .own xFu1 1 3 uu1.nf (ints uu1.F), .own xCu1 1 22 uu1.nc xvu1, .sem (Frame.rows 3 uu1.nc xvu1 uu1.ln uu1.C)])), .own v1 1 3 p.m (ints fY)]) ?_ ?_ (m := ((uu1.nf - 0).toNat))
        ·
         refine ⟨0, (upd (fun _ => 0) ((uu1.B row) - uu1.vars) uu1.den), rfl, (by omega), (by omega), ?_, (hF.pick (hF.pick (hF.pick (hF.pick (hF.pick (hF.pick (hF.pick (hF.pick hF.nil 88 rfl) 87 rfl) 86 rfl) 7 rfl) 6 rfl) 4 rfl) 3 rfl) 2 rfl), hS⟩
         ·
          show _ = ref0 uu1 row; unfold ref0; first | rw [if_pos (by omega)] | rw [if_neg (by omega)]
        ·
         clear hF hS a w
         rintro mm a w ⟨j, fY, rfl, j0, j1, hfY, hF, hS⟩
         refine cw_seq ?_
         refine wp_region_lit ?_
         refine ls_val hF (.free rfl) rfl rfl (ex_lss rfl rfl rfl) ?_; clear hF a; intro a hF
         refine ls_nil ?_
         refine then_normal ?_
         refine cw_seq ?_
         refine cw_if hF rfl (fun hc => ?_) (fun hc => ?_)
         ·
          refine wp_skip ?_
          refine then_normal ?_
          refine cw_seq ?_
          refine wp_block ?_
          refine cw_seq ?_
          refine wp_region_lit ?_
          refine ls_val hF (.free rfl) rfl rfl (ex_move rfl rfl) ?_; clear hF a; intro a hF
          refine ls_val hF (.free rfl) rfl rfl (ex_index (k := j) rfl sl_22 rfl rfl hxFu1 (by omega) (by omega) (by omega)) ?_; clear hF a; intro a hF
          refine ls_val hF (.free rfl) rfl rfl (ex_load_row (u := .int .i64 (uu1.F j)) rfl pl_3 rfl (tat_alt (⟨(hS.rowN 1 rfl), (hS.rowN 2 rfl), (⟨(hS.rowN 3 rfl), fun k k0 k1 => hS.rowIn 4 rfl k0 k1, fun k k0 k1 => hS.roomIn 4 rfl k0 k1⟩ : MAt _ vCk1 tk1.nc vvk1 tk1.ln tk1.C)⟩ : TAt _ vBk1 vFk1 vCk1 vvk1 tk1) hS 6 rfl).F (by omega) (by omega) rfl) ?_; clear hF a; intro a hF
          refine ls_val hF (.free rfl) rfl rfl (ex_assign rfl rfl) ?_; clear hF a; intro a hF
          refine ls_val hF (.free rfl) rfl rfl (ex_assign rfl rfl) ?_; clear hF a; intro a hF
          refine ls_nil ?_
          refine then_normal ?_
          refine cw_seq ?_
          refine wp_region_lit ?_
          refine ls_val hF (.free rfl) rfl rfl (ex_move rfl rfl) ?_; clear hF a; intro a hF
          have hrF := hp.rngF (i := j) j0 (by omega) (by omega); have hcl := hp.cell (i := row + 1) (j := j + 1) (by omega) (by omega) (by omega) (by omega)
          refine ls_val hF (.free rfl) rfl rfl (ex_field (b := ⟨g2, 0, none⟩) rfl fd_43_0 rfl rfl) ?_; clear hF a; intro a hF
          refine ls_val hF (.free rfl) rfl rfl (ex_load_blk 5 rfl pl_3 rfl hS rfl rfl) ?_; clear hF a; intro a hF
          refine ls_val hF (.free rfl) rfl rfl (ex_geq rfl rfl rfl) ?_; clear hF a; intro a hF
          refine ls_nil ?_
          refine then_normal ?_
          refine cw_if hF rfl (fun hc => ?_) (fun hc => ?_)
          ·
           refine dr_sat (m0 := [.blk g1 [vc, vA, vb], .own vBk1 1 3 tk1.nb (ints tk1.B), .own vFk1 1 3 tk1.nf (ints tk1.F), .own vCk1 1 22 tk1.nc vvk1, .sem (Frame.rows 3 tk1.nc vvk1 tk1.ln tk1.C), .blk g2 [.int .i64 uu1.vars, .int .i64 uu1.den, xBu1, xFu1, xCu1], .sem (Frame.alt (uu1 = tk1 ∧ xBu1 = vBk1 ∧ xFu1 = vFk1 ∧ xCu1 = vCk1 ∧ xvu1 = vvk1) (Frame.bun [.own xBu1 1 3 uu1.nb (ints uu1.B), .own xFu1 1 3 uu1.nf (ints uu1.F), .own xCu1 1 22 uu1.nc xvu1, .sem (Frame.rows 3 uu1.nc xvu1 uu1.ln uu1.C)])), .own v1 1 3 p.m (ints fY)]) (m1 := [.blk g1 [vc, vA, vb], .own vBk1 1 3 tk1.nb (ints tk1.B), .own vFk1 1 3 tk1.nf (ints tk1.F), .own vCk1 1 22 tk1.nc vvk1, .sem (Frame.rows 3 tk1.nc vvk1 tk1.ln tk1.C), .blk g2 [.int .i64 uu1.vars, .int .i64 uu1.den, xBu1, xFu1, xCu1], .sem (Frame.alt (uu1 = tk1 ∧ xBu1 = vBk1 ∧ xFu1 = vFk1 ∧ xCu1 = vCk1 ∧ xvu1 = vvk1) (Frame.bun [.own xBu1 1 3 uu1.nb (ints uu1.B), .own xFu1 1 3 uu1.nf (ints uu1.F), .own xCu1 1 22 uu1.nc xvu1, .sem (Frame.rows 3 uu1.nc xvu1 uu1.ln uu1.C)]))]) 17 mx_ hS (.cons_cons _ (.cons_cons _ (.cons_cons _ (.cons_cons _ (.cons_cons _ (.cons_cons _ (.cons_cons _ (.cons_cons _ .slnil)))))))) (.cons_cons _ (.cons_cons _ (.cons_cons _ (.cons_cons _ (.cons_cons _ (.cons_cons _ (.cons_cons _ (.cons _ .slnil)))))))) rfl ?_; clear hS; intro w hS hcl hB
           refine dr_val hF hcl hB 0 rfl (.free rfl) rfl rfl (by kernel_rfl) rfl (fun w => (ex_move rfl rfl)) ?_; clear hF a hcl hB; intro a hF hcl hB
           refine dr_val hF hcl hB 1 rfl (.free rfl) rfl rfl (by kernel_rfl) rfl (fun w => (ex_move rfl rfl)) ?_; clear hF a hcl hB; intro a hF hcl hB
           refine dr_val hF hcl hB 2 rfl (.free rfl) rfl rfl (by kernel_rfl) rfl (fun w => (ex_field (b := ⟨g2, 0, none⟩) rfl fd_43_0 rfl rfl)) ?_; clear hF a hcl hB; intro a hF hcl hB
           refine dr_loadA hF hcl hB 3 rfl (.free rfl) rfl rfl (by kernel_rfl) rfl (fun w hS => (ex_load_blk 5 rfl pl_3 rfl hS rfl rfl)) ?_; clear hF a hcl hB; intro a hF hcl hB
           refine dr_val hF hcl hB 4 rfl (.free rfl) rfl rfl (by kernel_rfl) rfl (fun w => (ex_sub (r := (uu1.F j) - uu1.vars) rfl rfl rfl (by omega) (by unfold I64; omega))) ?_; clear hF a hcl hB; intro a hF hcl hB
           refine dr_val hF hcl hB 5 rfl (.free rfl) rfl rfl (by kernel_rfl) rfl (fun w => (ex_field (b := ⟨g2, 4, none⟩) rfl fd_43_4 rfl rfl)) ?_; clear hF a hcl hB; intro a hF hcl hB
           refine dr_loadA hF hcl hB 6 rfl (.free rfl) rfl rfl (by kernel_rfl) rfl (fun w hS => (ex_load_blk 5 rfl pl_23 rfl hS rfl rfl)) ?_; clear hF a hcl hB; intro a hF hcl hB
           refine dr_val hF hcl hB 7 rfl (.free rfl) rfl rfl (by kernel_rfl) rfl (fun w => (ex_move rfl rfl)) ?_; clear hF a hcl hB; intro a hF hcl hB
           refine dr_val hF hcl hB 8 rfl (.free rfl) rfl rfl (by kernel_rfl) rfl (fun w => (ex_add (r := row + 1) rfl rfl rfl (by omega) (by unfold I64; omega))) ?_; clear hF a hcl hB; intro a hF hcl hB
           refine dr_val hF hcl hB 9 rfl (.free rfl) rfl rfl (by kernel_rfl) rfl (fun w => (ex_index (k := row + 1) rfl sl_23 rfl rfl hxCu1 (by omega) (by omega) (by omega))) ?_; clear hF a hcl hB; intro a hF hcl hB
           refine dr_loadA hF hcl hB 10 rfl (.free rfl) rfl rfl (by kernel_rfl) rfl (fun w hS => (ex_load_row (u := (xvu1 (row + 1))) rfl pl_22 rfl (tat_alt (⟨(hS.rowN 1 rfl), (hS.rowN 2 rfl), (⟨(hS.rowN 3 rfl), fun k k0 k1 => hS.rowIn 4 rfl k0 k1, fun k k0 k1 => hS.roomIn 4 rfl k0 k1⟩ : MAt _ vCk1 tk1.nc vvk1 tk1.ln tk1.C)⟩ : TAt _ vBk1 vFk1 vCk1 vvk1 tk1) hS 6 rfl).C.row (by omega) (by omega) rfl)) ?_; clear hF a hcl hB; intro a hF hcl hB
           refine dr_val hF hcl hB 11 rfl (.free rfl) rfl rfl (by kernel_rfl) rfl (fun w => (ex_move rfl rfl)) ?_; clear hF a hcl hB; intro a hF hcl hB
           refine dr_val hF hcl hB 12 rfl (.free rfl) rfl rfl (by kernel_rfl) rfl (fun w => (ex_add (r := j + 1) rfl rfl rfl (by omega) (by unfold I64; omega))) ?_; clear hF a hcl hB; intro a hF hcl hB
           refine dr_val hF hcl hB 13 rfl (.free rfl) rfl rfl (by kernel_rfl) rfl (fun w => (ex_index (k := j + 1) rfl sl_22 rfl rfl (hxru1 (row + 1) (by omega) (by omega)) (by omega) (by omega) (by omega))) ?_; clear hF a hcl hB; intro a hF hcl hB
           refine dr_loadA hF hcl hB 14 rfl (.free rfl) rfl rfl (by kernel_rfl) rfl (fun w hS => (ex_load_row (u := .int .i64 (uu1.C (row + 1) (j + 1))) rfl pl_3 rfl ((tat_alt (⟨(hS.rowN 1 rfl), (hS.rowN 2 rfl), (⟨(hS.rowN 3 rfl), fun k k0 k1 => hS.rowIn 4 rfl k0 k1, fun k k0 k1 => hS.roomIn 4 rfl k0 k1⟩ : MAt _ vCk1 tk1.nc vvk1 tk1.ln tk1.C)⟩ : TAt _ vBk1 vFk1 vCk1 vvk1 tk1) hS 6 rfl).C.p (row + 1) (by omega) (by omega)) (by omega) (by omega) rfl)) ?_; clear hF a hcl hB; intro a hF hcl hB
           refine dr_val hF hcl hB 15 rfl (.free rfl) rfl rfl (by kernel_rfl) rfl (fun w => (ex_neg (r := -((uu1.C (row + 1) (j + 1)))) rfl rfl (by omega) (by unfold I64; omega))) ?_; clear hF a hcl hB; intro a hF hcl hB
           refine dr_val hF hcl hB 16 rfl (.free rfl) rfl rfl (by kernel_rfl) rfl (fun w => (ex_index (k := (uu1.F j) - uu1.vars) rfl sl_22 rfl rfl hv1 (by omega) (by omega) (by omega))) ?_; clear hF a hcl hB; intro a hF hcl hB
           refine dr_effx hF hcl 17 rfl (.free rfl) rfl (by kernel_rfl) (st_own 7 rfl pl_3 hS rfl rfl rfl rfl (by omega) (by omega) (upd_ints _ _ _)) ?_; clear hS hB; rintro w hS hcl
           replace hS : Sat w0 w [.blk g1 [vc, vA, vb], .own vBk1 1 3 tk1.nb (ints tk1.B), .own vFk1 1 3 tk1.nf (ints tk1.F), .own vCk1 1 22 tk1.nc vvk1, .sem (Frame.rows 3 tk1.nc vvk1 tk1.ln tk1.C), .blk g2 [.int .i64 uu1.vars, .int .i64 uu1.den, xBu1, xFu1, xCu1], .sem (Frame.alt (uu1 = tk1 ∧ xBu1 = vBk1 ∧ xFu1 = vFk1 ∧ xCu1 = vCk1 ∧ xvu1 = vvk1) (Frame.bun [.own xBu1 1 3 uu1.nb (ints uu1.B), .own xFu1 1 3 uu1.nf (ints uu1.F), .own xCu1 1 22 uu1.nc xvu1, .sem (Frame.rows 3 uu1.nc xvu1 uu1.ln uu1.C)])), .own v1 1 3 p.m (ints (upd fY ((uu1.F j) - uu1.vars) (-((uu1.C (row + 1) (j + 1))))))] := hS
           refine ⟨⟨(fun h => absurd h (by decide)), hS.sub (.cons_cons _ (.cons_cons _ (.cons_cons _ (.cons_cons _ (.cons_cons _ (.cons_cons _ (.cons_cons _ (.cons _ .slnil))))))))⟩, fun hB => ?_⟩
           refine dr_done (by kernel_rfl) ?_; clear hcl hB
           refine inb_normal ?_
           refine then_normal ?_
           refine wp_region_lit ?_
           refine ls_val hF (.free rfl) rfl rfl (ex_add (r := j + 1) rfl rfl rfl (by omega) (by unfold I64; omega)) ?_; clear hF a; intro a hF
           refine ls_val hF (.free rfl) rfl rfl (ex_move rfl rfl) ?_; clear hF a; intro a hF
           refine ls_nil ?_
           refine then_normal ?_
           refine ⟨_, (by omega), j + 1, (upd fY ((uu1.F j) - uu1.vars) (-((uu1.C (row + 1) (j + 1))))), rfl, (by omega), (by omega), ?_, (hF.pick (hF.pick (hF.pick (hF.pick (hF.pick (hF.pick (hF.pick (hF.pick hF.nil 88 rfl) 87 rfl) 86 rfl) 7 rfl) 6 rfl) 4 rfl) 3 rfl) 2 rfl), hS⟩
           ·
            rw [rdG_next uu1 _ _ j0, ← hfY]; first | rw [if_pos (by omega)] | rw [if_neg (by omega)]
          ·
           refine wp_skip ?_
           refine inb_normal ?_
           refine then_normal ?_
           refine wp_region_lit ?_
           refine ls_val hF (.free rfl) rfl rfl (ex_add (r := j + 1) rfl rfl rfl (by omega) (by unfold I64; omega)) ?_; clear hF a; intro a hF
           refine ls_val hF (.free rfl) rfl rfl (ex_move rfl rfl) ?_; clear hF a; intro a hF
           refine ls_nil ?_
           refine then_normal ?_
           refine ⟨_, (by omega), j + 1, fY, rfl, (by omega), (by omega), ?_, (hF.pick (hF.pick (hF.pick (hF.pick (hF.pick (hF.pick (hF.pick (hF.pick hF.nil 88 rfl) 87 rfl) 86 rfl) 7 rfl) 6 rfl) 4 rfl) 3 rfl) 2 rfl), hS⟩
           ·
            rw [rdG_next uu1 _ _ j0, ← hfY]; first | rw [if_pos (by omega)] | rw [if_neg (by omega)]
         ·
          refine wp_exit ?_
          refine then_exit ?_
          refine then_exit ?_
          refine inb_hit ?_
          refine then_normal ?_
          refine cw_seq ?_
          refine wp_region_lit ?_
          refine ls_val hF (.free rfl) rfl rfl (ex_move rfl rfl) ?_; clear hF a; intro a hF
          refine ls_val hF (.free rfl) rfl rfl (ex_assign rfl rfl) ?_; clear hF a; intro a hF
          refine ls_val hF (.free rfl) rfl rfl (ex_assign rfl rfl) ?_; clear hF a; intro a hF
          refine ls_nil ?_
          refine then_normal ?_
          refine wp_ret ?_
          refine (fin2 hF rfl rfl rfl ⟨_, rfl, ?_⟩)
          rw [hts] at hrunu1
          obtain rfl : j = uu1.nf := by omega
          obtain rfl : i = uu1.nb := by omega
          replace hS := hS.sub (.cons _ (.cons _ (.cons _ (.cons _ (.cons _ (.cons _ (.cons _ (.cons_cons _ .slnil)))))))); subst hfY; rw [hrow] at hS
          exact ⟨_, _, p.m, _, rfl, .inr ⟨hl, _, _, hrunu1, .inr (.inr ⟨by omega, rfl, rfl, rfl⟩)⟩, hv1, hS⟩
       ·
        refine wp_skip ?_
        refine then_normal ?_
        refine cw_seq ?_
        refine cw_seq ?_
        refine wp_region_lit ?_
        refine ls_val hF (.free rfl) rfl rfl (ex_field (b := ⟨g2, 3, none⟩) rfl fd_43_3 rfl rfl) ?_; clear hF a; intro a hF
        refine ls_val hF (.free rfl) rfl rfl (ex_load_blk 5 rfl pl_22 rfl hS rfl rfl) ?_; clear hF a; intro a hF
        refine ls_val hF (.free rfl) rfl rfl (ex_len rfl sl_22 rfl hxFu1) ?_; clear hF a; intro a hF
        refine ls_val hF (.free rfl) rfl rfl (ex_move rfl rfl) ?_; clear hF a; intro a hF
        refine ls_nil ?_
        refine then_normal ?_
        refine wp_block ?_
        refine cw_loop (fun mm a w => ∃ (j : Int) (fY : Int → Int), mm = ((uu1.nf - j).toNat) ∧ (0 ≤ j) ∧ (j ≤ uu1.nf) ∧ (fY = rdG uu1 (ref0 uu1 row) (fun j => -uu1.C (row + 1) (j + 1)) j.toNat) ∧ Fr a 116 [(2, .slice none 0 0), (3, .int .i64 0), (4, .pointer (some ⟨g2, 0, none⟩)), (6, v1), (7, .int .i64 row), (86, xFu1), (87, .int .i64 uu1.nf), (88, .int .i64 j)] ∧ Sat w0 w [.blk g1 [vc, vA, vb], .own vBk1 1 3 tk1.nb (ints tk1.B), .own vFk1 1 3 tk1.nf (ints tk1.F), .own vCk1 1 22 tk1.nc vvk1, .sem (Frame.rows 3 tk1.nc vvk1 tk1.ln tk1.C), .blk g2 [.int .i64 uu1.vars, .int .i64 uu1.den, xBu1, xFu1, xCu1], .sem (Frame.alt (uu1 = tk1 ∧ xBu1 = vBk1 ∧ xFu1 = vFk1 ∧ xCu1 = vCk1 ∧ xvu1 = vvk1) (Frame.bun [.own xBu1 1 3 uu1.nb (ints uu1.B), .own xFu1 1 3 uu1.nf (ints uu1.F), .own xCu1 1 22 uu1.nc xvu1, .sem (Frame.rows 3 uu1.nc xvu1 uu1.ln uu1.C)])), .own v1 1 3 p.m (ints fY)]) ?_ ?_ (m := ((uu1.nf - 0).toNat))
        ·
         refine ⟨0, (fun _ => 0), rfl, (by omega), (by omega), ?_, (hF.pick (hF.pick (hF.pick (hF.pick (hF.pick (hF.pick (hF.pick (hF.pick hF.nil 88 rfl) 87 rfl) 86 rfl) 7 rfl) 6 rfl) 4 rfl) 3 rfl) 2 rfl), hS⟩
         ·
          show _ = ref0 uu1 row; unfold ref0; first | rw [if_pos (by omega)] | rw [if_neg (by omega)]
        ·
         clear hF hS a w
         rintro mm a w ⟨j, fY, rfl, j0, j1, hfY, hF, hS⟩
         refine cw_seq ?_
         refine wp_region_lit ?_
         refine ls_val hF (.free rfl) rfl rfl (ex_lss rfl rfl rfl) ?_; clear hF a; intro a hF
         refine ls_nil ?_
         refine then_normal ?_
         refine cw_seq ?_
         refine cw_if hF rfl (fun hc => ?_) (fun hc => ?_)
         ·
          refine wp_skip ?_
          refine then_normal ?_
          refine cw_seq ?_
          refine wp_block ?_
          refine cw_seq ?_
          refine wp_region_lit ?_
          refine ls_val hF (.free rfl) rfl rfl (ex_move rfl rfl) ?_; clear hF a; intro a hF
          refine ls_val hF (.free rfl) rfl rfl (ex_index (k := j) rfl sl_22 rfl rfl hxFu1 (by omega) (by omega) (by omega)) ?_; clear hF a; intro a hF
          refine ls_val hF (.free rfl) rfl rfl (ex_load_row (u := .int .i64 (uu1.F j)) rfl pl_3 rfl (tat_alt (⟨(hS.rowN 1 rfl), (hS.rowN 2 rfl), (⟨(hS.rowN 3 rfl), fun k k0 k1 => hS.rowIn 4 rfl k0 k1, fun k k0 k1 => hS.roomIn 4 rfl k0 k1⟩ : MAt _ vCk1 tk1.nc vvk1 tk1.ln tk1.C)⟩ : TAt _ vBk1 vFk1 vCk1 vvk1 tk1) hS 6 rfl).F (by omega) (by omega) rfl) ?_; clear hF a; intro a hF
          refine ls_val hF (.free rfl) rfl rfl (ex_assign rfl rfl) ?_; clear hF a; intro a hF
          refine ls_val hF (.free rfl) rfl rfl (ex_assign rfl rfl) ?_; clear hF a; intro a hF
          refine ls_nil ?_
          refine then_normal ?_
          refine cw_seq ?_
          refine wp_region_lit ?_
          refine ls_val hF (.free rfl) rfl rfl (ex_move rfl rfl) ?_; clear hF a; intro a hF
          have hrF := hp.rngF (i := j) j0 (by omega) (by omega); have hcl := hp.cell (i := row + 1) (j := j + 1) (by omega) (by omega) (by omega) (by omega)
          refine ls_val hF (.free rfl) rfl rfl (ex_field (b := ⟨g2, 0, none⟩) rfl fd_43_0 rfl rfl) ?_; clear hF a; intro a hF
          refine ls_val hF (.free rfl) rfl rfl (ex_load_blk 5 rfl pl_3 rfl hS rfl rfl) ?_; clear hF a; intro a hF
          refine ls_val hF (.free rfl) rfl rfl (ex_geq rfl rfl rfl) ?_; clear hF a; intro a hF
          refine ls_nil ?_
          refine then_normal ?_
          refine cw_if hF rfl (fun hc => ?_) (fun hc => ?_)
          ·
           refine dr_sat (m0 := [.blk g1 [vc, vA, vb], .own vBk1 1 3 tk1.nb (ints tk1.B), .own vFk1 1 3 tk1.nf (ints tk1.F), .own vCk1 1 22 tk1.nc vvk1, .sem (Frame.rows 3 tk1.nc vvk1 tk1.ln tk1.C), .blk g2 [.int .i64 uu1.vars, .int .i64 uu1.den, xBu1, xFu1, xCu1], .sem (Frame.alt (uu1 = tk1 ∧ xBu1 = vBk1 ∧ xFu1 = vFk1 ∧ xCu1 = vCk1 ∧ xvu1 = vvk1) (Frame.bun [.own xBu1 1 3 uu1.nb (ints uu1.B), .own xFu1 1 3 uu1.nf (ints uu1.F), .own xCu1 1 22 uu1.nc xvu1, .sem (Frame.rows 3 uu1.nc xvu1 uu1.ln uu1.C)])), .own v1 1 3 p.m (ints fY)]) (m1 := [.blk g1 [vc, vA, vb], .own vBk1 1 3 tk1.nb (ints tk1.B), .own vFk1 1 3 tk1.nf (ints tk1.F), .own vCk1 1 22 tk1.nc vvk1, .sem (Frame.rows 3 tk1.nc vvk1 tk1.ln tk1.C), .blk g2 [.int .i64 uu1.vars, .int .i64 uu1.den, xBu1, xFu1, xCu1], .sem (Frame.alt (uu1 = tk1 ∧ xBu1 = vBk1 ∧ xFu1 = vFk1 ∧ xCu1 = vCk1 ∧ xvu1 = vvk1) (Frame.bun [.own xBu1 1 3 uu1.nb (ints uu1.B), .own xFu1 1 3 uu1.nf (ints uu1.F), .own xCu1 1 22 uu1.nc xvu1, .sem (Frame.rows 3 uu1.nc xvu1 uu1.ln uu1.C)]))]) 17 mx_ hS (.cons_cons _ (.cons_cons _ (.cons_cons _ (.cons_cons _ (.cons_cons _ (.cons_cons _ (.cons_cons _ (.cons_cons _ .slnil)))))))) (.cons_cons _ (.cons_cons _ (.cons_cons _ (.cons_cons _ (.cons_cons _ (.cons_cons _ (.cons_cons _ (.cons _ .slnil)))))))) rfl ?_; clear hS; intro w hS hcl hB
           refine dr_val hF hcl hB 0 rfl (.free rfl) rfl rfl (by kernel_rfl) rfl (fun w => (ex_move rfl rfl)) ?_; clear hF a hcl hB; intro a hF hcl hB
           refine dr_val hF hcl hB 1 rfl (.free rfl) rfl rfl (by kernel_rfl) rfl (fun w => (ex_move rfl rfl)) ?_; clear hF a hcl hB; intro a hF hcl hB
           refine dr_val hF hcl hB 2 rfl (.free rfl) rfl rfl (by kernel_rfl) rfl (fun w => (ex_field (b := ⟨g2, 0, none⟩) rfl fd_43_0 rfl rfl)) ?_; clear hF a hcl hB; intro a hF hcl hB
           refine dr_loadA hF hcl hB 3 rfl (.free rfl) rfl rfl (by kernel_rfl) rfl (fun w hS => (ex_load_blk 5 rfl pl_3 rfl hS rfl rfl)) ?_; clear hF a hcl hB; intro a hF hcl hB
           refine dr_val hF hcl hB 4 rfl (.free rfl) rfl rfl (by kernel_rfl) rfl (fun w => (ex_sub (r := (uu1.F j) - uu1.vars) rfl rfl rfl (by omega) (by unfold I64; omega))) ?_; clear hF a hcl hB; intro a hF hcl hB
           refine dr_val hF hcl hB 5 rfl (.free rfl) rfl rfl (by kernel_rfl) rfl (fun w => (ex_field (b := ⟨g2, 4, none⟩) rfl fd_43_4 rfl rfl)) ?_; clear hF a hcl hB; intro a hF hcl hB
           refine dr_loadA hF hcl hB 6 rfl (.free rfl) rfl rfl (by kernel_rfl) rfl (fun w hS => (ex_load_blk 5 rfl pl_23 rfl hS rfl rfl)) ?_; clear hF a hcl hB; intro a hF hcl hB
           refine dr_val hF hcl hB 7 rfl (.free rfl) rfl rfl (by kernel_rfl) rfl (fun w => (ex_move rfl rfl)) ?_; clear hF a hcl hB; intro a hF hcl hB
           refine dr_val hF hcl hB 8 rfl (.free rfl) rfl rfl (by kernel_rfl) rfl (fun w => (ex_add (r := row + 1) rfl rfl rfl (by omega) (by unfold I64; omega))) ?_; clear hF a hcl hB; intro a hF hcl hB
           refine dr_val hF hcl hB 9 rfl (.free rfl) rfl rfl (by kernel_rfl) rfl (fun w => (ex_index (k := row + 1) rfl sl_23 rfl rfl hxCu1 (by omega) (by omega) (by omega))) ?_; clear hF a hcl hB; intro a hF hcl hB
           refine dr_loadA hF hcl hB 10 rfl (.free rfl) rfl rfl (by kernel_rfl) rfl (fun w hS => (ex_load_row (u := (xvu1 (row + 1))) rfl pl_22 rfl (tat_alt (⟨(hS.rowN 1 rfl), (hS.rowN 2 rfl), (⟨(hS.rowN 3 rfl), fun k k0 k1 => hS.rowIn 4 rfl k0 k1, fun k k0 k1 => hS.roomIn 4 rfl k0 k1⟩ : MAt _ vCk1 tk1.nc vvk1 tk1.ln tk1.C)⟩ : TAt _ vBk1 vFk1 vCk1 vvk1 tk1) hS 6 rfl).C.row (by omega) (by omega) rfl)) ?_; clear hF a hcl hB; intro a hF hcl hB
           refine dr_val hF hcl hB 11 rfl (.free rfl) rfl rfl (by kernel_rfl) rfl (fun w => (ex_move rfl rfl)) ?_; clear hF a hcl hB; intro a hF hcl hB
           refine dr_val hF hcl hB 12 rfl (.free rfl) rfl rfl (by kernel_rfl) rfl (fun w => (ex_add (r := j + 1) rfl rfl rfl (by omega) (by unfold I64; omega))) ?_; clear hF a hcl hB; intro a hF hcl hB
           refine dr_val hF hcl hB 13 rfl (.free rfl) rfl rfl (by kernel_rfl) rfl (fun w => (ex_index (k := j + 1) rfl sl_22 rfl rfl (hxru1 (row + 1) (by omega) (by omega)) (by omega) (by omega) (by omega))) ?_; clear hF a hcl hB; intro a hF hcl hB
           refine dr_loadA hF hcl hB 14 rfl (.free rfl) rfl rfl (by kernel_rfl) rfl (fun w hS => (ex_load_row (u := .int .i64 (uu1.C (row + 1) (j + 1))) rfl pl_3 rfl ((tat_alt (⟨(hS.rowN 1 rfl), (hS.rowN 2 rfl), (⟨(hS.rowN 3 rfl), fun k k0 k1 => hS.rowIn 4 rfl k0 k1, fun k k0 k1 => hS.roomIn 4 rfl k0 k1⟩ : MAt _ vCk1 tk1.nc vvk1 tk1.ln tk1.C)⟩ : TAt _ vBk1 vFk1 vCk1 vvk1 tk1) hS 6 rfl).C.p (row + 1) (by omega) (by omega)) (by omega) (by omega) rfl)) ?_; clear hF a hcl hB; intro a hF hcl hB
           refine dr_val hF hcl hB 15 rfl (.free rfl) rfl rfl (by kernel_rfl) rfl (fun w => (ex_neg (r := -((uu1.C (row + 1) (j + 1)))) rfl rfl (by omega) (by unfold I64; omega))) ?_; clear hF a hcl hB; intro a hF hcl hB
           refine dr_val hF hcl hB 16 rfl (.free rfl) rfl rfl (by kernel_rfl) rfl (fun w => (ex_index (k := (uu1.F j) - uu1.vars) rfl sl_22 rfl rfl hv1 (by omega) (by omega) (by omega))) ?_; clear hF a hcl hB; intro a hF hcl hB
           refine dr_effx hF hcl 17 rfl (.free rfl) rfl (by kernel_rfl) (st_own 7 rfl pl_3 hS rfl rfl rfl rfl (by omega) (by omega) (upd_ints _ _ _)) ?_; clear hS hB; rintro w hS hcl
           replace hS : Sat w0 w [.blk g1 [vc, vA, vb], .own vBk1 1 3 tk1.nb (ints tk1.B), .own vFk1 1 3 tk1.nf (ints tk1.F), .own vCk1 1 22 tk1.nc vvk1, .sem (Frame.rows 3 tk1.nc vvk1 tk1.ln tk1.C), .blk g2 [.int .i64 uu1.vars, .int .i64 uu1.den, xBu1, xFu1, xCu1], .sem (Frame.alt (uu1 = tk1 ∧ xBu1 = vBk1 ∧ xFu1 = vFk1 ∧ xCu1 = vCk1 ∧ xvu1 = vvk1) (Frame.bun [.own xBu1 1 3 uu1.nb (ints uu1.B), .own xFu1 1 3 uu1.nf (ints uu1.F), .own xCu1 1 22 uu1.nc xvu1, .sem (Frame.rows 3 uu1.nc xvu1 uu1.ln uu1.C)])), .own v1 1 3 p.m (ints (upd fY ((uu1.F j) - uu1.vars) (-((uu1.C (row + 1) (j + 1))))))] := hS
           refine ⟨⟨(fun h => absurd h (by decide)), hS.sub (.cons_cons _ (.cons_cons _ (.cons_cons _ (.cons_cons _ (.cons_cons _ (.cons_cons _ (.cons_cons _ (.cons _ .slnil))))))))⟩, fun hB => ?_⟩
           refine dr_done (by kernel_rfl) ?_; clear hcl hB
           refine inb_normal ?_
           refine then_normal ?_
           refine wp_region_lit ?_
           refine ls_val hF (.free rfl) rfl rfl (ex_add (r := j + 1) rfl rfl rfl (by omega) (by unfold I64; omega)) ?_; clear hF a; intro a hF
           refine ls_val hF (.free rfl) rfl rfl (ex_move rfl rfl) ?_; clear hF a; intro a hF
           refine ls_nil ?_
           refine then_normal ?_
           refine ⟨_, (by omega), j + 1, (upd fY ((uu1.F j) - uu1.vars) (-((uu1.C (row + 1) (j + 1))))), rfl, (by omega), (by omega), ?_, (hF.pick (hF.pick (hF.pick (hF.pick (hF.pick (hF.pick (hF.pick (hF.pick hF.nil 88 rfl) 87 rfl) 86 rfl) 7 rfl) 6 rfl) 4 rfl) 3 rfl) 2 rfl), hS⟩
           ·
            rw [rdG_next uu1 _ _ j0, ← hfY]; first | rw [if_pos (by omega)] | rw [if_neg (by omega)]
          ·
           refine wp_skip ?_
           refine inb_normal ?_
           refine then_normal ?_
           refine wp_region_lit ?_
           refine ls_val hF (.free rfl) rfl rfl (ex_add (r := j + 1) rfl rfl rfl (by omega) (by unfold I64; omega)) ?_; clear hF a; intro a hF
           refine ls_val hF (.free rfl) rfl rfl (ex_move rfl rfl) ?_; clear hF a; intro a hF
           refine ls_nil ?_
           refine then_normal ?_
           refine ⟨_, (by omega), j + 1, fY, rfl, (by omega), (by omega), ?_, (hF.pick (hF.pick (hF.pick (hF.pick (hF.pick (hF.pick (hF.pick (hF.pick hF.nil 88 rfl) 87 rfl) 86 rfl) 7 rfl) 6 rfl) 4 rfl) 3 rfl) 2 rfl), hS⟩
           ·
            rw [rdG_next uu1 _ _ j0, ← hfY]; first | rw [if_pos (by omega)] | rw [if_neg (by omega)]
         ·
          refine wp_exit ?_
          refine then_exit ?_
          refine then_exit ?_
          refine inb_hit ?_
          refine then_normal ?_
          refine cw_seq ?_
          refine wp_region_lit ?_
          refine ls_val hF (.free rfl) rfl rfl (ex_move rfl rfl) ?_; clear hF a; intro a hF
          refine ls_val hF (.free rfl) rfl rfl (ex_assign rfl rfl) ?_; clear hF a; intro a hF
          refine ls_val hF (.free rfl) rfl rfl (ex_assign rfl rfl) ?_; clear hF a; intro a hF
          refine ls_nil ?_
          refine then_normal ?_
          refine wp_ret ?_
          refine (fin2 hF rfl rfl rfl ⟨_, rfl, ?_⟩)
          rw [hts] at hrunu1
          obtain rfl : j = uu1.nf := by omega
          obtain rfl : i = uu1.nb := by omega
          replace hS := hS.sub (.cons _ (.cons _ (.cons _ (.cons _ (.cons _ (.cons _ (.cons _ (.cons_cons _ .slnil)))))))); subst hfY; rw [hrow] at hS
          exact ⟨_, _, p.m, _, rfl, .inr ⟨hl, _, _, hrunu1, .inr (.inr ⟨by omega, rfl, rfl, rfl⟩)⟩, hv1, hS⟩
    ·
     refine cw_seq ?_
     refine wp_region_lit ?_
     refine ls_val hF (.free rfl) rfl rfl (ex_move rfl rfl) ?_; clear hF a; intro a hF
     refine ls_val hF (.free rfl) rfl rfl (ex_assign rfl rfl) ?_; clear hF a; intro a hF
     refine ls_val hF (.free rfl) rfl rfl (ex_assign rfl rfl) ?_; clear hF a; intro a hF
     refine ls_nil ?_
     refine then_normal ?_
     refine wp_ret ?_
     refine inb_ret (then_ret ((fin2 hF rfl rfl rfl ⟨_, rfl, ?_⟩)))
     obtain ⟨hl, hts⟩ := hstk1.ok (by omega); rw [hts] at hrunu1
     exact ⟨_, _, 0, _, rfl, .inr ⟨hl, _, _, hrunu1, .inr (.inl ⟨by omega, by omega, rfl, rfl⟩)⟩, slh_nil, (hS.sub (.cons _ (.cons _ (.cons _ (.cons _ (.cons _ (.cons _ (.cons _ .slnil)))))))).addnil 1 3 (ints (fun _ => 0))⟩

end Go.Proofs.Ytakgjpmhbfieeaa
