/- The walk of Refute, of tableau. -/
import Derived.Test.YtakgjpmhbfieeaaGc
import Derived.Test.YtakgjpmhbfieeaaW18
import Derived.Test.YtakgjpmhbfieeaaFy
namespace Go.Proofs.Ytakgjpmhbfieeaa
open Go Go.RowKit Go.Proofs.Gw
set_option linter.unusedVariables false

set_option maxRecDepth 20000 in
theorem c_refute {vc vA vb : Value} {vq : Int → Value} {p : Lp} (w0 : World) (hL : LAt w0 vc vA vb vq p) :
    Calls Try.prog 34 [.agg #[vc, vA, vb]].toArray w0 fun e w => ∃ v, e = .returned v ∧ ∃ vy y my e, v = .tuple #[vy, .int .i64 e] ∧ RefuteR p y my e ∧ Slh vy my ∧ Sat w0 w [.own vy 1 3 my (ints y)] := by
  have hn := hL.c.slh.n0; have hn1 := hL.c.slh.n1; have hm := hL.A.row.slh.n0; have hm1 := hL.A.row.slh.n1; have hk := hL.b.slh.n0; have hk1 := hL.b.slh.n1
  refine zenG Try.func34 Try.ntmps34 fun w hS => ?_
  refine zsq <| zrg ?_
  refine zla (xbx (cs := [_, _, _]) hS) ?_; rintro _ w ⟨g1, rfl, hS⟩
  replace hS : Sat w0 w [.blk _ [_, _, _]] := hS
  iterate 2 refine zlv xas ?_
  refine zln <| ztn <| zsq <| zrg ?_
  refine zlv (xls 0 st_34 hS) ?_
  refine zlc (xc0 cl_20) (c_start (p := p) w (hL.below hS.below)) ?_; rintro _ w ⟨vBk1, vFk1, vCk1, vvk1, tk1, ek1, rfl, hstk1, hsBk1, hsFk1, hsCk1, hS'⟩
  replace hS : Sat w0 w [.blk g1 [vc, vA, vb], .own vBk1 1 3 tk1.nb (ints tk1.B), .own vFk1 1 3 tk1.nf (ints tk1.F), .own vCk1 1 22 tk1.nc vvk1, .sem (Frame.rows 3 tk1.nc vvk1 tk1.ln tk1.C)] := hS.comp hS'; clear hS'
  have hrsk1 := fun k (k0 : 0 ≤ k) (k1 : k < tk1.nc) => hS.slhIn 4 rfl k0 k1
  refine zlv xmv ?_
  iterate 2 refine zlv xex ?_
  refine zla (xal (cs := [_, _, _, _, _]) el_43 hS) ?_; rintro _ w ⟨g2, rfl, hS⟩
  replace hS : Sat w0 w [.blk _ [_, _, _], _, _, _, _, .blk _ [_, _, _, _, _]] := hS
  refine zle (xsw 5 st_43 hS (hd := (ones_cons rfl (ones_cons rfl (ones_cons hsBk1.one (ones_cons hsFk1.one (ones_cons hsCk1.one ones_nil))))))) ?_; clear hS; rintro w hS
  replace hS : Sat w0 w [.blk _ [_, _, _], _, _, _, _, .blk _ [_, _, _, _, _]] := hS
  refine zlv xas ?_
  refine zln <| ztn <| zsq <| zsq <| zrg ?_
  refine zlv xmv ?_
  refine zlv xneq ?_
  refine zln <| ztn ?_
  refine zcif ?_ ?_ <;> intro hc
  ·
   refine zsq <| zrg ?_
   refine zlv xmv ?_
   iterate 2 refine zlv xas ?_
   refine zln <| ztn <| zrt <| ztr <| zf2 ⟨_, rfl, ?_⟩
   obtain ⟨hl0, hl1⟩ := hstk1.err (by omega)
   exact ⟨_, _, 0, _, rfl, .inl ⟨hl0, rfl, hl1⟩, slh_nil, (hS.sub (.cons _ (.cons _ (.cons _ (.cons _ (.cons _ (.cons _ .slnil))))))).addnil 1 3 (ints (fun _ => 0))⟩
  ·
   refine zsk <| ztn <| zsq <| zrg ?_
   refine zlv (xls 5 st_43 hS) ?_
   refine zlc (xc0 cl_40) (c_optimize (t := tk1) w (⟨(hS.rowN 1 rfl), (hS.rowN 2 rfl), (⟨(hS.rowN 3 rfl), fun k k0 k1 => hS.rowIn 4 rfl k0 k1, fun k k0 k1 => hS.roomIn 4 rfl k0 k1⟩ : MAt _ vCk1 tk1.nc vvk1 tk1.ln tk1.C)⟩ : TAt _ vBk1 vFk1 vCk1 vvk1 tk1)) ?_; rintro _ w ⟨xBu1, xFu1, xCu1, xvu1, uu1, euu1, rfl, hrunu1, hxBu1, hxFu1, hxCu1, hS'⟩
   replace hS : Sat w0 w [.blk g1 [vc, vA, vb], .own vBk1 1 3 tk1.nb (ints tk1.B), .own vFk1 1 3 tk1.nf (ints tk1.F), .own vCk1 1 22 tk1.nc vvk1, .sem (Frame.rows 3 tk1.nc vvk1 tk1.ln tk1.C), .blk g2 [.int .i64 tk1.vars, .int .i64 tk1.den, vBk1, vFk1, vCk1], .sem (Frame.alt (uu1 = tk1 ∧ xBu1 = vBk1 ∧ xFu1 = vFk1 ∧ xCu1 = vCk1 ∧ xvu1 = vvk1) (Frame.bun [.own xBu1 1 3 uu1.nb (ints uu1.B), .own xFu1 1 3 uu1.nf (ints uu1.F), .own xCu1 1 22 uu1.nc xvu1, .sem (Frame.rows 3 uu1.nc xvu1 uu1.ln uu1.C)]))] := hS.comp hS'; clear hS'
   have hxru1 := fun k (k0 : 0 ≤ k) (k1 : k < uu1.nc) => ((tat_alt (⟨(hS.rowN 1 rfl), (hS.rowN 2 rfl), (⟨(hS.rowN 3 rfl), fun k k0 k1 => hS.rowIn 4 rfl k0 k1, fun k k0 k1 => hS.roomIn 4 rfl k0 k1⟩ : MAt _ vCk1 tk1.nc vvk1 tk1.ln tk1.C)⟩ : TAt _ vBk1 vFk1 vCk1 vvk1 tk1) hS 6 rfl).C.p k k0 k1).slh
   refine zlv xmv ?_
   iterate 2 refine zlv xex ?_
   refine zle (xsw 5 st_43 hS (hd := (ones_cons rfl (ones_cons rfl (ones_cons hxBu1.one (ones_cons hxFu1.one (ones_cons hxCu1.one ones_nil))))))) ?_; clear hS; rintro w hS
   replace hS : Sat w0 w [.blk _ [_, _, _], _, _, _, _, .blk _ [_, _, _, _, _], _] := hS
   refine zlv xas ?_
   refine zln <| ztn <| zsq <| zsq <| zrg ?_
   refine zlv xmv ?_
   refine zln <| ztn <| zbk <| zsq <| zrg ?_
   refine zlv xeql ?_
   refine zlv xas ?_
   refine zln <| ztn ?_
   refine zcif ?_ ?_ <;> intro hc
   ·
    refine zsq <| zrg ?_
    iterate 2 refine zlv xas ?_
    refine zln <| ztn <| zrt <| zbr <| ztr <| zf2 ⟨_, rfl, ?_⟩
    obtain ⟨hl, hts⟩ := hstk1.ok (by omega); rw [hts] at hrunu1
    exact ⟨_, _, 0, _, rfl, .inr ⟨hl, _, _, hrunu1, .inl ⟨by omega, rfl, rfl⟩⟩, slh_nil, (hS.sub (.cons _ (.cons _ (.cons _ (.cons _ (.cons _ (.cons _ (.cons _ .slnil)))))))).addnil 1 3 (ints (fun _ => 0))⟩
   ·
    refine zsq <| zrg ?_
    refine zlv xeql ?_
    refine zlv xas ?_
    refine zln <| ztn ?_
    refine zcif ?_ ?_ <;> intro hc
    ·
     refine zsk <| zbn <| ztn <| zsq <| zrg ?_
     refine zlv (xfb 1 fd_34_1) ?_
     obtain ⟨hl, hts⟩ := hstk1.ok (by omega)
     have b1 := hl.n1
     have b2 := hl.n2
     have b3 := hl.m2
     have b4 := hl.k
     have hdm := hrunu1.dims
     obtain ⟨hp, hco, _, hlv⟩ := hrunu1.fin (.inr (by omega))
     obtain ⟨hr0, hre⟩ := hlv (by omega)
     have hlr := leav_rng uu1 uu1.nb.toNat
     have hd1 : uu1.nb = p.m := by rw [hdm.1, hts]; rfl
     have hd2 : uu1.nf = p.n := by rw [hdm.2.1, hts]; rfl
     have hd3 : uu1.vars = p.n := by rw [hdm.2.2.2, hts]; rfl
     have hd4 := hp.c; have hl0 := hp.len (i := 0) (by omega) (by omega); have hden1 := hp.d1; have hden2 := hp.d2
     refine zlv (xlb 0 pl_23 hS) ?_
     refine zlv (xln sl_23 hL.A.row.slh) ?_
     refine zla (xmk sl_22 el_3 hS) ?_; rintro v1 w ⟨hS, hv1⟩
     replace hS : Sat w0 w [.blk _ [_, _, _], _, _, _, _, .blk _ [_, _, _, _, _], _, _] := hS
     refine zlv xas ?_
     refine zln <| ztn <| zsq <| zrg ?_
     refine zlv xas ?_
     refine zln <| ztn <| zsq <| zsq <| zrg ?_
     refine zlv (xfb 2 fd_43_2) ?_
     refine zlv (xlb 5 pl_22 hS) ?_
     refine zlv (xln sl_22 hxBu1) ?_
     refine zlv xmv ?_
     refine zln <| ztn <| zbk <| zlp (fun mm M w => ∃ (row : Int) (i : Int), mm = ((uu1.nb - i).toNat) ∧ (0 ≤ i) ∧ (i ≤ uu1.nb) ∧ (row = leav uu1 i.toNat) ∧ M = [(2, .slice none 0 0), (3, .int .i64 0), (4, .pointer (some ⟨g2, 0, none⟩)), (6, v1), (7, .int .i64 row), (37, xBu1), (38, .int .i64 uu1.nb), (39, .int .i64 i)] ∧ Sat w0 w [.blk g1 [vc, vA, vb], .own vBk1 1 3 tk1.nb (ints tk1.B), .own vFk1 1 3 tk1.nf (ints tk1.F), .own vCk1 1 22 tk1.nc vvk1, .sem (Frame.rows 3 tk1.nc vvk1 tk1.ln tk1.C), .blk g2 [.int .i64 uu1.vars, .int .i64 uu1.den, xBu1, xFu1, xCu1], .sem (Frame.alt (uu1 = tk1 ∧ xBu1 = vBk1 ∧ xFu1 = vFk1 ∧ xCu1 = vCk1 ∧ xvu1 = vvk1) (Frame.bun [.own xBu1 1 3 uu1.nb (ints uu1.B), .own xFu1 1 3 uu1.nf (ints uu1.F), .own xCu1 1 22 uu1.nc xvu1, .sem (Frame.rows 3 uu1.nc xvu1 uu1.ln uu1.C)])), .own v1 1 3 p.m (ints (fun _ => 0))]) ⟨(-1), 0, rfl, (by omega), (by omega), ?_, rfl, hS⟩ ?_
     ·
      rfl
     ·
      clear hS w
      rintro mm M w ⟨row, i, rfl, h0, h1, hrow, rfl, hS⟩
      refine zsq <| zrg ?_
      refine zlv xlss ?_
      refine zln <| ztn <| zsq ?_
      refine zcif ?_ ?_ <;> intro hc
      ·
       refine zsk <| ztn <| zsq <| zbk <| zsq <| zrg ?_
       refine zlv xmv ?_
       refine zlv (xix (kk := i) sl_22 hxBu1) ?_
       refine zlv (xlr (u := .int .i64 (uu1.B i)) pl_3 (tat_alt (⟨(hS.rowN 1 rfl), (hS.rowN 2 rfl), (⟨(hS.rowN 3 rfl), fun k k0 k1 => hS.rowIn 4 rfl k0 k1, fun k k0 k1 => hS.roomIn 4 rfl k0 k1⟩ : MAt _ vCk1 tk1.nc vvk1 tk1.ln tk1.C)⟩ : TAt _ vBk1 vFk1 vCk1 vvk1 tk1) hS 6 rfl).B) ?_
       iterate 2 refine zlv xas ?_
       refine zln <| ztn <| zsq <| zrg ?_
       refine zlv (xfb 4 fd_43_4) ?_
       refine zlv (xlb 5 pl_23 hS) ?_
       refine zlv xmv ?_
       have hli := hp.len (i := i + 1) (by omega) (by omega); have hlri := leav_rng uu1 i.toNat
       refine zlv (xadd (r := i + 1)) ?_
       refine zlv (xix (kk := i + 1) sl_23 hxCu1) ?_
       refine zlv (xlr (u := (xvu1 (i + 1))) pl_22 (tat_alt (⟨(hS.rowN 1 rfl), (hS.rowN 2 rfl), (⟨(hS.rowN 3 rfl), fun k k0 k1 => hS.rowIn 4 rfl k0 k1, fun k k0 k1 => hS.roomIn 4 rfl k0 k1⟩ : MAt _ vCk1 tk1.nc vvk1 tk1.ln tk1.C)⟩ : TAt _ vBk1 vFk1 vCk1 vvk1 tk1) hS 6 rfl).C.row) ?_
       refine zlv (xix (kk := 0) sl_22 (hxru1 (i + 1) (by omega) (by omega))) ?_
       refine zlv (xlr (u := .int .i64 (uu1.C (i + 1) 0)) pl_3 ((tat_alt (⟨(hS.rowN 1 rfl), (hS.rowN 2 rfl), (⟨(hS.rowN 3 rfl), fun k k0 k1 => hS.rowIn 4 rfl k0 k1, fun k k0 k1 => hS.roomIn 4 rfl k0 k1⟩ : MAt _ vCk1 tk1.nc vvk1 tk1.ln tk1.C)⟩ : TAt _ vBk1 vFk1 vCk1 vvk1 tk1) hS 6 rfl).C.p (i + 1) (by omega) (by omega))) ?_
       refine zlv xlss ?_
       refine zlv xmv ?_
       refine zlb 53 ?_ ?_ <;> intro hc
       ·
        refine zlv xmv ?_
        refine zlv xlss ?_
        refine zlv xmv ?_
        refine zlb 56 ?_ ?_ <;> intro hc
        ·
         iterate 7 refine zlo ?_
         iterate 2 refine zlv xpt ?_
         refine zln <| ztn <| zct <| zrg ?_
         refine zlv xmv ?_
         refine zlv xas ?_
         refine zln <| zbn <| ztn <| zrg ?_
         refine zlv (xadd (r := i + 1)) ?_
         refine zlv xmv ?_
         refine zln <| zlq ⟨i, i + 1, rfl, (by omega), (by omega), ?_, rfl, hS⟩
         ·
          rw [leav_next uu1 h0, ← hrow]; first | rw [if_pos (by omega)] | rw [if_neg (by omega)]
        ·
         refine zlv xmv ?_
         refine zlv (xfb 2 fd_43_2) ?_
         refine zlv (xlb 5 pl_22 hS) ?_
         refine zlv xmv ?_
         refine zlv (xix (kk := row) sl_22 hxBu1) ?_
         refine zlv (xlr (u := .int .i64 (uu1.B row)) pl_3 (tat_alt (⟨(hS.rowN 1 rfl), (hS.rowN 2 rfl), (⟨(hS.rowN 3 rfl), fun k k0 k1 => hS.rowIn 4 rfl k0 k1, fun k k0 k1 => hS.roomIn 4 rfl k0 k1⟩ : MAt _ vCk1 tk1.nc vvk1 tk1.ln tk1.C)⟩ : TAt _ vBk1 vFk1 vCk1 vvk1 tk1) hS 6 rfl).B) ?_
         refine zlv xlss ?_
         refine zlv xpf ?_
         refine zlv xpt ?_
         refine zln <| ztn ?_
         refine zcif ?_ ?_ <;> intro hc
         ·
          refine zrg ?_
          refine zlv xmv ?_
          refine zlv xas ?_
          refine zln <| zbn <| ztn <| zrg ?_
          refine zlv (xadd (r := i + 1)) ?_
          refine zlv xmv ?_
          refine zln <| zlq ⟨i, i + 1, rfl, (by omega), (by omega), ?_, rfl, hS⟩
          ·
           rw [leav_next uu1 h0, ← hrow]; first | rw [if_pos (by omega)] | rw [if_neg (by omega)]
         ·
          refine zsk <| zbn <| ztn <| zrg ?_
          refine zlv (xadd (r := i + 1)) ?_
          refine zlv xmv ?_
          refine zln <| zlq ⟨row, i + 1, rfl, (by omega), (by omega), ?_, rfl, hS⟩
          ·
           rw [leav_next uu1 h0, ← hrow]; first | rw [if_pos (by omega)] | rw [if_neg (by omega)]
       ·
        iterate 11 refine zlo ?_
        refine zlv xpf ?_
        refine zln <| ztn <| zcf <| zsk <| zbn <| ztn <| zrg ?_
        refine zlv (xadd (r := i + 1)) ?_
        refine zlv xmv ?_
        refine zln <| zlq ⟨row, i + 1, rfl, (by omega), (by omega), ?_, rfl, hS⟩
        ·
         rw [leav_next uu1 h0, ← hrow]; first | rw [if_pos (by omega)] | rw [if_neg (by omega)]
      ·
       refine zxt <| ztx <| ztx <| zbh <| ztn <| zsq <| zsq <| zrg ?_
       refine zlv (xfb 2 fd_43_2) ?_
       refine zlv (xlb 5 pl_22 hS) ?_
       refine zlv xmv ?_
       have hri : row = leav uu1 uu1.nb.toNat := by rw [hrow]; congr 1; omega
       have hrB := hp.rngB (i := row) (by omega) (by omega); have hlr1 := hp.len (i := row + 1) (by omega) (by omega)
       refine zlv (xix (kk := row) sl_22 hxBu1) ?_
       refine zlv (xlr (u := .int .i64 (uu1.B row)) pl_3 (tat_alt (⟨(hS.rowN 1 rfl), (hS.rowN 2 rfl), (⟨(hS.rowN 3 rfl), fun k k0 k1 => hS.rowIn 4 rfl k0 k1, fun k k0 k1 => hS.roomIn 4 rfl k0 k1⟩ : MAt _ vCk1 tk1.nc vvk1 tk1.ln tk1.C)⟩ : TAt _ vBk1 vFk1 vCk1 vvk1 tk1) hS 6 rfl).B) ?_
       refine zlv xas ?_
       refine zln <| ztn <| zsq <| zrg ?_
       refine zlv xmv ?_
       refine zlv (xfb 0 fd_43_0) ?_
       refine zlv (xlb 5 pl_3 hS) ?_
       refine zlv xgeq ?_
       refine zln <| ztn ?_
       refine zcif ?_ ?_ <;> intro hc
       ·
        refine zrg ?_
        iterate 2 refine zlv xmv ?_
        refine zlv (xfb 0 fd_43_0) ?_
        refine zlv (xlb 5 pl_3 hS) ?_
        refine zlv (xsub (r := (uu1.B row) - uu1.vars)) ?_
        refine zlv (xfb 1 fd_43_1) ?_
        refine zlv (xlb 5 pl_3 hS) ?_
        refine zlv (xix (kk := (uu1.B row) - uu1.vars) sl_22 hv1) ?_
        refine zle (xso 7 pl_3 hS (upd_ints _ _ _)) ?_; clear hS; rintro w hS
        replace hS : Sat w0 w [.blk _ [_, _, _], _, _, _, _, .blk _ [_, _, _, _, _], _, _] := hS
        refine zln <| ztn <| zsq <| zsq <| zrg ?_
        refine zlv (xfb 3 fd_43_3) ?_
        refine zlv (xlb 5 pl_22 hS) ?_
        refine zlv (xln sl_22 hxFu1) ?_
        refine zlv xmv ?_
        refine zln <| ztn <| zbk <| zlp (fun mm M w => ∃ (j : Int) (fY : Int → Int), mm = ((uu1.nf - j).toNat) ∧ (0 ≤ j) ∧ (j ≤ uu1.nf) ∧ (fY = rdG uu1 (ref0 uu1 row) (fun j => -uu1.C (row + 1) (j + 1)) j.toNat) ∧ M = [(2, .slice none 0 0), (3, .int .i64 0), (4, .pointer (some ⟨g2, 0, none⟩)), (6, v1), (7, .int .i64 row), (86, xFu1), (87, .int .i64 uu1.nf), (88, .int .i64 j)] ∧ Sat w0 w [.blk g1 [vc, vA, vb], .own vBk1 1 3 tk1.nb (ints tk1.B), .own vFk1 1 3 tk1.nf (ints tk1.F), .own vCk1 1 22 tk1.nc vvk1, .sem (Frame.rows 3 tk1.nc vvk1 tk1.ln tk1.C), .blk g2 [.int .i64 uu1.vars, .int .i64 uu1.den, xBu1, xFu1, xCu1], .sem (Frame.alt (uu1 = tk1 ∧ xBu1 = vBk1 ∧ xFu1 = vFk1 ∧ xCu1 = vCk1 ∧ xvu1 = vvk1) (Frame.bun [.own xBu1 1 3 uu1.nb (ints uu1.B), .own xFu1 1 3 uu1.nf (ints uu1.F), .own xCu1 1 22 uu1.nc xvu1, .sem (Frame.rows 3 uu1.nc xvu1 uu1.ln uu1.C)])), .own v1 1 3 p.m (ints fY)]) ⟨0, (upd (fun _ => 0) ((uu1.B row) - uu1.vars) uu1.den), rfl, (by omega), (by omega), ?_, rfl, hS⟩ ?_
        ·
         show _ = ref0 uu1 row; unfold ref0; first | rw [if_pos (by omega)] | rw [if_neg (by omega)]
        ·
         clear hS w
         rintro mm M w ⟨j, fY, rfl, j0, j1, hfY, rfl, hS⟩
         refine zsq <| zrg ?_
         refine zlv xlss ?_
         refine zln <| ztn <| zsq ?_
         refine zcif ?_ ?_ <;> intro hc
         ·
          refine zsk <| ztn <| zsq <| zbk <| zsq <| zrg ?_
          refine zlv xmv ?_
          refine zlv (xix (kk := j) sl_22 hxFu1) ?_
          refine zlv (xlr (u := .int .i64 (uu1.F j)) pl_3 (tat_alt (⟨(hS.rowN 1 rfl), (hS.rowN 2 rfl), (⟨(hS.rowN 3 rfl), fun k k0 k1 => hS.rowIn 4 rfl k0 k1, fun k k0 k1 => hS.roomIn 4 rfl k0 k1⟩ : MAt _ vCk1 tk1.nc vvk1 tk1.ln tk1.C)⟩ : TAt _ vBk1 vFk1 vCk1 vvk1 tk1) hS 6 rfl).F) ?_
          iterate 2 refine zlv xas ?_
          refine zln <| ztn <| zsq <| zrg ?_
          refine zlv xmv ?_
          have hrF := hp.rngF (i := j) j0 (by omega) (by omega); have hcl := hp.cell (i := row + 1) (j := j + 1) (by omega) (by omega) (by omega) (by omega)
          refine zlv (xfb 0 fd_43_0) ?_
          refine zlv (xlb 5 pl_3 hS) ?_
          refine zlv xgeq ?_
          refine zln <| ztn ?_
          refine zcif ?_ ?_ <;> intro hc
          ·
           refine zdst [0, 1, 2, 3, 4, 5, 6, 7] [0, 1, 2, 3, 4, 5, 6] 17 mx_ hS ?_; clear hS; intro w hS
           refine zdv 0 (fun _ => xmv) ?_
           refine zdv 1 (fun _ => xmv) ?_
           refine zdv 2 (fun _ => (xfb 0 fd_43_0)) ?_
           refine zdla 3 (fun w hS => (xlb 5 pl_3 hS)) ?_
           refine zdv 4 (fun _ => (xsub (r := (uu1.F j) - uu1.vars))) ?_
           refine zdv 5 (fun _ => (xfb 4 fd_43_4)) ?_
           refine zdla 6 (fun w hS => (xlb 5 pl_23 hS)) ?_
           refine zdv 7 (fun _ => xmv) ?_
           refine zdv 8 (fun _ => (xadd (r := row + 1))) ?_
           refine zdv 9 (fun _ => (xix (kk := row + 1) sl_23 hxCu1)) ?_
           refine zdla 10 (fun w hS => (xlr (u := (xvu1 (row + 1))) pl_22 (tat_alt (⟨(hS.rowN 1 rfl), (hS.rowN 2 rfl), (⟨(hS.rowN 3 rfl), fun k k0 k1 => hS.rowIn 4 rfl k0 k1, fun k k0 k1 => hS.roomIn 4 rfl k0 k1⟩ : MAt _ vCk1 tk1.nc vvk1 tk1.ln tk1.C)⟩ : TAt _ vBk1 vFk1 vCk1 vvk1 tk1) hS 6 rfl).C.row)) ?_
           refine zdv 11 (fun _ => xmv) ?_
           refine zdv 12 (fun _ => (xadd (r := j + 1))) ?_
           refine zdv 13 (fun _ => (xix (kk := j + 1) sl_22 (hxru1 (row + 1) (by omega) (by omega)))) ?_
           refine zdla 14 (fun w hS => (xlr (u := .int .i64 (uu1.C (row + 1) (j + 1))) pl_3 ((tat_alt (⟨(hS.rowN 1 rfl), (hS.rowN 2 rfl), (⟨(hS.rowN 3 rfl), fun k k0 k1 => hS.rowIn 4 rfl k0 k1, fun k k0 k1 => hS.roomIn 4 rfl k0 k1⟩ : MAt _ vCk1 tk1.nc vvk1 tk1.ln tk1.C)⟩ : TAt _ vBk1 vFk1 vCk1 vvk1 tk1) hS 6 rfl).C.p (row + 1) (by omega) (by omega)))) ?_
           refine zdv 15 (fun _ => (xneg (r := -((uu1.C (row + 1) (j + 1)))))) ?_
           refine zdv 16 (fun _ => (xix (kk := (uu1.F j) - uu1.vars) sl_22 hv1)) ?_
           refine zde 17 (xso 7 pl_3 hS (upd_ints _ _ _)) ?_; clear hS; rintro w hS
           replace hS : Sat w0 w [.blk _ [_, _, _], _, _, _, _, .blk _ [_, _, _, _, _], _, _] := hS
           refine ⟨⟨fun h => absurd h (by decide), hS.pk [0, 1, 2, 3, 4, 5, 6]⟩, ?_⟩
           refine zdd <| zbn <| ztn <| zrg ?_
           refine zlv (xadd (r := j + 1)) ?_
           refine zlv xmv ?_
           refine zln <| zlq ⟨j + 1, (upd fY ((uu1.F j) - uu1.vars) (-((uu1.C (row + 1) (j + 1))))), rfl, (by omega), (by omega), ?_, rfl, hS⟩
           ·
            rw [rdG_next uu1 _ _ j0, ← hfY]; first | rw [if_pos (by omega)] | rw [if_neg (by omega)]
          ·
           refine zsk <| zbn <| ztn <| zrg ?_
           refine zlv (xadd (r := j + 1)) ?_
           refine zlv xmv ?_
           refine zln <| zlq ⟨j + 1, fY, rfl, (by omega), (by omega), ?_, rfl, hS⟩
           ·
            rw [rdG_next uu1 _ _ j0, ← hfY]; first | rw [if_pos (by omega)] | rw [if_neg (by omega)]
         ·
          refine zxt <| ztx <| ztx <| zbh <| ztn <| zsq <| zrg ?_
          refine zlv xmv ?_
          iterate 2 refine zlv xas ?_
          refine zln <| ztn <| zrt <| zf2 ⟨_, rfl, ?_⟩
          rw [hts] at hrunu1
          obtain rfl : j = uu1.nf := by omega
          obtain rfl : i = uu1.nb := by omega
          replace hS := hS.pk [7]; subst hfY; rw [hrow] at hS
          exact ⟨_, _, p.m, _, rfl, .inr ⟨hl, _, _, hrunu1, .inr (.inr ⟨by omega, rfl, rfl, rfl⟩)⟩, hv1, hS⟩
       ·
        refine zsk <| ztn <| zsq <| zsq <| zrg ?_
        refine zlv (xfb 3 fd_43_3) ?_
        refine zlv (xlb 5 pl_22 hS) ?_
        refine zlv (xln sl_22 hxFu1) ?_
        refine zlv xmv ?_
        refine zln <| ztn <| zbk <| zlp (fun mm M w => ∃ (j : Int) (fY : Int → Int), mm = ((uu1.nf - j).toNat) ∧ (0 ≤ j) ∧ (j ≤ uu1.nf) ∧ (fY = rdG uu1 (ref0 uu1 row) (fun j => -uu1.C (row + 1) (j + 1)) j.toNat) ∧ M = [(2, .slice none 0 0), (3, .int .i64 0), (4, .pointer (some ⟨g2, 0, none⟩)), (6, v1), (7, .int .i64 row), (86, xFu1), (87, .int .i64 uu1.nf), (88, .int .i64 j)] ∧ Sat w0 w [.blk g1 [vc, vA, vb], .own vBk1 1 3 tk1.nb (ints tk1.B), .own vFk1 1 3 tk1.nf (ints tk1.F), .own vCk1 1 22 tk1.nc vvk1, .sem (Frame.rows 3 tk1.nc vvk1 tk1.ln tk1.C), .blk g2 [.int .i64 uu1.vars, .int .i64 uu1.den, xBu1, xFu1, xCu1], .sem (Frame.alt (uu1 = tk1 ∧ xBu1 = vBk1 ∧ xFu1 = vFk1 ∧ xCu1 = vCk1 ∧ xvu1 = vvk1) (Frame.bun [.own xBu1 1 3 uu1.nb (ints uu1.B), .own xFu1 1 3 uu1.nf (ints uu1.F), .own xCu1 1 22 uu1.nc xvu1, .sem (Frame.rows 3 uu1.nc xvu1 uu1.ln uu1.C)])), .own v1 1 3 p.m (ints fY)]) ⟨0, (fun _ => 0), rfl, (by omega), (by omega), ?_, rfl, hS⟩ ?_
        ·
         show _ = ref0 uu1 row; unfold ref0; first | rw [if_pos (by omega)] | rw [if_neg (by omega)]
        ·
         clear hS w
         rintro mm M w ⟨j, fY, rfl, j0, j1, hfY, rfl, hS⟩
         refine zsq <| zrg ?_
         refine zlv xlss ?_
         refine zln <| ztn <| zsq ?_
         refine zcif ?_ ?_ <;> intro hc
         ·
          refine zsk <| ztn <| zsq <| zbk <| zsq <| zrg ?_
          refine zlv xmv ?_
          refine zlv (xix (kk := j) sl_22 hxFu1) ?_
          refine zlv (xlr (u := .int .i64 (uu1.F j)) pl_3 (tat_alt (⟨(hS.rowN 1 rfl), (hS.rowN 2 rfl), (⟨(hS.rowN 3 rfl), fun k k0 k1 => hS.rowIn 4 rfl k0 k1, fun k k0 k1 => hS.roomIn 4 rfl k0 k1⟩ : MAt _ vCk1 tk1.nc vvk1 tk1.ln tk1.C)⟩ : TAt _ vBk1 vFk1 vCk1 vvk1 tk1) hS 6 rfl).F) ?_
          iterate 2 refine zlv xas ?_
          refine zln <| ztn <| zsq <| zrg ?_
          refine zlv xmv ?_
          have hrF := hp.rngF (i := j) j0 (by omega) (by omega); have hcl := hp.cell (i := row + 1) (j := j + 1) (by omega) (by omega) (by omega) (by omega)
          refine zlv (xfb 0 fd_43_0) ?_
          refine zlv (xlb 5 pl_3 hS) ?_
          refine zlv xgeq ?_
          refine zln <| ztn ?_
          refine zcif ?_ ?_ <;> intro hc
          ·
           refine zdst [0, 1, 2, 3, 4, 5, 6, 7] [0, 1, 2, 3, 4, 5, 6] 17 mx_ hS ?_; clear hS; intro w hS
           refine zdv 0 (fun _ => xmv) ?_
           refine zdv 1 (fun _ => xmv) ?_
           refine zdv 2 (fun _ => (xfb 0 fd_43_0)) ?_
           refine zdla 3 (fun w hS => (xlb 5 pl_3 hS)) ?_
           refine zdv 4 (fun _ => (xsub (r := (uu1.F j) - uu1.vars))) ?_
           refine zdv 5 (fun _ => (xfb 4 fd_43_4)) ?_
           refine zdla 6 (fun w hS => (xlb 5 pl_23 hS)) ?_
           refine zdv 7 (fun _ => xmv) ?_
           refine zdv 8 (fun _ => (xadd (r := row + 1))) ?_
           refine zdv 9 (fun _ => (xix (kk := row + 1) sl_23 hxCu1)) ?_
           refine zdla 10 (fun w hS => (xlr (u := (xvu1 (row + 1))) pl_22 (tat_alt (⟨(hS.rowN 1 rfl), (hS.rowN 2 rfl), (⟨(hS.rowN 3 rfl), fun k k0 k1 => hS.rowIn 4 rfl k0 k1, fun k k0 k1 => hS.roomIn 4 rfl k0 k1⟩ : MAt _ vCk1 tk1.nc vvk1 tk1.ln tk1.C)⟩ : TAt _ vBk1 vFk1 vCk1 vvk1 tk1) hS 6 rfl).C.row)) ?_
           refine zdv 11 (fun _ => xmv) ?_
           refine zdv 12 (fun _ => (xadd (r := j + 1))) ?_
           refine zdv 13 (fun _ => (xix (kk := j + 1) sl_22 (hxru1 (row + 1) (by omega) (by omega)))) ?_
           refine zdla 14 (fun w hS => (xlr (u := .int .i64 (uu1.C (row + 1) (j + 1))) pl_3 ((tat_alt (⟨(hS.rowN 1 rfl), (hS.rowN 2 rfl), (⟨(hS.rowN 3 rfl), fun k k0 k1 => hS.rowIn 4 rfl k0 k1, fun k k0 k1 => hS.roomIn 4 rfl k0 k1⟩ : MAt _ vCk1 tk1.nc vvk1 tk1.ln tk1.C)⟩ : TAt _ vBk1 vFk1 vCk1 vvk1 tk1) hS 6 rfl).C.p (row + 1) (by omega) (by omega)))) ?_
           refine zdv 15 (fun _ => (xneg (r := -((uu1.C (row + 1) (j + 1)))))) ?_
           refine zdv 16 (fun _ => (xix (kk := (uu1.F j) - uu1.vars) sl_22 hv1)) ?_
           refine zde 17 (xso 7 pl_3 hS (upd_ints _ _ _)) ?_; clear hS; rintro w hS
           replace hS : Sat w0 w [.blk _ [_, _, _], _, _, _, _, .blk _ [_, _, _, _, _], _, _] := hS
           refine ⟨⟨fun h => absurd h (by decide), hS.pk [0, 1, 2, 3, 4, 5, 6]⟩, ?_⟩
           refine zdd <| zbn <| ztn <| zrg ?_
           refine zlv (xadd (r := j + 1)) ?_
           refine zlv xmv ?_
           refine zln <| zlq ⟨j + 1, (upd fY ((uu1.F j) - uu1.vars) (-((uu1.C (row + 1) (j + 1))))), rfl, (by omega), (by omega), ?_, rfl, hS⟩
           ·
            rw [rdG_next uu1 _ _ j0, ← hfY]; first | rw [if_pos (by omega)] | rw [if_neg (by omega)]
          ·
           refine zsk <| zbn <| ztn <| zrg ?_
           refine zlv (xadd (r := j + 1)) ?_
           refine zlv xmv ?_
           refine zln <| zlq ⟨j + 1, fY, rfl, (by omega), (by omega), ?_, rfl, hS⟩
           ·
            rw [rdG_next uu1 _ _ j0, ← hfY]; first | rw [if_pos (by omega)] | rw [if_neg (by omega)]
         ·
          refine zxt <| ztx <| ztx <| zbh <| ztn <| zsq <| zrg ?_
          refine zlv xmv ?_
          iterate 2 refine zlv xas ?_
          refine zln <| ztn <| zrt <| zf2 ⟨_, rfl, ?_⟩
          rw [hts] at hrunu1
          obtain rfl : j = uu1.nf := by omega
          obtain rfl : i = uu1.nb := by omega
          replace hS := hS.pk [7]; subst hfY; rw [hrow] at hS
          exact ⟨_, _, p.m, _, rfl, .inr ⟨hl, _, _, hrunu1, .inr (.inr ⟨by omega, rfl, rfl, rfl⟩)⟩, hv1, hS⟩
    ·
     refine zsq <| zrg ?_
     refine zlv xmv ?_
     iterate 2 refine zlv xas ?_
     refine zln <| ztn <| zrt <| zbr <| ztr <| zf2 ⟨_, rfl, ?_⟩
     obtain ⟨hl, hts⟩ := hstk1.ok (by omega); rw [hts] at hrunu1
     exact ⟨_, _, 0, _, rfl, .inr ⟨hl, _, _, hrunu1, .inr (.inl ⟨by omega, by omega, rfl, rfl⟩)⟩, slh_nil, (hS.sub (.cons _ (.cons _ (.cons _ (.cons _ (.cons _ (.cons _ (.cons _ .slnil)))))))).addnil 1 3 (ints (fun _ => 0))⟩

end Go.Proofs.Ytakgjpmhbfieeaa
