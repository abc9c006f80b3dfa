/- The walk of awake, of the statements. -/
import Derived.Test.YtkcmbndnhcofpaaGv
import Derived.Test.YtkcmbndnhcofpaaW10
import Derived.Test.YtkcmbndnhcofpaaFw
namespace Go.Proofs.Ytkcmbndnhcofpaa
open Go Go.RowKit Go.Proofs.Gw
set_option linter.unusedVariables false

theorem cl_11 : calledT Try.prog 11 = true := by kernel_rfl
theorem cl_12 : calledT Try.prog 12 = true := by kernel_rfl
theorem el_34 : elemT Try.prog 34 = some (.agg #[.slice none 0 0, .slice none 0 0, .slice none 0 0], 3, 72) := by kernel_rfl
set_option maxRecDepth 20000 in
theorem c_awake  (w0 : World) :
    Calls Try.prog 5 [].toArray w0 fun e w => ∃ v, e = .returned v ∧ v = .bool true ∧ Sat w0 w [] := by
  refine zenG Try.func5 Try.ntmps5 fun w hS => ?_
  refine zsr ?_
  refine zlv xas ?_
  refine zlz ?_
  refine zla (xli (n := 2) (len := 2) (pv := [(0, .int .i64 1), (1, .int .i64 1)]) (cs := [.int .i64 1, .int .i64 1]) (c := ints (fun k => [1, 1].getD k.toNat 0)) sl_22 el_3 hS) ?_; rintro v1 w ⟨hS, hv1⟩
  replace hS := hS.n1
  refine zla (xli (n := 2) (len := 2) (pv := [(0, .int .i64 2), (1, .int .i64 1)]) (cs := [.int .i64 2, .int .i64 1]) (c := ints (fun k => [2, 1].getD k.toNat 0)) sl_22 el_3 hS) ?_; rintro v2 w ⟨hS, hv2⟩
  replace hS := hS.n2
  refine zla (xli (n := 2) (len := 2) (pv := [(0, .int .i64 1), (1, .int .i64 3)]) (cs := [.int .i64 1, .int .i64 3]) (c := ints (fun k => [1, 3].getD k.toNat 0)) sl_22 el_3 hS) ?_; rintro v3 w ⟨hS, hv3⟩
  replace hS := hS.n3
  refine zla (xli (n := 2) (len := 2) (pv := [(0, v2), (1, v3)]) (cs := [v2, v3]) (c := fun k => ([(v2 : Value), (v3 : Value)]).getD k.toNat undef) sl_23 el_22 hS (hf := by obtain ⟨_, _, _, _, rfl, _⟩ := hv2; obtain ⟨_, _, _, _, rfl, _⟩ := hv3; kernel_rfl)) ?_; rintro v4 w ⟨hS, hv4⟩
  replace hS := hS.n4
  refine zla (xli (n := 2) (len := 2) (pv := [(0, .int .i64 3), (1, .int .i64 4)]) (cs := [.int .i64 3, .int .i64 4]) (c := ints (fun k => [3, 4].getD k.toNat 0)) sl_22 el_3 hS) ?_; rintro v5 w ⟨hS, hv5⟩
  replace hS := hS.n5
  refine zlv (xany (v := .agg #[v1, v4, v5]) (hr := by obtain ⟨_, _, _, _, rfl, _⟩ := hv1; obtain ⟨_, _, _, _, rfl, _⟩ := hv4; obtain ⟨_, _, _, _, rfl, _⟩ := hv5; kernel_rfl)) ?_
  refine zla (xal (cs := [_, _, _]) el_34 hS) ?_; rintro _ w ⟨g1, rfl, hS⟩
  replace hS := hS.n6
  refine zle (xsw 5 st_34 hS (hd := (ones_cons hv1.one (ones_cons hv4.one (ones_cons hv5.one ones_nil))))) ?_; clear hS; rintro w hS
  replace hS := hS.n6
  refine zlz ?_
  refine zlv (xls 5 st_34 hS) ?_
  refine zlc (xc0 cl_11) (c_solve (p := pEx) w (⟨(hS.rowN 0 rfl), matEx (hS.rowN 3 rfl) (hS.rowN 1 rfl) (hS.rowN 2 rfl) (Ent.holds.roomy (hS.holds _ (List.mem_of_getElem? (i := 1) rfl))) (Ent.holds.roomy (hS.holds _ (List.mem_of_getElem? (i := 2) rfl))), (hS.rowN 4 rfl)⟩ : LAt _ v1 v4 v5 (pair2 v2 v3) pEx)) ?_; rintro _ w ⟨vX, vY, s, e, rfl, hsol, hvX, hvY, hS'⟩
  replace hS : Sat w0 w [.own v1 1 3 2 (ints (fun k => [1, 1].getD k.toNat 0)), .own v2 1 3 2 (ints (fun k => [2, 1].getD k.toNat 0)), .own v3 1 3 2 (ints (fun k => [1, 3].getD k.toNat 0)), .own v4 1 22 2 (fun k => ([(v2 : Value), (v3 : Value)]).getD k.toNat undef), .own v5 1 3 2 (ints (fun k => [3, 4].getD k.toNat 0)), .blk g1 [v1, v4, v5], .own vX 1 3 s.n (ints s.X), .own vY 1 3 s.m (ints s.Y)] := hS.comp hS'; clear hS'
  obtain ⟨e0, e1, e2, e3, e4, e5, e6, e7, e8, e9, eA, eB, eC⟩ := solEx hsol
  refine zs3 ?_
  refine zla (xal (cs := [_, _, _, _]) el_40 hS) ?_; rintro _ w ⟨g2, rfl, hS⟩
  replace hS := hS.n9
  refine zle (xsw 8 st_40 hS (hd := (ones_cons hvX.one (ones_cons hvY.one (ones_cons rfl (ones_cons rfl ones_nil)))))) ?_; clear hS; rintro w hS
  replace hS := hS.n9
  refine zlv xas ?_
  refine zlt <| zsq ?_
  refine zdst [0, 1, 2, 3, 4, 5, 6, 7, 8] [0, 1, 2, 3, 4, 5, 6, 7, 8] 1000 mx_ hS ?_; clear hS; intro w hS
  refine zdv 0 (fun _ => xmv) ?_
  refine zdv 1 (fun _ => xeql) ?_
  refine zdv 2 (fun _ => xmv) ?_
  refine zdb 17 ?_ ?_ <;> intro hc
  ·
   refine zdv 3 (fun _ => (xfb 3 fd_40_3)) ?_
   refine zdla 4 (fun w hS => (xlb 8 pl_3 hS)) ?_
   refine zdv 5 (fun _ => xgtr) ?_
   refine zdv 6 (fun _ => xpt) ?_
   refine zdv 7 (fun _ => xmv) ?_
   refine zdb 22 ?_ ?_ <;> intro hc
   ·
    refine zdv 8 (fun _ => (xfb 2 fd_40_2)) ?_
    refine zdla 9 (fun w hS => (xlb 8 pl_3 hS)) ?_
    refine zdv 10 (fun _ => (xfb 3 fd_40_3)) ?_
    refine zdla 11 (fun w hS => (xlb 8 pl_3 hS)) ?_
    refine zdv 12 (fun _ => (xmul (r := 2 * s.den))) ?_
    refine zdv 13 (fun _ => xeql) ?_
    refine zdv 14 (fun _ => xpt) ?_
    refine zdv 15 (fun _ => xmv) ?_
    refine zdb 30 ?_ ?_ <;> intro hc
    ·
     refine zdv 16 (fun _ => (xfb 0 fd_40_0)) ?_
     refine zdla 17 (fun w hS => (xlb 8 pl_22 hS)) ?_
     refine zdv 18 (fun _ => (xln sl_22 hvX)) ?_
     refine zdv 19 (fun _ => xeql) ?_
     refine zdv 20 (fun _ => xpt) ?_
     refine zdv 21 (fun _ => xmv) ?_
     refine zdb 36 ?_ ?_ <;> intro hc
     ·
      refine zdv 22 (fun _ => (xfb 0 fd_40_0)) ?_
      refine zdla 23 (fun w hS => (xlb 8 pl_22 hS)) ?_
      refine zdv 24 (fun _ => (xix (kk := 0) sl_22 hvX)) ?_
      refine zdla 25 (fun w hS => (xlr (u := .int .i64 (s.X 0)) pl_3 (hS.rowN 6 rfl))) ?_
      refine zdv 26 (fun _ => (xfb 3 fd_40_3)) ?_
      refine zdla 27 (fun w hS => (xlb 8 pl_3 hS)) ?_
      refine zdv 28 (fun _ => xeql) ?_
      refine zdv 29 (fun _ => xpt) ?_
      refine zdv 30 (fun _ => xmv) ?_
      refine zdb 45 ?_ ?_ <;> intro hc
      ·
       refine zdv 31 (fun _ => (xfb 0 fd_40_0)) ?_
       refine zdla 32 (fun w hS => (xlb 8 pl_22 hS)) ?_
       refine zdv 33 (fun _ => (xix (kk := 1) sl_22 hvX)) ?_
       refine zdla 34 (fun w hS => (xlr (u := .int .i64 (s.X 1)) pl_3 (hS.rowN 6 rfl))) ?_
       refine zdv 35 (fun _ => (xfb 3 fd_40_3)) ?_
       refine zdla 36 (fun w hS => (xlb 8 pl_3 hS)) ?_
       refine zdv 37 (fun _ => xeql) ?_
       refine zdv 38 (fun _ => xpt) ?_
       refine zdv 39 (fun _ => xmv) ?_
       refine zdb 54 ?_ ?_ <;> intro hc
       ·
        refine zdv 40 (fun _ => (xfb 1 fd_40_1)) ?_
        refine zdla 41 (fun w hS => (xlb 8 pl_22 hS)) ?_
        refine zdv 42 (fun _ => (xln sl_22 hvY)) ?_
        refine zdv 43 (fun _ => xeql) ?_
        refine zdv 44 (fun _ => xpt) ?_
        refine zdv 45 (fun _ => xmv) ?_
        refine zdb 60 ?_ ?_ <;> intro hc
        ·
         refine zdv 46 (fun _ => (xfb 1 fd_40_1)) ?_
         refine zdla 47 (fun w hS => (xlb 8 pl_22 hS)) ?_
         refine zdv 48 (fun _ => (xix (kk := 0) sl_22 hvY)) ?_
         refine zdla 49 (fun w hS => (xlr (u := .int .i64 (s.Y 0)) pl_3 (hS.rowN 7 rfl))) ?_
         refine zdv 50 (fun _ => (xmul (r := 5 * (s.Y 0)))) ?_
         refine zdv 51 (fun _ => (xfb 3 fd_40_3)) ?_
         refine zdla 52 (fun w hS => (xlb 8 pl_3 hS)) ?_
         refine zdv 53 (fun _ => (xmul (r := 2 * s.den))) ?_
         refine zdv 54 (fun _ => xeql) ?_
         refine zdv 55 (fun _ => xpt) ?_
         refine zdv 56 (fun _ => xmv) ?_
         refine zdb 71 ?_ ?_ <;> intro hc
         ·
          refine zdv 57 (fun _ => (xfb 1 fd_40_1)) ?_
          refine zdla 58 (fun w hS => (xlb 8 pl_22 hS)) ?_
          refine zdv 59 (fun _ => (xix (kk := 1) sl_22 hvY)) ?_
          refine zdla 60 (fun w hS => (xlr (u := .int .i64 (s.Y 1)) pl_3 (hS.rowN 7 rfl))) ?_
          refine zdv 61 (fun _ => (xmul (r := 5 * (s.Y 1)))) ?_
          refine zdv 62 (fun _ => (xfb 3 fd_40_3)) ?_
          refine zdla 63 (fun w hS => (xlb 8 pl_3 hS)) ?_
          refine zdv 64 (fun _ => xeql) ?_
          refine zdv 65 (fun _ => xpt) ?_
          refine zdv 66 (fun _ => xmv) ?_
          refine zdb 81 ?_ ?_ <;> intro hc
          ·
           refine zdla 67 (fun w hS => (xls 5 st_34 hS)) ?_
           refine zdla 68 (fun w hS => (xls 8 st_40 hS)) ?_
           refine zdc 69 (xc0 cl_12) (c_check (p := pEx) (s := s) w (⟨(hS.rowN 0 rfl), matEx (hS.rowN 3 rfl) (hS.rowN 1 rfl) (hS.rowN 2 rfl) (Ent.holds.roomy (hS.holds _ (List.mem_of_getElem? (i := 1) rfl))) (Ent.holds.roomy (hS.holds _ (List.mem_of_getElem? (i := 2) rfl))), (hS.rowN 4 rfl)⟩ : LAt _ v1 v4 v5 (pair2 v2 v3) pEx) (hS.rowN 6 rfl) (hS.rowN 7 rfl)) ?_; rintro _ w ⟨rfl, hS'⟩
           replace hS := hS.cmp hS'; clear hS'
           refine ⟨⟨fun _ => hS, hS⟩, ?_⟩
           refine zdv 70 (fun _ => xpt) ?_
           refine zdv 71 (fun _ => xas) ?_
           refine zdd <| ztn <| zrt <| zf1 ⟨_, rfl, ?_⟩
           exact ⟨(true_B (by first | exact eC | omega)).symm, hS.nl⟩
          refine zdof 67 ?_
          refine zdof 68 ?_
          refine zdof 69 ?_
          refine zdv 70 (fun _ => xpf) ?_
          refine zdv 71 (fun _ => xas) ?_
          refine zdd <| ztn <| zrt <| zf1 ⟨_, rfl, ?_⟩
          exact absurd ‹_› (by first | omega | exact not_not_intro eC)
         refine zdof 57 ?_
         refine zdof 58 ?_
         refine zdof 59 ?_
         refine zdof 60 ?_
         refine zdof 61 ?_
         refine zdof 62 ?_
         refine zdof 63 ?_
         refine zdof 64 ?_
         refine zdv 65 (fun _ => xpf) ?_
         refine zdv 66 (fun _ => xmv) ?_
         refine zdof 67 ?_
         refine zdof 68 ?_
         refine zdof 69 ?_
         refine zdv 70 (fun _ => xpf) ?_
         refine zdv 71 (fun _ => xas) ?_
         refine zdd <| ztn <| zrt <| zf1 ⟨_, rfl, ?_⟩
         exact absurd ‹_› (by first | omega | exact not_not_intro eC)
        refine zdof 46 ?_
        refine zdof 47 ?_
        refine zdof 48 ?_
        refine zdof 49 ?_
        refine zdof 50 ?_
        refine zdof 51 ?_
        refine zdof 52 ?_
        refine zdof 53 ?_
        refine zdof 54 ?_
        refine zdv 55 (fun _ => xpf) ?_
        refine zdv 56 (fun _ => xmv) ?_
        refine zdof 57 ?_
        refine zdof 58 ?_
        refine zdof 59 ?_
        refine zdof 60 ?_
        refine zdof 61 ?_
        refine zdof 62 ?_
        refine zdof 63 ?_
        refine zdof 64 ?_
        refine zdv 65 (fun _ => xpf) ?_
        refine zdv 66 (fun _ => xmv) ?_
        refine zdof 67 ?_
        refine zdof 68 ?_
        refine zdof 69 ?_
        refine zdv 70 (fun _ => xpf) ?_
        refine zdv 71 (fun _ => xas) ?_
        refine zdd <| ztn <| zrt <| zf1 ⟨_, rfl, ?_⟩
        exact absurd ‹_› (by first | omega | exact not_not_intro eC)
       refine zdof 40 ?_
       refine zdof 41 ?_
       refine zdof 42 ?_
       refine zdof 43 ?_
       refine zdv 44 (fun _ => xpf) ?_
       refine zdv 45 (fun _ => xmv) ?_
       refine zdof 46 ?_
       refine zdof 47 ?_
       refine zdof 48 ?_
       refine zdof 49 ?_
       refine zdof 50 ?_
       refine zdof 51 ?_
       refine zdof 52 ?_
       refine zdof 53 ?_
       refine zdof 54 ?_
       refine zdv 55 (fun _ => xpf) ?_
       refine zdv 56 (fun _ => xmv) ?_
       refine zdof 57 ?_
       refine zdof 58 ?_
       refine zdof 59 ?_
       refine zdof 60 ?_
       refine zdof 61 ?_
       refine zdof 62 ?_
       refine zdof 63 ?_
       refine zdof 64 ?_
       refine zdv 65 (fun _ => xpf) ?_
       refine zdv 66 (fun _ => xmv) ?_
       refine zdof 67 ?_
       refine zdof 68 ?_
       refine zdof 69 ?_
       refine zdv 70 (fun _ => xpf) ?_
       refine zdv 71 (fun _ => xas) ?_
       refine zdd <| ztn <| zrt <| zf1 ⟨_, rfl, ?_⟩
       exact absurd ‹_› (by first | omega | exact not_not_intro eC)
      refine zdof 31 ?_
      refine zdof 32 ?_
      refine zdof 33 ?_
      refine zdof 34 ?_
      refine zdof 35 ?_
      refine zdof 36 ?_
      refine zdof 37 ?_
      refine zdv 38 (fun _ => xpf) ?_
      refine zdv 39 (fun _ => xmv) ?_
      refine zdof 40 ?_
      refine zdof 41 ?_
      refine zdof 42 ?_
      refine zdof 43 ?_
      refine zdv 44 (fun _ => xpf) ?_
      refine zdv 45 (fun _ => xmv) ?_
      refine zdof 46 ?_
      refine zdof 47 ?_
      refine zdof 48 ?_
      refine zdof 49 ?_
      refine zdof 50 ?_
      refine zdof 51 ?_
      refine zdof 52 ?_
      refine zdof 53 ?_
      refine zdof 54 ?_
      refine zdv 55 (fun _ => xpf) ?_
      refine zdv 56 (fun _ => xmv) ?_
      refine zdof 57 ?_
      refine zdof 58 ?_
      refine zdof 59 ?_
      refine zdof 60 ?_
      refine zdof 61 ?_
      refine zdof 62 ?_
      refine zdof 63 ?_
      refine zdof 64 ?_
      refine zdv 65 (fun _ => xpf) ?_
      refine zdv 66 (fun _ => xmv) ?_
      refine zdof 67 ?_
      refine zdof 68 ?_
      refine zdof 69 ?_
      refine zdv 70 (fun _ => xpf) ?_
      refine zdv 71 (fun _ => xas) ?_
      refine zdd <| ztn <| zrt <| zf1 ⟨_, rfl, ?_⟩
      exact absurd ‹_› (by first | omega | exact not_not_intro eC)
     refine zdof 22 ?_
     refine zdof 23 ?_
     refine zdof 24 ?_
     refine zdof 25 ?_
     refine zdof 26 ?_
     refine zdof 27 ?_
     refine zdof 28 ?_
     refine zdv 29 (fun _ => xpf) ?_
     refine zdv 30 (fun _ => xmv) ?_
     refine zdof 31 ?_
     refine zdof 32 ?_
     refine zdof 33 ?_
     refine zdof 34 ?_
     refine zdof 35 ?_
     refine zdof 36 ?_
     refine zdof 37 ?_
     refine zdv 38 (fun _ => xpf) ?_
     refine zdv 39 (fun _ => xmv) ?_
     refine zdof 40 ?_
     refine zdof 41 ?_
     refine zdof 42 ?_
     refine zdof 43 ?_
     refine zdv 44 (fun _ => xpf) ?_
     refine zdv 45 (fun _ => xmv) ?_
     refine zdof 46 ?_
     refine zdof 47 ?_
     refine zdof 48 ?_
     refine zdof 49 ?_
     refine zdof 50 ?_
     refine zdof 51 ?_
     refine zdof 52 ?_
     refine zdof 53 ?_
     refine zdof 54 ?_
     refine zdv 55 (fun _ => xpf) ?_
     refine zdv 56 (fun _ => xmv) ?_
     refine zdof 57 ?_
     refine zdof 58 ?_
     refine zdof 59 ?_
     refine zdof 60 ?_
     refine zdof 61 ?_
     refine zdof 62 ?_
     refine zdof 63 ?_
     refine zdof 64 ?_
     refine zdv 65 (fun _ => xpf) ?_
     refine zdv 66 (fun _ => xmv) ?_
     refine zdof 67 ?_
     refine zdof 68 ?_
     refine zdof 69 ?_
     refine zdv 70 (fun _ => xpf) ?_
     refine zdv 71 (fun _ => xas) ?_
     refine zdd <| ztn <| zrt <| zf1 ⟨_, rfl, ?_⟩
     exact absurd ‹_› (by first | omega | exact not_not_intro eC)
    refine zdof 16 ?_
    refine zdof 17 ?_
    refine zdof 18 ?_
    refine zdof 19 ?_
    refine zdv 20 (fun _ => xpf) ?_
    refine zdv 21 (fun _ => xmv) ?_
    refine zdof 22 ?_
    refine zdof 23 ?_
    refine zdof 24 ?_
    refine zdof 25 ?_
    refine zdof 26 ?_
    refine zdof 27 ?_
    refine zdof 28 ?_
    refine zdv 29 (fun _ => xpf) ?_
    refine zdv 30 (fun _ => xmv) ?_
    refine zdof 31 ?_
    refine zdof 32 ?_
    refine zdof 33 ?_
    refine zdof 34 ?_
    refine zdof 35 ?_
    refine zdof 36 ?_
    refine zdof 37 ?_
    refine zdv 38 (fun _ => xpf) ?_
    refine zdv 39 (fun _ => xmv) ?_
    refine zdof 40 ?_
    refine zdof 41 ?_
    refine zdof 42 ?_
    refine zdof 43 ?_
    refine zdv 44 (fun _ => xpf) ?_
    refine zdv 45 (fun _ => xmv) ?_
    refine zdof 46 ?_
    refine zdof 47 ?_
    refine zdof 48 ?_
    refine zdof 49 ?_
    refine zdof 50 ?_
    refine zdof 51 ?_
    refine zdof 52 ?_
    refine zdof 53 ?_
    refine zdof 54 ?_
    refine zdv 55 (fun _ => xpf) ?_
    refine zdv 56 (fun _ => xmv) ?_
    refine zdof 57 ?_
    refine zdof 58 ?_
    refine zdof 59 ?_
    refine zdof 60 ?_
    refine zdof 61 ?_
    refine zdof 62 ?_
    refine zdof 63 ?_
    refine zdof 64 ?_
    refine zdv 65 (fun _ => xpf) ?_
    refine zdv 66 (fun _ => xmv) ?_
    refine zdof 67 ?_
    refine zdof 68 ?_
    refine zdof 69 ?_
    refine zdv 70 (fun _ => xpf) ?_
    refine zdv 71 (fun _ => xas) ?_
    refine zdd <| ztn <| zrt <| zf1 ⟨_, rfl, ?_⟩
    exact absurd ‹_› (by first | omega | exact not_not_intro eC)
   refine zdof 8 ?_
   refine zdof 9 ?_
   refine zdof 10 ?_
   refine zdof 11 ?_
   refine zdof 12 ?_
   refine zdof 13 ?_
   refine zdv 14 (fun _ => xpf) ?_
   refine zdv 15 (fun _ => xmv) ?_
   refine zdof 16 ?_
   refine zdof 17 ?_
   refine zdof 18 ?_
   refine zdof 19 ?_
   refine zdv 20 (fun _ => xpf) ?_
   refine zdv 21 (fun _ => xmv) ?_
   refine zdof 22 ?_
   refine zdof 23 ?_
   refine zdof 24 ?_
   refine zdof 25 ?_
   refine zdof 26 ?_
   refine zdof 27 ?_
   refine zdof 28 ?_
   refine zdv 29 (fun _ => xpf) ?_
   refine zdv 30 (fun _ => xmv) ?_
   refine zdof 31 ?_
   refine zdof 32 ?_
   refine zdof 33 ?_
   refine zdof 34 ?_
   refine zdof 35 ?_
   refine zdof 36 ?_
   refine zdof 37 ?_
   refine zdv 38 (fun _ => xpf) ?_
   refine zdv 39 (fun _ => xmv) ?_
   refine zdof 40 ?_
   refine zdof 41 ?_
   refine zdof 42 ?_
   refine zdof 43 ?_
   refine zdv 44 (fun _ => xpf) ?_
   refine zdv 45 (fun _ => xmv) ?_
   refine zdof 46 ?_
   refine zdof 47 ?_
   refine zdof 48 ?_
   refine zdof 49 ?_
   refine zdof 50 ?_
   refine zdof 51 ?_
   refine zdof 52 ?_
   refine zdof 53 ?_
   refine zdof 54 ?_
   refine zdv 55 (fun _ => xpf) ?_
   refine zdv 56 (fun _ => xmv) ?_
   refine zdof 57 ?_
   refine zdof 58 ?_
   refine zdof 59 ?_
   refine zdof 60 ?_
   refine zdof 61 ?_
   refine zdof 62 ?_
   refine zdof 63 ?_
   refine zdof 64 ?_
   refine zdv 65 (fun _ => xpf) ?_
   refine zdv 66 (fun _ => xmv) ?_
   refine zdof 67 ?_
   refine zdof 68 ?_
   refine zdof 69 ?_
   refine zdv 70 (fun _ => xpf) ?_
   refine zdv 71 (fun _ => xas) ?_
   refine zdd <| ztn <| zrt <| zf1 ⟨_, rfl, ?_⟩
   exact absurd ‹_› (by first | omega | exact not_not_intro eC)
  refine zdof 3 ?_
  refine zdof 4 ?_
  refine zdof 5 ?_
  refine zdv 6 (fun _ => xpf) ?_
  refine zdv 7 (fun _ => xmv) ?_
  refine zdof 8 ?_
  refine zdof 9 ?_
  refine zdof 10 ?_
  refine zdof 11 ?_
  refine zdof 12 ?_
  refine zdof 13 ?_
  refine zdv 14 (fun _ => xpf) ?_
  refine zdv 15 (fun _ => xmv) ?_
  refine zdof 16 ?_
  refine zdof 17 ?_
  refine zdof 18 ?_
  refine zdof 19 ?_
  refine zdv 20 (fun _ => xpf) ?_
  refine zdv 21 (fun _ => xmv) ?_
  refine zdof 22 ?_
  refine zdof 23 ?_
  refine zdof 24 ?_
  refine zdof 25 ?_
  refine zdof 26 ?_
  refine zdof 27 ?_
  refine zdof 28 ?_
  refine zdv 29 (fun _ => xpf) ?_
  refine zdv 30 (fun _ => xmv) ?_
  refine zdof 31 ?_
  refine zdof 32 ?_
  refine zdof 33 ?_
  refine zdof 34 ?_
  refine zdof 35 ?_
  refine zdof 36 ?_
  refine zdof 37 ?_
  refine zdv 38 (fun _ => xpf) ?_
  refine zdv 39 (fun _ => xmv) ?_
  refine zdof 40 ?_
  refine zdof 41 ?_
  refine zdof 42 ?_
  refine zdof 43 ?_
  refine zdv 44 (fun _ => xpf) ?_
  refine zdv 45 (fun _ => xmv) ?_
  refine zdof 46 ?_
  refine zdof 47 ?_
  refine zdof 48 ?_
  refine zdof 49 ?_
  refine zdof 50 ?_
  refine zdof 51 ?_
  refine zdof 52 ?_
  refine zdof 53 ?_
  refine zdof 54 ?_
  refine zdv 55 (fun _ => xpf) ?_
  refine zdv 56 (fun _ => xmv) ?_
  refine zdof 57 ?_
  refine zdof 58 ?_
  refine zdof 59 ?_
  refine zdof 60 ?_
  refine zdof 61 ?_
  refine zdof 62 ?_
  refine zdof 63 ?_
  refine zdof 64 ?_
  refine zdv 65 (fun _ => xpf) ?_
  refine zdv 66 (fun _ => xmv) ?_
  refine zdof 67 ?_
  refine zdof 68 ?_
  refine zdof 69 ?_
  refine zdv 70 (fun _ => xpf) ?_
  refine zdv 71 (fun _ => xas) ?_
  refine zdd <| ztn <| zrt <| zf1 ⟨_, rfl, ?_⟩
  exact absurd ‹_› (by first | omega | exact not_not_intro eC)

end Go.Proofs.Ytkcmbndnhcofpaa
