/- The walks of the dual feasible functions, of rectbound and of its reference. -/
import Derived.Test.YtmlfpniaknmmfaaGv
import Derived.Test.YtmlfpniaknmmfaaProg
import Derived.Test.YtmlfpniaknmmfaaFb
namespace Go.Proofs.Ytmlfpniaknmmfaa
open Go Go.RowKit Go.Proofs.Gw
set_option linter.unusedVariables false

theorem cl_24 : calledT Try.prog 24 = true := by kernel_rfl
theorem cl_27 : calledT Try.prog 27 = true := by kernel_rfl
theorem cl_32 : calledT Try.prog 32 = true := by kernel_rfl
theorem cl_33 : calledT Try.prog 33 = true := by kernel_rfl
theorem fd_105_0 : fieldT Try.prog 105 0 = some 0 := by kernel_rfl
theorem fd_106_0 : fieldT Try.prog 106 0 = some 0 := by kernel_rfl
theorem fd_107_0 : fieldT Try.prog 107 0 = some 0 := by kernel_rfl
theorem fd_26_0 : fieldT Try.prog 26 0 = some 0 := by kernel_rfl
theorem fd_26_1 : fieldT Try.prog 26 1 = some 1 := by kernel_rfl
theorem fd_34_0 : fieldT Try.prog 34 0 = some 0 := by kernel_rfl
theorem fd_34_1 : fieldT Try.prog 34 1 = some 1 := by kernel_rfl
theorem pl_3 : plainT Try.prog 3 = true := by kernel_rfl
theorem st_26 : structT Try.prog 26 = some 2 := by kernel_rfl
theorem st_34 : structT Try.prog 34 = some 2 := by kernel_rfl
theorem c_in {n lo hi : Int} (w0 : World) :
    Calls Try.prog 32 [.int .i64 n, .int .i64 lo, .int .i64 hi].toArray w0 fun e w => ∃ v, e = .returned v ∧ v = B (lo ≤ n ∧ n ≤ hi) ∧ Sat w0 w [] := by
  refine zenG Try.func32 Try.ntmps32 fun w hS => ?_
  refine zsr ?_
  refine zlv xas ?_
  refine zlz ?_
  refine zs4 ?_
  refine zlb 10 ?_ ?_ <;> intro hc
  ·
   refine zs5 ?_
   refine zlt <| zrt <| zf1 ⟨_, rfl, ?_⟩
   exact ⟨B_congr (by omega), hS⟩
  iterate 3 refine zlo ?_
  refine zs2 ?_
  refine zlt <| zrt <| zf1 ⟨_, rfl, ?_⟩
  exact ⟨false_B (by omega), hS⟩

theorem v_plain {k c : Int} (w0 : World) (hc : 0 ≤ c) (hc2 : c ≤ 1000000) :
    Calls Try.prog 81 [.agg #[.int .i64 k], .int .i64 c].toArray w0 fun e w => ∃ v, e = .returned v ∧ v = B (okF 0 k c) ∧ Sat w0 w [] := by
  refine zenG Try.func81 Try.ntmps81 fun w hS => ?_
  refine zsr ?_
  refine zla (xbx (cs := [_]) hS) ?_; rintro _ w ⟨g1, rfl, hS⟩
  replace hS := hS.n1
  refine zlv xas ?_
  refine zlz ?_
  refine zlv (xfb 0 fd_105_0) ?_
  refine zlv (xlb 0 pl_3 hS) ?_
  refine zs2 ?_
  refine zlt <| zrt <| zf1 ⟨_, rfl, ?_⟩
  exact ⟨B_congr (by unfold okF; omega), hS.nl⟩

theorem v_steps {k c : Int} (w0 : World) (hc : 0 ≤ c) (hc2 : c ≤ 1000000) :
    Calls Try.prog 83 [.agg #[.int .i64 k], .int .i64 c].toArray w0 fun e w => ∃ v, e = .returned v ∧ v = B (okF 1 k c) ∧ Sat w0 w [] := by
  refine zenG Try.func83 Try.ntmps83 fun w hS => ?_
  refine zsr ?_
  refine zla (xbx (cs := [_]) hS) ?_; rintro _ w ⟨g1, rfl, hS⟩
  replace hS := hS.n1
  refine zlv xas ?_
  refine zlz ?_
  refine zlv (xfb 0 fd_106_0) ?_
  refine zlv (xlb 0 pl_3 hS) ?_
  refine zlc (xc0 cl_32) (c_in w) ?_; rintro _ w ⟨rfl, hS'⟩
  replace hS := hS.cmp hS'; clear hS'
  refine zlv xas ?_
  refine zlt <| zrt <| zf1 ⟨_, rfl, ?_⟩
  exact ⟨B_congr (by unfold okF; omega), hS.nl⟩

theorem v_cut {k c : Int} (w0 : World) (hc : 0 ≤ c) (hc2 : c ≤ 1000000) :
    Calls Try.prog 85 [.agg #[.int .i64 k], .int .i64 c].toArray w0 fun e w => ∃ v, e = .returned v ∧ v = B (okF 2 k c) ∧ Sat w0 w [] := by
  have hh := half_facts hc
  refine zenG Try.func85 Try.ntmps85 fun w hS => ?_
  refine zsr ?_
  refine zla (xbx (cs := [_]) hS) ?_; rintro _ w ⟨g1, rfl, hS⟩
  replace hS := hS.n1
  refine zlv xas ?_
  refine zlz ?_
  refine zlv (xfb 0 fd_107_0) ?_
  refine zlv (xlb 0 pl_3 hS) ?_
  refine zlv xmv ?_
  refine zlv (xquo (r := (Int.tdiv c 2)) (hn := (by omega)) (hr := (by unfold I64; omega))) ?_
  refine zlc (xc0 cl_32) (c_in w) ?_; rintro _ w ⟨rfl, hS'⟩
  replace hS := hS.cmp hS'; clear hS'
  refine zlv xas ?_
  refine zlt <| zrt <| zf1 ⟨_, rfl, ?_⟩
  exact ⟨B_congr (by unfold okF; omega), hS.nl⟩

theorem a_plain {k x c : Int} (w0 : World) (hk : okF 0 k c) (hx : 0 ≤ x) (hxc : x ≤ c) (hc : 1 ≤ c) (hc2 : c ≤ 4000) :
    Calls Try.prog 82 [.agg #[.int .i64 k], .int .i64 x, .int .i64 c].toArray w0 fun e w => ∃ v, e = .returned v ∧ v = .int .i64 (dfv 0 k x c) ∧ Sat w0 w [] := by
  refine zenG Try.func82 Try.ntmps82 fun w hS => ?_
  refine zsr ?_
  refine zla (xbx (cs := [_]) hS) ?_; rintro _ w ⟨g1, rfl, hS⟩
  replace hS := hS.n1
  refine zlv xas ?_
  refine zlz ?_
  refine zs2 ?_
  refine zlt <| zrt <| zf1 ⟨_, rfl, ?_⟩
  first
  | exact ⟨congrArg (Value.int .i64) (dfv0).symm, hS.nl⟩

theorem a_steps {k x c : Int} (w0 : World) (hk : okF 1 k c) (hx : 0 ≤ x) (hxc : x ≤ c) (hc : 1 ≤ c) (hc2 : c ≤ 4000) :
    Calls Try.prog 84 [.agg #[.int .i64 k], .int .i64 x, .int .i64 c].toArray w0 fun e w => ∃ v, e = .returned v ∧ v = .int .i64 (dfv 1 k x c) ∧ Sat w0 w [] := by
  have hs := step_facts (k := k) (by unfold okF at hk; omega) hx hxc hc hc2; have hk2 : 1 ≤ k ∧ k ≤ 100 := by unfold okF at hk; omega
  refine zenG Try.func84 Try.ntmps84 fun w hS => ?_
  refine zsr ?_
  refine zla (xbx (cs := [_]) hS) ?_; rintro _ w ⟨g1, rfl, hS⟩
  replace hS := hS.n1
  refine zlv xas ?_
  refine zlt <| zsq <| zsr ?_
  refine zlv (xfb 0 fd_106_0) ?_
  refine zlv (xlb 0 pl_3 hS) ?_
  refine zlv (xadd (r := k + 1)) ?_
  refine zlv xmv ?_
  refine zlv (xmul (r := ((k + 1) * x)) (e := rfl) (hr := (by unfold I64; omega))) ?_
  refine zlv xmv ?_
  refine zlv (xrem (r := (Int.tmod ((k + 1) * x) c)) (hn := (by omega))) ?_
  refine zlv xeql ?_
  refine zlt ?_
  refine zcif ?_ ?_ <;> intro hc
  ·
   refine zsr ?_
   refine zlv (xfb 0 fd_106_0) ?_
   refine zlv (xlb 0 pl_3 hS) ?_
   refine zlv xmv ?_
   refine zlv (xmul (r := (k * x)) (e := rfl) (hr := (by unfold I64; omega))) ?_
   refine zlv xas ?_
   refine zlt <| zrt <| ztr <| zf1 ⟨_, rfl, ?_⟩
   first
   | exact ⟨congrArg (Value.int .i64) (dfv1a ‹_›).symm, hS.nl⟩
   | exact ⟨congrArg (Value.int .i64) (dfv1b ‹_›).symm, hS.nl⟩
  refine zsk <| ztn <| zsr ?_
  refine zlv (xfb 0 fd_106_0) ?_
  refine zlv (xlb 0 pl_3 hS) ?_
  refine zlv (xadd (r := k + 1)) ?_
  refine zlv xmv ?_
  refine zlv (xmul (r := ((k + 1) * x)) (e := rfl) (hr := (by unfold I64; omega))) ?_
  refine zlv xmv ?_
  refine zlv (xquo (r := (Int.tdiv ((k + 1) * x) c)) (hn := (by omega)) (hr := (by unfold I64; omega))) ?_
  refine zlv xmv ?_
  refine zlv (xmul (r := ((Int.tdiv ((k + 1) * x) c) * c)) (e := rfl) (hr := (by unfold I64; omega))) ?_
  refine zlv xas ?_
  refine zlt <| zrt <| zf1 ⟨_, rfl, ?_⟩
  first
  | exact ⟨congrArg (Value.int .i64) (dfv1a ‹_›).symm, hS.nl⟩
  | exact ⟨congrArg (Value.int .i64) (dfv1b ‹_›).symm, hS.nl⟩

theorem a_cut {k x c : Int} (w0 : World) (hk : okF 2 k c) (hx : 0 ≤ x) (hxc : x ≤ c) (hc : 1 ≤ c) (hc2 : c ≤ 4000) :
    Calls Try.prog 86 [.agg #[.int .i64 k], .int .i64 x, .int .i64 c].toArray w0 fun e w => ∃ v, e = .returned v ∧ v = .int .i64 (dfv 2 k x c) ∧ Sat w0 w [] := by
  have hh := half_facts (show 0 ≤ c by omega); have hk2 : 1 ≤ k ∧ k ≤ c.tdiv 2 := by unfold okF at hk; omega
  refine zenG Try.func86 Try.ntmps86 fun w hS => ?_
  refine zsr ?_
  refine zla (xbx (cs := [_]) hS) ?_; rintro _ w ⟨g1, rfl, hS⟩
  replace hS := hS.n1
  refine zlv xas ?_
  refine zlt <| zsq <| zbk <| zsr ?_
  refine zs2 ?_
  refine zlv (xfb 0 fd_107_0) ?_
  refine zlv (xlb 0 pl_3 hS) ?_
  refine zlv (xsub (r := c - k)) ?_
  refine zs2 ?_
  refine zlt ?_
  refine zcif ?_ ?_ <;> intro hc
  ·
   refine zsr ?_
   refine zs2 ?_
   refine zlt <| zrt <| zbr <| ztr <| zf1 ⟨_, rfl, ?_⟩
   first
   | exact ⟨congrArg (Value.int .i64) (dfv2a (by omega)).symm, hS.nl⟩
   | exact ⟨congrArg (Value.int .i64) (dfv2b (by omega) (by omega)).symm, hS.nl⟩
   | exact ⟨congrArg (Value.int .i64) (dfv2c (by omega) (by omega)).symm, hS.nl⟩
  refine zsr ?_
  refine zlv xmv ?_
  refine zlv (xfb 0 fd_107_0) ?_
  refine zlv (xlb 0 pl_3 hS) ?_
  refine zs2 ?_
  refine zlt ?_
  refine zcif ?_ ?_ <;> intro hc
  ·
   refine zsr ?_
   refine zlv xas ?_
   refine zlt <| zrt <| zbr <| ztr <| zf1 ⟨_, rfl, ?_⟩
   first
   | exact ⟨congrArg (Value.int .i64) (dfv2a (by omega)).symm, hS.nl⟩
   | exact ⟨congrArg (Value.int .i64) (dfv2b (by omega) (by omega)).symm, hS.nl⟩
   | exact ⟨congrArg (Value.int .i64) (dfv2c (by omega) (by omega)).symm, hS.nl⟩
  refine zsk <| zbn <| ztn <| zsr ?_
  refine zs2 ?_
  refine zlt <| zrt <| zf1 ⟨_, rfl, ?_⟩
  first
  | exact ⟨congrArg (Value.int .i64) (dfv2a (by omega)).symm, hS.nl⟩
  | exact ⟨congrArg (Value.int .i64) (dfv2b (by omega) (by omega)).symm, hS.nl⟩
  | exact ⟨congrArg (Value.int .i64) (dfv2c (by omega) (by omega)).symm, hS.nl⟩

theorem m_plain_valid : methodT Try.prog 105 "fretsaw/rectbound.valid" 81 := fun v args w => by kernel_rfl
theorem m_plain_value : methodT Try.prog 105 "fretsaw/rectbound.value" 82 := fun v args w => by kernel_rfl
theorem dual_plain {k : Int} : DualV Try.prog 105 (.agg #[.int .i64 k]) 0 k :=
  ⟨⟨81, m_plain_valid, fun c w0 hc hc2 => v_plain w0 hc hc2⟩, ⟨82, m_plain_value, fun x c w0 hk hx hxc hc hc2 => a_plain w0 hk hx hxc hc hc2⟩⟩

theorem m_steps_valid : methodT Try.prog 106 "fretsaw/rectbound.valid" 83 := fun v args w => by kernel_rfl
theorem m_steps_value : methodT Try.prog 106 "fretsaw/rectbound.value" 84 := fun v args w => by kernel_rfl
theorem dual_steps {k : Int} : DualV Try.prog 106 (.agg #[.int .i64 k]) 1 k :=
  ⟨⟨83, m_steps_valid, fun c w0 hc hc2 => v_steps w0 hc hc2⟩, ⟨84, m_steps_value, fun x c w0 hk hx hxc hc hc2 => a_steps w0 hk hx hxc hc hc2⟩⟩

theorem m_cut_valid : methodT Try.prog 107 "fretsaw/rectbound.valid" 85 := fun v args w => by kernel_rfl
theorem m_cut_value : methodT Try.prog 107 "fretsaw/rectbound.value" 86 := fun v args w => by kernel_rfl
theorem dual_cut {k : Int} : DualV Try.prog 107 (.agg #[.int .i64 k]) 2 k :=
  ⟨⟨85, m_cut_valid, fun c w0 hc hc2 => v_cut w0 hc hc2⟩, ⟨86, m_cut_value, fun x c w0 hk hx hxc hc hc2 => a_cut w0 hk hx hxc hc hc2⟩⟩

theorem c_dual {kind k : Int} (w0 : World) (h0 : 0 ≤ kind) (h2 : kind ≤ 2) :
    Calls Try.prog 33 [.agg #[.int .i64 kind, .int .i64 k]].toArray w0 fun e w => ∃ v, e = .returned v ∧ ∃ t u, v = .iface t u ∧ DualV Try.prog t u kind k ∧ Sat w0 w [] := by
  refine zenG Try.func33 Try.ntmps33 fun w hS => ?_
  refine zsr ?_
  refine zla (xbx (cs := [_, _]) hS) ?_; rintro _ w ⟨g1, rfl, hS⟩
  replace hS := hS.n1
  refine zlv xas ?_
  refine zlt <| zsq <| zsr ?_
  refine zlv (xfb 0 fd_34_0) ?_
  refine zlv (xlb 0 pl_3 hS) ?_
  refine zlt <| zbk <| zsr ?_
  refine zs2 ?_
  refine zlt ?_
  refine zcif ?_ ?_ <;> intro hc
  ·
   refine zsr ?_
   refine zlv (xfb 1 fd_34_1) ?_
   refine zlv (xlb 0 pl_3 hS) ?_
   refine zlv (xany (v := .agg #[.int .i64 k])) ?_
   refine zlvr rfl rfl rfl (ex_mkiface rfl Try.underlying105 rfl rfl) ?_
   refine zlv xas ?_
   refine zlt <| zrt <| zbr <| ztr <| zf1 ⟨_, rfl, ?_⟩
   obtain rfl : kind = 0 := by omega
   exact ⟨_, _, rfl, dual_plain, hS.nl⟩
  refine zsr ?_
  refine zs2 ?_
  refine zlt ?_
  refine zcif ?_ ?_ <;> intro hc
  ·
   refine zsr ?_
   refine zlv (xfb 1 fd_34_1) ?_
   refine zlv (xlb 0 pl_3 hS) ?_
   refine zlv (xany (v := .agg #[.int .i64 k])) ?_
   refine zlvr rfl rfl rfl (ex_mkiface rfl Try.underlying106 rfl rfl) ?_
   refine zlv xas ?_
   refine zlt <| zrt <| zbr <| ztr <| zf1 ⟨_, rfl, ?_⟩
   obtain rfl : kind = 1 := by omega
   exact ⟨_, _, rfl, dual_steps, hS.nl⟩
  refine zsr ?_
  refine zs2 ?_
  refine zlt ?_
  refine zcif ?_ ?_ <;> intro hc
  ·
   refine zsr ?_
   refine zlv (xfb 1 fd_34_1) ?_
   refine zlv (xlb 0 pl_3 hS) ?_
   refine zlv (xany (v := .agg #[.int .i64 k])) ?_
   refine zlvr rfl rfl rfl (ex_mkiface rfl Try.underlying107 rfl rfl) ?_
   refine zlv xas ?_
   refine zlt <| zrt <| zbr <| ztr <| zf1 ⟨_, rfl, ?_⟩
   obtain rfl : kind = 2 := by omega
   exact ⟨_, _, rfl, dual_cut, hS.nl⟩
  refine zsk <| zbn <| ztn <| zsr ?_
  refine zlv xas ?_
  refine zlt <| zrt <| zf1 ⟨_, rfl, ?_⟩
  exfalso; omega

theorem c_dualn {kind k : Int} (w0 : World) (hn : kind < 0 ∨ 2 < kind) :
    Calls Try.prog 33 [.agg #[.int .i64 kind, .int .i64 k]].toArray w0 fun e w => ∃ v, e = .returned v ∧ v = .nilIface ∧ Sat w0 w [] := by
  refine zenG Try.func33 Try.ntmps33 fun w hS => ?_
  refine zsr ?_
  refine zla (xbx (cs := [_, _]) hS) ?_; rintro _ w ⟨g1, rfl, hS⟩
  replace hS := hS.n1
  refine zlv xas ?_
  refine zlt <| zsq <| zsr ?_
  refine zlv (xfb 0 fd_34_0) ?_
  refine zlv (xlb 0 pl_3 hS) ?_
  refine zlt <| zbk <| zsr ?_
  refine zs2 ?_
  refine zlt ?_
  refine zcif ?_ ?_ <;> intro hc
  ·
   refine zsr ?_
   refine zlv (xfb 1 fd_34_1) ?_
   refine zlv (xlb 0 pl_3 hS) ?_
   refine zlv (xany (v := .agg #[.int .i64 k])) ?_
   refine zlvr rfl rfl rfl (ex_mkiface rfl Try.underlying105 rfl rfl) ?_
   refine zlv xas ?_
   refine zlt <| zrt <| zbr <| ztr <| zf1 ⟨_, rfl, ?_⟩
   exfalso; omega
  refine zsr ?_
  refine zs2 ?_
  refine zlt ?_
  refine zcif ?_ ?_ <;> intro hc
  ·
   refine zsr ?_
   refine zlv (xfb 1 fd_34_1) ?_
   refine zlv (xlb 0 pl_3 hS) ?_
   refine zlv (xany (v := .agg #[.int .i64 k])) ?_
   refine zlvr rfl rfl rfl (ex_mkiface rfl Try.underlying106 rfl rfl) ?_
   refine zlv xas ?_
   refine zlt <| zrt <| zbr <| ztr <| zf1 ⟨_, rfl, ?_⟩
   exfalso; omega
  refine zsr ?_
  refine zs2 ?_
  refine zlt ?_
  refine zcif ?_ ?_ <;> intro hc
  ·
   refine zsr ?_
   refine zlv (xfb 1 fd_34_1) ?_
   refine zlv (xlb 0 pl_3 hS) ?_
   refine zlv (xany (v := .agg #[.int .i64 k])) ?_
   refine zlvr rfl rfl rfl (ex_mkiface rfl Try.underlying107 rfl rfl) ?_
   refine zlv xas ?_
   refine zlt <| zrt <| zbr <| ztr <| zf1 ⟨_, rfl, ?_⟩
   exfalso; omega
  refine zsk <| zbn <| ztn <| zsr ?_
  refine zlv xas ?_
  refine zlt <| zrt <| zf1 ⟨_, rfl, ?_⟩
  exact ⟨rfl, hS.nl⟩

theorem c_fvalid1 {kind k c : Int} (w0 : World) (h0 : 0 ≤ kind) (h2 : kind ≤ 2) (hc : 0 ≤ c) (hc2 : c ≤ 1000000) :
    Calls Try.prog 24 [.agg #[.int .i64 kind, .int .i64 k], .int .i64 c].toArray w0 fun e w => ∃ v, e = .returned v ∧ v = B (okF kind k c) ∧ Sat w0 w [] := by
  refine zenG Try.func24 Try.ntmps24 fun w hS => ?_
  refine zsr ?_
  refine zla (xbx (cs := [_, _]) hS) ?_; rintro _ w ⟨g1, rfl, hS⟩
  replace hS := hS.n1
  refine zlv xas ?_
  refine zlz ?_
  refine zlv (xls 0 st_34 hS) ?_
  refine zlc (xc0 cl_33) (c_dual (kind := kind) (k := k) w (by omega) (by omega)) ?_; rintro _ w ⟨td1, ud1, rfl, ⟨⟨fvd1, hmvd1, hcvd1⟩, ⟨fad1, hmad1, hcad1⟩⟩, hS'⟩
  replace hS := hS.cmp hS'; clear hS'
  refine zlv xas ?_
  refine zlz ?_
  refine zlv xmv ?_
  refine zlvr rfl rfl rfl (ex_neq_nil_t rfl Try.underlying88 rfl rfl) ?_
  refine zs3 ?_
  refine zlc (xiv hmvd1) (hcvd1 c w (by omega) (by omega)) ?_; rintro _ w ⟨rfl, hS'⟩
  replace hS := hS.cmp hS'; clear hS'
  refine zs2 ?_
  refine zlt <| zrt <| zf1 ⟨_, rfl, ?_⟩
  exact ⟨B_congr (by exact Iff.rfl), hS.nl⟩

theorem c_fvalid2 {kind k c : Int} (w0 : World) (hn : kind < 0 ∨ 2 < kind) :
    Calls Try.prog 24 [.agg #[.int .i64 kind, .int .i64 k], .int .i64 c].toArray w0 fun e w => ∃ v, e = .returned v ∧ v = B (okF kind k c) ∧ Sat w0 w [] := by
  refine zenG Try.func24 Try.ntmps24 fun w hS => ?_
  refine zsr ?_
  refine zla (xbx (cs := [_, _]) hS) ?_; rintro _ w ⟨g1, rfl, hS⟩
  replace hS := hS.n1
  refine zlv xas ?_
  refine zlz ?_
  refine zlv (xls 0 st_34 hS) ?_
  refine zlc (xc0 cl_33) (c_dualn w (by omega)) ?_; rintro _ w ⟨rfl, hS'⟩
  replace hS := hS.cmp hS'; clear hS'
  refine zlv xas ?_
  refine zlz ?_
  refine zlv xmv ?_
  refine zlvr rfl rfl rfl (ex_neq_nil_f rfl Try.underlying88 rfl) ?_
  refine zlv xmv ?_
  iterate 3 refine zlo ?_
  refine zs2 ?_
  refine zlt <| zrt <| zf1 ⟨_, rfl, ?_⟩
  exact ⟨false_B (by unfold okF; omega), hS.nl⟩

theorem c_fvalid {kind k c : Int} (w0 : World) (hc : 0 ≤ c) (hc2 : c ≤ 1000000) : Calls Try.prog 24 [.agg #[.int .i64 kind, .int .i64 k], .int .i64 c].toArray w0 fun e w => ∃ v, e = .returned v ∧ v = B (okF kind k c) ∧ Sat w0 w [] := by
  by_cases h : 0 ≤ kind ∧ kind ≤ 2
  · exact c_fvalid1 w0 h.1 h.2 hc hc2
  · exact c_fvalid2 w0 (by omega)

set_option maxRecDepth 20000 in
theorem c_apply {kind k x c : Int} (w0 : World) (hx : (-9223372036854775808 ≤ x ∧ x ≤ 9223372036854775807)) (hc : (-9223372036854775808 ≤ c ∧ c ≤ 9223372036854775807)) :
    Calls Try.prog 21 [.agg #[.int .i64 kind, .int .i64 k], .int .i64 x, .int .i64 c].toArray w0 fun e w => ∃ v, e = .returned v ∧ ∃ a e, v = .tuple #[.int .i64 a, .int .i64 e] ∧ ApplyR kind k x c a e ∧ Sat w0 w [] := by
  refine zenG Try.func21 Try.ntmps21 fun w hS => ?_
  refine zsr ?_
  refine zla (xbx (cs := [_, _]) hS) ?_; rintro _ w ⟨g1, rfl, hS⟩
  replace hS := hS.n1
  refine zs2 ?_
  refine zlt <| zsq <| zsr ?_
  refine zlv xmv ?_
  refine zlc (xc0 cl_32) (c_in w) ?_; rintro _ w ⟨rfl, hS'⟩
  replace hS := hS.cmp hS'; clear hS'
  refine zs2 ?_
  refine zlb 11 ?_ ?_ <;> intro hc
  ·
   iterate 4 refine zlo ?_
   refine zs2 ?_
   iterate 4 refine zlo ?_
   refine zlv xpt ?_
   refine zlt <| zct <| zsr ?_
   refine zs2 ?_
   refine zlt <| zrt <| ztr <| zf2 ⟨_, rfl, ?_⟩
   exact ⟨0, 1, rfl, .inr ⟨by rintro ⟨h1, h2, h3, h4⟩; first | omega | exact absurd h3 ‹_›, rfl, rfl⟩, hS.nl⟩
  refine zlv (xls 0 st_34 hS) ?_
  refine zlv xmv ?_
  refine zlc (xc0 cl_24) (c_fvalid (kind := kind) (k := k) (c := c) w (by omega) (by omega)) ?_; rintro _ w ⟨rfl, hS'⟩
  replace hS := hS.cmp hS'; clear hS'
  refine zs3 ?_
  refine zlb 17 ?_ ?_ <;> intro hc
  ·
   iterate 4 refine zlo ?_
   refine zlv xpt ?_
   refine zlt <| zct <| zsr ?_
   refine zs2 ?_
   refine zlt <| zrt <| ztr <| zf2 ⟨_, rfl, ?_⟩
   exact ⟨0, 1, rfl, .inr ⟨by rintro ⟨h1, h2, h3, h4⟩; first | omega | exact absurd h3 ‹_›, rfl, rfl⟩, hS.nl⟩
  refine zs2 ?_
  refine zlc (xc0 cl_32) (c_in w) ?_; rintro _ w ⟨rfl, hS'⟩
  replace hS := hS.cmp hS'; clear hS'
  refine zs2 ?_
  refine zlt ?_
  refine zcif ?_ ?_ <;> intro hc
  ·
   refine zsr ?_
   refine zs2 ?_
   refine zlt <| zrt <| ztr <| zf2 ⟨_, rfl, ?_⟩
   exact ⟨0, 1, rfl, .inr ⟨by rintro ⟨h1, h2, h3, h4⟩; first | omega | exact absurd h3 ‹_›, rfl, rfl⟩, hS.nl⟩
  refine zsk <| ztn <| zsr ?_
  refine zlv (xls 0 st_34 hS) ?_
  have hok := (Classical.not_not.1 ‹¬ ¬ (okF kind k c)›); have hkd : 0 ≤ kind ∧ kind ≤ 2 := by unfold okF at hok; omega
  refine zlc (xc0 cl_33) (c_dual (kind := kind) (k := k) w (by omega) (by omega)) ?_; rintro _ w ⟨td1, ud1, rfl, ⟨⟨fvd1, hmvd1, hcvd1⟩, ⟨fad1, hmad1, hcad1⟩⟩, hS'⟩
  replace hS := hS.cmp hS'; clear hS'
  refine zs2 ?_
  refine zlc (xiv hmad1) (hcad1 x c w hok (by omega) (by omega) (by omega) (by omega)) ?_; rintro _ w ⟨rfl, hS'⟩
  replace hS := hS.cmp hS'; clear hS'
  refine zs2 ?_
  refine zlt <| zrt <| zf2 ⟨_, rfl, ?_⟩
  exact ⟨_, 0, rfl, .inl ⟨by omega, by omega, hok, by omega, by omega, rfl, rfl⟩, hS.nl⟩

theorem c_rvalid {kind k c : Int} (w0 : World) (hc : 0 ≤ c) (hc2 : c ≤ 1000000) :
    Calls Try.prog 27 [.agg #[.int .i64 kind, .int .i64 k], .int .i64 c].toArray w0 fun e w => ∃ v, e = .returned v ∧ v = B (okF kind k c) ∧ Sat w0 w [] := by
  have hh := half_facts hc
  refine zenG Try.func27 Try.ntmps27 fun w hS => ?_
  refine zsr ?_
  refine zla (xbx (cs := [_, _]) hS) ?_; rintro _ w ⟨g1, rfl, hS⟩
  replace hS := hS.n1
  refine zlv xas ?_
  refine zlt <| zsq <| zsr ?_
  refine zlv (xfb 0 fd_26_0) ?_
  refine zlv (xlb 0 pl_3 hS) ?_
  refine zlt <| zbk <| zsr ?_
  refine zs2 ?_
  refine zlt ?_
  refine zcif ?_ ?_ <;> intro hc
  ·
   refine zsr ?_
   refine zlv (xfb 1 fd_26_1) ?_
   refine zlv (xlb 0 pl_3 hS) ?_
   refine zs2 ?_
   refine zlt <| zrt <| zbr <| ztr <| zf1 ⟨_, rfl, ?_⟩
   exact ⟨B_congr (by unfold okF; omega), hS.nl⟩
  refine zsr ?_
  refine zs2 ?_
  refine zlt ?_
  refine zcif ?_ ?_ <;> intro hc
  ·
   refine zsr ?_
   refine zlv (xfb 1 fd_26_1) ?_
   refine zlv (xlb 0 pl_3 hS) ?_
   refine zs2 ?_
   refine zlb 17 ?_ ?_ <;> intro hc
   ·
    refine zlv (xfb 1 fd_26_1) ?_
    refine zlv (xlb 0 pl_3 hS) ?_
    refine zs3 ?_
    refine zlt <| zrt <| zbr <| ztr <| zf1 ⟨_, rfl, ?_⟩
    exact ⟨B_congr (by unfold okF; omega), hS.nl⟩
   iterate 3 refine zlo ?_
   refine zs2 ?_
   refine zlt <| zrt <| zbr <| ztr <| zf1 ⟨_, rfl, ?_⟩
   exact ⟨false_B (by unfold okF; omega), hS.nl⟩
  refine zsr ?_
  refine zs2 ?_
  refine zlt ?_
  refine zcif ?_ ?_ <;> intro hc
  ·
   refine zsr ?_
   refine zlv (xfb 1 fd_26_1) ?_
   refine zlv (xlb 0 pl_3 hS) ?_
   refine zs2 ?_
   refine zlb 27 ?_ ?_ <;> intro hc
   ·
    refine zlv (xfb 1 fd_26_1) ?_
    refine zlv (xlb 0 pl_3 hS) ?_
    refine zlv xmv ?_
    refine zlv (xquo (r := (Int.tdiv c 2)) (hn := (by omega)) (hr := (by unfold I64; omega))) ?_
    refine zs3 ?_
    refine zlt <| zrt <| zbr <| ztr <| zf1 ⟨_, rfl, ?_⟩
    exact ⟨B_congr (by unfold okF; omega), hS.nl⟩
   iterate 5 refine zlo ?_
   refine zs2 ?_
   refine zlt <| zrt <| zbr <| ztr <| zf1 ⟨_, rfl, ?_⟩
   exact ⟨false_B (by unfold okF; omega), hS.nl⟩
  refine zsk <| zbn <| ztn <| zsr ?_
  refine zlv xas ?_
  refine zlt <| zrt <| zf1 ⟨_, rfl, ?_⟩
  exact ⟨false_B (by unfold okF; omega), hS.nl⟩

set_option maxRecDepth 20000 in
theorem c_rapply {kind k x c : Int} (w0 : World) (hx : (-9223372036854775808 ≤ x ∧ x ≤ 9223372036854775807)) (hc : (-9223372036854775808 ≤ c ∧ c ≤ 9223372036854775807)) :
    Calls Try.prog 22 [.agg #[.int .i64 kind, .int .i64 k], .int .i64 x, .int .i64 c].toArray w0 fun e w => ∃ v, e = .returned v ∧ ∃ a e, v = .tuple #[.int .i64 a, .int .i64 e] ∧ ApplyR kind k x c a e ∧ Sat w0 w [] := by
  refine zenG Try.func22 Try.ntmps22 fun w hS => ?_
  refine zsr ?_
  refine zla (xbx (cs := [_, _]) hS) ?_; rintro _ w ⟨g1, rfl, hS⟩
  replace hS := hS.n1
  refine zs2 ?_
  refine zlt <| zsq <| zsr ?_
  refine zs3 ?_
  refine zlb 10 ?_ ?_ <;> intro hc
  ·
   iterate 2 refine zlo ?_
   refine zs2 ?_
   iterate 4 refine zlo ?_
   refine zs2 ?_
   iterate 2 refine zlo ?_
   refine zs2 ?_
   iterate 3 refine zlo ?_
   refine zlv xpt ?_
   refine zlt <| zct <| zsr ?_
   refine zs2 ?_
   refine zlt <| zrt <| ztr <| zf2 ⟨_, rfl, ?_⟩
   exact ⟨0, 1, rfl, .inr ⟨by rintro ⟨h1, h2, h3, h4⟩; first | omega | exact absurd h3 ‹_›, rfl, rfl⟩, hS.nl⟩
  refine zs4 ?_
  refine zlb 14 ?_ ?_ <;> intro hc
  ·
   iterate 4 refine zlo ?_
   refine zs2 ?_
   iterate 2 refine zlo ?_
   refine zs2 ?_
   iterate 3 refine zlo ?_
   refine zlv xpt ?_
   refine zlt <| zct <| zsr ?_
   refine zs2 ?_
   refine zlt <| zrt <| ztr <| zf2 ⟨_, rfl, ?_⟩
   exact ⟨0, 1, rfl, .inr ⟨by rintro ⟨h1, h2, h3, h4⟩; first | omega | exact absurd h3 ‹_›, rfl, rfl⟩, hS.nl⟩
  refine zlv (xls 0 st_26 hS) ?_
  refine zlv xmv ?_
  refine zlc (xc0 cl_27) (c_rvalid (kind := kind) (k := k) (c := c) w (by omega) (by omega)) ?_; rintro _ w ⟨rfl, hS'⟩
  replace hS := hS.cmp hS'; clear hS'
  refine zs3 ?_
  refine zlb 20 ?_ ?_ <;> intro hc
  ·
   iterate 2 refine zlo ?_
   refine zs2 ?_
   iterate 3 refine zlo ?_
   refine zlv xpt ?_
   refine zlt <| zct <| zsr ?_
   refine zs2 ?_
   refine zlt <| zrt <| ztr <| zf2 ⟨_, rfl, ?_⟩
   exact ⟨0, 1, rfl, .inr ⟨by rintro ⟨h1, h2, h3, h4⟩; first | omega | exact absurd h3 ‹_›, rfl, rfl⟩, hS.nl⟩
  refine zs4 ?_
  refine zlb 24 ?_ ?_ <;> intro hc
  ·
   iterate 3 refine zlo ?_
   refine zlv xpt ?_
   refine zlt <| zct <| zsr ?_
   refine zs2 ?_
   refine zlt <| zrt <| ztr <| zf2 ⟨_, rfl, ?_⟩
   exact ⟨0, 1, rfl, .inr ⟨by rintro ⟨h1, h2, h3, h4⟩; first | omega | exact absurd h3 ‹_›, rfl, rfl⟩, hS.nl⟩
  refine zs4 ?_
  refine zlt ?_
  refine zcif ?_ ?_ <;> intro hc
  ·
   refine zsr ?_
   refine zs2 ?_
   refine zlt <| zrt <| ztr <| zf2 ⟨_, rfl, ?_⟩
   exact ⟨0, 1, rfl, .inr ⟨by rintro ⟨h1, h2, h3, h4⟩; first | omega | exact absurd h3 ‹_›, rfl, rfl⟩, hS.nl⟩
  refine zsk <| ztn <| zsq <| zbk <| zsr ?_
  refine zlv (xfb 0 fd_26_0) ?_
  have hok := (Classical.not_not.1 ‹¬ ¬ (okF kind k c)›); have hok2 := hok; unfold okF at hok2; have hh := half_facts (show 0 ≤ c by omega)
  refine zlv (xlb 0 pl_3 hS) ?_
  refine zs2 ?_
  refine zlt ?_
  refine zcif ?_ ?_ <;> intro hc
  ·
   refine zsr ?_
   refine zs3 ?_
   refine zlt <| zrt <| zbr <| ztr <| zf2 ⟨_, rfl, ?_⟩
   first
   | exact ⟨_, 0, rfl, .inl ⟨by omega, by omega, hok, by omega, by omega, (by obtain rfl : kind = 0 := (by omega); exact dfv0.symm), rfl⟩, hS.nl⟩
   | exact ⟨_, 0, rfl, .inl ⟨by omega, by omega, hok, by omega, by omega, (by obtain rfl : kind = 1 := (by omega); exact (dfv1a ‹_›).symm), rfl⟩, hS.nl⟩
   | exact ⟨_, 0, rfl, .inl ⟨by omega, by omega, hok, by omega, by omega, (by obtain rfl : kind = 1 := (by omega); exact (dfv1b (by omega)).symm), rfl⟩, hS.nl⟩
   | exact ⟨_, 0, rfl, .inl ⟨by omega, by omega, hok, by omega, by omega, (by obtain rfl : kind = 2 := (by omega); exact (dfv2a (by omega)).symm), rfl⟩, hS.nl⟩
   | exact ⟨_, 0, rfl, .inl ⟨by omega, by omega, hok, by omega, by omega, (by obtain rfl : kind = 2 := (by omega); exact (dfv2b (by omega) (by omega)).symm), rfl⟩, hS.nl⟩
   | exact ⟨_, 0, rfl, .inl ⟨by omega, by omega, hok, by omega, by omega, (by obtain rfl : kind = 2 := (by omega); exact (dfv2c (by omega) (by omega)).symm), rfl⟩, hS.nl⟩
  refine zsr ?_
  refine zlv (xfb 0 fd_26_0) ?_
  refine zlv (xlb 0 pl_3 hS) ?_
  refine zs2 ?_
  refine zlb 38 ?_ ?_ <;> intro hc
  ·
   refine zlv (xfb 1 fd_26_1) ?_
   have hs := step_facts (k := k) (by omega) (show 0 ≤ x by omega) (show x ≤ c by omega) (by omega) (by omega)
   refine zlv (xlb 0 pl_3 hS) ?_
   have hs := step_facts (k := k) (by omega) (show 0 ≤ x by omega) (show x ≤ c by omega) (by omega) (by omega)
   refine zlv (xadd (r := k + 1)) ?_
   refine zlv xmv ?_
   refine zlv (xmul (r := ((k + 1) * x)) (e := rfl) (hr := (by unfold I64; omega))) ?_
   refine zlv xmv ?_
   refine zlv (xrem (r := (Int.tmod ((k + 1) * x) c)) (hn := (by omega))) ?_
   refine zs3 ?_
   refine zlt ?_
   refine zcif ?_ ?_ <;> intro hc
   ·
    refine zsr ?_
    refine zlv (xfb 1 fd_26_1) ?_
    refine zlv (xlb 0 pl_3 hS) ?_
    have hs := step_facts (k := k) (by omega) (show 0 ≤ x by omega) (show x ≤ c by omega) (by omega) (by omega)
    refine zlv xmv ?_
    refine zlv (xmul (r := (k * x)) (e := rfl) (hr := (by unfold I64; omega))) ?_
    refine zs2 ?_
    refine zlt <| zrt <| zbr <| ztr <| zf2 ⟨_, rfl, ?_⟩
    first
    | exact ⟨_, 0, rfl, .inl ⟨by omega, by omega, hok, by omega, by omega, (by obtain rfl : kind = 0 := (by omega); exact dfv0.symm), rfl⟩, hS.nl⟩
    | exact ⟨_, 0, rfl, .inl ⟨by omega, by omega, hok, by omega, by omega, (by obtain rfl : kind = 1 := (by omega); exact (dfv1a ‹_›).symm), rfl⟩, hS.nl⟩
    | exact ⟨_, 0, rfl, .inl ⟨by omega, by omega, hok, by omega, by omega, (by obtain rfl : kind = 1 := (by omega); exact (dfv1b (by omega)).symm), rfl⟩, hS.nl⟩
    | exact ⟨_, 0, rfl, .inl ⟨by omega, by omega, hok, by omega, by omega, (by obtain rfl : kind = 2 := (by omega); exact (dfv2a (by omega)).symm), rfl⟩, hS.nl⟩
    | exact ⟨_, 0, rfl, .inl ⟨by omega, by omega, hok, by omega, by omega, (by obtain rfl : kind = 2 := (by omega); exact (dfv2b (by omega) (by omega)).symm), rfl⟩, hS.nl⟩
    | exact ⟨_, 0, rfl, .inl ⟨by omega, by omega, hok, by omega, by omega, (by obtain rfl : kind = 2 := (by omega); exact (dfv2c (by omega) (by omega)).symm), rfl⟩, hS.nl⟩
   refine zsr ?_
   refine zlv (xfb 0 fd_26_0) ?_
   refine zlv (xlb 0 pl_3 hS) ?_
   refine zlv (xkt xeql) ?_
   refine zlv xas ?_
   refine zlt <| zct <| zsr ?_
   refine zlv (xfb 1 fd_26_1) ?_
   refine zlv (xlb 0 pl_3 hS) ?_
   have hs := step_facts (k := k) (by omega) (show 0 ≤ x by omega) (show x ≤ c by omega) (by omega) (by omega)
   refine zlv (xadd (r := k + 1)) ?_
   refine zlv xmv ?_
   refine zlv (xmul (r := ((k + 1) * x)) (e := rfl) (hr := (by unfold I64; omega))) ?_
   refine zlv xmv ?_
   refine zlv (xquo (r := (Int.tdiv ((k + 1) * x) c)) (hn := (by omega)) (hr := (by unfold I64; omega))) ?_
   refine zlv xmv ?_
   refine zlv (xmul (r := ((Int.tdiv ((k + 1) * x) c) * c)) (e := rfl) (hr := (by unfold I64; omega))) ?_
   refine zs2 ?_
   refine zlt <| zrt <| zbr <| ztr <| zf2 ⟨_, rfl, ?_⟩
   first
   | exact ⟨_, 0, rfl, .inl ⟨by omega, by omega, hok, by omega, by omega, (by obtain rfl : kind = 0 := (by omega); exact dfv0.symm), rfl⟩, hS.nl⟩
   | exact ⟨_, 0, rfl, .inl ⟨by omega, by omega, hok, by omega, by omega, (by obtain rfl : kind = 1 := (by omega); exact (dfv1a ‹_›).symm), rfl⟩, hS.nl⟩
   | exact ⟨_, 0, rfl, .inl ⟨by omega, by omega, hok, by omega, by omega, (by obtain rfl : kind = 1 := (by omega); exact (dfv1b (by omega)).symm), rfl⟩, hS.nl⟩
   | exact ⟨_, 0, rfl, .inl ⟨by omega, by omega, hok, by omega, by omega, (by obtain rfl : kind = 2 := (by omega); exact (dfv2a (by omega)).symm), rfl⟩, hS.nl⟩
   | exact ⟨_, 0, rfl, .inl ⟨by omega, by omega, hok, by omega, by omega, (by obtain rfl : kind = 2 := (by omega); exact (dfv2b (by omega) (by omega)).symm), rfl⟩, hS.nl⟩
   | exact ⟨_, 0, rfl, .inl ⟨by omega, by omega, hok, by omega, by omega, (by obtain rfl : kind = 2 := (by omega); exact (dfv2c (by omega) (by omega)).symm), rfl⟩, hS.nl⟩
  iterate 8 refine zlo ?_
  refine zs2 ?_
  refine zlt <| zcf <| zsr ?_
  refine zlv (xfb 0 fd_26_0) ?_
  refine zlv (xlb 0 pl_3 hS) ?_
  refine zs2 ?_
  refine zlt ?_
  refine zcif ?_ ?_ <;> intro hc
  ·
   exfalso; omega
  refine zsr ?_
  refine zs2 ?_
  refine zlv (xfb 1 fd_26_1) ?_
  refine zlv (xlb 0 pl_3 hS) ?_
  refine zlv (xsub (r := c - k)) ?_
  refine zs2 ?_
  refine zlt ?_
  refine zcif ?_ ?_ <;> intro hc
  ·
   refine zsr ?_
   refine zs3 ?_
   refine zlt <| zrt <| zbr <| ztr <| zf2 ⟨_, rfl, ?_⟩
   first
   | exact ⟨_, 0, rfl, .inl ⟨by omega, by omega, hok, by omega, by omega, (by obtain rfl : kind = 0 := (by omega); exact dfv0.symm), rfl⟩, hS.nl⟩
   | exact ⟨_, 0, rfl, .inl ⟨by omega, by omega, hok, by omega, by omega, (by obtain rfl : kind = 1 := (by omega); exact (dfv1a ‹_›).symm), rfl⟩, hS.nl⟩
   | exact ⟨_, 0, rfl, .inl ⟨by omega, by omega, hok, by omega, by omega, (by obtain rfl : kind = 1 := (by omega); exact (dfv1b (by omega)).symm), rfl⟩, hS.nl⟩
   | exact ⟨_, 0, rfl, .inl ⟨by omega, by omega, hok, by omega, by omega, (by obtain rfl : kind = 2 := (by omega); exact (dfv2a (by omega)).symm), rfl⟩, hS.nl⟩
   | exact ⟨_, 0, rfl, .inl ⟨by omega, by omega, hok, by omega, by omega, (by obtain rfl : kind = 2 := (by omega); exact (dfv2b (by omega) (by omega)).symm), rfl⟩, hS.nl⟩
   | exact ⟨_, 0, rfl, .inl ⟨by omega, by omega, hok, by omega, by omega, (by obtain rfl : kind = 2 := (by omega); exact (dfv2c (by omega) (by omega)).symm), rfl⟩, hS.nl⟩
  refine zsr ?_
  refine zlv xmv ?_
  refine zlv (xfb 1 fd_26_1) ?_
  refine zlv (xlb 0 pl_3 hS) ?_
  refine zs2 ?_
  refine zlt ?_
  refine zcif ?_ ?_ <;> intro hc
  ·
   refine zsr ?_
   refine zs2 ?_
   refine zlt <| zrt <| zbr <| ztr <| zf2 ⟨_, rfl, ?_⟩
   first
   | exact ⟨_, 0, rfl, .inl ⟨by omega, by omega, hok, by omega, by omega, (by obtain rfl : kind = 0 := (by omega); exact dfv0.symm), rfl⟩, hS.nl⟩
   | exact ⟨_, 0, rfl, .inl ⟨by omega, by omega, hok, by omega, by omega, (by obtain rfl : kind = 1 := (by omega); exact (dfv1a ‹_›).symm), rfl⟩, hS.nl⟩
   | exact ⟨_, 0, rfl, .inl ⟨by omega, by omega, hok, by omega, by omega, (by obtain rfl : kind = 1 := (by omega); exact (dfv1b (by omega)).symm), rfl⟩, hS.nl⟩
   | exact ⟨_, 0, rfl, .inl ⟨by omega, by omega, hok, by omega, by omega, (by obtain rfl : kind = 2 := (by omega); exact (dfv2a (by omega)).symm), rfl⟩, hS.nl⟩
   | exact ⟨_, 0, rfl, .inl ⟨by omega, by omega, hok, by omega, by omega, (by obtain rfl : kind = 2 := (by omega); exact (dfv2b (by omega) (by omega)).symm), rfl⟩, hS.nl⟩
   | exact ⟨_, 0, rfl, .inl ⟨by omega, by omega, hok, by omega, by omega, (by obtain rfl : kind = 2 := (by omega); exact (dfv2c (by omega) (by omega)).symm), rfl⟩, hS.nl⟩
  refine zsk <| zbn <| ztn <| zsr ?_
  refine zs3 ?_
  refine zlt <| zrt <| zf2 ⟨_, rfl, ?_⟩
  first
  | exact ⟨_, 0, rfl, .inl ⟨by omega, by omega, hok, by omega, by omega, (by obtain rfl : kind = 0 := (by omega); exact dfv0.symm), rfl⟩, hS.nl⟩
  | exact ⟨_, 0, rfl, .inl ⟨by omega, by omega, hok, by omega, by omega, (by obtain rfl : kind = 1 := (by omega); exact (dfv1a ‹_›).symm), rfl⟩, hS.nl⟩
  | exact ⟨_, 0, rfl, .inl ⟨by omega, by omega, hok, by omega, by omega, (by obtain rfl : kind = 1 := (by omega); exact (dfv1b (by omega)).symm), rfl⟩, hS.nl⟩
  | exact ⟨_, 0, rfl, .inl ⟨by omega, by omega, hok, by omega, by omega, (by obtain rfl : kind = 2 := (by omega); exact (dfv2a (by omega)).symm), rfl⟩, hS.nl⟩
  | exact ⟨_, 0, rfl, .inl ⟨by omega, by omega, hok, by omega, by omega, (by obtain rfl : kind = 2 := (by omega); exact (dfv2b (by omega) (by omega)).symm), rfl⟩, hS.nl⟩
  | exact ⟨_, 0, rfl, .inl ⟨by omega, by omega, hok, by omega, by omega, (by obtain rfl : kind = 2 := (by omega); exact (dfv2c (by omega) (by omega)).symm), rfl⟩, hS.nl⟩

end Go.Proofs.Ytmlfpniaknmmfaa
