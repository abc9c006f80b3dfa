/- The statement MasterWhole: for every input that reads as data the call returns true, and each argument reads as it did. No condition. -/
import Derived.Test.YtopmifmfecfaaaaMwD
import Derived.Test.YtopmifmfecfaaaaRows
import Derived.ShutString
set_option linter.unusedVariables false
set_option linter.unusedSimpArgs false
namespace Go.Proofs.Ytopmifmfecfaaaa.masterWhole
open Go.ChangeShapes Go.WideShapes Go.ChangeAt Go.RowKit Go.Proofs.Gw Go.Joins
theorem own:ownKnob Try.prog.godebug=none:=by kernel_rfl
theorem laidOut:laidOutB Try.prog=true:=by kernel_rfl
theorem UV:Try.prog.bytesOf 3=8:=by kernel_rfl
theorem Zan:Try.prog.bytesOf 34=32:=by kernel_rfl
theorem Vy:Try.prog.cellsOf 22=1:=by kernel_rfl
theorem KZ:Try.prog.cellsOf 24=4:=by kernel_rfl
theorem XP:Try.prog.cellsOf 3=1:=by kernel_rfl
theorem KY:Try.prog.cellsOf 34=2:=by kernel_rfl
set_option maxRecDepth 100000 in
theorem lifted(os:Os)(started:os.Started)(H:Type)(enc:TypeId×Value->H):
    ReturnsInHanded {} Try.checked os 3 .any (Rows.masterWholeSpec.pre6 enc Try.prog Try.f3 Rows.masterWholeRow.domain false) (Rows.masterWholeSpec.post enc Try.prog Try.f3 false true false false):=by
  refine returnsInHanded_of_change_sized (C:=Try.checked) own started (by kernel_rfl) Try.func3
    (ChangeSpec.witness6 (enc:=enc) (C:=Try.checked) false ⟨#[], #[.agg #[.slice none 0 0,.slice none 0 0,.int .i64 0,.int .i64 0],.slice none 0 0], []⟩ 8 (by kernel_rfl) (by kernel_rfl) (by kernel_rfl) (by kernel_rfl)) ?_
  intro W base args ds gs before hval0 hW _ hsz0 _
  have hsz:(DataW.weightsEach Try.prog (Try.f3.params.toList++Rows.masterWholeSpec.plain.varTypes Try.prog) (ds++gs)).all (· <=reachBytes)=true:=hsz0
  clear hsz0
  have hval:∀(j:Nat) t v,Try.f3.params[j]? =some t->args[j]? =some v->Value.okWide Try.prog W .any base t v:=hval0
  have hW':=hW
  obtain⟨p,q,hA0,hV,rfl,_,_⟩:=hW
  have hA:DataW.TrodAll enc Try.prog W 0 (fun _=>true) true Try.f3.params.toList args.toList ds p:=hA0
  rw [Try.params3] at hA hval hsz
  obtain⟨v0,vs0,d0,ds0,q0,r0,hargs,rfl,rfl,t0,hA0⟩:=trodAll_cons hA
  obtain⟨v1,vs1,d1,ds1,q1,r1,rfl,rfl,rfl,t1,hA1⟩:=trodAll_cons hA0
  obtain⟨rfl,rfl,rfl⟩:=trodAll_nil hA1
  obtain rfl:args= #[v0,v1]:=by cases args;simp_all
  obtain⟨rfl,rfl⟩:=trodVars_none hV
  have k0:=t0
  have lt0:∀x∈q0,x.block<W.heap.size:=by obtain⟨m,hm⟩:=k0;exact DataW.trod_lt m _ _ _ hm
  have sm0:=Xj hsz (j:=0) rfl rfl
  obtain⟨cs0,rfl,_⟩:=okWide_struct Try.underlying24 (hval 0 24 v0 rfl rfl)
  have rd0:Rd enc Try.prog W true 24 cs0.toList:=Rd.arg t0 sm0
  have rl0:=rd0.len Try.underlying24
  rw [KZ] at rl0
  obtain⟨x0_0,x0_1,x0_2,x0_3,hx0⟩:=Zb0 rl0
  obtain rfl:=UC hx0
  replace rd0:Rd enc Try.prog W true 24 [x0_0,x0_1,x0_2,x0_3]:=rd0
  have rd00:Rd enc Try.prog W true 22 [x0_0]:=rd0.field Try.underlying24 0 rfl rfl Vy rfl
  obtain⟨m00,f00,a00⟩:=rd00.ints Try.underlying22 Try.underlying3 XP UV
  have rd01:Rd enc Try.prog W true 22 [x0_1]:=rd0.field Try.underlying24 1 rfl rfl Vy rfl
  obtain⟨m01,f01,a01⟩:=rd01.ints Try.underlying22 Try.underlying3 XP UV
  have rd02:Rd enc Try.prog W true 3 [x0_2]:=rd0.field Try.underlying24 2 rfl rfl XP rfl
  obtain⟨i02,rfl,w02⟩:=rd02.intv Try.underlying3
  have b02:=W6 w02
  have rd03:Rd enc Try.prog W true 3 [x0_3]:=rd0.field Try.underlying24 3 rfl rfl XP rfl
  obtain⟨i03,rfl,w03⟩:=rd03.intv Try.underlying3
  have b03:=W6 w03
  have k1:=t1
  have lt1:∀x∈q1,x.block<W.heap.size:=by obtain⟨m,hm⟩:=k1;exact DataW.trod_lt m _ _ _ hm
  have sm1:=Xj hsz (j:=1) rfl rfl
  obtain⟨sa1,sl1,sc1,rfl⟩:=okWide_slice Try.underlying25 (hval 1 25 v1 rfl rfl)
  have rd1:Rd enc Try.prog W true 25 [.slice sa1 sl1 sc1]:=Rd.arg t1 sm1
  obtain⟨m1,pv1,ln1,pt1,cn1,a1,rm1⟩:=rd1.uses Try.underlying25 Try.underlying34 KY Zan (by omega) rfl rfl Vy XP Try.underlying22 Try.underlying3 Try.underlying3 XP UV
  clear hA0 hval0
  refine(TR (p:=⟨m00,f00,m01,f01,i02,i03⟩) (u:=m1) (pv:=pv1) (ln:=ln1) (pt:=pt1) (cnt:=cn1) W ⟨a00.1,a01.1,a00.2,a01.2,b02,b03⟩ a1 rm1).mono fun e W' he=> ?_
  obtain⟨v,rfl,rfl,hS⟩:=he
  have bel:=hS.below
  exact⟨_,rfl,_,_,_, [],_, [],hW',trodAll_mk1 (shut_bool Try.underlying4 _),(trodAll_cons_mk (Below.trod laidOut (by kernel_rfl) (of_decide_eq_true (by kernel_rfl)) k0 bel lt0) (trodAll_cons_mk (Below.trod laidOut (by kernel_rfl) (of_decide_eq_true (by kernel_rfl)) k1 bel lt1) trodAll_mk0)),rfl,bel.frame _,fun h=>by cases h⟩
theorem over:Rows.masterWholeRow.holds Try.pinned (OpenSpec.ofChange Rows.masterWholeSpec):=
  OpenClaim.holds_of_wide 3 Try.f3 rfl rfl rfl rfl rfl rfl rfl ⟨rfl,rfl,rfl,rfl,rfl⟩ rfl rfl rfl rfl rfl (by kernel_rfl) Try.func3 (by kernel_rfl)
    (of_decide_eq_true (by kernel_rfl)) (by unfold Func.isWrapper;first|(rw [if_pos (by decide+kernel)];kernel_rfl)|(rw [if_neg (by decide+kernel)];exact⟨rfl,rfl⟩))
    (fun os started H enc _=>lifted os started H enc)
theorem proved:Rows.MasterWholeSaid:=over
#print axioms proved
end Go.Proofs.Ytopmifmfecfaaaa.masterWhole
