import Derived.Test.YtkichmnjjblodaaGreatPrG
import Derived.Test.YtkichmnjjblodaaGreatRows
import Derived.ShutString
set_option linter.unusedVariables false
set_option linter.unusedSimpArgs false
set_option maxRecDepth 20000
set_option maxHeartbeats 4000000
namespace Go.Proofs.YtkichmnjjblodaaGreat.priceRight
open Go.ChangeShapes Go.WideShapes Go.ChangeAt Go.RowKit Go.Proofs.Gw Go.Joins
theorem own:ownKnob Tryz.prog.godebug=none:=by kernel_rfl
theorem laidOut:laidOutB Tryz.prog=true:=by kernel_rfl
theorem ZgG:Tryz.prog.bytesOf 103=32:=by kernel_rfl
theorem Zck:Tryz.prog.bytesOf 3=8:=by kernel_rfl
theorem ZfU:Tryz.prog.cellsOf 103=2:=by kernel_rfl
theorem KR:Tryz.prog.cellsOf 22=1:=by kernel_rfl
theorem ZhY:Tryz.prog.cellsOf 24=4:=by kernel_rfl
theorem Uv:Tryz.prog.cellsOf 3=1:=by kernel_rfl
set_option maxRecDepth 100000 in
theorem lifted(os:Os)(started:os.Started)(H:Type)(enc:TypeId×Value->H):
    ReturnsInHanded {} Tryz.checked os 6 .any (Rows.priceRightSpec.pre6 enc Tryz.prog Tryz.f6 Rows.priceRightRow.domain false) (Rows.priceRightSpec.post enc Tryz.prog Tryz.f6 false true false false):=by
  refine returnsInHanded_of_change_sized (C:=Tryz.checked) own started (by kernel_rfl) Tryz.func6
    (ChangeSpec.witness6 (enc:=enc) (C:=Tryz.checked) false ⟨#[], #[.agg #[.slice none 0 0,.slice none 0 0,.int .i64 0,.int .i64 0],.slice none 0 0], []⟩ 8 (by kernel_rfl) (by kernel_rfl) (by kernel_rfl) (by kernel_rfl)) ?_
  intro W base args ds gs before bJ hW _ dQ _
  have hsz:(DataW.weightsEach Tryz.prog (Tryz.f6.params.toList++Rows.priceRightSpec.plain.varTypes Tryz.prog) (ds++gs)).all (· <=reachBytes)=true:=dQ
  clear dQ
  have cw:∀(j:Nat) t v,Tryz.f6.params[j]? =some t->args[j]? =some v->Value.okWide Tryz.prog W .any base t v:=bJ
  have hW':=hW
  obtain⟨p,q,hA0,hV,rfl,_,_⟩:=hW
  have hA:DataW.TrodAll enc Tryz.prog W 0 (fun _=>true) true Tryz.f6.params.toList args.toList ds p:=hA0
  rw [Tryz.params6] at hA cw hsz
  obtain⟨v0,vs0,d0,ds0,q0,r0,jf,rfl,rfl,t0,hA0⟩:=trodAll_cons hA
  obtain⟨v1,vs1,d1,ds1,q1,r1,rfl,rfl,rfl,t1,hA1⟩:=trodAll_cons hA0
  obtain⟨rfl,rfl,rfl⟩:=trodAll_nil hA1
  obtain rfl:args= #[v0,v1]:=by cases args;simp_all
  obtain⟨rfl,rfl⟩:=trodVars_none hV
  have k0:=t0
  have lt0:∀x∈q0,x.block<W.heap.size:=by obtain⟨m,hm⟩:=k0;exact DataW.trod_lt m _ _ _ hm
  have sm0:=Vq hsz (j:=0) rfl rfl
  obtain⟨cs0,rfl,_⟩:=okWide_struct Tryz.underlying24 (cw 0 24 v0 rfl rfl)
  have rd0:Rd enc Tryz.prog W true 24 cs0.toList:=Rd.arg t0 sm0
  have rl0:=rd0.len Tryz.underlying24
  rw [ZhY] at rl0
  obtain⟨x0_0,x0_1,x0_2,x0_3,hx0⟩:=Zms rl0
  obtain rfl:=ZbF hx0
  replace rd0:Rd enc Tryz.prog W true 24 [x0_0,x0_1,x0_2,x0_3]:=rd0
  have e8:Rd enc Tryz.prog W true 22 [x0_0]:=rd0.field Tryz.underlying24 0 rfl rfl KR rfl
  obtain⟨m00,f00,a00⟩:=e8.ints Tryz.underlying22 Tryz.underlying3 Uv Zck
  have e7:Rd enc Tryz.prog W true 22 [x0_1]:=rd0.field Tryz.underlying24 1 rfl rfl KR rfl
  obtain⟨m01,f01,a01⟩:=e7.ints Tryz.underlying22 Tryz.underlying3 Uv Zck
  have eZ:Rd enc Tryz.prog W true 3 [x0_2]:=rd0.field Tryz.underlying24 2 rfl rfl Uv rfl
  obtain⟨i02,rfl,w02⟩:=eZ.intv Tryz.underlying3
  have b02:=Ka w02
  have eY:Rd enc Tryz.prog W true 3 [x0_3]:=rd0.field Tryz.underlying24 3 rfl rfl Uv rfl
  obtain⟨i03,rfl,w03⟩:=eY.intv Tryz.underlying3
  have b03:=Ka w03
  have k1:=t1
  have lt1:∀x∈q1,x.block<W.heap.size:=by obtain⟨m,hm⟩:=k1;exact DataW.trod_lt m _ _ _ hm
  have sm1:=Vq hsz (j:=1) rfl rfl
  obtain⟨sa1,sl1,sc1,rfl⟩:=okWide_slice Tryz.underlying46 (cw 1 46 v1 rfl rfl)
  have rd1:Rd enc Tryz.prog W true 46 [.slice sa1 sl1 sc1]:=Rd.arg t1 sm1
  obtain⟨m1,pv1,ln1,pt1,cn1,a1,rm1⟩:=rd1.uses Tryz.underlying46 Tryz.underlying103 ZfU ZgG (by omega) rfl rfl KR Uv Tryz.underlying22 Tryz.underlying3 Tryz.underlying3 Uv Zck
  clear hA0 bJ
  refine(ZdR (p:=⟨m00,f00,m01,f01,i02,i03⟩) (u:=m1) (pv:=pv1) (ln:=ln1) (pt:=pt1) (cnt:=cn1) W ⟨a1.row,fun i i0 i1=>(a1.p i i0 i1).row,rm1⟩ ⟨a00.1,a01.1,a00.2,a01.2,b02,b03⟩).mono fun e W' he=> ?_
  obtain⟨v,rfl,rfl,hS⟩:=he
  have bel:=hS.below
  exact⟨_,rfl,_,_,_, [],_, [],hW',trodAll_mk1 (shut_bool Tryz.underlying4 _),(trodAll_cons_mk (Below.trod laidOut (by kernel_rfl) (of_decide_eq_true (by kernel_rfl)) k0 bel lt0) (trodAll_cons_mk (Below.trod laidOut (by kernel_rfl) (of_decide_eq_true (by kernel_rfl)) k1 bel lt1) trodAll_mk0)),rfl,bel.frame _,fun h=>by cases h⟩
theorem over:Rows.priceRightRow.holds Tryz.pinned (OpenSpec.ofChange Rows.priceRightSpec):=
  OpenClaim.holds_of_wide 6 Tryz.f6 rfl rfl rfl rfl rfl rfl rfl ⟨rfl,rfl,rfl,rfl,rfl⟩ rfl rfl rfl rfl rfl (by kernel_rfl) Tryz.func6 (by kernel_rfl)
    (of_decide_eq_true (by kernel_rfl)) (by unfold Func.isWrapper;first|(rw [if_pos (by decide+kernel)];kernel_rfl)|(rw [if_neg (by decide+kernel)];exact⟨rfl,rfl⟩))
    (fun os started H enc _=>lifted os started H enc)
theorem proved:Rows.PriceRightSaid:=over
#print axioms proved
end Go.Proofs.YtkichmnjjblodaaGreat.priceRight
