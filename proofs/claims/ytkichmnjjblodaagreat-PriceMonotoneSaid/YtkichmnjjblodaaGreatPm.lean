import Derived.Test.YtkichmnjjblodaaGreatPmG
import Derived.Test.YtkichmnjjblodaaGreatRows
import Derived.ShutString
set_option linter.unusedVariables false
set_option linter.unusedSimpArgs false
set_option maxRecDepth 20000
set_option maxHeartbeats 4000000
namespace Go.Proofs.YtkichmnjjblodaaGreat.priceMonotone
open Go.ChangeShapes Go.WideShapes Go.ChangeAt Go.RowKit Go.Proofs.Gw Go.Joins
theorem own:ownKnob Tryz.prog.godebug=none:=by kernel_rfl
theorem laidOut:laidOutB Tryz.prog=true:=by kernel_rfl
theorem ZfG:Tryz.prog.bytesOf 3=8:=by kernel_rfl
theorem Zcm:Tryz.prog.cellsOf 22=1:=by kernel_rfl
theorem Zg1:Tryz.prog.cellsOf 24=4:=by kernel_rfl
theorem R9:Tryz.prog.cellsOf 3=1:=by kernel_rfl
set_option maxRecDepth 100000 in
theorem lifted(os:Os)(started:os.Started)(H:Type)(enc:TypeId×Value->H):
    ReturnsInHanded {} Tryz.checked os 9 .any (Rows.priceMonotoneSpec.pre6 enc Tryz.prog Tryz.f9 Rows.priceMonotoneRow.domain false) (Rows.priceMonotoneSpec.post enc Tryz.prog Tryz.f9 false true false false):=by
  refine returnsInHanded_of_change_sized (C:=Tryz.checked) own started (by kernel_rfl) Tryz.func9
    (ChangeSpec.witness6 (enc:=enc) (C:=Tryz.checked) false ⟨#[], #[.agg #[.slice none 0 0,.slice none 0 0,.int .i64 0,.int .i64 0],.int .u8 0,.int .u8 0], []⟩ 8 (by kernel_rfl) (by kernel_rfl) (by kernel_rfl) (by kernel_rfl)) ?_
  intro W base args ds gs before bv hW _ dD _
  have hsz:(DataW.weightsEach Tryz.prog (Tryz.f9.params.toList++Rows.priceMonotoneSpec.plain.varTypes Tryz.prog) (ds++gs)).all (· <=reachBytes)=true:=dD
  clear dD
  have bb:∀(j:Nat) t v,Tryz.f9.params[j]? =some t->args[j]? =some v->Value.okWide Tryz.prog W .any base t v:=bv
  have hW':=hW
  obtain⟨p,q,hA0,hV,rfl,_,_⟩:=hW
  have hA:DataW.TrodAll enc Tryz.prog W 0 (fun _=>true) true Tryz.f9.params.toList args.toList ds p:=hA0
  rw [Tryz.params9] at hA bb hsz
  obtain⟨v0,vs0,d0,ds0,q0,r0,jq,rfl,rfl,t0,hA0⟩:=trodAll_cons hA
  obtain⟨v1,vs1,d1,ds1,q1,r1,rfl,rfl,rfl,t1,hA1⟩:=trodAll_cons hA0
  obtain⟨v2,vs2,d2,ds2,q2,r2,rfl,rfl,rfl,t2,hA2⟩:=trodAll_cons hA1
  obtain⟨rfl,rfl,rfl⟩:=trodAll_nil hA2
  obtain rfl:args= #[v0,v1,v2]:=by cases args;simp_all
  obtain⟨rfl,rfl⟩:=trodVars_none hV
  have k0:=t0
  have lt0:∀x∈q0,x.block<W.heap.size:=by obtain⟨m,hm⟩:=k0;exact DataW.trod_lt m _ _ _ hm
  have sm0:=X0 hsz (j:=0) rfl rfl
  obtain⟨cs0,rfl,_⟩:=okWide_struct Tryz.underlying24 (bb 0 24 v0 rfl rfl)
  have rd0:Rd enc Tryz.prog W true 24 cs0.toList:=Rd.arg t0 sm0
  have rl0:=rd0.len Tryz.underlying24
  rw [Zg1] at rl0
  obtain⟨x0_0,x0_1,x0_2,x0_3,hx0⟩:=Zlg rl0
  obtain rfl:=ZaU hx0
  replace rd0:Rd enc Tryz.prog W true 24 [x0_0,x0_1,x0_2,x0_3]:=rd0
  have eT:Rd enc Tryz.prog W true 22 [x0_0]:=rd0.field Tryz.underlying24 0 rfl rfl Zcm rfl
  obtain⟨m00,f00,a00⟩:=eT.ints Tryz.underlying22 Tryz.underlying3 R9 ZfG
  have eS:Rd enc Tryz.prog W true 22 [x0_1]:=rd0.field Tryz.underlying24 1 rfl rfl Zcm rfl
  obtain⟨m01,f01,a01⟩:=eS.ints Tryz.underlying22 Tryz.underlying3 R9 ZfG
  have eR:Rd enc Tryz.prog W true 3 [x0_2]:=rd0.field Tryz.underlying24 2 rfl rfl R9 rfl
  obtain⟨i02,rfl,w02⟩:=eR.intv Tryz.underlying3
  have b02:=ZaR w02
  have eQ:Rd enc Tryz.prog W true 3 [x0_3]:=rd0.field Tryz.underlying24 3 rfl rfl R9 rfl
  obtain⟨i03,rfl,w03⟩:=eQ.intv Tryz.underlying3
  have b03:=ZaR w03
  have k1:=t1
  have lt1:∀x∈q1,x.block<W.heap.size:=by obtain⟨m,hm⟩:=k1;exact DataW.trod_lt m _ _ _ hm
  have sm1:=X0 hsz (j:=1) rfl rfl
  obtain⟨iv1,rfl⟩:=okWide_int Tryz.underlying5 (bb 1 5 v1 rfl rfl)
  have rd1:Rd enc Tryz.prog W true 5 [.int .u8 iv1]:=Rd.arg t1 sm1
  obtain⟨i1,hi1,w1⟩:=rd1.intv Tryz.underlying5
  obtain rfl:iv1=i1:=by injection hi1
  have b1:=ZhK w1
  have k2:=t2
  have lt2:∀x∈q2,x.block<W.heap.size:=by obtain⟨m,hm⟩:=k2;exact DataW.trod_lt m _ _ _ hm
  have sm2:=X0 hsz (j:=2) rfl rfl
  obtain⟨iv2,rfl⟩:=okWide_int Tryz.underlying5 (bb 2 5 v2 rfl rfl)
  have rd2:Rd enc Tryz.prog W true 5 [.int .u8 iv2]:=Rd.arg t2 sm2
  obtain⟨i2,hi2,w2⟩:=rd2.intv Tryz.underlying5
  obtain rfl:iv2=i2:=by injection hi2
  have b2:=ZhK w2
  clear hA0 bv
  refine(Zd9 (p:=⟨m00,f00,m01,f01,i02,i03⟩) W ⟨a00.1,a01.1,a00.2,a01.2,b02,b03⟩ b1 b2).mono fun e W' he=> ?_
  obtain⟨v,rfl,rfl,hS⟩:=he
  have bel:=hS.below
  exact⟨_,rfl,_,_,_, [],_, [],hW',trodAll_mk1 (shut_bool Tryz.underlying4 _),(trodAll_cons_mk (Below.trod laidOut (by kernel_rfl) (of_decide_eq_true (by kernel_rfl)) k0 bel lt0) (trodAll_cons_mk (Below.trod laidOut (by kernel_rfl) (of_decide_eq_true (by kernel_rfl)) k1 bel lt1) (trodAll_cons_mk (Below.trod laidOut (by kernel_rfl) (of_decide_eq_true (by kernel_rfl)) k2 bel lt2) trodAll_mk0))),rfl,bel.frame _,fun h=>by cases h⟩
theorem over:Rows.priceMonotoneRow.holds Tryz.pinned (OpenSpec.ofChange Rows.priceMonotoneSpec):=
  OpenClaim.holds_of_wide 9 Tryz.f9 rfl rfl rfl rfl rfl rfl rfl ⟨rfl,rfl,rfl,rfl,rfl⟩ rfl rfl rfl rfl rfl (by kernel_rfl) Tryz.func9 (by kernel_rfl)
    (of_decide_eq_true (by kernel_rfl)) (by unfold Func.isWrapper;first|(rw [if_pos (by decide+kernel)];kernel_rfl)|(rw [if_neg (by decide+kernel)];exact⟨rfl,rfl⟩))
    (fun os started H enc _=>lifted os started H enc)
theorem proved:Rows.PriceMonotoneSaid:=over
#print axioms proved
end Go.Proofs.YtkichmnjjblodaaGreat.priceMonotone
