import Derived.Test.YtpnamgfdakfccaaGreatTmH
import Derived.Test.YtpnamgfdakfccaaGreatRows
import Derived.ShutString
set_option linter.unusedVariables false
set_option linter.unusedSimpArgs false
set_option maxRecDepth 20000
set_option maxHeartbeats 4000000
namespace Go.Proofs.YtpnamgfdakfccaaGreat.topMaterial
open Go.ChangeShapes Go.WideShapes Go.ChangeAt Go.RowKit Go.Proofs.Gw Go.Joins
theorem own:ownKnob Tryz.prog.godebug=none:=Oc
theorem laidOut:laidOutB Tryz.prog=true:=Oc
theorem Zit:Tryz.prog.bytesOf 3=8:=Oc
theorem Zey:Tryz.prog.cellsOf 22=1:=Oc
theorem Zj4:Tryz.prog.cellsOf 24=4:=Oc
theorem Za0:Tryz.prog.cellsOf 3=1:=Oc
set_option maxRecDepth 100000 in
theorem lifted(os:Os)(started:os.Started)(H:Type)(enc:TypeId×Value->H):
   ReturnsInHanded {} Tryz.checked os 4 .any (Rows.topMaterialSpec.pre6 enc Tryz.prog Tryz.f4 Rows.topMaterialRow.domain false) (Rows.topMaterialSpec.post enc Tryz.prog Tryz.f4 false true false false):=by
 refine returnsInHanded_of_change_sized (C:=Tryz.checked) own started (by kernel_rfl) Tryz.func4
   (ChangeSpec.witness6 (enc:=enc) (C:=Tryz.checked) false ⟨#[], #[.agg #[Oh,Oh,.int Oi 0,.int Oi 0]], []⟩ 8 (by kernel_rfl) (by kernel_rfl) (by kernel_rfl) (by kernel_rfl)) ?_
 intro W base args ds gs before cq hW _ dk _
 have hsz:(DataW.weightsEach Tryz.prog (Tryz.f4.params.toList++Rows.topMaterialSpec.plain.varTypes Tryz.prog) (ds++gs)).all (· <=reachBytes)=true:=dk
 clear dk
 have eM:∀(j:Nat) t v,Tryz.f4.params[j]? =some t->args[j]? =some v->Value.okWide Tryz.prog W .any base t v:=cq
 have hW':=hW
 obtain⟨p,q,hA0,hV,rfl,_,_⟩:=hW
 have hA:DataW.TrodAll enc Tryz.prog W 0 (fun _=>true) true Tryz.f4.params.toList args.toList ds p:=hA0
 rw [Tryz.params4] at hA eM hsz
 obtain⟨v0,vs0,d0,ds0,q0,r0,kB,rfl,rfl,t0,hA0⟩:=trodAll_cons hA
 obtain⟨rfl,rfl,rfl⟩:=trodAll_nil hA0
 obtain rfl:args= #[v0]:=by cases args;simp_all
 obtain⟨rfl,rfl⟩:=trodVars_none hV
 have k0:=t0
 have lt0:∀x∈q0,x.block<W.heap.size:=by obtain⟨m,hm⟩:=k0;exact DataW.trod_lt m _ _ _ hm
 have sm0:=TD hsz (j:=0) rfl rfl
 obtain⟨cs0,rfl,_⟩:=okWide_struct Tryz.underlying24 (eM 0 24 v0 rfl rfl)
 have rd0:Rd enc Tryz.prog W true 24 cs0.toList:=Rd.arg t0 sm0
 have rl0:=rd0.len Tryz.underlying24
 rw [Zj4] at rl0
 obtain⟨x0_0,x0_1,x0_2,x0_3,hx0⟩:=ZoK rl0
 obtain rfl:=ZcX hx0
 replace rd0:Rd enc Tryz.prog W true 24 [x0_0,x0_1,x0_2,x0_3]:=rd0
 have gB:Rd enc Tryz.prog W true 22 [x0_0]:=rd0.field Tryz.underlying24 0 rfl rfl Zey rfl
 obtain⟨m00,f00,a00⟩:=gB.ints Tryz.underlying22 Tryz.underlying3 Za0 Zit
 have gA:Rd enc Tryz.prog W true 22 [x0_1]:=rd0.field Tryz.underlying24 1 rfl rfl Zey rfl
 obtain⟨m01,f01,a01⟩:=gA.ints Tryz.underlying22 Tryz.underlying3 Za0 Zit
 have gz:Rd enc Tryz.prog W true 3 [x0_2]:=rd0.field Tryz.underlying24 2 rfl rfl Za0 rfl
 obtain⟨i02,rfl,w02⟩:=gz.intv Tryz.underlying3
 have b02:=ZcS w02
 have gk:Rd enc Tryz.prog W true 3 [x0_3]:=rd0.field Tryz.underlying24 3 rfl rfl Za0 rfl
 obtain⟨i03,rfl,w03⟩:=gk.intv Tryz.underlying3
 have b03:=ZcS w03
 clear hA0 cq
 refine(ZgI (p:=⟨m00,f00,m01,f01,i02,i03⟩) W ⟨a00.1,a01.1,a00.2,a01.2,b02,b03⟩).mono fun e W' he=> ?_
 obtain⟨v,rfl,rfl,hS⟩:=he
 have bel:=hS.below
 exact⟨_,rfl,_,_,_, [],_, [],hW',trodAll_mk1 (shut_bool Tryz.underlying4 _),(trodAll_cons_mk (Below.trod laidOut (by kernel_rfl) (of_decide_eq_true (by kernel_rfl)) k0 bel lt0) trodAll_mk0),rfl,bel.frame _,fun h=>by cases h⟩
theorem over:Rows.topMaterialRow.holds Tryz.pinned (OpenSpec.ofChange Rows.topMaterialSpec):=
 OpenClaim.holds_of_wide 4 Tryz.f4 rfl rfl rfl rfl rfl rfl rfl ⟨rfl,rfl,rfl,rfl,rfl⟩ rfl rfl rfl rfl rfl (by kernel_rfl) Tryz.func4 (by unfold joinedFacts;simp only [Bool.and_eq_true];(repeat' apply And.intro)<;>(as_aux_lemma=>kernel_rfl))
   (of_decide_eq_true (by kernel_rfl)) (by unfold Func.isWrapper;first|(rw [if_pos (by decide+kernel)];kernel_rfl)|(rw [if_neg (by decide+kernel)];exact⟨rfl,rfl⟩))
   (fun os started H enc _=>lifted os started H enc)
theorem proved:Rows.TopMaterialSaid:=over
#print axioms proved
end Go.Proofs.YtpnamgfdakfccaaGreat.topMaterial
