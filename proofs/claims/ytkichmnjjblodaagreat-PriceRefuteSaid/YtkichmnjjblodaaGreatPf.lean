import Derived.Test.YtkichmnjjblodaaGreatPfG
import Derived.Test.YtkichmnjjblodaaGreatRows
import Derived.ShutString
set_option linter.unusedVariables false
set_option linter.unusedSimpArgs false
set_option maxRecDepth 20000
set_option maxHeartbeats 4000000
namespace Go.Proofs.YtkichmnjjblodaaGreat.priceRefute
open Go.ChangeShapes Go.WideShapes Go.ChangeAt Go.RowKit Go.Proofs.Gw Go.Joins
theorem own:ownKnob Tryz.prog.godebug=none:=by kernel_rfl
theorem laidOut:laidOutB Tryz.prog=true:=by kernel_rfl
theorem Zgm:Tryz.prog.bytesOf 3=8:=by kernel_rfl
theorem ZcW:Tryz.prog.cellsOf 22=1:=by kernel_rfl
theorem ZhD:Tryz.prog.cellsOf 24=4:=by kernel_rfl
theorem ZhC:Tryz.prog.cellsOf 26=5:=by kernel_rfl
theorem TF:Tryz.prog.cellsOf 3=1:=by kernel_rfl
set_option maxRecDepth 100000 in
theorem lifted(os:Os)(started:os.Started)(H:Type)(enc:TypeId×Value->H):
    ReturnsInHanded {} Tryz.checked os 8 .any (Rows.priceRefuteSpec.pre6 enc Tryz.prog Tryz.f8 Rows.priceRefuteRow.domain false) (Rows.priceRefuteSpec.post enc Tryz.prog Tryz.f8 false true false false):=by
  refine returnsInHanded_of_change_sized (C:=Tryz.checked) own started (by kernel_rfl) Tryz.func8
    (ChangeSpec.witness6 (enc:=enc) (C:=Tryz.checked) false ⟨#[], #[.agg #[.slice none 0 0,.slice none 0 0,.int .i64 0,.int .i64 0,.int .i64 0]], []⟩ 8 (by kernel_rfl) (by kernel_rfl) (by kernel_rfl) (by kernel_rfl)) ?_
  intro W base args ds gs before bG hW _ dL _
  have hsz:(DataW.weightsEach Tryz.prog (Tryz.f8.params.toList++Rows.priceRefuteSpec.plain.varTypes Tryz.prog) (ds++gs)).all (· <=reachBytes)=true:=dL
  clear dL
  have dH:∀(j:Nat) t v,Tryz.f8.params[j]? =some t->args[j]? =some v->Value.okWide Tryz.prog W .any base t v:=bG
  have hW':=hW
  obtain⟨p,q,hA0,hV,rfl,_,_⟩:=hW
  have hA:DataW.TrodAll enc Tryz.prog W 0 (fun _=>true) true Tryz.f8.params.toList args.toList ds p:=hA0
  rw [Tryz.params8] at hA dH hsz
  obtain⟨v0,vs0,d0,ds0,q0,r0,jj,rfl,rfl,t0,hA0⟩:=trodAll_cons hA
  obtain⟨rfl,rfl,rfl⟩:=trodAll_nil hA0
  obtain rfl:args= #[v0]:=by cases args;simp_all
  obtain⟨rfl,rfl⟩:=trodVars_none hV
  have k0:=t0
  have lt0:∀x∈q0,x.block<W.heap.size:=by obtain⟨m,hm⟩:=k0;exact DataW.trod_lt m _ _ _ hm
  have sm0:=Ta hsz (j:=0) rfl rfl
  obtain⟨cs0,rfl,_⟩:=okWide_struct Tryz.underlying26 (dH 0 26 v0 rfl rfl)
  have rd0:Rd enc Tryz.prog W true 26 cs0.toList:=Rd.arg t0 sm0
  have rl0:=rd0.len Tryz.underlying26
  rw [ZhC] at rl0
  obtain⟨x0_0,x0_1,x0_2,x0_3,x0_4,hx0⟩:=Zmc rl0
  obtain rfl:=Zbw hx0
  replace rd0:Rd enc Tryz.prog W true 26 [x0_0,x0_1,x0_2,x0_3,x0_4]:=rd0
  have bi:Rd enc Tryz.prog W true 24 [x0_0,x0_1,x0_2,x0_3]:=rd0.field Tryz.underlying26 0 rfl rfl ZhD rfl
  have dr:Rd enc Tryz.prog W true 22 [x0_0]:=bi.field Tryz.underlying24 0 rfl rfl ZcW rfl
  obtain⟨e8,f7,eW⟩:=dr.ints Tryz.underlying22 Tryz.underlying3 TF Zgm
  have dp:Rd enc Tryz.prog W true 22 [x0_1]:=bi.field Tryz.underlying24 1 rfl rfl ZcW rfl
  obtain⟨e7,f6,eV⟩:=dp.ints Tryz.underlying22 Tryz.underlying3 TF Zgm
  have dm:Rd enc Tryz.prog W true 3 [x0_2]:=bi.field Tryz.underlying24 2 rfl rfl TF rfl
  obtain⟨fe,rfl,eY⟩:=dm.intv Tryz.underlying3
  have gF:=R6 eY
  have dl:Rd enc Tryz.prog W true 3 [x0_3]:=bi.field Tryz.underlying24 3 rfl rfl TF rfl
  obtain⟨fc,rfl,eX⟩:=dl.intv Tryz.underlying3
  have gE:=R6 eX
  have eZ:Rd enc Tryz.prog W true 3 [x0_4]:=rd0.field Tryz.underlying26 1 rfl rfl TF rfl
  obtain⟨i01,rfl,w01⟩:=eZ.intv Tryz.underlying3
  have b01:=R6 w01
  clear hA0 bG
  refine(ZbI (p:=⟨e8,f7,e7,f6,fe,fc⟩) (b:=i01) W ⟨eW.1,eV.1,eW.2,eV.2,gF,gE⟩).mono fun e W' he=> ?_
  obtain⟨v,rfl,rfl,hS⟩:=he
  have bel:=hS.below
  exact⟨_,rfl,_,_,_, [],_, [],hW',trodAll_mk1 (shut_bool Tryz.underlying4 _),(trodAll_cons_mk (Below.trod laidOut (by kernel_rfl) (of_decide_eq_true (by kernel_rfl)) k0 bel lt0) trodAll_mk0),rfl,bel.frame _,fun h=>by cases h⟩
theorem over:Rows.priceRefuteRow.holds Tryz.pinned (OpenSpec.ofChange Rows.priceRefuteSpec):=
  OpenClaim.holds_of_wide 8 Tryz.f8 rfl rfl rfl rfl rfl rfl rfl ⟨rfl,rfl,rfl,rfl,rfl⟩ rfl rfl rfl rfl rfl (by kernel_rfl) Tryz.func8 (by kernel_rfl)
    (of_decide_eq_true (by kernel_rfl)) (by unfold Func.isWrapper;first|(rw [if_pos (by decide+kernel)];kernel_rfl)|(rw [if_neg (by decide+kernel)];exact⟨rfl,rfl⟩))
    (fun os started H enc _=>lifted os started H enc)
theorem proved:Rows.PriceRefuteSaid:=over
#print axioms proved
end Go.Proofs.YtkichmnjjblodaaGreat.priceRefute
