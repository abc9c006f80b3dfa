import Derived.Test.YtkichmnjjblodaaGreatPeH
import Derived.Test.YtkichmnjjblodaaGreatRows
import Derived.ShutString
set_option linter.unusedVariables false
set_option linter.unusedSimpArgs false
set_option maxRecDepth 20000
set_option maxHeartbeats 4000000
namespace Go.Proofs.YtkichmnjjblodaaGreat.priceBound
open Go.ChangeShapes Go.WideShapes Go.ChangeAt Go.RowKit Go.Proofs.Gw Go.Joins
theorem own:ownKnob Tryz.prog.godebug=none:=Ob
theorem laidOut:laidOutB Tryz.prog=true:=Ob
theorem Zhe:Tryz.prog.bytesOf 3=8:=Ob
theorem Zdz:Tryz.prog.cellsOf 22=1:=Ob
theorem ZiA:Tryz.prog.cellsOf 24=4:=Ob
theorem Zaq:Tryz.prog.cellsOf 3=1:=Ob
set_option maxRecDepth 100000 in
theorem lifted(os:Os)(F:os.Started)(H:Type)(enc:TypeId×Value->H):
   ReturnsInHanded {} Tryz.checked os 10 .any (Rows.priceBoundSpec.pre6 enc Tryz.prog Tryz.f10 Rows.priceBoundRow.domain false) (Rows.priceBoundSpec.post enc Tryz.prog Tryz.f10 false true false false):=by
 refine returnsInHanded_of_change_sized (C:=Tryz.checked) own F (by kernel_rfl) Tryz.func10
   (ChangeSpec.witness6 (enc:=enc) (C:=Tryz.checked) false ⟨#[], #[.agg #[Og,Og,.int Oh 0,.int Oh 0]], []⟩ 8 (by kernel_rfl) (by kernel_rfl) (by kernel_rfl) (by kernel_rfl)) ?_
 intro W base args ds gs before dl hW _ fD _
 have X:(DataW.weightsEach Tryz.prog (Tryz.f10.params.toList++Rows.priceBoundSpec.plain.varTypes Tryz.prog) (ds++gs)).all (· <=reachBytes)=true:=fD
 clear fD
 have fy:∀(j:Nat) t v,Tryz.f10.params[j]? =some t->args[j]? =some v->Value.okWide Tryz.prog W .any base t v:=dl
 have ak:=hW
 obtain⟨p,q,G,hV,rfl,_,_⟩:=hW
 have hA:DataW.TrodAll enc Tryz.prog W 0 (fun _=>true) true Tryz.f10.params.toList args.toList ds p:=G
 rw [Tryz.params10] at hA fy X
 obtain⟨v0,aq,d0,ar,q0,r0,kD,rfl,rfl,t0,G⟩:=trodAll_cons hA
 obtain⟨rfl,rfl,rfl⟩:=trodAll_nil G
 obtain rfl:args= #[v0]:=by cases args;simp_all
 obtain⟨rfl,rfl⟩:=trodVars_none hV
 have k0:=t0
 have ag:∀x∈q0,x.block<W.heap.size:=by obtain⟨m,hm⟩:=k0;exact DataW.trod_lt m _ _ _ hm
 have ad:=TD X (j:=0) rfl rfl
 obtain⟨an,rfl,_⟩:=okWide_struct Tryz.underlying24 (fy 0 24 v0 rfl rfl)
 have D:Rd enc Tryz.prog W true 24 an.toList:=Rd.arg t0 ad
 have V:=D.len Tryz.underlying24
 rw [ZiA] at V
 obtain⟨U,O,J,I,aj⟩:=Zni V
 obtain rfl:=Zb3 aj
 replace D:Rd enc Tryz.prog W true 24 [U,O,J,I]:=D
 have jp:Rd enc Tryz.prog W true 22 [U]:=D.field Tryz.underlying24 0 rfl rfl Zdz rfl
 obtain⟨af,am,aa⟩:=jp.ints Tryz.underlying22 Tryz.underlying3 Zaq Zhe
 have jo:Rd enc Tryz.prog W true 22 [O]:=D.field Tryz.underlying24 1 rfl rfl Zdz rfl
 obtain⟨ae,al,Z⟩:=jo.ints Tryz.underlying22 Tryz.underlying3 Zaq Zhe
 have jl:Rd enc Tryz.prog W true 3 [J]:=D.field Tryz.underlying24 2 rfl rfl Zaq rfl
 obtain⟨ai,rfl,ac⟩:=jl.mx Tryz.underlying3
 have ap:=Zb0 ac
 have jj:Rd enc Tryz.prog W true 3 [I]:=D.field Tryz.underlying24 3 rfl rfl Zaq rfl
 obtain⟨ah,rfl,ab⟩:=jj.mx Tryz.underlying3
 have ao:=Zb0 ab
 clear G dl
 refine(Zbi (p:=⟨af,am,ae,al,ai,ah⟩) W ⟨aa.1,Z.1,aa.2,Z.2,ap,ao⟩).mono fun e W' he=> ?_
 obtain⟨v,rfl,rfl,hS⟩:=he
 have Y:=hS.below
 exact⟨_,rfl,_,_,_, [],_, [],ak,trodAll_mk1 (shut_bool Tryz.underlying4 _),(trodAll_cons_mk (Below.trod laidOut (by kernel_rfl) (of_decide_eq_true (by kernel_rfl)) k0 Y ag) trodAll_mk0),rfl,Y.frame _,fun h=>by cases h⟩
theorem over:Rows.priceBoundRow.holds Tryz.pinned (OpenSpec.ofChange Rows.priceBoundSpec):=
 OpenClaim.holds_of_wide 10 Tryz.f10 rfl rfl rfl rfl rfl rfl rfl ⟨rfl,rfl,rfl,rfl,rfl⟩ rfl rfl rfl rfl rfl (by kernel_rfl) Tryz.func10 (by kernel_rfl)
   (of_decide_eq_true (by kernel_rfl)) (by unfold Func.isWrapper;first|(rw [if_pos (by decide+kernel)];kernel_rfl)|(rw [if_neg (by decide+kernel)];exact⟨rfl,rfl⟩))
   (fun os D H enc _=>lifted os D H enc)
theorem proved:Rows.PriceBoundSaid:=over
#print axioms proved
end Go.Proofs.YtkichmnjjblodaaGreat.priceBound
