import Derived.Test.YtpnamgfdakfccaaGreatTgH
import Derived.Test.YtpnamgfdakfccaaGreatRows
import Derived.ShutString
set_option linter.unusedVariables false
set_option linter.unusedSimpArgs false
set_option maxRecDepth 20000
set_option maxHeartbeats 4000000
namespace Go.Proofs.YtpnamgfdakfccaaGreat.topGomory
open Go.ChangeShapes Go.WideShapes Go.ChangeAt Go.RowKit Go.Proofs.Gw Go.Joins
theorem own:ownKnob Tryz.prog.godebug=none:=Oc
theorem laidOut:laidOutB Tryz.prog=true:=Oc
theorem PV:Tryz.prog.bytesOf 3=8:=Oc
theorem Sz:Tryz.prog.cellsOf 22=1:=Oc
theorem ZkH:Tryz.prog.cellsOf 24=4:=Oc
theorem IQ:Tryz.prog.cellsOf 3=1:=Oc
set_option maxRecDepth 100000 in
theorem lifted(os:Os)(started:os.Started)(H:Type)(enc:TypeId×Value->H):
   ReturnsInHanded {} Tryz.checked os 5 .any (Rows.topGomorySpec.pre6 enc Tryz.prog Tryz.f5 Rows.topGomoryRow.domain false) (Rows.topGomorySpec.post enc Tryz.prog Tryz.f5 false true false false):=by
 refine returnsInHanded_of_change_sized (C:=Tryz.checked) own started (by kernel_rfl) Tryz.func5
   (ChangeSpec.witness6 (enc:=enc) (C:=Tryz.checked) false ⟨#[], #[.agg #[Oh,Oh,.int Oi 0,.int Oi 0]], []⟩ 8 (by kernel_rfl) (by kernel_rfl) (by kernel_rfl) (by kernel_rfl)) ?_
 intro W base args ds gs before ci hW _ dp _
 have hsz:(DataW.weightsEach Tryz.prog (Tryz.f5.params.toList++Rows.topGomorySpec.plain.varTypes Tryz.prog) (ds++gs)).all (· <=reachBytes)=true:=dp
 clear dp
 have eZ:∀(j:Nat) t v,Tryz.f5.params[j]? =some t->args[j]? =some v->Value.okWide Tryz.prog W .any base t v:=ci
 have ak:=hW
 obtain⟨p,q,F,hV,rfl,_,_⟩:=hW
 have hA:DataW.TrodAll enc Tryz.prog W 0 (fun _=>true) true Tryz.f5.params.toList args.toList ds p:=F
 rw [Tryz.params5] at hA eZ hsz
 obtain⟨v0,aq,d0,ar,q0,r0,kR,rfl,rfl,t0,F⟩:=trodAll_cons hA
 obtain⟨rfl,rfl,rfl⟩:=trodAll_nil F
 obtain rfl:args= #[v0]:=by cases args;simp_all
 obtain⟨rfl,rfl⟩:=trodVars_none hV
 have k0:=t0
 have ag:∀x∈q0,x.block<W.heap.size:=by obtain⟨m,hm⟩:=k0;exact DataW.trod_lt m _ _ _ hm
 have ad:=T6 hsz (j:=0) rfl rfl
 obtain⟨an,rfl,_⟩:=okWide_struct Tryz.underlying24 (eZ 0 24 v0 rfl rfl)
 have D:Rd enc Tryz.prog W true 24 an.toList:=Rd.arg t0 ad
 have U:=D.len Tryz.underlying24
 rw [ZkH] at U
 obtain⟨O,N,J,I,aj⟩:=ZpF U
 obtain rfl:=Zdp aj
 replace D:Rd enc Tryz.prog W true 24 [O,N,J,I]:=D
 have gT:Rd enc Tryz.prog W true 22 [O]:=D.field Tryz.underlying24 0 rfl rfl Sz rfl
 obtain⟨af,am,aa⟩:=gT.ints Tryz.underlying22 Tryz.underlying3 IQ PV
 have gS:Rd enc Tryz.prog W true 22 [N]:=D.field Tryz.underlying24 1 rfl rfl Sz rfl
 obtain⟨ae,al,Z⟩:=gS.ints Tryz.underlying22 Tryz.underlying3 IQ PV
 have gQ:Rd enc Tryz.prog W true 3 [J]:=D.field Tryz.underlying24 2 rfl rfl IQ rfl
 obtain⟨ai,rfl,ac⟩:=gQ.ED Tryz.underlying3
 have ap:=Lj ac
 have gP:Rd enc Tryz.prog W true 3 [I]:=D.field Tryz.underlying24 3 rfl rfl IQ rfl
 obtain⟨ah,rfl,ab⟩:=gP.ED Tryz.underlying3
 have ao:=Lj ab
 clear F ci
 refine(Zhd (p:=⟨af,am,ae,al,ai,ah⟩) W ⟨aa.1,Z.1,aa.2,Z.2,ap,ao⟩).mono fun e W' he=> ?_
 obtain⟨v,rfl,rfl,hS⟩:=he
 have Y:=hS.below
 exact⟨_,rfl,_,_,_, [],_, [],ak,trodAll_mk1 (shut_bool Tryz.underlying4 _),(trodAll_cons_mk (Below.trod laidOut (by kernel_rfl) (of_decide_eq_true (by kernel_rfl)) k0 Y ag) trodAll_mk0),rfl,Y.frame _,fun h=>by cases h⟩
theorem over:Rows.topGomoryRow.holds Tryz.pinned (OpenSpec.ofChange Rows.topGomorySpec):=
 OpenClaim.holds_of_wide 5 Tryz.f5 rfl rfl rfl rfl rfl rfl rfl ⟨rfl,rfl,rfl,rfl,rfl⟩ rfl rfl rfl rfl rfl (by kernel_rfl) Tryz.func5 (by unfold joinedFacts;simp only [Bool.and_eq_true];(repeat' apply And.intro)<;>(as_aux_lemma=>kernel_rfl))
   (of_decide_eq_true (by kernel_rfl)) (by unfold Func.isWrapper;first|(rw [if_pos (by decide+kernel)];kernel_rfl)|(rw [if_neg (by decide+kernel)];exact⟨rfl,rfl⟩))
   (fun os started H enc _=>lifted os started H enc)
theorem proved:Rows.TopGomorySaid:=over
#print axioms proved
end Go.Proofs.YtpnamgfdakfccaaGreat.topGomory
