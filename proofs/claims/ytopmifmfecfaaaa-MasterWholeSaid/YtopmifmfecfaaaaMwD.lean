/- Part 4 of the texts that the proof needs. -/
import Derived.Test.YtopmifmfecfaaaaMwC
import Derived.ProofKit
import Derived.OpenShut
import Derived.ChangeOld
import Derived.SizedLaws
import Derived.Lib.SmallJoins
import Derived.Deep.Slices
set_option linter.unusedVariables false
set_option linter.unusedSimpArgs false
namespace Go.Proofs.Ytopmifmfecfaaaa
open Go Go.RowKit Go.Proofs.Gw
theorem Zcp:Zd Try.prog 32=true:=by kernel_rfl
theorem ZaC:Zd Try.prog 33=true:=by kernel_rfl
theorem Rb{m nO l:Int}{m0:List Int}{h:List (List Int)}{M M2 a a2 lO cO:Int->Int}{gO:Int->Int->Int}(hs:(lst m M,plL nO lO gO cO)=YV m0 h)(n0:0<=nO)(hl:l=m)(ha:∀k,0<=k->k<m->a2 k=a k-min (a k) (M k))(hM:∀k,0<=k->k<m->M2 k=M k-min (a k) (M k))(hx:∃k,0<=k/\k<l/\0<a2 k):
    (lst m M2,plL (nO+1) (gsn lO nO l) (gsn gO nO a2) (Z5 cO nO 1))=YV m0 (h++ [lst l a]):=by
  subst hl
  rw [XG,<-hs]
  unfold YR tM tA
  dsimp only
  rw [YC,YC,ZK (f:=fun k=>a k-min (a k) (M k)) (g:=a2) fun k k0 k1=>(ha k k0 k1).symm,if_pos (XD.2 hx),ZK (f:=fun k=>M k-min (a k) (M k)) (g:=M2) fun k k0 k1=>(hM k k0 k1).symm,
    VV n0 (fun k k0 k1=>⟨Zx k1,ZH k1,Zx k1⟩) (ZF (by omega)) (ZI (by omega)) (ZF (by omega))]
theorem Zau{m nO l:Int}{m0:List Int}{h:List (List Int)}{M M2 a a2 lO cO:Int->Int}{gO:Int->Int->Int}(hs:(lst m M,plL nO lO gO cO)=YV m0 h)(hl:l=m)(ha:∀k,0<=k->k<m->a2 k=a k-min (a k) (M k))(hM:∀k,0<=k->k<m->M2 k=M k-min (a k) (M k))(hx:¬∃k,0<=k/\k<l/\0<a2 k):
    (lst m M2,plL nO lO gO cO)=YV m0 (h++ [lst l a]):=by
  subst hl
  rw [XG,<-hs]
  unfold YR tM tA
  dsimp only
  rw [YC,YC,ZK (f:=fun k=>a k-min (a k) (M k)) (g:=a2) fun k k0 k1=>(ha k k0 k1).symm,if_neg (fun hh=>hx (XD.1 hh)),ZK (f:=fun k=>M k-min (a k) (M k)) (g:=M2) fun k k0 k1=>(hM k k0 k1).symm]
theorem Uu{fa fa2:Int->Int}{j:Int}{p p2:Prop}(j0:0<=j)(h:p↔∃q,0<=q/\q<j/\0<fa q)(he:∀q,q<j->fa2 q=fa q)(h2:p2↔(p\/0<fa2 j)):p2↔∃q,0<=q/\q<j+1/\0<fa2 q:=by
  rw [h2,h]
  constructor
  · rintro(⟨q,q0,q1,q2⟩|h)
    · exact⟨q,q0,by omega,by rw [he q q1];exact q2⟩
    · exact⟨j,j0,by omega,h⟩
  · rintro⟨q,q0,q1,q2⟩
    by_cases e:q=j
    · rw [e] at q2;exact .inr q2
    · rw [he q (by omega)] at q2;exact .inl ⟨q,q0,by omega,q2⟩
theorem Xu{α:Type}(l:List α)(x:α){n:Int}(n0:0<=n):l++List.replicate (n+1).toNat x=(l++List.replicate n.toNat x)++ [x]:=by
  rw [show(n+1).toNat=n.toNat+1 by omega,List.replicate_succ',List.append_assoc]
set_option maxHeartbeats 4000000 in
set_option maxRecDepth 20000 in
theorem Zae {vV:Value} {u:Int} {pv:Int->Value} {ln:Int->Int} {pt:Int->Int->Int} {cnt:Int->Int} {vL vD:Value} {p:Prob} (w0:World) (hV:VAt w0 vV u pv ln pt cnt) (h:PAt w0 vL vD p):
    Calls Try.prog 11 [.agg #[vL,vD,.int .i64 p.stock,.int .i64 p.kerf],vV].toArray w0 fun e w=>∃v,e= .returned v/\∃r n2 pv2 ln2 pt2 cnt2 e,v= .tuple #[r,.int .i64 e]/\TrimR p u ln pt cnt (plL n2 ln2 pt2 cnt2) e/\(∀k,0<=k->k<n2->1<=cnt2 k/\cnt2 k<=1000000000)/\n2<=1000000/\Slh r n2/\Sat w0 w [.own r 2 34 n2 (Zf pv2 cnt2),.sem (Frame.rows 3 n2 pv2 ln2 pt2)]:=by
  have hm:=h.L.slh.n0;have hm1:=h.L.slh.n1;have hd:=h.D.slh.n0;have hd1:=h.D.slh.n1;have hs:=h.is;have hk:=h.ik
  have hu:=hV.row.slh.n0;have hu1:=hV.row.slh.n1
  refine Zn Try.func11 Try.ntmps11 fun w hS=> ?_
  refine zsr ?_
  refine zla (xbx (cs:= [_,_,_,_]) hS) ?_;rintro _ w ⟨g1,rfl,hS⟩
  replace hS:=hS.n1
  refine zs2 ?_
  refine zlz ?_
  refine zlv (xls 0 st_24 hS) ?_
  refine zlv xmv ?_
  refine zlc (xc0 ZaD) (Tx (u:=u) (pv:=pv) (ln:=ln) (pt:=pt) (cnt:=cnt) (p:=p) w (hV.below hS.below) (h.below hS.below)) ?_;rintro _ w ⟨vdmd1,ndmd1,fdmd1,edmd1,rfl,hmdmd1,hvdmd1,hS'⟩
  replace hS:Sat w0 w [.blk g1 [vL,vD,.int .i64 p.stock,.int .i64 p.kerf],.own vdmd1 1 3 ndmd1 (ints fdmd1)]:=hS.comp hS';clear hS'
  refine zs5 ?_
  refine zlt<|zsq<|zbk<|zsr ?_
  refine zs3 ?_
  refine zlt ?_
  refine zcif ?_ ?_<;>intro hc
  ·
   refine zsr ?_
   refine zs3 ?_
   refine zlt<|zrt<|zbr<|ztr<|zf2 ⟨_,rfl,?_⟩
   have hmd:¬PlanOk p u ln pt cnt/\edmd1=1:=by rcases hmdmd1 with⟨g1,_,g3⟩|⟨_,_,_,g4⟩;exact⟨g1,g3⟩;omega
   exact⟨_,0,fun _=>undef,fun _=>0,fun _ _=>0,fun _=>0,_,rfl,.inl ⟨hmd.1,rfl,by omega⟩,fun k k0 k1=>by omega,by omega,slh_nil,((hS.sub (.cons _ (.cons _ .slnil))).addnil 2 34 (Zf (fun _=>undef) (fun _=>0))).addrows 3 (fun _=>undef) (fun _=>0) (fun _ _=>0)⟩
  refine zsr ?_
  refine zlv (xls 0 st_24 hS) ?_
  refine zlv xmv ?_
  refine zlc (xc0 Zcp) (R3 (u:=u) (pv:=pv) (ln:=ln) (pt:=pt) (cnt:=cnt) (p:=p) w (hV.below hS.below) (h.below hS.below)) ?_;rintro _ w ⟨rfl,hS'⟩
  replace hS:=hS.cmp hS';clear hS'
  refine zs2 ?_
  refine zlt ?_
  refine zcif ?_ ?_<;>intro hc
  ·
   refine zsr ?_
   refine zs2 ?_
   refine zlt<|zrt<|zbr<|ztr<|zf2 ⟨_,rfl,?_⟩
   have hplo:PlanOk p u ln pt cnt:=by rcases hmdmd1 with⟨_,_,g3⟩|⟨g1,_⟩;omega;exact g1
   exact⟨_,0,fun _=>undef,fun _=>0,fun _ _=>0,fun _=>0,_,rfl,.inr (.inl ⟨hplo,fun hh=>‹¬(_/\_)› ⟨hplo,hh⟩,rfl,rfl⟩),fun k k0 k1=>by omega,by omega,slh_nil,((hS.sub (.cons _ (.cons _ .slnil))).addnil 2 34 (Zf (fun _=>undef) (fun _=>0))).addrows 3 (fun _=>undef) (fun _=>0) (fun _ _=>0)⟩
  refine zsk<|zbn<|ztn<|zsr ?_
  refine zlv xmv ?_
  obtain⟨hplo,hnd9,hfd9⟩:PlanOk p u ln pt cnt/\ndmd1=p.m/\fdmd1=Zs u pt cnt:=by rcases hmdmd1 with⟨_,_,g3⟩|⟨g1,g2,g3,_⟩;omega;exact⟨g1,g2,g3⟩
  have hpm1:=hplo.1.m1;have hpm2:=hplo.1.m2;have hpd:=hplo.1.d;have hu3:=hplo.2.1
  have hmeet:∀j,0<=j->j<p.m->p.D j<=Zs u pt cnt j:=(Classical.not_not.1 ‹¬¬(_/\_)›).2
  refine zlc (xc0 ZaC) (Ty (u:=u) (pv:=pv) (ln:=ln) (pt:=pt) (cnt:=cnt) w (hV.below hS.below) (by omega) (fun k k0 k1=>by have h9:=(hplo.2.2 k k0 k1).2.2.eq;omega) (fun k k0 k1=>by have h9:=hplo.2.2 k k0 k1;exact⟨h9.1,h9.2.1⟩)) ?_;rintro vnn1 w ⟨_,nnn1,pnn1,lnn1,gnn1,cnn1,rfl,hnrn1,hn0n1,hn1n1,hncn1,hvnn1,hS'⟩
  replace hS:Sat w0 w [.blk g1 [vL,vD,.int .i64 p.stock,.int .i64 p.kerf],.own vdmd1 1 3 ndmd1 (ints fdmd1),.own vnn1 2 34 nnn1 (Zf pnn1 cnn1),.sem (Frame.rows 3 nnn1 pnn1 lnn1 gnn1)]:=hS.comp hS';clear hS'
  have hrnn1:=fun k (k0:0<=k) (k1:k<nnn1)=>hS.slhIn 3 rfl k0 k1
  have hln0:=fun k k0 k1=>(hrnn1 k k0 k1).n0
  have hfit:=TN hplo hnrn1 hln0
  have hbr9:=TO hu hn0n1 hplo hnrn1
  refine zlv xas ?_
  refine zlz ?_
  refine zlv xas ?_
  refine zx5 ?_
  refine zlv xmv ?_
  refine zlv (xln sl_25 hvnn1) ?_
  refine zlv (xsub (r:=nnn1-1)) ?_
  refine zlv xas ?_
  refine zx6 ?_
  replace hS:=hS.addnil 2 34 (Zf (fun _=>Value.slice none 0 0) (fun _=>0))
  replace hS:=hS.n5
  replace hS:=hS.addrows 3 (fun _=>Value.slice none 0 0) (fun _=>0) (fun _ _=>0)
  replace hS:=hS.n6
  replace hS:=hS.n6
  have hrs0:=fun k (k0:0<=k) (k1:k<0)=>hS.slhIn 5 rfl k0 k1
  refine zlp (fun mm M w=>∃(nO:Int) (wO:Int->Value) (lO:Int->Int) (gO:Int->Int->Int) (cO:Int->Int) (fM:Int->Int) (i:Int) (xO:Value),mm=((i+1).toNat)/\(-1<=i)/\(i<nnn1)/\(0<=nO/\nO<=((YK lnn1 gnn1 cnn1 (dwn nnn1 i)).length:Int))/\((lst p.m (fun k=>fM k-p.D k),plL nO lO gO cO)=YV (lst p.m fun j=>Zs u pt cnt j-p.D j) (YK lnn1 gnn1 cnn1 (dwn nnn1 i)))/\(∀k,0<=k->k<p.m->p.D k<=fM k/\fM k<=2000000000)/\(∀k,0<=k->k<nO->lO k=p.m/\cO k=1)/\(∀x,(wO x).oneCell'=true)/\(Slh xO nO)/\M= [(2,.pointer (some ⟨g1,0,none⟩)),(4,.slice none 0 0),(5,.int .i64 0),(6,vdmd1),(8,vnn1),(9,xO),(10,.int .i64 i)]/\Sat w0 w [.blk g1 [vL,vD,.int .i64 p.stock,.int .i64 p.kerf],.own vdmd1 1 3 ndmd1 (ints fM),.own vnn1 2 34 nnn1 (Zf pnn1 cnn1),.sem (Frame.rows 3 nnn1 pnn1 lnn1 gnn1),.own xO 2 34 nO (Zf wO cO),.sem (Frame.rows 3 nO wO lO gO)]) ⟨0,(fun _=>Value.slice none 0 0),(fun _=>0),(fun _ _=>0),(fun _=>0),fdmd1,nnn1-1,(.slice none 0 0),rfl,(by omega),(by omega),?_,?_,?_,?_,?_,?_,rfl,hS⟩ ?_
  ·
   rw [WX];exact⟨Int.le_refl _,by simp [YK]⟩
  ·
   rw [WX,hfd9];rfl
  ·
   intro k k0 k1;rw [hfd9];have h9:=hmeet k k0 k1;have h7:=WR hplo.2.2 hu (Int.le_refl _) k0 k1;omega
  ·
   intro k k0 k1;omega
  ·
   intro x;rfl
  ·
   exact slh_nil
  clear hS w
  rintro mm M w ⟨nO,wO,lO,gO,cO,fM,i,xO,rfl,i0,i1,hnO,hT,hMr,hlO,hone,hxO,rfl,hS⟩
  have hrs1:=fun k (k0:0<=k) (k1:k<nO)=>hS.slhIn 5 rfl k0 k1
  refine zsq<|zsr ?_
  refine zs2 ?_
  refine zlt ?_
  refine zcif ?_ ?_<;>intro hc
  ·
   refine zx3 ?_
   refine zlv xas ?_
   refine zx6 ?_
   have hcni:=hncn1 i (by omega) (by omega)
   have hlni:=hfit i (by omega) (by omega)
   have hlni1:=hlni.1
   refine zlp (fun mm M w=>∃(nO2:Int) (wO2:Int->Value) (lO2:Int->Int) (gO2:Int->Int->Int) (cO2:Int->Int) (fM2:Int->Int) (n:Int) (xO2:Value),mm=((cnn1 i-n).toNat)/\(0<=n)/\(n<=cnn1 i)/\(0<=nO2/\nO2<=((YK lnn1 gnn1 cnn1 (dwn nnn1 i)++List.replicate n.toNat (lst (lnn1 i) (gnn1 i))).length:Int))/\((lst p.m (fun k=>fM2 k-p.D k),plL nO2 lO2 gO2 cO2)=YV (lst p.m fun j=>Zs u pt cnt j-p.D j) (YK lnn1 gnn1 cnn1 (dwn nnn1 i)++List.replicate n.toNat (lst (lnn1 i) (gnn1 i))))/\(∀k,0<=k->k<p.m->p.D k<=fM2 k/\fM2 k<=2000000000)/\(∀k,0<=k->k<nO2->lO2 k=p.m/\cO2 k=1)/\(∀x,(wO2 x).oneCell'=true)/\(Slh xO2 nO2)/\M= [(2,.pointer (some ⟨g1,0,none⟩)),(4,.slice none 0 0),(5,.int .i64 0),(6,vdmd1),(8,vnn1),(9,xO2),(10,.int .i64 i),(11,.int .i64 n)]/\Sat w0 w [.blk g1 [vL,vD,.int .i64 p.stock,.int .i64 p.kerf],.own vdmd1 1 3 ndmd1 (ints fM2),.own vnn1 2 34 nnn1 (Zf pnn1 cnn1),.sem (Frame.rows 3 nnn1 pnn1 lnn1 gnn1),.own xO2 2 34 nO2 (Zf wO2 cO2),.sem (Frame.rows 3 nO2 wO2 lO2 gO2)]) ⟨nO,wO,lO,gO,cO,fM,0,xO,rfl,(by omega),(by omega),?_,?_,?_,?_,?_,?_,rfl,hS⟩ ?_
   ·
    simpa using hnO
   ·
    simpa using hT
   ·
    exact hMr
   ·
    exact hlO
   ·
    exact hone
   ·
    exact hxO
   clear hS w
   rintro mm M w ⟨nO2,wO2,lO2,gO2,cO2,fM2,n,xO2,rfl,n0,n1,hnO2,hT2,hMr2,hlO2,hone2,hxO2,rfl,hS⟩
   have hrs2:=fun k (k0:0<=k) (k1:k<nO2)=>hS.slhIn 5 rfl k0 k1
   refine zsq<|zsr ?_
   refine zs3 ?_
   refine zlv (xix (kk:=2*i) sl_25 hvnn1) ?_
   refine zlv (xfc (kk:=2*i+1) ZU hvnn1) ?_
   refine zlv (xlr (u:= .int .i64 (cnn1 i)) pl_3 (hS.rowN 2 rfl) (e:=(Z0 pnn1 cnn1 (by omega)))) ?_
   refine zlv Zk ?_
   refine zlt ?_
   refine zcif ?_ ?_<;>intro hc
   ·
    refine zx3 ?_
    refine zla (xl0 (c:=ints (gnn1 i)) sl_22 hS) ?_;rintro v1 w ⟨hS,hv1⟩
    replace hS:=hS.n7
    refine zs2 ?_
    refine zlv (xix (kk:=2*i) sl_25 hvnn1) ?_
    refine zlv (xfc (kk:=2*i) Yi hvnn1) ?_
    refine zlv (xlr (u:=(pnn1 i)) pl_22 (hS.rowN 2 rfl) (e:=(Yh pnn1 cnn1 (by omega)))) ?_
    have hbp:=Zao (ln:=lnn1) (pt:=gnn1) (cnt:=cnn1) (u:=nnn1) (x:=i) (c:=n) (fun k k0 k1=>by have:=hncn1 k k0 k1;omega) (by omega) (by omega) n0 (by omega)
    refine zla (xap 6 (r:=(lnn1 i)) (f:=ints (gnn1 i)) sl_22 ZG hS (hS.rowIn (k:=i) 3 rfl (by omega) (by omega)) (by exact Um _ _)) ?_;rintro v2 w ⟨hS,hv2⟩
    replace hS:=hS.n7
    refine zlv xas ?_
    refine zlz ?_
    refine zlv xas ?_
    refine zx5 ?_
    refine zlv xas ?_
    refine zx6<|zlp (fun mm M w=>∃(any:Prop) (fa3:Int->Int) (fm3:Int->Int) (j:Int),mm=((lnn1 i-j).toNat)/\(0<=j)/\(j<=lnn1 i)/\(∀k,0<=k->k<p.m->fa3 k=(if k<j then gnn1 i k-min (gnn1 i k) (fM2 k-p.D k) else gnn1 i k))/\(∀k,0<=k->k<p.m->fm3 k=(if k<j then fM2 k-min (gnn1 i k) (fM2 k-p.D k) else fM2 k))/\(any↔∃q,0<=q/\q<j/\0<fa3 q)/\M= [(2,.pointer (some ⟨g1,0,none⟩)),(4,.slice none 0 0),(5,.int .i64 0),(6,vdmd1),(8,vnn1),(9,xO2),(10,.int .i64 i),(11,.int .i64 n),(12,v2),(13,B (any)),(14,.int .i64 j)]/\Sat w0 w [.blk g1 [vL,vD,.int .i64 p.stock,.int .i64 p.kerf],.own vdmd1 1 3 ndmd1 (ints fm3),.own vnn1 2 34 nnn1 (Zf pnn1 cnn1),.sem (Frame.rows 3 nnn1 pnn1 lnn1 gnn1),.own xO2 2 34 nO2 (Zf wO2 cO2),.sem (Frame.rows 3 nO2 wO2 lO2 gO2),.own v2 1 3 (lnn1 i) (ints fa3)]) ⟨False,gnn1 i,fM2,0,rfl,(by omega),(by omega),?_,?_,?_,rfl,hS⟩ ?_ (hM:=by repeat' first|exact T6|refine zpk rfl ?_|refine zpk (congrArg some (ZJ not_false).symm) ?_|refine zpk (congrArg some (YB trivial).symm) ?_)
    ·
     intro k k0 k1;rw [if_neg (by omega)]
    ·
     intro k k0 k1;rw [if_neg (by omega)]
    ·
     exact⟨fun h=>h.elim,fun⟨q,q0,q1,_⟩=>by omega⟩
    clear hS w
    rintro mm M w ⟨any,fa3,fm3,j,rfl,j0,j1,hfa3,hfm3,hany,rfl,hS⟩
    refine zsq<|zsr ?_
    refine zs2 ?_
    refine zlv (xln sl_22 hv2) ?_
    refine zlv Zk ?_
    refine zlt ?_
    refine zcif ?_ ?_<;>intro hc
    ·
     refine zsk<|ztn<|zsq<|zbk<|zsq ?_
     refine zdst [0,1,2,3,4,5,6] [0,1,2,3,4,5,6] 1000 mx_ hS ?_;clear hS;intro w hS
     refine zDrv 0 xmv ?_
     refine zDrv 1 xmv ?_
     have haj:=hlni.2 j j0 (by omega)
     have hfaj:=hfa3 j j0 (by omega)
     have hfmj:=hfm3 j j0 (by omega)
     have hMj:=hMr2 j j0 (by omega)
     have hdj:=Zbi hplo.1 j0 (by omega:j<p.m)
     rw [if_neg (by omega)] at hfaj hfmj
     refine zDrv 2 (xix (kk:=j) sl_22 hv2) ?_
     refine zdla 3 (fun w hS=>(xlr (u:= .int .i64 (fa3 j)) pl_3 (hS.rowN 6 rfl))) ?_
     refine zDrv 4 xmv ?_
     refine zDrv 5 xmv ?_
     refine zDrv 6 (xix (kk:=j) sl_22 hvdmd1) ?_
     refine zdla 7 (fun w hS=>(xlr (u:= .int .i64 (fm3 j)) pl_3 (hS.rowN 1 rfl))) ?_
     refine zDrv 8 (xfb 1 fd_24_1) ?_
     refine zdla 9 (fun w hS=>(xlb 0 pl_22 hS)) ?_
     refine zDrv 10 xmv ?_
     refine zDrv 11 (xix (kk:=j) sl_22 h.D.slh) ?_
     refine zdla 12 (fun w hS=>(xlr (u:= .int .i64 (p.D j)) pl_3 (h.D.below hS.below))) ?_
     have hbv:=h.iD j
     refine zDrv 13 (xsub (r:=fm3 j-p.D j)) ?_
     refine zDrv 14 (ZaH (r:=(min (fa3 j) (fm3 j-p.D j)))) ?_
     refine zDrv 15 xas ?_
     refine zdd<|ztn<|zsr ?_
     refine zs2 ?_
     refine zlv (xix (kk:=j) sl_22 hv2) ?_
     refine zlv (xlr (u:= .int .i64 (fa3 j)) pl_3 (hS.rowN 6 rfl)) ?_
     refine zlv xmv ?_
     refine zlv (xsub (r:=fa3 j-(min (fa3 j) (fm3 j-p.D j)))) ?_
     refine zlv (xix (kk:=j) sl_22 hv2) ?_
     refine zle (xso 6 pl_3 hS (ZZ _ _ _)) ?_;clear hS;rintro w hS
     replace hS:=hS.n7
     refine zlz ?_
     refine zs2 ?_
     refine zlv (xix (kk:=j) sl_22 hvdmd1) ?_
     refine zlv (xlr (u:= .int .i64 (fm3 j)) pl_3 (hS.rowN 1 rfl)) ?_
     refine zlv xmv ?_
     refine zlv (xsub (r:=fm3 j-(min (fa3 j) (fm3 j-p.D j)))) ?_
     refine zlv (xix (kk:=j) sl_22 hvdmd1) ?_
     refine zle (xso 1 pl_3 hS (ZZ _ _ _)) ?_;clear hS;rintro w hS
     replace hS:=hS.n7
     refine zlt<|zrg ?_
     refine zs2 ?_
     refine zlb 92 ?_ ?_<;>intro hc
     ·
      iterate 5 refine zlo ?_
      refine zs2 ?_
      refine zx10 ?_
      refine zlv xmv ?_
      refine zlv (xadd (r:=j+1)) ?_
      refine zlv xas ?_
      refine zln<|zlq ⟨True,(upd fa3 j (fa3 j-(min (fa3 j) (fm3 j-p.D j)))),(upd fm3 j (fm3 j-(min (fa3 j) (fm3 j-p.D j)))),j+1,rfl,(by omega),(by omega),?_,?_,?_,rfl,hS⟩ (hM:=by repeat' first|exact T6|refine zpk rfl ?_|refine zpk (congrArg some (ZJ not_false).symm) ?_|refine zpk (congrArg some (YB trivial).symm) ?_)
      ·
       intro k k0 k1;unfold upd;by_cases e:k=j
       · rw [if_pos e,if_pos (by omega),e];omega
       · rw [if_neg e,hfa3 k k0 k1];by_cases e2:k<j
         · rw [if_pos e2,if_pos (by omega)]
         · rw [if_neg e2,if_neg (by omega)]
      ·
       intro k k0 k1;unfold upd;by_cases e:k=j
       · rw [if_pos e,if_pos (by omega),e];omega
       · rw [if_neg e,hfm3 k k0 k1];by_cases e2:k<j
         · rw [if_pos e2,if_pos (by omega)]
         · rw [if_neg e2,if_neg (by omega)]
      ·
       refine Uu j0 hany (fun q hq=>by unfold upd;rw [if_neg (by omega)]) ?_
       first
       |exact⟨fun _=> .inl ‹any›,fun _=>trivial⟩
       |exact⟨fun h9=> .inr h9,fun h9=>h9.elim (fun h8=>absurd h8 ‹¬any›) id⟩
     refine zs2 ?_
     refine zlv (xix (kk:=j) sl_22 hv2) ?_
     refine zlv (xlr (u:= .int .i64 ((upd fa3 j (fa3 j-(min (fa3 j) (fm3 j-p.D j)))) j)) pl_3 (hS.rowN 6 rfl)) ?_
     refine zs3 ?_
     refine zx10 ?_
     refine zlv xmv ?_
     refine zlv (xadd (r:=j+1)) ?_
     refine zlv xas ?_
     refine zln<|zlq ⟨0<(upd fa3 j (fa3 j-(min (fa3 j) (fm3 j-p.D j)))) j,(upd fa3 j (fa3 j-(min (fa3 j) (fm3 j-p.D j)))),(upd fm3 j (fm3 j-(min (fa3 j) (fm3 j-p.D j)))),j+1,rfl,(by omega),(by omega),?_,?_,?_,rfl,hS⟩
     ·
      intro k k0 k1;unfold upd;by_cases e:k=j
      · rw [if_pos e,if_pos (by omega),e];omega
      · rw [if_neg e,hfa3 k k0 k1];by_cases e2:k<j
        · rw [if_pos e2,if_pos (by omega)]
        · rw [if_neg e2,if_neg (by omega)]
     ·
      intro k k0 k1;unfold upd;by_cases e:k=j
      · rw [if_pos e,if_pos (by omega),e];omega
      · rw [if_neg e,hfm3 k k0 k1];by_cases e2:k<j
        · rw [if_pos e2,if_pos (by omega)]
        · rw [if_neg e2,if_neg (by omega)]
     ·
      refine Uu j0 hany (fun q hq=>by unfold upd;rw [if_neg (by omega)]) ?_
      first
      |exact⟨fun _=> .inl ‹any›,fun _=>trivial⟩
      |exact⟨fun h9=> .inr h9,fun h9=>h9.elim (fun h8=>absurd h8 ‹¬any›) id⟩
    refine zx8 ?_
    refine zlv xmv ?_
    refine zlt ?_
    refine zcif ?_ ?_<;>intro hc
    ·
     refine zrg ?_
     refine zs2 ?_
     refine zlv (xany (v:= .agg #[v2,.int .i64 1]) (hr:=by obtain⟨_,_,_,_,rfl,_⟩:=hv2;kernel_rfl)) ?_
     refine zla (xli (n:=1) (len:=1) (pv:= [(0,.agg #[v2,.int .i64 1])]) (cs:= [v2,.int .i64 1]) (c:=Zf (fun _=>v2) (fun _=>1)) sl_25 Y0 hS (hf:=by obtain⟨_,_,_,_,rfl,_⟩:=hv2;kernel_rfl)) ?_;rintro v3 w ⟨hS,hv3⟩
     replace hS:=hS.n8
     refine zla (xap 4 (r:=nO2+1) sl_25 Y0 hS (hS.rowN 7 rfl) (Xl _ _ _ _ _) (h1:=fun k _ _=>ZA (fun _=>hv2.one) k)) ?_;rintro v4 w ⟨hS,hv4⟩
     replace hS:=hS.n8
     replace hS:=Sat.merge (l1:= [_,_,_,_,_]) (l2:= []) (l3:= [_]) hS (by omega)
     have hrs3:=fun k (k0:0<=k) (k1:k<nO2+1)=>hS.slhIn 5 rfl k0 k1
     replace hS:=hS.n7
     refine zlv xas ?_
     refine zx10 ?_
     refine zlv xmv ?_
     refine zlv (xadd (r:=n+1)) ?_
     refine zlv xas ?_
     refine zln<|zlq ⟨nO2+1,gsn wO2 nO2 v2,gsn lO2 nO2 (lnn1 i),gsn gO2 nO2 fa3,(Z5 cO2 nO2 1),fm3,n+1,v4,rfl,(by omega),(by omega),?_,?_,?_,?_,?_,?_,rfl,hS.pk [0,1,2,3,4,5]⟩
     ·
      rw [Xu _ _ n0,List.length_append];simp only [List.length_singleton];push_cast;omega
     ·
      rw [Xu _ _ n0]
      first
      |exact Rb hT2 hnO2.1 hlni.1 (fun k k0 k1=>by have h9:=hfm3 k k0 k1;have h8:=hfa3 k k0 k1;have h7:=(hfit i (by omega) (by omega)).2 k k0 k1;have h6:=hMr2 k k0 k1;rw [if_pos (by omega)] at h9 h8;omega) (fun k k0 k1=>by have h9:=hfm3 k k0 k1;have h8:=hfa3 k k0 k1;have h7:=(hfit i (by omega) (by omega)).2 k k0 k1;have h6:=hMr2 k k0 k1;rw [if_pos (by omega)] at h9 h8;omega) (by first|exact hany.1 ‹any›|(obtain⟨q,q0,q1,q2⟩:=hany.1 ‹any›;exact⟨q,q0,by omega,q2⟩))
      |exact Zau hT2 hlni.1 (fun k k0 k1=>by have h9:=hfm3 k k0 k1;have h8:=hfa3 k k0 k1;have h7:=(hfit i (by omega) (by omega)).2 k k0 k1;have h6:=hMr2 k k0 k1;rw [if_pos (by omega)] at h9 h8;omega) (fun k k0 k1=>by have h9:=hfm3 k k0 k1;have h8:=hfa3 k k0 k1;have h7:=(hfit i (by omega) (by omega)).2 k k0 k1;have h6:=hMr2 k k0 k1;rw [if_pos (by omega)] at h9 h8;omega) (fun⟨q,q0,q1,q2⟩=>absurd (hany.2 ⟨q,q0,by omega,q2⟩) ‹¬any›)
     ·
      exact fun k k0 k1=>by have h9:=hfm3 k k0 k1;have h8:=hfa3 k k0 k1;have h7:=(hfit i (by omega) (by omega)).2 k k0 k1;have h6:=hMr2 k k0 k1;rw [if_pos (by omega)] at h9 h8;omega
     ·
      first|exact hlO2|(intro k k0 k1;by_cases e:k<nO2;(rw [Zx e,ZH e];exact hlO2 k k0 e);(rw [ZF e,ZI e];exact⟨by omega,rfl⟩))
     ·
      first|exact hone2|exact X5 hone2 ‹Slh _ _›.one
     ·
      exact hv4
    refine zx4 ?_
    refine zlv xmv ?_
    refine zlv (xadd (r:=n+1)) ?_
    refine zlv xas ?_
    refine zln<|zlq ⟨nO2,wO2,lO2,gO2,cO2,fm3,n+1,xO2,rfl,(by omega),(by omega),?_,?_,?_,?_,?_,?_,rfl,hS.pk [0,1,2,3,4,5]⟩
    ·
     rw [Xu _ _ n0,List.length_append];simp only [List.length_singleton];push_cast;omega
    ·
     rw [Xu _ _ n0]
     first
     |exact Rb hT2 hnO2.1 hlni.1 (fun k k0 k1=>by have h9:=hfm3 k k0 k1;have h8:=hfa3 k k0 k1;have h7:=(hfit i (by omega) (by omega)).2 k k0 k1;have h6:=hMr2 k k0 k1;rw [if_pos (by omega)] at h9 h8;omega) (fun k k0 k1=>by have h9:=hfm3 k k0 k1;have h8:=hfa3 k k0 k1;have h7:=(hfit i (by omega) (by omega)).2 k k0 k1;have h6:=hMr2 k k0 k1;rw [if_pos (by omega)] at h9 h8;omega) (by first|exact hany.1 ‹any›|(obtain⟨q,q0,q1,q2⟩:=hany.1 ‹any›;exact⟨q,q0,by omega,q2⟩))
     |exact Zau hT2 hlni.1 (fun k k0 k1=>by have h9:=hfm3 k k0 k1;have h8:=hfa3 k k0 k1;have h7:=(hfit i (by omega) (by omega)).2 k k0 k1;have h6:=hMr2 k k0 k1;rw [if_pos (by omega)] at h9 h8;omega) (fun k k0 k1=>by have h9:=hfm3 k k0 k1;have h8:=hfa3 k k0 k1;have h7:=(hfit i (by omega) (by omega)).2 k k0 k1;have h6:=hMr2 k k0 k1;rw [if_pos (by omega)] at h9 h8;omega) (fun⟨q,q0,q1,q2⟩=>absurd (hany.2 ⟨q,q0,by omega,q2⟩) ‹¬any›)
    ·
     exact fun k k0 k1=>by have h9:=hfm3 k k0 k1;have h8:=hfa3 k k0 k1;have h7:=(hfit i (by omega) (by omega)).2 k k0 k1;have h6:=hMr2 k k0 k1;rw [if_pos (by omega)] at h9 h8;omega
    ·
     first|exact hlO2|(intro k k0 k1;by_cases e:k<nO2;(rw [Zx e,ZH e];exact hlO2 k k0 e);(rw [ZF e,ZI e];exact⟨by omega,rfl⟩))
    ·
     first|exact hone2|exact X5 hone2 ‹Slh _ _›.one
    ·
     exact hxO2
   refine zxt<|ztx<|ztx<|zbh<|zbn<|ztn<|zrg ?_
   refine zlv xmv ?_
   refine zlv (xsub (r:=i-1)) ?_
   refine zlv xas ?_
   refine zln<|zlq ⟨nO2,wO2,lO2,gO2,cO2,fM2,i-1,xO2,rfl,(by omega),(by omega),?_,?_,?_,?_,?_,?_,rfl,hS⟩
   ·
    rw [Ug (by omega),Xn,show cnn1 i=n by omega];exact hnO2
   ·
    rw [Ug (by omega),Xn,show cnn1 i=n by omega];exact hT2
   ·
    exact hMr2
   ·
    exact hlO2
   ·
    exact hone2
   ·
    exact hxO2
  refine zx8 ?_
  refine zlv xmv ?_
  have hlen9:nO<=1000000:=by
    have h9:=Vz (ln:=lnn1) (pt:=gnn1) (u:=nnn1) (cnt:=cnn1) hn0n1 (fun k k0 k1=>by have:=hncn1 k k0 k1;omega) (nnn1-1-i).toNat (by omega)
    unfold dwn at hnO
    have h8:=Ys (d:=cnn1) (f:=fun _=>1) (i:=0) (n:=(nnn1-((nnn1-1-i).toNat:Int)).toNat) (by omega) (fun k hk=>by have:=hncn1 k (by omega) (by omega);omega)
    simp only [psum] at h8
    omega
  refine zlc (xc0 ZaC) (Ty (u:=nO) (pv:=wO) (ln:=lO) (pt:=gO) (cnt:=cO) w (⟨(hS.rowN 4 rfl),fun k k0 k1=>hS.rowIn 5 rfl k0 k1,fun k k0 k1=>hS.roomIn 5 rfl k0 k1⟩:VAt _ xO nO wO lO gO cO) (by omega) (fun k k0 k1=>by have h9:=(hlO k k0 k1).1;omega) (fun k k0 k1=>by have h9:=(hlO k k0 k1).2;omega)) ?_;rintro vnn2 w ⟨_,nnn2,pnn2,lnn2,gnn2,cnn2,rfl,hnrn2,hn0n2,hn1n2,hncn2,hvnn2,hS'⟩
  replace hS:Sat w0 w [.blk g1 [vL,vD,.int .i64 p.stock,.int .i64 p.kerf],.own vdmd1 1 3 ndmd1 (ints fM),.own vnn1 2 34 nnn1 (Zf pnn1 cnn1),.sem (Frame.rows 3 nnn1 pnn1 lnn1 gnn1),.own xO 2 34 nO (Zf wO cO),.sem (Frame.rows 3 nO wO lO gO),.own vnn2 2 34 nnn2 (Zf pnn2 cnn2),.sem (Frame.rows 3 nnn2 pnn2 lnn2 gnn2)]:=hS.comp hS';clear hS'
  have hrnn2:=fun k (k0:0<=k) (k1:k<nnn2)=>hS.slhIn 7 rfl k0 k1
  refine zs2 ?_
  refine zx1<|zf2 ⟨_,rfl,?_⟩
  rw [show i= -1 by omega,T4 _ _ _ hn0n1] at hT
  have hTR:NormR (YV (lst p.m fun j=>Zs u pt cnt j-p.D j) (XR (plL nnn1 lnn1 gnn1 cnn1))).2 (plL nnn2 lnn2 gnn2 cnn2):=by
    rw [<-hT];exact hnrn2
  exact⟨_,_,_,_,_,_,0,rfl,.inr (.inr ⟨hplo,hmeet,rfl,_,hnrn1,hTR⟩),fun k k0 k1=>by have:=hncn2 k k0 k1;omega,by omega,hvnn2,hS.pk [6,7]⟩
end Go.Proofs.Ytopmifmfecfaaaa
namespace Go.Proofs.Ytopmifmfecfaaaa
open Go Go.RowKit Go.Proofs.Gw
def LeftR(p:Prob)(u:Int)(ln:Int->Int)(pt:Int->Int->Int)(cnt:Int->Int)(q:Prob)(e:Int):Prop:=
  (¬PlanOk p u ln pt cnt/\q=⟨0,fun _=>0,0,fun _=>0,0,0⟩/\e=1)\/(PlanOk p u ln pt cnt/\q=⟨p.m,p.L,p.d,Tj p (Zs u pt cnt),p.stock,p.kerf⟩/\e=0)
theorem LeftR.same{p q q2:Prob}{u e e2:Int}{ln cnt:Int->Int}{pt:Int->Int->Int}(h:LeftR p u ln pt cnt q e)(k:LeftR p u ln pt cnt q2 e2):q=q2/\e=e2:=by
  rcases h with⟨h1,h2,h3⟩|⟨h1,h2,h3⟩<;>rcases k with⟨k1,k2,k3⟩|⟨k1,k2,k3⟩
  · exact⟨by rw [h2,k2],by omega⟩
  · exact absurd k1 h1
  · exact absurd h1 k1
  · exact⟨by rw [h2,k2],by omega⟩
end Go.Proofs.Ytopmifmfecfaaaa
namespace Go.Proofs.Ytopmifmfecfaaaa
open Go Go.RowKit Go.Proofs.Gw
theorem Zcv:Zd Try.prog 11=true:=by kernel_rfl
end Go.Proofs.Ytopmifmfecfaaaa
namespace Go.Proofs.Ytopmifmfecfaaaa
open Go Go.RowKit Go.Proofs.Gw
theorem XW{p:Prob}{n m:Int}{ln ln2 cnt cnt2:Int->Int}{pt pt2:Int->Int->Int}(n0:0<=n)(m0:0<=m)(e:plL n ln pt cnt=plL m ln2 pt2 cnt2)(h:PlanOk p n ln pt cnt):PlanOk p m ln2 pt2 cnt2:=by
  have hl:=congrArg List.length e
  rw [plL_len,plL_len] at hl
  exact Xv h.1 (by have:=h.2.1;omega) (by rw [<-e];exact Wi h)
theorem TrimR.same{p:Prob}{n m e1 e2:Int}{ln ln2 cnt cnt2:Int->Int}{pt pt2:Int->Int->Int}{o1 o2:Us}(n0:0<=n)(m0:0<=m)(eL:plL n ln pt cnt=plL m ln2 pt2 cnt2)(h:TrimR p n ln pt cnt o1 e1)(k:TrimR p m ln2 pt2 cnt2 o2 e2):o1=o2/\e1=e2:=by
  have hP:PlanOk p n ln pt cnt↔PlanOk p m ln2 pt2 cnt2:=⟨XW n0 m0 eL,XW m0 n0 eL.symm⟩
  have hM:PlanOk p n ln pt cnt->∀j,0<=j->j<p.m->Zs n pt cnt j=Zs m pt2 cnt2 j:=fun hp j j0 j1=>by rw [hp.mk n0 j0 j1,(hP.1 hp).mk m0 j0 j1,eL]
  rcases h with⟨h1,h2,h3⟩|⟨h1,h2,h3,h4⟩|⟨h1,h2,h3,N,hN,hO⟩<;>rcases k with⟨k1,k2,k3⟩|⟨k1,k2,k3,k4⟩|⟨k1,k2,k3,M,kN,kO⟩
  · exact⟨by rw [h2,k2],by omega⟩
  · exact absurd (hP.2 k1) h1
  · exact absurd (hP.2 k1) h1
  · exact absurd (hP.1 h1) k1
  · exact⟨by rw [h3,k3],by omega⟩
  · exact absurd (fun j j0 j1=>by rw [hM h1 j j0 j1];exact k2 j j0 j1) h2
  · exact absurd (hP.1 h1) k1
  · exact absurd (fun j j0 j1=>by rw [<-hM h1 j j0 j1];exact h2 j j0 j1) k2
  · rw [eL] at hN
    obtain rfl:=hN.same kN
    have e:(lst p.m fun j=>Zs n pt cnt j-p.D j)=lst p.m fun j=>Zs m pt2 cnt2 j-p.D j:=ZK fun j j0 j1=>by rw [hM h1 j j0 j1]
    rw [e] at hO
    exact⟨hO.same kO,by omega⟩
theorem WholeR.same{p:Prob}{u n m e f:Int}{ml ln cnt ln2 cnt2:Int->Int}{mf pt pt2:Int->Int->Int}{s:So}(h:WholeR p u ml mf s n ln pt cnt e)(k:WholeR p u ml mf s m ln2 pt2 cnt2 f):e=f/\(e=0->n=m/\ln=ln2/\pt=pt2/\cnt=cnt2):=by
  rcases h with⟨h1,h2,h3⟩|⟨h1,h2,h3,h4,_⟩|⟨h1,h2,h3,h4,h5,h6,h7,h8⟩<;>rcases k with⟨k1,k2,k3⟩|⟨k1,k2,k3,k4,_⟩|⟨k1,k2,k3,k4,k5,k6,k7,k8⟩
  · exact⟨by omega,fun h=>by omega⟩
  · exact absurd ⟨k1,k2⟩ h1
  · exact absurd ⟨k1,k2⟩ h1
  · exact absurd ⟨h1,h2⟩ k1
  · exact⟨h3.same k3,fun h=>absurd h h4⟩
  · exact absurd (h3.same k3) h4
  · exact absurd ⟨h1,h2⟩ k1
  · exact absurd (h3.same k3).symm k4
  · exact⟨by omega,fun _=>⟨by rw [h5,k5],by rw [h6,k6],by rw [h7,k7],by rw [h8,k8]⟩⟩
theorem DownR.same{p:Prob}{u e1 e2:Int}{ml:Int->Int}{mf:Int->Int->Int}{s:So}{o1 o2:Us}(h:DownR p u ml mf s o1 e1)(k:DownR p u ml mf s o2 e2):o1=o2/\e1=e2:=by
  rcases h with⟨h1,h2,_,_,_,_,h3⟩|⟨n1,ln1,pt1,cnt1,n2,ln2,pt2,cnt2,hw,n10,n20,hN,hT⟩<;>rcases k with⟨k1,k2,_,_,_,_,k3⟩|⟨m1,lm1,qt1,dnt1,m2,lm2,qt2,dnt2,kw,m10,m20,kN,kT⟩
  · exact⟨by rw [h2,k2],(h3.same k3).1⟩
  · exact absurd (h3.same kw).1 h1
  · exact absurd (k3.same hw).1 k1
  · obtain⟨rfl,rfl,rfl,rfl⟩:=(hw.same kw).2 rfl
    exact TrimR.same (by omega) (by omega) (by rw [U8 n10 n20,U8 n10 m20,hN.same kN]) hT kT
def ZcA(s:So)(u N:Int)(h:Int->Int):Prop:=∀j,0<=j->j<N->(0<=h j/\h j<u/\(s.X (h j)).tmod s.den≠0)/\(∀q,0<=q->q<j->h q≠h j)/\
  ∀i,0<=i->i<u->(s.X i).tmod s.den≠0->(∀q,0<=q->q<j->h q≠i)->(s.X i).tmod s.den<(s.X (h j)).tmod s.den\/((s.X i).tmod s.den=(s.X (h j)).tmod s.den/\h j<=i)
theorem Rj {s:So} {u N:Int} {h t:Int->Int} (u0:0<=u) (N0:0<=N) (hp:PermOn 0 (frN s u.toNat) (frF s u.toNat) t) (ho:Srt (Tie fun x y=>(s.X y).tmod s.den<(s.X x).tmod s.den) 0 (frN s u.toNat) t)
    (hs:ZcA s u N h) (ha:∀i,0<=i->i<u->(s.X i).tmod s.den≠0->∃j,0<=j/\j<N/\h j=i):frN s u.toNat=N/\∀j,0<=j->j<N->t j=h j:=by
  obtain⟨r1,r2,r3,_,r5⟩:=RD s u.toNat
  rw [Int.toNat_of_nonneg u0] at r2 r3 r5
  have tv:∀k,0<=k->k<frN s u.toNat->0<=t k/\t k<u/\(s.X (t k)).tmod s.den≠0:=fun k k0 k1=>by
    obtain⟨q,q0,q1,q2⟩:=hp.fr k0 k1
    rw [q2];exact r3 q q0 q1
  have tc:∀i,0<=i->i<u->(s.X i).tmod s.den≠0->∃k,0<=k/\k<frN s u.toNat/\t k=i:=fun i i0 i1 hi=>by
    obtain⟨k,k0,k1,e⟩:=r5 i i0 i1 hi
    obtain⟨q,q0,q1,q2⟩:=hp.symm.fr k0 k1
    exact⟨q,q0,q1,by rw [<-q2];exact e⟩
  have ti:∀j k,0<=j->j<k->k<frN s u.toNat->t j≠t k:=fun j k j0 jk k1 e=>by
    have:=ho j k j0 jk k1
    rw [e] at this
    rcases this with h|⟨_,h⟩<;>omega
  have key:∀j:Nat,(j:Int)<=frN s u.toNat->(j:Int)<=N->∀q,0<=q->q<(j:Int)->t q=h q:=by
    intro j
    induction j with
    |zero=>intro _ _ q q0 q1;omega
    | succ j ih=>
      intro h1 h2 q q0 q1
      have ih:=ih (by omega) (by omega)
      by_cases e:q<(j:Int)
      · exact ih q q0 e
      · obtain rfl:q=j:=by omega
        apply Classical.byContradiction
        intro hne
        obtain⟨⟨g1,g2,g3⟩,g4,g5⟩:=hs j q0 (by omega)
        obtain⟨k,k0,k1,ek⟩:=tc _ g1 g2 g3
        have hk:(j:Int)<k:=by
          apply Classical.byContradiction
          intro hh
          by_cases e2:k=(j:Int)
          · rw [e2] at ek;exact hne ek
          · have:=ih k k0 (by omega)
            exact g4 k k0 (by omega) (by rw [<-this,ek])
        have hT:=ho j k q0 hk k1
        obtain⟨f1,f2,f3⟩:=tv j q0 (by omega)
        have g6:=g5 (t j) f1 f2 f3 fun r r0 r1=>by rw [<-ih r r0 r1];exact ti r j r0 r1 (by omega)
        rw [ek] at hT
        rcases hT with hT|⟨hT,hT2⟩<;>rcases g6 with g6|⟨g6,g7⟩<;>omega
  have hNM:frN s u.toNat=N:=by
    rcases Int.lt_trichotomy (frN s u.toNat) N with h1|h1|h1
    · have k1:=key (frN s u.toNat).toNat (by omega) (by omega)
      rw [Int.toNat_of_nonneg r1] at k1
      obtain⟨⟨g1,g2,g3⟩,g4,_⟩:=hs (frN s u.toNat) r1 h1
      obtain⟨k,k0,k2,ek⟩:=tc _ g1 g2 g3
      exact absurd (by rw [<-k1 k k0 k2,ek]) (g4 k k0 k2)
    · exact h1
    · have k1:=key N.toNat (by omega) (by omega)
      rw [Int.toNat_of_nonneg N0] at k1
      obtain⟨f1,f2,f3⟩:=tv N N0 h1
      obtain⟨j,j0,j1,ej⟩:=ha _ f1 f2 f3
      exact absurd (by rw [k1 j j0 j1,ej]) (ti j N j0 j1 h1)
  refine⟨hNM,fun j j0 j1=> ?_⟩
  have k1:=key N.toNat (by omega) (by omega)
  exact k1 j j0 (by omega)
def ZcV (p:Prob) (u:Int) (ml:Int->Int) (mf:Int->Int->Int) (s:So) (out:Us) (e:Int):Prop:=
  (e≠0/\out= []/\∃n ln pt cnt,WholeR p u ml mf s n ln pt cnt e)\/(∃n1 ln1 pt1 cnt1 N h n ln pt cnt,WholeR p u ml mf s n1 ln1 pt1 cnt1 0/\0<=n1/\0<=n/\0<=N/\ZcA s u N h/\(∀i,0<=i->i<u->(s.X i).tmod s.den≠0->∃j,0<=j/\j<N/\h j=i)/\
    plL n ln pt cnt=(ZbP p.m mf (lst p.m (Tj p (Zs n1 pt1 cnt1))) (plL n1 ln1 pt1 cnt1) (lst N h)).2/\TrimR p n ln pt cnt out e)
theorem UpR.same{p:Prob}{u e1 e2:Int}{ml:Int->Int}{mf:Int->Int->Int}{s:So}{o1 o2:Us}(u0:0<=u)(h:UpR p u ml mf s o1 e1)(k:ZcV p u ml mf s o2 e2):o1=o2/\e1=e2:=by
  rcases h with⟨h1,h2,_,_,_,_,h3⟩|⟨n1,ln1,pt1,cnt1,t,n,ln,pt,cnt,hw,n10,n0,hp,ho,hU,hT⟩<;>rcases k with⟨k1,k2,_,_,_,_,k3⟩|⟨m1,lm1,qt1,dnt1,N,g,m,lm,qt,dnt,kw,m10,m0,N0,ks,ka,kU,kT⟩
  · exact⟨by rw [h2,k2],(h3.same k3).1⟩
  · exact absurd (h3.same kw).1 h1
  · exact absurd (k3.same hw).1 k1
  · obtain⟨rfl,rfl,rfl,rfl⟩:=(hw.same kw).2 rfl
    obtain⟨e1,e2⟩:=Rj u0 N0 hp ho ks ka
    exact TrimR.same n0 m0 (by rw [hU,kU,e1,ZK e2]) hT kT
def Bst(s:So)(dn:Int->Prop)(b i:Int):Prop:=(b= -1/\∀k,0<=k->k<i->dn k\/(s.X k).tmod s.den=0)\/(0<=b/\b<i/\¬dn b/\(s.X b).tmod s.den≠0/\∀k,0<=k->k<i->¬dn k->(s.X k).tmod s.den≠0->(s.X k).tmod s.den<(s.X b).tmod s.den\/((s.X k).tmod s.den=(s.X b).tmod s.den/\b<=k))
theorem Bst.rng{s:So}{dn:Int->Prop}{b i:Int}(h:Bst s dn b i):b= -1\/(0<=b/\b<i):=by
  rcases h with⟨h,_⟩|⟨h1,h2,_⟩
  · exact .inl h
  · exact .inr ⟨h1,h2⟩
theorem Bst.keep{s:So}{dn:Int->Prop}{b i:Int}(h:Bst s dn b i)(hk:dn i\/(s.X i).tmod s.den=0\/(0<=b/\(s.X i).tmod s.den<=(s.X b).tmod s.den)):Bst s dn b (i+1):=by
  rcases h with⟨h1,h2⟩|⟨h1,h2,h3,h4,h5⟩
  · refine .inl ⟨h1,fun k k0 k1=> ?_⟩
    by_cases e:k=i
    · rw [e];rcases hk with hk|hk|⟨hk,_⟩
      · exact .inl hk
      · exact .inr hk
      · omega
    · exact h2 k k0 (by omega)
  · refine .inr ⟨h1,by omega,h3,h4,fun k k0 k1 g1 g2=> ?_⟩
    by_cases e:k=i
    · rw [e] at g1 g2⊢
      rcases hk with hk|hk|⟨_,hk⟩
      · exact absurd hk g1
      · exact absurd hk g2
      · omega
    · exact h5 k k0 (by omega) g1 g2
theorem Bst.new{s:So}{dn:Int->Prop}{b i:Int}(h:Bst s dn b i)(i0:0<=i)(h1:¬dn i)(h2:(s.X i).tmod s.den≠0)(h3:b<0\/(s.X b).tmod s.den<(s.X i).tmod s.den):Bst s dn i (i+1):=by
  refine .inr ⟨i0,by omega,h1,h2,fun k k0 k1 g1 g2=> ?_⟩
  by_cases e:k=i
  · right;rw [e];exact⟨rfl,Int.le_refl _⟩
  · rcases h with⟨_,h5⟩|⟨h4,_,_,_,h5⟩
    · rcases h5 k k0 (by omega) with h6|h6
      · exact absurd h6 g1
      · exact absurd h6 g2
    · have:=h5 k k0 (by omega) g1 g2;omega
end Go.Proofs.Ytopmifmfecfaaaa
namespace Go.Proofs.Ytopmifmfecfaaaa
open Go Go.RowKit Go.Proofs.Gw
structure ExU (p:Prob) (N:Us):Prop where
  pat:∀x∈N,1<=x.2/\VE p x.1
  few:wsum (fun _=>1) N<=psum (fun _=>1) p.D p.m.toNat
  mks:∀j,0<=j->j<p.m->mkU j N=p.D j
theorem FFitR.ex{p:Prob}{N:Us}{e:Int}(hok:p.Ok)(h:FFitR p N e)(he:e=0):ExU p N:=by
  obtain⟨h1,h2,h3⟩:=RF hok (fun k k0 k1=>(Zbi hok k0 k1).1) (h.2.1 he)
  exact⟨h1,h2,h3⟩
theorem Ur(f:List Int->Int):∀{N:Us},(∀x∈N,0<=x.2)->((XR N).map f).sum=wsum f N
  | [],_=>rfl
  | u ::N,h=>by
    have h1:=Ur f (N:=N) fun x hx=>h x (by simp [hx])
    have h2:=h u (by simp)
    unfold XR at h1⊢
    rw [List.reverse_cons,List.flatMap_append,List.map_append,List.sum_append,h1]
    simp only [List.flatMap_cons,List.flatMap_nil,List.append_nil,List.map_replicate,wsum]
    have h3:∀n:Nat,(List.replicate n (f u.1)).sum=f u.1*n:=fun n=>by
      induction n with
      |zero=>simp
      |succ n ih=>rw [List.replicate_succ,List.sum_cons,ih];push_cast;rw [Int.mul_add];omega
    rw [h3,Int.toNat_of_nonneg h2];omega
theorem Kd{N:Us}:∀a∈XR N,∃x∈N,a=x.1:=fun a ha=>by
  unfold XR at ha
  obtain⟨x,hx,h⟩:=List.mem_flatMap.1 ha
  exact⟨x,List.mem_reverse.1 hx,(List.mem_replicate.1 h).2⟩
theorem UR{m:Int}{j:Int}(j0:0<=j)(j1:j<m):∀(h:List (List Int)),(∀a∈h,∃f:Int->Int,(∀k,0<=k->k<m->0<=f k)/\a=lst m f)->0<=(h.map fun a=>a.getD j.toNat 0).sum
  | [],_=>by simp
  | a::h,ha=>by
    have h1:=UR j0 j1 h fun b hb=>ha b (by simp [hb])
    obtain⟨f,hf,rfl⟩:=ha a (by simp)
    have:=hf j j0 j1
    rw [List.map_cons,List.sum_cons,Yz j0 j1];omega
theorem Wc {m:Int}:∀(h:List (List Int)) (M:Int->Int) (L:Us),(∀a∈h,∃f:Int->Int,(∀k,0<=k->k<m->0<=f k)/\a=lst m f)->(∀k,0<=k->k<m->0<=M k)->
    (∃M':Int->Int,(h.foldl YR (lst m M,L)).1=lst m M'/\∀j,0<=j->j<m->M' j=max 0 (M j-(h.map fun a=>a.getD j.toNat 0).sum)/\mkU j (h.foldl YR (lst m M,L)).2=mkU j L+(h.map fun a=>a.getD j.toNat 0).sum-(M j-M' j))/\
    ∀x∈(h.foldl YR (lst m M,L)).2,x∈L\/∃(f g:Int->Int),lst m f∈h/\x=(lst m g,1)/\(∀k,0<=k->k<m->0<=g k/\g k<=f k)/\∃k,0<=k/\k<m/\0<g k
  | [],M,L,_,hM=>⟨⟨M,rfl,fun j j0 j1=>by have:=hM j j0 j1;simp only [List.foldl_nil,List.map_nil,List.sum_nil];omega⟩,fun x hx=> .inl hx⟩
  | a :: h, M,L,ha,hM=>by
    obtain⟨f,hf,rfl⟩:=ha a (by simp)
    have e1:tM (lst m f) (lst m M)=lst m fun k=>M k-min (f k) (M k):=YC _ _ _ _
    have e2:tA (lst m f) (lst m M)=lst m fun k=>f k-min (f k) (M k):=YC _ _ _ _
    have hM1:∀k,0<=k->k<m->0<=M k-min (f k) (M k):=fun k k0 k1=>by omega
    have ha1:∀a∈h,∃f:Int->Int,(∀k,0<=k->k<m->0<=f k)/\a=lst m f:=fun b hb=>ha b (by simp [hb])
    rw [List.foldl_cons]
    by_cases hn:(lst m fun k=>f k-min (f k) (M k)).any (fun x=>decide (0<x))=true
    · have e:YR (lst m M,L) (lst m f)=(lst m fun k=>M k-min (f k) (M k),L++ [(lst m fun k=>f k-min (f k) (M k),1)]):=by
        unfold YR;dsimp only;rw [e1,e2,if_pos hn]
      rw [e]
      obtain⟨⟨M',h1,h2⟩,h3⟩:=Wc h (fun k=>M k-min (f k) (M k)) (L++ [(lst m fun k=>f k-min (f k) (M k),1)]) ha1 hM1
      refine⟨⟨M',h1,fun j j0 j1=> ?_⟩,fun x hx=> ?_⟩
      · obtain⟨g1,g2⟩:=h2 j j0 j1
        rw [List.map_cons,List.sum_cons,Yz j0 j1]
        have g3:mkU j (L++ [(lst m fun k=>f k-min (f k) (M k),1)])=mkU j L+(f j-min (f j) (M j)):=by
          unfold mkU;rw [YT];simp only [wsum];rw [Yz j0 j1];omega
        rw [g3] at g2
        have:=hf j j0 j1;have:=hM j j0 j1;have:=UR j0 j1 h ha1
        omega
      · rcases h3 x hx with h4|⟨f',g,h4,h5⟩
        · rcases List.mem_append.1 h4 with h4|h4
          · exact .inl h4
          · obtain⟨k,k0,k1,hk⟩:=XD.1 hn
            exact .inr ⟨f,_,by simp,by simpa using h4,fun k k0 k1=>by have:=hf k k0 k1;have:=hM k k0 k1;omega,k,k0,k1,hk⟩
        · exact .inr ⟨f',g,by simp [h4],h5⟩
    · have e:YR (lst m M,L) (lst m f)=(lst m fun k=>M k-min (f k) (M k),L):=by
        unfold YR;dsimp only;rw [e1,e2,if_neg hn]
      rw [e]
      obtain⟨⟨M',h1,h2⟩,h3⟩:=Wc h (fun k=>M k-min (f k) (M k)) L ha1 hM1
      refine⟨⟨M',h1,fun j j0 j1=> ?_⟩,fun x hx=> ?_⟩
      · obtain⟨g1,g2⟩:=h2 j j0 j1
        rw [List.map_cons,List.sum_cons,Yz j0 j1]
        have hz:¬0<f j-min (f j) (M j):=fun hh=>hn (XD.2 ⟨j,j0,j1,hh⟩)
        have:=hf j j0 j1;have:=hM j j0 j1;have:=UR j0 j1 h ha1
        omega
      · rcases h3 x hx with h4|⟨f',g,h4,h5⟩
        · exact .inl h4
        · exact .inr ⟨f',g,by simp [h4],h5⟩
theorem WK(d:Int->Int):∀n:Nat,psum (fun k=>d k) (fun _=>1) n=psum (fun _=>1) d n
  |0=>rfl
  |n+1=>by simp only [psum];rw [WK d n];omega
theorem VG(f g:List Int->Int):∀L:Us,wsum (fun l=>f l+g l) L=wsum f L+wsum g L
  | []=>rfl
  |x::L=>by simp only [wsum];rw [VG f g L,Int.add_mul];omega
theorem Wz:∀L:Us,wsum (fun _=>0) L=0
  | []=>rfl
  |x::L=>by simp only [wsum];rw [Wz L];omega
theorem UY(L:Us):∀n:Nat,wsum (fun l=>psum (fun k=>l.getD k.toNat 0) (fun _=>1) n) L=psum (fun k=>mkU k L) (fun _=>1) n
  |0=>Wz L
  | n +1=>by
    have h:=VG (fun l=>psum (fun k=>l.getD k.toNat 0) (fun _=>1) n) (fun l=>l.getD n 0) L
    simp only [psum]
    rw [UY L n] at h
    have e:(fun l:List Int=>psum (fun k=>l.getD k.toNat 0) (fun _=>1) n+l.getD (n:Int).toNat 0*1)=fun l=>psum (fun k=>l.getD k.toNat 0) (fun _=>1) n+l.getD n 0:=by
      funext l;rw [Int.toNat_natCast];omega
    rw [e,h]
    unfold mkU
    rw [Int.toNat_natCast];omega
theorem RG{p:Prob}{n:Int}{f g:Int->Int}(h:FitsP p n f)(hn:n=p.m)(hg:∀k,0<=k->k<p.m->0<=g k/\g k<=f k):FitsP p p.m g:=by
  refine⟨h.ok,rfl,fun i i0 i1=>by have:=h.all i i0 i1;have:=hg i i0 i1;omega,Int.le_trans (ZQ fun i i0 i1=> ?_) h.used⟩
  have hm:=h.ok.m1
  have h1:=hg i i0 (by omega)
  have h2:=h.ok.all i i0 (by omega)
  unfold Prob.each at h2
  exact Int.mul_le_mul_of_nonneg_right h1.2 (by have:=h.ok.k1;omega)
theorem TrimR.ex {p:Prob} {u e:Int} {ln cnt:Int->Int} {pt:Int->Int->Int} {out:Us} (h:TrimR p u ln pt cnt out e) (he:e=0) (u0:0<=u):ExU p out:=by
  rcases h with⟨_,_,h⟩|⟨_,_,_,h⟩|⟨h1,h2,_,N,hN,hO⟩
  · omega
  · omega
  · have hok:=h1.1
    have hm:=hok.m1
    have hpos:=fun x hx=>hN.pos (Rp h1) x hx
    have hfitN:∀x∈N,VE p x.1:=fun x hx=>by
      obtain⟨y,hy,ey⟩:=hN.keys x hx
      rw [<-ey];exact(Wi h1 y hy).2
    have hbar:∀a∈XR N,VE p a:=fun a ha=>by
      obtain⟨x,hx,rfl⟩:=Kd a ha
      exact hfitN x hx
    have hmade:∀j,0<=j->j<p.m->Zs u pt cnt j=((XR N).map fun a=>a.getD j.toNat 0).sum:=fun j j0 j1=>by
      rw [Ur _ fun x hx=>by have:=hpos x hx;omega,h1.mk u0 j0 j1]
      exact(hN.wsum _).symm
    obtain⟨⟨M',_,hc⟩,hmem⟩:=Wc (m:=p.m) (XR N) (fun j=>Zs u pt cnt j-p.D j) [] (fun a ha=>by
      obtain⟨f,hf,rfl⟩:=hbar a ha
      exact⟨f,fun k k0 k1=>(hf.all k k0 k1).1,rfl⟩) fun k k0 k1=>by have:=h2 k k0 k1;omega
    have hT:∀x∈(YV (lst p.m fun j=>Zs u pt cnt j-p.D j) (XR N)).2,1<=x.2/\VE p x.1/\(∀k,0<=k->k<p.m->0<=x.1.getD k.toNat 0)/\∃k,0<=k/\k<p.m/\0<x.1.getD k.toNat 0:=fun x hx=>by
      rcases hmem x hx with h|⟨f,g,hf,rfl,hg,k,k0,k1,hk⟩
      · cases h
      · obtain⟨f',hf',ef⟩:=hbar _ hf
        have e1:=((Vk (by omega) (by omega)).1 ef).2
        refine⟨Int.le_refl _,⟨g,RG hf' rfl fun k k0 k1=>by have:=hg k k0 k1;rw [<-e1 k k0 k1];exact this,rfl⟩,fun k k0 k1=> ?_,k,k0,k1,?_⟩
        · dsimp only;rw [Yz k0 k1];exact(hg k k0 k1).1
        · dsimp only;rw [Yz k0 k1];exact hk
    have hmk:∀j,0<=j->j<p.m->mkU j (YV (lst p.m fun j=>Zs u pt cnt j-p.D j) (XR N)).2=p.D j:=fun j j0 j1=>by
      obtain⟨g1,g2⟩:=hc j j0 j1
      rw [<-hmade j j0 j1] at g1 g2
      have g3:mkU j ([]:Us)=0:=rfl
      have hd:=(Zbi hok j0 j1).1
      unfold YV
      have:=h2 j j0 j1
      omega
    refine⟨fun x hx=>⟨hO.pos (fun y hy=>(hT y hy).1) x hx,?_⟩,?_,fun j j0 j1=> ?_⟩
    · obtain⟨y,hy,ey⟩:=hO.keys x hx
      rw [<-ey];exact(hT y hy).2.1
    · rw [hO.wsum]
      refine Int.le_trans (UZ (g:=fun l=>psum (fun k=>l.getD k.toNat 0) (fun _=>1) p.m.toNat) (fun x hx=>by have:=(hT x hx).1;omega) fun x hx=> ?_) ?_
      · obtain⟨_,_,h3,k,k0,k1,hk⟩:=hT x hx
        have h4:=Ys (d:=fun _=>1) (f:=fun k=>x.1.getD k.toNat 0) (i:=(k+1).toNat) (n:=p.m.toNat) (by omega) fun q hq=>by have:=h3 q (by omega) (by omega);omega
        rw [Z3 _ _ k0] at h4
        have h5:=Ys (d:=fun _=>1) (f:=fun k=>x.1.getD k.toNat 0) (i:=0) (n:=k.toNat) (by omega) fun q hq=>by have:=h3 q (by omega) (by omega);omega
        have h6:psum (fun k=>x.1.getD k.toNat 0) (fun _=>1) 0=0:=rfl
        omega
      · rw [UY,<-WK]
        refine Int.le_of_eq (YN fun k hk=>⟨hmk k (by omega) (by omega),rfl⟩)
    · unfold mkU;rw [hO.wsum];exact hmk j j0 j1
theorem Ti(pt:Int->Int->Int)(cnt:Int->Int)(j:Int):∀n:Nat,Yg pt cnt n j=psum (fun k=>pt k j) cnt n
  |0=>rfl
  | n+1=>by
    have:=ZP (fun i=>pt i j*cnt i) (i:=(n:Int)) (by omega)
    rw [show((n:Int)+1).toNat=n+1 by omega,Int.toNat_natCast] at this
    unfold Yg
    rw [this]
    have h:=Ti pt cnt j n
    unfold Yg at h
    rw [h];rfl
theorem ExU.sound{p:Prob}{n:Int}{ln cnt:Int->Int}{pt:Int->Int->Int}(h:ExU p (plL n ln pt cnt))(hok:p.Ok)(ht:psum (fun _=>1) p.D p.m.toNat<=1000)(n0:0<=n):SoundP p n ln pt cnt/\∀j,0<=j->j<p.m->Yg pt cnt n.toNat j=p.D j:=by
  obtain⟨h1,h2⟩:=US (L:=plL n ln pt cnt) fun x hx=>(h.pat x hx).1
  have h3:=h.few
  rw [plL_len] at h1
  have hP:PlanOk p n ln pt cnt:=Xv hok (by omega) fun x hx=>⟨⟨(h.pat x hx).1,by have:=h2 x hx;omega⟩,(h.pat x hx).2⟩
  refine⟨⟨hok,by omega,fun i i0 i1=> ?_⟩,fun j j0 j1=> ?_⟩
  · obtain⟨g1,g2,g3⟩:=hP.2.2 i i0 i1
    exact⟨g3,g1,g2⟩
  · rw [Ti]
    have:=hP.mk n0 j0 j1
    unfold Zs at this
    rw [this];exact h.mks j j0 j1
theorem DownR.ex{p:Prob}{u:Int}{ml:Int->Int}{mf:Int->Int->Int}{s:So}{out:Us}{e:Int}(h:DownR p u ml mf s out e)(he:e=0):ExU p out:=by
  rcases h with⟨h,_⟩|⟨n1,ln1,pt1,cnt1,n2,ln2,pt2,cnt2,hw,n10,n20,hN,hT⟩
  · exact absurd he h
  · exact hT.ex he (by omega)
theorem UpR.ex{p:Prob}{u:Int}{ml:Int->Int}{mf:Int->Int->Int}{s:So}{out:Us}{e:Int}(h:UpR p u ml mf s out e)(he:e=0):ExU p out:=by
  rcases h with⟨h,_⟩|⟨n1,ln1,pt1,cnt1,t,n,ln,pt,cnt,hw,n10,n0,hp,_,hU,hT⟩
  · exact absurd he h
  · exact hT.ex he n0
theorem WholeR.bad{p:Prob}{u n:Int}{ml ln cnt:Int->Int}{mf pt:Int->Int->Int}{s:So}{e:Int}(h:WholeR p u ml mf s n ln pt cnt e)(hn:¬UW p u ml mf s):e=1:=by
  rcases h with⟨_,_,h⟩|⟨_,h,_⟩|⟨_,h,_⟩
  · exact h
  · exact absurd h hn
  · exact absurd h hn
theorem DownR.bad{p:Prob}{u:Int}{ml:Int->Int}{mf:Int->Int->Int}{s:So}{out:Us}{e:Int}(h:DownR p u ml mf s out e)(hn:¬UW p u ml mf s):e=1/\out= []:=by
  rcases h with⟨_,h1,_,_,_,_,h2⟩|⟨n1,ln1,pt1,cnt1,n2,ln2,pt2,cnt2,hw,_⟩
  · exact⟨h2.bad hn,h1⟩
  · have:=hw.bad hn;omega
theorem UpR.bad{p:Prob}{u:Int}{ml:Int->Int}{mf:Int->Int->Int}{s:So}{out:Us}{e:Int}(h:UpR p u ml mf s out e)(hn:¬UW p u ml mf s):e=1/\out= []:=by
  rcases h with⟨_,h1,_,_,_,_,h2⟩|⟨n1,ln1,pt1,cnt1,t,n,ln,pt,cnt,hw,_⟩
  · exact⟨h2.bad hn,h1⟩
  · have:=hw.bad hn;omega
theorem TrimR.no{p:Prob}{n e:Int}{ln cnt:Int->Int}{pt:Int->Int->Int}{out:Us}(h:TrimR p n ln pt cnt out e)(he:e≠0):out= []:=by
  rcases h with⟨_,h2,_⟩|⟨_,_,h3,_⟩|⟨_,_,h3,_⟩
  · first|exact h2|omega
  · first|exact h3|omega
  · omega
theorem VQ{p:Prob}{n e:Int}{ln cnt:Int->Int}{pt:Int->Int->Int}(hf:W1 p)(n0:0<=n)(hc:∀k,0<=k->k<n->1<=cnt k)(hx:e=0->p.Ok/\ExU p (plL n ln pt cnt))(hn:e≠0->plL n ln pt cnt= []):n<=100000:=by
  by_cases he:e=0
  · obtain⟨hok,h1⟩:=hx he
    have h2:=(Rq hc h1.few).1
    have:=Ts hok hf;omega
  · have h:=plL_len n ln pt cnt
    rw [hn he] at h;simp at h;omega
theorem WholeR.okp{p:Prob}{u n:Int}{ml ln cnt:Int->Int}{mf pt:Int->Int->Int}{s:So}(h:WholeR p u ml mf s n ln pt cnt 0):p.Ok:=by
  rcases h with⟨_,h⟩|⟨h,_⟩|⟨h,_⟩
  · omega
  · exact h
  · exact h
theorem DownR.few{p:Prob}{u n e:Int}{ml ln cnt:Int->Int}{mf pt:Int->Int->Int}{s:So}(h:DownR p u ml mf s (plL n ln pt cnt) e)(hf:W1 p)(n0:0<=n)(hc:∀k,0<=k->k<n->1<=cnt k):n<=100000:=VQ hf n0 hc
  (fun he=>by
    refine⟨?_,h.ex he⟩
    rcases h with⟨h,_⟩|⟨_,_,_,_,_,_,_,_,hw,_⟩
    · exact absurd he h
    · exact hw.okp)
  (fun he=>by
    rcases h with⟨_,h,_⟩|⟨_,_,_,_,_,_,_,_,_,_,_,_,hT⟩
    · exact h
    · exact hT.no he)
theorem UpR.few{p:Prob}{u n e:Int}{ml ln cnt:Int->Int}{mf pt:Int->Int->Int}{s:So}(h:UpR p u ml mf s (plL n ln pt cnt) e)(hf:W1 p)(n0:0<=n)(hc:∀k,0<=k->k<n->1<=cnt k):n<=100000:=VQ hf n0 hc
  (fun he=>by
    refine⟨?_,h.ex he⟩
    rcases h with⟨h,_⟩|⟨_,_,_,_,_,_,_,_,_,hw,_⟩
    · exact absurd he h
    · exact hw.okp)
  (fun he=>by
    rcases h with⟨_,h,_⟩|⟨_,_,_,_,_,_,_,_,_,_,_,_,_,_,_,hT⟩
    · exact h
    · exact hT.no he)
end Go.Proofs.Ytopmifmfecfaaaa
namespace Go.Proofs.Gw
open Go Go.RowKit
def skp(i k:Int):Int:=if k<i then k else k+1
def bck(i r:Int):Int:=if r<i then r else r-1
theorem U6{i r:Int}(e:i≠r):skp i (bck i r)=r:=by
  unfold skp bck
  by_cases h:r<i
  · rw [if_pos h,if_pos h]
  · rw [if_neg h,if_neg (by omega)];omega
theorem Ri{i r:Int}(e:i≠r)(e1:i≠r+1):skp i (bck i r+1)=r+1:=by
  unfold skp bck
  by_cases h:r<i
  · rw [if_pos h,if_pos (by omega)]
  · rw [if_neg h,if_neg (by omega)];omega
theorem Rh{i r k:Int}(e:i≠r)(h:k≠bck i r):skp i k≠r:=by
  unfold bck at h;unfold skp
  split
  · split at h<;>omega
  · split at h<;>omega
theorem VA{i r n:Int}(e:i≠r)(r0:0<=r)(r1:r<=n)(i0:0<=i)(i1:i<=n):0<=bck i r/\bck i r<n:=by
  unfold bck;split<;>omega
def alt(i:Int):Int:=if i%2=0 then 1 else-1
def det:Nat->(Int->Int->Int)->Int
  |0,_=>1
  |n+1,A=>Zb (fun i=>alt i*A i 0*det n (fun k m=>A (skp i k) (m+1))) (n+1)
theorem Ye:∀{n:Nat} {A B:Int->Int->Int},(∀k m,0<=k->k<(n:Int)->0<=m->m<(n:Int)->A k m=B k m)->det n A=det n B
  |0,_,_,_=>rfl
  | n+1,A,B,h=>by
    simp only [det]
    refine Ze fun i i0 i1=> ?_
    rw [h i 0 i0 i1 (by omega) (by omega),Ye (n:=n) (fun k m k0 k1 m0 m1=>h (skp i k) (m+1) (by unfold skp;split<;>omega) (by unfold skp;split<;>omega) (by omega) (by omega))]
theorem Xd:∀{n:Nat} {A U V:Int->Int->Int} {r a b:Int},0<=r->r<(n:Int)->(∀m,0<=m->m<(n:Int)->A r m=a*U r m+b*V r m)->
    (∀k m,0<=k->k<(n:Int)->0<=m->m<(n:Int)->k≠r->U k m=A k m)->(∀k m,0<=k->k<(n:Int)->0<=m->m<(n:Int)->k≠r->V k m=A k m)->det n A=a*det n U+b*det n V
  |0,_,_,_,_,_,_,h0,h1,_,_,_=>by omega
  | n + 1,A,U,V,r,a,b,r0,r1,h,hU,hV=>by
    simp only [det]
    have key:=Yb (n:=n+1) (D:=1) (A:=a) (B:= -b) (h:=fun i=>alt i*A i 0*det n (fun k m=>A (skp i k) (m+1))) (f:=fun i=>alt i*U i 0*det n (fun k m=>U (skp i k) (m+1))) (g:=fun i=>alt i*V i 0*det n (fun k m=>V (skp i k) (m+1))) (fun i i0 i1=> ?_)
    · grind
    · by_cases e:i=r
      · subst e
        have e1:det n (fun k m=>U (skp i k) (m+1))=det n (fun k m=>A (skp i k) (m+1)):=Ye fun k m k0 k1 m0 m1=>hU _ _ (by unfold skp;split<;>omega) (by unfold skp;split<;>omega) (by omega) (by omega) (by unfold skp;split<;>omega)
        have e2:det n (fun k m=>V (skp i k) (m+1))=det n (fun k m=>A (skp i k) (m+1)):=Ye fun k m k0 k1 m0 m1=>hV _ _ (by unfold skp;split<;>omega) (by unfold skp;split<;>omega) (by omega) (by omega) (by unfold skp;split<;>omega)
        rw [e1,e2,h 0 (by omega) (by omega)]
        grind
      · have hr:=U6 e
        have hb:=VA (n:=n) e r0 (by omega) i0 (by omega)
        have ih:=Xd (n:=n) (A:=fun k m=>A (skp i k) (m+1)) (U:=fun k m=>U (skp i k) (m+1)) (V:=fun k m=>V (skp i k) (m+1)) (r:=bck i r) (a:=a) (b:=b) hb.1 hb.2
          (fun m m0 m1=>by show A (skp i (bck i r)) _=_*U (skp i (bck i r)) _+_*V (skp i (bck i r)) _;rw [hr];exact h (m+1) (by omega) (by omega))
          (fun k m k0 k1 m0 m1 hk=>hU _ _ (by unfold skp;split<;>omega) (by unfold skp;split<;>omega) (by omega) (by omega) (Rh e hk))
          (fun k m k0 k1 m0 m1 hk=>hV _ _ (by unfold skp;split<;>omega) (by unfold skp;split<;>omega) (by omega) (by omega) (Rh e hk))
        rw [ih,hU i 0 i0 i1 (by omega) (by omega) e,hV i 0 i0 i1 (by omega) (by omega) e]
        grind
theorem TG{f:Int->Int}{n:Nat}{r:Int}(r0:0<=r)(r1:r+1<(n:Int))(h:∀i,0<=i->i<(n:Int)->i≠r->i≠r+1->f i=0)(hs:f r+f (r+1)=0):Zb f n=0:=by
  rw [Zy (s:=r) r0 (by omega),Zy (s:=r+1) (by omega) r1]
  have:Zb (fun j=>if j=r+1 then 0 else if j=r then 0 else f j) n=Zb (fun _=>0) n:=Ze fun i i0 i1=>by
    by_cases e:i=r+1
    · rw [if_pos e]
    · rw [if_neg e]
      by_cases e2:i=r
      · rw [if_pos e2]
      · rw [if_neg e2];exact h i i0 i1 e2 e
  rw [this,Zl,if_neg (by omega)];omega
theorem Vv:∀{n:Nat} {A:Int->Int->Int} {r:Int},0<=r->r+1<(n:Int)->(∀m,0<=m->m<(n:Int)->A r m=A (r+1) m)->det n A=0
  |0,_,_,h0,h1,_=>by omega
  | n + 1,A,r,r0,r1,h=>by
    simp only [det]
    refine TG r0 r1 (fun i i0 i1 e1 e2=> ?_) ?_
    · have hb:=VA (n:=n) e1 r0 (by omega) i0 (by omega)
      have hb1:=VA (n:=n) e2 (by omega) (by omega) i0 (by omega)
      have hbb:bck i (r+1)=bck i r+1:=by unfold bck;split<;>(split<;>omega)
      have ih:=Vv (n:=n) (A:=fun k m=>A (skp i k) (m+1)) (r:=bck i r) hb.1 (by omega) (fun m m0 m1=>by
        show A (skp i (bck i r)) _=A (skp i (bck i r+1)) _
        rw [U6 e1,Ri e1 e2];exact h _ (by omega) (by omega))
      rw [ih];simp
    · have e:det n (fun k m=>A (skp r k) (m+1))=det n (fun k m=>A (skp (r+1) k) (m+1)):=Ye fun k m k0 k1 m0 m1=>by
        by_cases hk:k=r
        · have e1:skp r k=r+1:=by unfold skp;rw [if_neg (by omega)];omega
          have e2:skp (r+1) k=r:=by unfold skp;rw [if_pos (by omega)];omega
          rw [e1,e2];exact(h _ (by omega) (by omega)).symm
        · have e1:skp r k=skp (r+1) k:=by unfold skp;split<;>(split<;>omega)
          rw [e1]
      have ea:alt (r+1)= -alt r:=by unfold alt;split<;>(split<;>omega)
      rw [e,<-h 0 (by omega) (by omega),ea]
      grind
def Z2(A:Int->Int->Int)(a b:Int)(u v:Int->Int):Int->Int->Int:=fun k=>if k=a then u else if k=b then v else A k
theorem XK(A:Int->Int->Int)(a b:Int)(u v:Int->Int):Z2 A a b u v a=u:=if_pos rfl
theorem We(A:Int->Int->Int){a b:Int}(u v:Int->Int)(h:a≠b):Z2 A a b u v b=v:=by unfold Z2;rw [if_neg (fun e=>h e.symm),if_pos rfl]
theorem ZaL(A:Int->Int->Int){a b k:Int}(u v:Int->Int)(ha:k≠a)(hb:k≠b):Z2 A a b u v k=A k:=by unfold Z2;rw [if_neg ha,if_neg hb]
theorem Uj{n:Nat}{A:Int->Int->Int}{a b:Int}(a0:0<=a)(a1:a<(n:Int))(b0:0<=b)(b1:b<(n:Int))(hab:a≠b)(hz:∀w:Int->Int,det n (Z2 A a b w w)=0)(u v:Int->Int):det n (Z2 A a b u v)= -det n (Z2 A a b v u):=by
  have s1:∀x y z:Int->Int,det n (Z2 A a b (fun m=>x m+y m) z)=det n (Z2 A a b x z)+det n (Z2 A a b y z):=fun x y z=>by
    have:=Xd (n:=n) (A:=Z2 A a b (fun m=>x m+y m) z) (U:=Z2 A a b x z) (V:=Z2 A a b y z) (r:=a) (a:=1) (b:=1) a0 a1 (fun m _ _=>by rw [XK,XK,XK];omega)
      (fun k m _ _ _ _ hk=>by unfold Z2;rw [if_neg hk,if_neg hk]) (fun k m _ _ _ _ hk=>by unfold Z2;rw [if_neg hk,if_neg hk])
    omega
  have s2:∀x y z:Int->Int,det n (Z2 A a b z (fun m=>x m+y m))=det n (Z2 A a b z x)+det n (Z2 A a b z y):=fun x y z=>by
    have:=Xd (n:=n) (A:=Z2 A a b z (fun m=>x m+y m)) (U:=Z2 A a b z x) (V:=Z2 A a b z y) (r:=b) (a:=1) (b:=1) b0 b1 (fun m _ _=>by rw [We _ _ _ hab,We _ _ _ hab,We _ _ _ hab];omega)
      (fun k m _ _ _ _ hk=>by unfold Z2;rw [if_neg hk,if_neg hk]) (fun k m _ _ _ _ hk=>by unfold Z2;rw [if_neg hk,if_neg hk])
    omega
  have h:=hz (fun m=>u m+v m)
  rw [s1,s2,s2,hz u,hz v] at h
  omega
theorem TK(A:Int->Int->Int)(a b:Int):Z2 A a b (A a) (A b)=A:=by
  funext k;unfold Z2
  by_cases h:k=a
  · rw [if_pos h,h]
  · rw [if_neg h]
    by_cases h2:k=b
    · rw [if_pos h2,h2]
    · rw [if_neg h2]
theorem Vt:∀(d:Nat) {n:Nat} {A:Int->Int->Int} {a b:Int},0<=a->b=a+1+d->b<(n:Int)->(∀m,0<=m->m<(n:Int)->A a m=A b m)->det n A=0
  |0,n,A,a,b,a0,hb,b1,h=>Vv a0 (by omega) (fun m m0 m1=>by rw [h m m0 m1,show b=a+1 by omega])
  | d+1,n,A,a,b,a0,hb,b1,h=>by
    have hsw:=Uj (n:=n) (A:=A) (a:=b-1) (b:=b) (by omega) (by omega) (by omega) b1 (by omega) (fun w=>Vv (r:=b-1) (by omega) (by omega) (fun m _ _=>by rw [XK,show b-1+1=b by omega,We _ _ _ (by omega)])) (A (b-1)) (A b)
    rw [TK] at hsw
    have:=Vt d (n:=n) (A:=Z2 A (b-1) b (A b) (A (b-1))) (a:=a) (b:=b-1) a0 (by omega) (by omega) (fun m m0 m1=>by rw [XK,ZaL _ _ _ (by omega) (by omega)];exact h m m0 m1)
    omega
theorem Vu{n:Nat}{A:Int->Int->Int}{a b:Int}(a0:0<=a)(a1:a<(n:Int))(b0:0<=b)(b1:b<(n:Int))(hab:a≠b)(h:∀m,0<=m->m<(n:Int)->A a m=A b m):det n A=0:=by
  rcases Int.lt_or_gt_of_ne hab with e|e
  · exact Vt (b-a-1).toNat a0 (by omega) b1 h
  · exact Vt (a-b-1).toNat b0 (by omega) a1 (fun m m0 m1=>(h m m0 m1).symm)
theorem Ui{n:Nat}(A:Int->Int->Int){a b:Int}(a0:0<=a)(a1:a<(n:Int))(b0:0<=b)(b1:b<(n:Int))(hab:a≠b)(u v:Int->Int):det n (Z2 A a b u v)= -det n (Z2 A a b v u):=
  Uj a0 a1 b0 b1 hab (fun w=>Vu a0 a1 b0 b1 hab fun m _ _=>by rw [XK,We _ _ _ hab]) u v
theorem Vs{n:Nat}(A:Int->Int->Int){s:Int}(s0:0<=s)(s1:s<(n:Int))(c:Int->Int)(G:Int->Int->Int):∀K:Nat,det n (upd A s (fun m=>Zb (fun k=>c k*G k m) K))=Zb (fun k=>c k*det n (upd A s (G k))) K
  | 0=>by
    have:=Xd (n:=n) (A:=upd A s (fun m=>Zb (fun k=>c k*G k m) 0)) (U:=A) (V:=A) (r:=s) (a:=0) (b:=0) s0 s1 (fun m _ _=>by rw [gu_self];simp [Zb]) (fun k m _ _ _ _ hk=>by rw [gu_ne hk]) (fun k m _ _ _ _ hk=>by rw [gu_ne hk])
    simp only [Zb] at*;omega
  | K +1=>by
    have ih:=Vs A s0 s1 c G K
    have:=Xd (n:=n) (A:=upd A s (fun m=>Zb (fun k=>c k*G k m) (K+1))) (U:=upd A s (fun m=>Zb (fun k=>c k*G k m) K)) (V:=upd A s (G K)) (r:=s) (a:=1) (b:=c K) s0 s1
      (fun m _ _=>by rw [gu_self,gu_self,gu_self];simp [Zb]) (fun k m _ _ _ _ hk=>by rw [gu_ne hk,gu_ne hk]) (fun k m _ _ _ _ hk=>by rw [gu_ne hk,gu_ne hk])
    rw [this,ih];simp only [Zb];omega
def idm(k m:Int):Int:=if k=m then 1 else 0
theorem UQ:∀n:Nat,det n idm=1
  |0=>rfl
  | n + 1=>by
    simp only [det]
    have e:Zb (fun i=>alt i*idm i 0*det n (fun k m=>idm (skp i k) (m+1))) (n+1)=alt 0*idm 0 0*det n (fun k m=>idm (skp 0 k) (m+1)):=by
      rw [Zy (s:=0) (by omega) (by omega)]
      have:Zb (fun j=>if j=0 then 0 else alt j*idm j 0*det n (fun k m=>idm (skp j k) (m+1))) (n+1)=Zb (fun _=>0) (n+1):=Ze fun i i0 i1=>by
        by_cases e:i=0
        · rw [if_pos e]
        · rw [if_neg e];unfold idm;rw [if_neg e];simp
      rw [this,Zl];omega
    rw [e]
    have e2:det n (fun k m=>idm (skp 0 k) (m+1))=det n idm:=Ye fun k m k0 k1 m0 m1=>by
      have h1:skp 0 k=k+1:=by unfold skp;rw [if_neg (by omega)]
      rw [h1];unfold idm
      by_cases h:k=m
      · rw [if_pos h,if_pos (by omega)]
      · rw [if_neg h,if_neg (by omega)]
    rw [e2,UQ n];rfl
end Go.Proofs.Gw
namespace Go.Proofs.Gw
open Go Go.RowKit
theorem XV(f:Int->Int):∀n:Nat,Zb f (n+1)=f 0+Zb (fun j=>f (j+1)) n
  |0=>by simp [Zb]
  | n+1=>by
    have:=XV f n
    simp only [Zb] at*
    rw [this,show((n+1:Nat):Int)=(n:Int)+1 by omega];omega
theorem Yv{f:Int->Int}{n:Nat}{s:Int}(s0:0<=s)(s1:s<(n:Int))(h:∀k,0<=k->k<(n:Int)->k≠s->f k=0):Zb f n=f s:=by
  rw [Zy s0 s1]
  have:Zb (fun j=>if j=s then 0 else f j) n=Zb (fun _=>0) n:=Ze fun i i0 i1=>by
    by_cases e:i=s
    · rw [if_pos e]
    · rw [if_neg e];exact h i i0 i1 e
  rw [this,Zl];omega
theorem VJ{f:Int->Int}{n:Nat}{s j:Int}(s0:0<=s)(s1:s<(n:Int))(j0:0<=j)(j1:j<(n:Int))(hsj:s≠j)(h:∀k,0<=k->k<(n:Int)->k≠s->k≠j->f k=0):Zb f n=f s+f j:=by
  rw [Zy s0 s1,Yv (s:=j) j0 j1 (fun k k0 k1 hk=>by
    by_cases e:k=s
    · rw [if_pos e]
    · rw [if_neg e];exact h k k0 k1 e hk),if_neg (fun e=>hsj e.symm)]
def frm(p:Lp)(q m:Int):Int:=if q<p.n then(if m=q+1 then 1 else 0) else if m=0 then-p.b (q-p.n) else p.A (q-p.n) (m-1)
def cst(p:Lp)(m:Int):Int:=if m=0 then 0 else p.c (m-1)
def slt(p:Lp)(t:Tb)(k m:Int):Int:=if k=0 then(if m=0 then 1 else 0) else frm p (t.F (k-1)) m
def lft(p:Lp)(t:Tb)(i m:Int):Int:=if i=0 then cst p m else frm p (t.B (i-1)) m
structure DInv (p:Lp) (t:Tb) (eps:Int):Prop where
  e:eps=1\/eps= -1
  nf:t.nf=p.n
  n1:1<=p.n
  den:eps*t.den=det (p.n.toNat+1) (slt p t)
  cell:∀i j,0<=i->i<=t.nb->0<=j->j<=t.nf->eps*t.C i j=det (p.n.toNat+1) (upd (slt p t) j (lft p t i))
  idt:∀m,0<=m->m<=p.n->Idt t (if m=0 then 1 else 0) (cst p m) (fun q=>frm p q m)
theorem VH{α:Type}(f:Int->α){a b:Int}(x y:α)(h:a≠b):upd (upd f a x) b y=upd (upd f b y) a x:=by
  funext k;unfold upd
  by_cases e:k=a
  · rw [if_pos e,if_neg (by omega),if_pos e]
  · rw [if_neg e,if_neg e]
theorem WC{α:Type}(f:Int->α)(a:Int)(x y:α):upd (upd f a x) a y=upd f a y:=by
  funext k;unfold upd
  by_cases e:k=a
  · rw [if_pos e,if_pos e]
  · rw [if_neg e,if_neg e,if_neg e]
theorem YU{α:Type}(f:Int->α)(a:Int):upd f a (f a)=f:=by
  funext k;unfold upd
  by_cases e:k=a
  · rw [if_pos e,e]
  · rw [if_neg e]
theorem Xq(A:Int->Int->Int){a b:Int}(u v:Int->Int)(h:a≠b):upd (upd A a u) b v=Z2 A a b u v:=by
  funext k;unfold upd Z2
  by_cases e:k=a
  · rw [if_pos e,if_neg (by omega),if_pos e]
  · rw [if_neg e,if_neg e]
theorem DInv.row{p:Lp}{t:Tb}{eps:Int}(h:DInv p t eps){i:Int}(i0:0<=i)(i1:i<=t.nb){m:Int}(m0:0<=m)(m1:m<=p.n):t.den*lft p t i m=Zb (fun k=>t.C i k*slt p t k m) (p.n.toNat+1):=by
  have:=h.idt m m0 m1 i i0 i1
  have hn:=h.nf
  have e:Xk t (cst p m) (fun q=>frm p q m) i=lft p t i m:=rfl
  rw [e] at this
  rw [this,XV]
  unfold Xt
  rw [hn]
  have:Zb (fun j=>t.C i (j+1)*frm p (t.F j) m) p.n.toNat=Zb (fun j=>t.C i (j+1)*slt p t (j+1) m) p.n.toNat:=Ze fun j j0 j1=>by
    unfold slt;rw [if_neg (by omega),show j+1-1=j by omega]
  rw [this];unfold slt;rw [if_pos rfl]
theorem DInv.key{p:Lp}{t:Tb}{eps:Int}(h:DInv p t eps){r s i j:Int}(r0:0<=r)(r1:r<=t.nb)(s0:0<=s)(s1:s<=t.nf)(i0:0<=i)(i1:i<=t.nb)(j0:0<=j)(j1:j<=t.nf)(hj:j≠s):
    t.den*(eps*det (p.n.toNat+1) (upd (upd (slt p t) j (lft p t i)) s (lft p t r)))=t.C r s*t.C i j-t.C i s*t.C r j:=by
  have hnf:=h.nf;have hn1:=h.n1
  have hN:((p.n.toNat+1:Nat):Int)=p.n+1:=by omega
  have hl:=Xd (n:=p.n.toNat+1) (A:=upd (upd (slt p t) j (lft p t i)) s (fun m=>Zb (fun k=>t.C r k*slt p t k m) (p.n.toNat+1))) (U:=upd (upd (slt p t) j (lft p t i)) s (lft p t r)) (V:=upd (upd (slt p t) j (lft p t i)) s (lft p t r)) (r:=s) (a:=t.den) (b:=0) s0 (by omega)
    (fun m m0 m1=>by rw [gu_self,gu_self,<-h.row r0 r1 m0 (by omega)];omega) (fun k m _ _ _ _ hk=>by rw [gu_ne hk,gu_ne hk]) (fun k m _ _ _ _ hk=>by rw [gu_ne hk,gu_ne hk])
  rw [Vs _ s0 (by omega)] at hl
  have hp:=VJ (f:=fun k=>t.C r k*det (p.n.toNat+1) (upd (upd (slt p t) j (lft p t i)) s (slt p t k))) (n:=p.n.toNat+1) (s:=s) (j:=j) s0 (by omega) j0 (by omega) (fun e=>hj e.symm) (fun k k0 k1 e1 e2=>by
    have:=Vu (n:=p.n.toNat+1) (A:=upd (upd (slt p t) j (lft p t i)) s (slt p t k)) (a:=k) (b:=s) k0 k1 s0 (by omega) e1 (fun m _ _=>by rw [gu_self,gu_ne e1,gu_ne e2])
    rw [this,Int.mul_zero])
  have e1:upd (upd (slt p t) j (lft p t i)) s (slt p t s)=upd (slt p t) j (lft p t i):=by rw [VH _ _ _ hj,YU]
  have e2:det (p.n.toNat+1) (upd (upd (slt p t) j (lft p t i)) s (slt p t j))= -det (p.n.toNat+1) (upd (slt p t) s (lft p t i)):=by
    rw [Xq _ _ _ hj,Ui _ j0 (by omega) s0 (by omega) hj,<-Xq _ _ _ hj,YU]
  rw [e1,e2,<-h.cell i j i0 i1 j0 j1,<-h.cell i s i0 i1 s0 s1] at hp
  rw [hp] at hl
  rcases h.e with he|he<;>subst he<;>grind
theorem WZ{p:Lp}{t:Tb}{eps:Int}(h:DInv p t eps){row col:Int}(ha:XZ t row col):UG t row col:=by
  obtain⟨hp,r0,r1,c0,c1,hne⟩:=ha
  intro i j i0 i1 j0 j1 hi hj
  have:=h.key (r:=row+1) (s:=col+1) (i:=i) (j:=j) (by omega) (by omega) (by omega) (by omega) i0 i1 j0 j1 hj
  exact Int.tmod_eq_zero_of_dvd ⟨_,this.symm⟩
theorem U4(p:Lp)(t:Tb){row col:Int}(c0:0<=col)(r0:0<=row):slt p (piv t row col)=upd (slt p t) (col+1) (lft p t (row+1)):=by
  funext k m
  by_cases e:k=col+1
  · subst e
    rw [gu_self];unfold slt lft
    rw [if_neg (by omega),if_neg (by omega),show col+1-1=col by omega,show row+1-1=row by omega]
    show frm p (upd t.F col (t.B row) col) m=_
    rw [gu_self]
  · rw [gu_ne e];unfold slt
    by_cases e0:k=0
    · rw [if_pos e0,if_pos e0]
    · rw [if_neg e0,if_neg e0]
      show frm p (upd t.F col (t.B row) (k-1)) m=_
      rw [gu_ne (by omega)]
theorem KC(p:Lp)(t:Tb){row col:Int}(c0:0<=col)(r0:0<=row):lft p (piv t row col)=upd (lft p t) (row+1) (slt p t (col+1)):=by
  funext k m
  by_cases e:k=row+1
  · subst e
    rw [gu_self];unfold slt lft
    rw [if_neg (by omega),if_neg (by omega),show col+1-1=col by omega,show row+1-1=row by omega]
    show frm p (upd t.B row (t.F col) row) m=_
    rw [gu_self]
  · rw [gu_ne e];unfold lft
    by_cases e0:k=0
    · rw [if_pos e0,if_pos e0]
    · rw [if_neg e0,if_neg e0]
      show frm p (upd t.B row (t.F col) (k-1)) m=_
      rw [gu_ne (by omega)]
theorem RT {p:Lp} {t:Tb} {eps:Int} (h:DInv p t eps) {row col:Int} (ha:XZ t row col):DInv p (piv t row col) (eps*sg (t.C (row+1) (col+1))):=by
  have hd:=WZ h ha
  have hidt:=fun m m0 m1=>(Tp ha hd _ _ _).1 (h.idt m m0 m1)
  obtain⟨hp,r0,r1,c0,c1,hne⟩:=ha
  have hnf:=h.nf;have hn1:=h.n1;have hd1:=hp.d1
  have hss:sg (t.C (row+1) (col+1))*sg (t.C (row+1) (col+1))=1:=by rcases Wd (t.C (row+1) (col+1)) with e|e<;>rw [e]<;>rfl
  refine⟨?_,hnf,hn1,?_,?_,hidt⟩
  · rcases h.e with e|e<;>rcases Wd (t.C (row+1) (col+1)) with e2|e2<;>rw [e,e2]<;>simp
  · rw [U9,U4 p t c0 r0,<-h.cell (row+1) (col+1) (by omega) (by omega) (by omega) (by omega)]
    grind
  · intro i j i0 i1 j0 j1
    have i2:i<=t.nb:=i1
    have j2:j<=t.nf:=j1
    rw [XX,U4 p t c0 r0,KC p t c0 r0]
    have e0:eps*sg (t.C (row+1) (col+1))*(sg (t.C (row+1) (col+1))*ZD t (row+1) (col+1) i j)=eps*ZD t (row+1) (col+1) i j:=by grind
    rw [e0]
    unfold ZD
    by_cases hi:i=row+1
    · subst hi
      rw [gu_self]
      by_cases hj:j=col+1
      · subst hj
        rw [if_pos ⟨rfl,rfl⟩,WC,YU];exact h.den
      · rw [if_neg (by omega),if_pos rfl,Xq _ _ _ (fun e=>hj e.symm),Ui _ (by omega) (by omega) j0 (by omega) (fun e=>hj e.symm),<-Xq _ _ _ (fun e=>hj e.symm),YU,<-h.cell _ _ (by omega) (by omega) j0 (by omega)]
        grind
    · rw [gu_ne hi]
      by_cases hj:j=col+1
      · subst hj
        rw [if_neg (by omega),if_neg hi,if_pos rfl,WC];exact h.cell _ _ i0 i2 (by omega) (by omega)
      · rw [if_neg (by omega),if_neg hi,if_neg hj]
        have hk:=h.key (r:=row+1) (s:=col+1) (i:=i) (j:=j) (by omega) (by omega) (by omega) (by omega) i0 i2 j0 j2 hj
        rw [<-hk,Int.mul_tdiv_cancel_left _ (by omega),VH _ _ _ (fun e=>hj e.symm)]
        rcases h.e with e|e<;>rw [e]<;>grind
theorem UP {p:Lp} (hl:LOk p) (hm:0<=p.m):DInv p (Zi p) 1:=by
  have hn:=hl.n1
  have hN:((p.n.toNat+1:Nat):Int)=p.n+1:=by omega
  have hs:∀k m,0<=k->k<((p.n.toNat+1:Nat):Int)->0<=m->m<((p.n.toNat+1:Nat):Int)->slt p (Zi p) k m=idm k m:=fun k m k0 k1 m0 m1=>by
    unfold slt idm
    by_cases e:k=0
    · subst e;rw [if_pos rfl]
      by_cases e2:m=0
      · rw [if_pos e2,if_pos e2.symm]
      · rw [if_neg e2,if_neg (fun h=>e2 h.symm)]
    · rw [if_neg e]
      show frm p (k-1) m=_
      unfold frm
      rw [if_pos (by omega)]
      by_cases e2:k=m
      · rw [if_pos (by omega),if_pos e2]
      · rw [if_neg (by omega),if_neg e2]
  refine⟨.inl rfl,rfl,hn,?_,?_,?_⟩
  · rw [Ye hs,UQ];rfl
  · intro i j i0 i1 j0 j1
    have i2:i<=p.m:=i1
    have j2:j<=p.n:=j1
    have e1:det (p.n.toNat+1) (upd (slt p (Zi p)) j (lft p (Zi p) i))=det (p.n.toNat+1) (upd idm j (fun m=>Zb (fun k=>lft p (Zi p) i k*idm k m) (p.n.toNat+1))):=Ye fun k m k0 k1 m0 m1=>by
      by_cases e:k=j
      · subst e
        rw [gu_self,gu_self,Yv (s:=m) m0 m1 (fun q q0 q1 hq=>by unfold idm;rw [if_neg hq];omega)]
        unfold idm;rw [if_pos rfl];omega
      · rw [gu_ne e,gu_ne e];exact hs k m k0 k1 m0 m1
    have e2:lft p (Zi p) i j=(Zi p).C i j:=by
      unfold lft
      show _=(if i=0 then(if j=0 then 0 else p.c (j-1)) else if j=0 then-p.b (i-1) else p.A (i-1) (j-1))
      by_cases e:i=0
      · rw [if_pos e,if_pos e];rfl
      · rw [if_neg e,if_neg e]
        show frm p (p.n+(i-1)) j=_
        unfold frm
        rw [if_neg (by omega),show p.n+(i-1)-p.n=i-1 by omega]
    rw [e1,Vs _ j0 (by omega),Yv (s:=j) j0 (by omega) (fun q q0 q1 hq=>by
      have:=Vu (n:=p.n.toNat+1) (A:=upd idm j (idm q)) (a:=q) (b:=j) q0 q1 j0 (by omega) hq (fun m _ _=>by rw [gu_self,gu_ne hq])
      rw [this,Int.mul_zero]),YU,UQ,e2];omega
  · intro m m0 m1
    refine(idt_start hl hm _ _ _).2 ⟨?_,fun i i0 i1=> ?_⟩
    · unfold cst
      by_cases e:m=0
      · rw [if_pos e]
        have:Zj p.c (fun q=>frm p q m) p.n.toNat=Zb (fun _=>0) p.n.toNat:=Ze fun q q0 q1=>by
          dsimp only;unfold frm;rw [if_pos (by omega),if_neg (by omega)];omega
        rw [this,Zl]
      · rw [if_neg e]
        have:Zj p.c (fun q=>frm p q m) p.n.toNat=_:=Yv (s:=m-1) (by omega) (by omega) (fun q q0 q1 hq=>by
          dsimp only;unfold frm;rw [if_pos (by omega),if_neg (by omega)];omega)
        rw [this];dsimp only;unfold frm;rw [if_pos (by omega),if_pos (by omega)];omega
    · have e1:frm p (p.n+i) m=if m=0 then-p.b i else p.A i (m-1):=by
        unfold frm;rw [if_neg (by omega),show p.n+i-p.n=i by omega]
      rw [e1]
      by_cases e:m=0
      · rw [if_pos e,if_pos e]
        have:Zj (p.A i) (fun q=>frm p q m) p.n.toNat=Zb (fun _=>0) p.n.toNat:=Ze fun q q0 q1=>by
          dsimp only;unfold frm;rw [if_pos (by omega),if_neg (by omega)];omega
        rw [this,Zl];omega
      · rw [if_neg e,if_neg e]
        have:Zj (p.A i) (fun q=>frm p q m) p.n.toNat=_:=Yv (s:=m-1) (by omega) (by omega) (fun q q0 q1 hq=>by
          dsimp only;unfold frm;rw [if_pos (by omega),if_neg (by omega)];omega)
        rw [this];dsimp only;unfold frm;rw [if_pos (by omega),if_pos (by omega)];omega
end Go.Proofs.Gw
namespace Go.Proofs.Gw
open Go Go.RowKit
theorem Wr (t:Tb) (r:Int):∀K:Nat,0<=Zz t r K->0<t.C (r+1) (Zz t r K+1)/\∀j:Int,0<=j->j<K->0<t.C (r+1) (j+1)->t.C 0 (Zz t r K+1)*t.C (r+1) (j+1)<=t.C 0 (j+1)*t.C (r+1) (Zz t r K+1)
  |0,h=>by unfold Zz at h;omega
  | k + 1,h=>by
    have ih:=Wr t r k
    have hneg:=Wq t r k
    unfold Zz at h⊢
    by_cases h1:t.C (r+1) (k+1)<=0
    · rw [if_pos h1] at h⊢
      obtain⟨a1,a2⟩:=ih h
      refine⟨a1,fun j j0 j1 hj=> ?_⟩
      by_cases e:j=k
      · subst e;omega
      · exact a2 j j0 (by omega) hj
    · rw [if_neg h1] at h⊢
      by_cases h2:Zz t r k<0
      · rw [if_pos h2]
        refine⟨by omega,fun j j0 j1 hj=> ?_⟩
        by_cases e:j=k
        · subst e;exact Int.le_refl _
        · have:=hneg h2 j j0 (by omega);omega
      · rw [if_neg h2] at h⊢
        obtain⟨a1,a2⟩:=ih (by omega)
        by_cases h3:t.C 0 (k+1)*t.C (r+1) (Zz t r k+1)<t.C 0 (Zz t r k+1)*t.C (r+1) (k+1)\/(t.C 0 (k+1)*t.C (r+1) (Zz t r k+1)=t.C 0 (Zz t r k+1)*t.C (r+1) (k+1)/\t.F k<t.F (Zz t r k))
        · rw [if_pos h3]
          refine⟨by omega,fun j j0 j1 hj=> ?_⟩
          by_cases e:j=k
          · subst e;exact Int.le_refl _
          · have b1:=a2 j j0 (by omega) hj
            have b2:t.C 0 (k+1)*t.C (r+1) (Zz t r k+1)<=t.C 0 (Zz t r k+1)*t.C (r+1) (k+1):=by omega
            have b3:=Int.mul_le_mul_of_nonneg_right b2 (Int.le_of_lt hj)
            have b4:=Int.mul_le_mul_of_nonneg_right b1 (show 0<=t.C (r+1) (k+1) by omega)
            refine Int.le_of_mul_le_mul_left ?_ a1
            grind
        · rw [if_neg h3]
          refine⟨a1,fun j j0 j1 hj=> ?_⟩
          by_cases e:j=k
          · subst e;omega
          · exact a2 j j0 (by omega) hj
theorem TW{t:Tb}(hp:TPrp t)(hc:t.costs){r:Int}(r0:0<=r)(h:0<=Zz t r t.nf.toNat):(piv t r (Zz t r t.nf.toNat)).costs:=by
  obtain⟨a1,a2⟩:=Wr t r _ h
  intro j j1 j2
  have j3:j<=t.nf:=j2
  rw [XX]
  have hs:sg (t.C (r+1) (Zz t r t.nf.toNat+1))=1:=by unfold sg;rw [if_neg (by omega)]
  rw [hs,Int.one_mul]
  unfold ZD
  rw [if_neg (by omega),if_neg (by omega)]
  have hr:=YJ t r t.nf.toNat
  split
  · exact hc j j1 j3
  · refine Int.tdiv_nonneg ?_ (by have:=hp.d1;omega)
    have c1:=hc j j1 j3
    have c2:=hc (Zz t r t.nf.toNat+1) (by omega) (by omega)
    rcases Int.lt_or_le 0 (t.C (r+1) j) with h1|h1
    · have:=a2 (j-1) (by omega) (by omega) (by rw [show j-1+1=j by omega];exact h1)
      rw [show j-1+1=j by omega] at this
      grind
    · have m1:=Int.mul_nonneg (Int.le_of_lt a1) c1
      have m2:=Int.mul_nonneg c2 (show 0<= -t.C (r+1) j by omega)
      rw [Int.mul_neg] at m2
      omega
theorem Rk {p:Lp} {k:Nat} {t u:Tb} {e:Int} (h:Run k t u e):TPrp t->t.costs->(∃eps,DInv p t eps)->e=0\/e=2\/e=9\/e=19:=by
  induction h with
  | stop h hd=>
    intro hp hc _
    rcases h with⟨h1,_⟩|⟨_,_,_,_,_,_,h⟩|⟨_,_,_,_,_,_,_,h⟩|⟨_,_,_,_,_,_,_,h⟩
    · exact absurd ⟨hp,hc⟩ h1
    · exact .inl h
    · exact .inr (.inr (.inr h))
    · exact .inl h
  |lim=>intro _ _ _;exact .inr (.inr (.inl rfl))
  | @bad k t t' r c e h hpv he=>
    rintro hp hc ⟨eps,hi⟩
    have ha:XZ t r c:=by
      rcases h with⟨h1,_⟩|⟨_,_,_,_,_,h,_⟩|⟨_,_,_,_,_,_,_,h⟩|⟨_,_,h1,h2,h3,h4,_⟩
      · exact absurd ⟨hp,hc⟩ h1
      · cases h
      · omega
      · have b1:=Z7 t t.nb.toNat
        have b2:=YJ t (ZM t t.nb.toNat) t.nf.toNat
        have b3:=(Wr t _ _ h2).1
        subst h3;subst h4
        exact⟨hp,h1,by omega,h2,by omega,by omega⟩
    have hd:=WZ hi ha
    rcases hpv with⟨h1,_⟩|⟨_,h1,_⟩|⟨_,_,_,_,h1⟩|⟨_,_,_,_,h1⟩
    · exact absurd ha h1
    · exact absurd hd h1
    · exact .inr (.inl h1)
    · exact absurd h1 he
  | @go k t t' u r c e h hpv hr ih=>
    rintro hp hc ⟨eps,hi⟩
    rcases hpv with⟨_,_,h1⟩|⟨_,_,_,h1⟩|⟨_,_,_,_,h1⟩|⟨ha,_,hp',rfl,_⟩
    · omega
    · omega
    · omega
    · refine ih hp' ?_ ⟨_,RT hi ha⟩
      rcases h with⟨h1,_⟩|⟨_,_,_,_,_,h,_⟩|⟨_,_,_,_,_,_,_,h⟩|⟨_,_,h1,h2,h3,h4,_⟩
      · exact absurd ⟨hp,hc⟩ h1
      · cases h
      · omega
      · subst h3;subst h4
        exact TW hp hc h1 h2
theorem WL{p:Lp}(hl:LOk p)(hm:0<=p.m):TPrp (Zi p)/\(Zi p).costs:=by
  have hn:=hl.n1;have hn2:=hl.n2;have hm2:=hl.m2
  refine⟨⟨hn,hn2,hm2,rfl,by show(1:Int)<=1;decide,by show(1:Int)<=1073741824;decide,rfl,?_,?_⟩,?_⟩
  · refine PermF.congr (c:=fun k=>k) ⟨fun i i0 i1=>⟨i0,i1⟩,fun i j _ _ _ _ e=>e⟩ fun k k0 k1=> ?_
    show k=cat p.n (fun j=>j) (fun i=>p.n+i) k
    unfold cat
    by_cases e:k<p.n
    · rw [if_pos e]
    · rw [if_neg e];show k=p.n+(k-p.n);omega
  · intro i i0 i1
    refine⟨rfl,fun j j0 j1=> ?_⟩
    have j2:j<p.n+1:=j1
    have i2:i<p.m+1:=i1
    show-1073741824<=(if i=0 then(if j=0 then 0 else p.c (j-1)) else if j=0 then-p.b (i-1) else p.A (i-1) (j-1))/\(if i=0 then(if j=0 then 0 else p.c (j-1)) else if j=0 then-p.b (i-1) else p.A (i-1) (j-1))<=1073741824
    by_cases e:i=0
    · rw [if_pos e]
      by_cases e2:j=0
      · rw [if_pos e2];omega
      · rw [if_neg e2];have:=hl.c (j-1) (by omega) (by omega);omega
    · rw [if_neg e]
      by_cases e2:j=0
      · rw [if_pos e2];have:=hl.b (i-1) (by omega) (by omega);omega
      · rw [if_neg e2];have:=(hl.rows (i-1) (by omega) (by omega)).2 (j-1) (by omega) (by omega);omega
  · intro j j0 j1
    have j2:j<=p.n:=j1
    show 0<=(if(0:Int)=0 then(if j=0 then 0 else p.c (j-1)) else if j=0 then-p.b (0-1) else p.A (0-1) (j-1))
    rw [if_pos rfl,if_neg (by omega)];exact(hl.c (j-1) (by omega) (by omega)).1
theorem SolveR.errs{p:Lp}(hl:LOk p)(hm:0<=p.m){s:So}{e:Int}(h:SolveR p s e):e=0\/e=2\/e=9\/e=19:=by
  rcases h with⟨h1,_⟩|⟨_,u,hr,_⟩
  · exact absurd hl h1
  · exact Rk hr (WL hl hm).1 (WL hl hm).2 ⟨_,UP hl hm⟩
end Go.Proofs.Gw
namespace Go.Proofs.Ytopmifmfecfaaaa
open Go Go.RowKit Go.Proofs.Gw
theorem RU{p:Prob}(hp:p.Ok){i:Int}(i0:0<=i)(i1:i<p.m):0<=p.D i/\p.D i<=1000/\1<=p.L i/\p.L i<=p.stock:=by
  have h2:=hp.all i i0 i1
  unfold Prob.each at h2;omega
theorem UH{p:Prob}(hp:p.Ok){y:Int->Int}(hy:∀i,0<=i->i<p.m->0<=y i){W q:Int}{u:Nat}{x:Int->Int}{f:Int->Int->Int}{D:Int->Int}(hx:∀j,0<=j->j<(u:Int)->0<=x j)(hW:∀j,0<=j->j<(u:Int)->Zb (fun k=>f j k*y k) p.m.toNat<=W)
    (hb:∀k,0<=k->k<p.m->D k*q<=Zb (fun j=>f j k*x j) u):Zb (fun k=>D k*y k) p.m.toNat*q<=Zb x u*W:=by
  have hm:=hp.m1
  have e1:Zb (fun k=>D k*y k) p.m.toNat*q=Zb (fun k=>D k*q*y k) p.m.toNat:=by
    rw [<-ZT];exact Ze fun k _ _=>by grind
  have e2:Zb (fun k=>D k*q*y k) p.m.toNat<=Zb (fun k=>Zb (fun j=>f j k*x j) u*y k) p.m.toNat:=ZQ fun k k0 k1=>Int.mul_le_mul_of_nonneg_right (hb k k0 (by omega)) (hy k k0 (by omega))
  have e3:Zb (fun k=>Zb (fun j=>f j k*x j) u*y k) p.m.toNat=Zb (fun k=>Zb (fun j=>f j k*x j*y k) u) p.m.toNat:=Ze fun k _ _=>(ZT _ _ _).symm
  have e4:Zb (fun k=>Zb (fun j=>f j k*x j*y k) u) p.m.toNat=Zb (fun j=>Zb (fun k=>f j k*x j*y k) p.m.toNat) u:=Xi (fun j k=>f j k*x j*y k) u p.m.toNat
  have e5:Zb (fun j=>Zb (fun k=>f j k*x j*y k) p.m.toNat) u<=Zb (fun j=>x j*W) u:=ZQ fun j j0 j1=>by
    have:Zb (fun k=>f j k*x j*y k) p.m.toNat=Zb (fun k=>f j k*y k) p.m.toNat*x j:=by
      rw [<-ZT];exact Ze fun k _ _=>by grind
    rw [this,Int.mul_comm (x j)]
    exact Int.mul_le_mul_of_nonneg_right (hW j j0 j1) (hx j j0 j1)
  rw [ZT] at e5
  omega
structure MOk (p:Prob) (u:Int) (ml:Int->Int) (mf:Int->Int->Int) (s:So):Prop where
  pats:XE p u ml mf
  u0:0<=u
  n:s.n=u
  m:s.m=p.m
  d1:1<=s.den
  d2:s.den<=1073741824
  v:0<=s.val/\s.val<=1073741824
  X:∀j,0<=j->j<u->0<=s.X j/\s.X j<=1073741824
  Y:∀i,0<=i->i<p.m->0<=s.Y i/\s.Y i<=1073741824
  rows:∀k,0<=k->k<p.m->p.D k*s.den<=Zb (fun j=>mf j k*s.X j) u.toNat
  cols:∀j,0<=j->j<u->Zb (fun k=>mf j k*s.Y k) p.m.toNat<=s.den
  cX:Zb s.X u.toNat=s.val
  bY:Zb (fun k=>p.D k*s.Y k) p.m.toNat=s.val
theorem MSolveR.ok{p:Prob}{u:Int}{ml:Int->Int}{mf:Int->Int->Int}{s:So}(hu:0<=u)(h:MSolveR p u ml mf s 0):MOk p u ml mf s:=by
  rcases h with⟨_,_,h⟩|⟨_,_,_,h⟩|⟨_,_,_,_,_,_,h⟩|⟨h1,h2,h3,h4,h5,h6,h7⟩|⟨h1,h2,h3,h4,h5⟩
  · omega
  · omega
  · omega
  · have hm:=h1.1.m1;have hd:=h1.1.d
    subst h6;subst h4
    have z:∀f:Int->Int,Zb (fun k=>f k*0) p.m.toNat=0:=fun f=>by rw [ZT,Int.mul_zero]
    refine⟨h1,by omega,rfl,rfl,by show(1:Int)<=1;decide,by show(1:Int)<=1073741824;decide,⟨Int.le_refl _,by show(0:Int)<=1073741824;decide⟩,fun j a b=>by omega,fun i _ _=>⟨Int.le_refl _,by show(0:Int)<=1073741824;decide⟩,fun k k0 k1=> ?_,fun j a b=>by omega,rfl,z p.D⟩
    have:=h5 k k0 (by omega)
    show p.D k*1<=0
    omega
  · have hm:=h1.1.m1
    have hc:=SolveR.chk (p:=TQ p u mf) (by show 0<=p.m;omega) h5 rfl
    have hv:s.val=Zb s.X u.toNat:=by
      have:=hc.cX
      rw [<-this];exact Ze fun k _ _=>by show 1*s.X k=_;omega
    refine⟨h1,by omega,hc.n,hc.m,hc.d1,hc.d2,⟨?_,hc.v.2⟩,hc.X,hc.Y,fun k k0 k1=> ?_,fun j j0 j1=> ?_,hv.symm,hc.bY⟩
    · rw [hv];exact ZS fun j j0 j1=>(hc.X j j0 (by show j<u;omega)).1
    · exact hc.rows k k0 k1
    · have:=hc.cols j j0 j1
      have e:(TQ p u mf).c j*s.den=s.den:=by show 1*s.den=_;omega
      rw [e] at this;exact this
theorem TL{p:Prob}{n:Int}{a:Int->Int}(h:ZN p n a):(∀i,0<=i->i<p.m->0<=a i/\a i<=p.D i)/\ZO p a p.m.toNat<=p.stock+p.kerf:=
  ⟨fun i i0 i1=>⟨(h.1.all i i0 i1).1,h.2 i i0 (by rw [h.1.eq];exact i1)⟩,h.1.used⟩
theorem ZbZ{p:Prob}{u:Int}{ml:Int->Int}{mf:Int->Int->Int}(h:XE p u ml mf)(hu:1<=u)(hu2:u<=60)(hm:p.m<=16):LOk (TQ p u mf):=by
  have hp:=h.1
  refine⟨hu,hu2,hm,hp.d,fun j _ _=>by show(0:Int)<=1/\(1:Int)<=1000000;omega,fun i i0 i1=> ?_,fun i i0 i1=>⟨rfl,fun j j0 j1=> ?_⟩⟩
  · have:=RU hp i0 i1
    show-1000000<=p.D i/\p.D i<=1000000;omega
  · have h1:=(TL (h.2 j j0 j1)).1 i i0 i1
    have:=RU hp i0 i1
    show-1000000<=mf j i/\mf j i<=1000000;omega
theorem Xh{f:Int->Int}:∀{n:Nat},(∀j,0<=j->j<(n:Int)->0<=f j)->∀{k:Int},0<=k->k<(n:Int)->f k<=Zb f n
  |0,_,k,k0,k1=>by omega
  | n +1,h,k,k0,k1=>by
    have h1:=ZS (f:=f) (n:=n) fun j j0 j1=>h j j0 (by omega)
    by_cases e:k=(n:Int)
    · simp only [Zb];rw [e];omega
    · have h2:=Xh (n:=n) (fun j j0 j1=>h j j0 (by omega)) k0 (show k<(n:Int) by omega)
      have h3:=h (n:Int) (by omega) (by omega)
      simp only [Zb];omega
theorem YY(c:Int->Int):∀n:Nat,psum (fun _=>1) c n=Zb c n
  |0=>rfl
  | n+1=>by
    have:=ZP c (i:=(n:Int)) (by omega)
    rw [show((n:Int)+1).toNat=n+1 by omega,Int.toNat_natCast] at this
    rw [this,psum,YY c n];omega
theorem UF{p:Prob}{n:Int}{lt ct:Int->Int}{pt:Int->Int->Int}(hx:SoundP p n lt pt ct)(hm:∀j,0<=j->j<p.m->Yg pt ct n.toNat j=p.D j):XE p n lt pt:=
  ⟨hx.ok,fun k k0 k1=>⟨(hx.all k k0 k1).1,fun i i0 i1=>by
    have hf:=(hx.all k k0 k1).1
    have i2:i<p.m:=by have:=hf.eq;omega
    have hn:∀j,0<=j->j<(n.toNat:Int)->0<=pt j i*ct j:=fun j j0 j1=>by
      obtain⟨g1,g2,_⟩:=hx.all j j0 (by omega)
      exact Int.mul_nonneg (g1.all i i0 i2).1 (by omega)
    have h1:=Xh hn k0 (show k<(n.toNat:Int) by omega)
    have h2:=hm i i0 i2
    unfold Yg at h2
    have h3:=(hx.all k k0 k1).2.1
    have h4:=Int.mul_le_mul_of_nonneg_left h3 (hf.all i i0 i2).1
    omega⟩⟩
theorem UB {p:Prob} {n e:Int} {lt ct:Int->Int} {pt:Int->Int->Int} {s:So} (n0:0<=n) (hx:SoundP p n lt pt ct) (hm:∀j,0<=j->j<p.m->Yg pt ct n.toNat j=p.D j) (hs:MSolveR p n lt pt s e):e=0\/e=2\/e=9:=by
  rcases hs with⟨h,_⟩|⟨_,_,_,h⟩|⟨_,_,_,h1,⟨k,k0,k1,h2⟩,_⟩|⟨_,_,_,_,_,_,h⟩|⟨h1,h2,h3,h4,h5⟩
  · exact absurd (UF hx hm) h
  · exact .inr (.inr h)
  · have h3:=hm k k0 (by have:=hx.ok.d;omega)
    rw [h1] at h3
    have h4:Yg pt ct (0:Int).toNat k=0:=rfl
    omega
  · exact .inl h
  · have hp:=h1.1.m1
    rcases SolveR.errs (ZbZ h1 h4 h3 h2) (by show 0<=p.m;omega) h5 with h|h|h|h
    · exact .inl h
    · exact .inr (.inl h)
    · exact .inr (.inr h)
    · obtain⟨y,hy⟩:=SolveR.none (p:=TQ p n pt) (by show 0<=p.m;omega) h5 h
      have:=Rl (x:=ct) (a:=1) hy (by show 0<=n;omega) (by show 0<=p.m;omega) (by omega) (fun j j0 j1=>by have:=(hx.all j j0 j1).2.1;omega) (fun i i0 i1=>by
        have h9:=hm i i0 i1
        show p.D i*1<=Zb (fun j=>pt j i*ct j) n.toNat
        unfold Yg at h9;omega)
      omega
theorem Ra{p:Prob}{n:Int}{lt ct:Int->Int}{pt:Int->Int->Int}{s:So}(hx:SoundP p n lt pt ct)(hm:∀j,0<=j->j<p.m->Yg pt ct n.toNat j=p.D j)(hs:MOk p n lt pt s):s.val<=psum (fun _=>1) ct n.toNat*s.den:=by
  have n0:=hs.u0
  have h:=UH hx.ok (y:=s.Y) (W:=s.den) (q:=1) (u:=n.toNat) (x:=ct) (f:=pt) (D:=p.D) (fun i i0 i1=>(hs.Y i i0 i1).1) (fun j j0 j1=>by have:=(hx.all j j0 (by omega)).2.1;omega) (fun j j0 j1=>hs.cols j j0 (by omega)) (fun k k0 k1=>by
    have:=hm k k0 k1
    unfold Yg at this;omega)
  rw [hs.bY] at h
  rw [YY];omega
theorem KH(s:So):∀n:Nat,∀k,0<=k->k<flN s n->flG s (fun _ _=>1) n k 0=1:=fun n k k0 k1=>by
  obtain⟨q,_,_,_,h,_⟩:=V5 s (fun _=>0) (fun _ _=>1) n k k0 k1
  rw [h]
theorem KI{s:So}{N:Int}(N0:0<=N)(hX:∀k,0<=k->k<N->0<=s.X k)(hd:1<=s.den):psum (fun _=>1) (flC s N.toNat) (flN s N.toNat).toNat=psum (fun _=>1) (fun q=>(s.X q).tdiv s.den) N.toNat:=by
  have h:=RE s (fun _ _=>1) 0 N (fun k hk=>hX k (by omega) hk) hd N.toNat (by omega)
  rw [<-h]
  exact YN fun q hq=>⟨(KH s N.toNat q (by omega) (by omega)).symm,rfl⟩
theorem Zay{s:So}(hd:1<=s.den):∀n:Nat,(∀k,0<=k->k<(n:Int)->0<=s.X k)->psum (fun _=>1) (fun q=>(s.X q).tdiv s.den) n*s.den<=Zb s.X n
  |0,_=>by simp [psum,Zb]
  | n +1,h=>by
    have h1:=Zay hd n fun k k0 k1=>h k k0 (by omega)
    have h2:(s.X n).tdiv s.den*s.den<=s.X n:=by
      have h3:=Int.mul_tdiv_add_tmod (s.X n) s.den
      have h4:=Int.tmod_nonneg s.den (h n (by omega) (by omega))
      rw [Int.mul_comm];omega
    have e:psum (fun _=>1) (fun q=>(s.X q).tdiv s.den) (n+1)=psum (fun _=>1) (fun q=>(s.X q).tdiv s.den) n+(s.X n).tdiv s.den:=by simp only [psum];omega
    rw [e,Int.add_mul];simp only [Zb];omega
theorem K0{v d:Int}(hv:0<=v)(hd:1<=d):0<=(v+d-1).tdiv d/\v<=(v+d-1).tdiv d*d/\((v+d-1).tdiv d-1)*d<v:=by
  have h1:=Int.mul_tdiv_add_tmod (v+d-1) d
  have h2:=Int.tmod_nonneg d (show 0<=v+d-1 by omega)
  have h3:=Int.tmod_lt_of_pos (v+d-1) (show 0<d by omega)
  have h4:0<=(v+d-1).tdiv d:=Int.tdiv_nonneg (by omega) (by omega)
  have h5:d*(v+d-1).tdiv d=(v+d-1).tdiv d*d:=Int.mul_comm _ _
  have h6:((v+d-1).tdiv d-1)*d=(v+d-1).tdiv d*d-d:=by rw [Int.sub_mul];omega
  omega
theorem Vj{a b c d:Int}(hd:1<=d)(h1:(a-1)*d<c)(h2:c<=b*d):a<=b:=by
  apply Classical.byContradiction
  intro h
  have:=Int.mul_le_mul_of_nonneg_right (show b<=a-1 by omega) (show 0<=d by omega)
  omega
theorem TE{p:Prob}{n x xe fn fe:Int}{lt ct fl fc:Int->Int}{pt fg:Int->Int->Int}{s:So}(hx:SoundP p n lt pt ct)(hm:∀j,0<=j->j<p.m->Yg pt ct n.toNat j=p.D j)(hs:MOk p n lt pt s)(hc:CeilR s x xe)(hf:FloorR s n lt pt fn fl fg fc fe):
    xe=0/\fe=0/\0<=x/\x<=psum (fun _=>1) ct n.toNat/\psum (fun _=>1) fc fn.toNat<=x/\(x-1)*s.den<s.val/\psum (fun _=>1) fc fn.toNat*s.den<=s.val/\0<=fn/\fn<=n/\∀k,0<=k->k<fn->0<=fc k/\fc k<=1000000:=by
  have n0:=hs.u0
  have hS:ZC s:=⟨⟨hs.d1,hs.d2⟩,hs.v,fun k k0 k1=>hs.X k k0 (by rw [<-hs.n];exact k1)⟩
  obtain⟨_,hcx,hce⟩:=hc.resolve_left fun h=>h.1 hS
  obtain⟨_,_,hfn,_,_,hfc,hfe⟩:=hf.resolve_left fun h=>h.1 ⟨hS,hs.n.symm⟩
  obtain⟨c0,c1,c2⟩:=K0 hs.v.1 hs.d1
  rw [<-hcx] at c0 c1 c2
  have hle:=Ra hx hm hs
  have hX:∀k,0<=k->k<n->0<=s.X k:=fun k k0 k1=>(hs.X k k0 k1).1
  have hb:=KI n0 hX hs.d1
  have hl:=Zay hs.d1 n.toNat fun k k0 k1=>hX k k0 (by omega)
  rw [hs.cX,<-hb,<-hfn,<-hfc] at hl
  have hr:=Xa s n.toNat
  rw [<-hfn] at hr
  have htot:psum (fun _=>1) ct n.toNat<=1000000:=by
    have h9:Zb ct n.toNat<=Zb (fun _=>1000) n.toNat:=ZQ fun i i0 i1=>(hx.all i i0 (by omega)).2.2
    rw [YW] at h9
    have:=hx.few
    rw [YY];omega
  refine⟨hce,hfe,c0,Vj hs.d1 c2 hle,?_,c2,hl,by omega,by omega,fun k k0 k1=> ?_⟩
  · exact Vj hs.d1 (by have:=hs.d1;rw [Int.sub_mul];omega) c1
  · rw [hfc]
    obtain⟨q,q1,_,_,_,q2⟩:=V5 s lt pt n.toNat k k0 (by rw [<-hfn];exact k1)
    rw [q2]
    have h1:=hX q (by omega) (by omega)
    refine⟨Int.tdiv_nonneg h1 (by have:=hs.d1;omega),?_⟩
    have h2:s.X q<=s.val:=by rw [<-hs.cX];exact Xh (fun j j0 j1=>hX j j0 (by omega)) (by omega) (by omega)
    have h3:=Int.mul_tdiv_add_tmod (s.X q) s.den
    have h4:=Int.tmod_nonneg s.den h1
    rw [Int.mul_comm] at h3
    have h5:(s.X q).tdiv s.den<=psum (fun _=>1) ct n.toNat:=Vj (c:=s.val) hs.d1 (by have:=hs.d1;rw [Int.sub_mul];omega) hle
    omega
end Go.Proofs.Ytopmifmfecfaaaa
namespace Go.Proofs.Ytopmifmfecfaaaa
open Go Go.RowKit Go.Proofs.Gw
theorem Zcu:Zd Try.prog 13=true:=by kernel_rfl
theorem cl_15:Zd Try.prog 15=true:=by kernel_rfl
theorem cl_7:Zd Try.prog 7=true:=by kernel_rfl
theorem cl_9:Zd Try.prog 9=true:=by kernel_rfl
set_option maxHeartbeats 4000000 in
set_option maxRecDepth 20000 in
theorem TR{vL vD:Value}{p:Prob}{vV:Value}{u:Int}{pv:Int->Value}{ln:Int->Int}{pt:Int->Int->Int}{cnt:Int->Int}(w0:World)(h:PAt w0 vL vD p)(hB:UAt w0 vV u pv ln pt cnt)(hR:∀k,0<=k->k<u->Gw.Yn (pv k)):
    Calls Try.prog 3 [.agg #[vL,vD,.int .i64 p.stock,.int .i64 p.kerf],vV].toArray w0 fun e w=>∃v,e= .returned v/\v= .bool true/\Sat w0 w []:=by
  have hm:=h.L.slh.n0;have hm1:=h.L.slh.n1;have hd:=h.D.slh.n0;have hd1:=h.D.slh.n1;have hs:=h.is;have hk:=h.ik
  have hV:VAt w0 vV u pv ln pt cnt:=⟨hB.row,fun i i0 i1=>(hB.p i i0 i1).1,hR⟩
  have hu:=hV.row.slh.n0;have hu1:=hV.row.slh.n1
  refine Zn Try.func3 Try.ntmps3 fun w hS=> ?_
  refine zsr ?_
  refine zla (xbx (cs:= [_,_,_,_]) hS) ?_;rintro _ w ⟨g1,rfl,hS⟩
  replace hS:=hS.n1
  refine zlv xas ?_
  refine zx5 ?_
  refine zlc (xc0 cl_7) (c_awake30 w) ?_;rintro _ w ⟨rfl,hS'⟩
  replace hS:=hS.cmp hS';clear hS'
  refine zs2 ?_
  refine zlv (xls 0 st_24 hS) ?_
  refine zlc (xc0 ZcU) (Zak (p:=p) w (h.below hS.below)) ?_;rintro _ w ⟨rfl,hS'⟩
  replace hS:=hS.cmp hS';clear hS'
  refine zs3 ?_
  refine zlb 23 ?_ ?_<;>intro hc;rotate_left
  refine zlv xmv ?_
  refine zlc (xc0 cl_9) (c_short (u:=u) (pv:=pv) (len:=ln) (pt:=pt) (cnt:=cnt) w (hB.below hS.below)) ?_;rintro _ w ⟨rfl,hS'⟩
  replace hS:=hS.cmp hS';clear hS'
  refine zs3 ?_
  refine zlb 28 ?_ ?_<;>intro hc;rotate_left
  refine zlv (xls 0 st_24 hS) ?_
  refine zlc (xc0 cl_10) (c_rvalid28 (p:=p) w (h.below hS.below)) ?_;rintro _ w ⟨rfl,hS'⟩
  replace hS:=hS.cmp hS';clear hS'
  refine zs2 ?_
  refine zlt ?_
  refine zcif ?_ ?_<;>intro hc
  ·
   refine zsr ?_
   refine zlc (xc0 cl_7) (c_awake30 w) ?_;rintro _ w ⟨rfl,hS'⟩
   replace hS:=hS.cmp hS';clear hS'
   refine zlv xas ?_
   refine zx14<|zf1 ⟨_,rfl,?_⟩
   exact⟨rfl,hS.nl⟩
  refine zsk<|ztn<|zsr ?_
  refine zlv (xls 0 st_24 hS) ?_
  have hf28:W1 p:=by first|assumption|exact Classical.not_not.1 ‹_›
  have hsh:ShortP u ln cnt:=by first|assumption|exact Classical.not_not.1 ‹_›
  have hsf:=hsh.few
  have hok:p.Ok:=by first|assumption|exact Classical.not_not.1 ‹_›
  refine zlv xmv ?_
  refine zlc (xc0 Zcv) (Zae (u:=u) (pv:=pv) (ln:=ln) (pt:=pt) (cnt:=cnt) (p:=p) w (hV.below hS.below) (h.below hS.below)) ?_;rintro _ w ⟨vntr1,nntr1,pntr1,lntr1,gntr1,cntr1,entr1,rfl,htrtr1,htctr1,htntr1,hvntr1,hS'⟩
  replace hS:Sat w0 w [.blk g1 [vL,vD,.int .i64 p.stock,.int .i64 p.kerf],.own vntr1 2 34 nntr1 (Zf pntr1 cntr1),.sem (Frame.rows 3 nntr1 pntr1 lntr1 gntr1)]:=hS.comp hS';clear hS'
  have hrntr1:=fun k (k0:0<=k) (k1:k<nntr1)=>hS.slhIn 2 rfl k0 k1
  refine zs5 ?_
  refine zx5 ?_
  refine zs2 ?_
  refine zlt ?_
  refine zcif ?_ ?_<;>intro hc
  ·
   refine zsr ?_
   refine zlv xas ?_
   refine zx14<|zf1 ⟨_,rfl,?_⟩
   exact⟨rfl,hS.nl⟩
  refine zsk<|ztn<|zsr ?_
  refine zlv xas ?_
  refine zx5 ?_
  refine zlv xmv ?_
  have htx:ExU p (plL nntr1 lntr1 gntr1 cntr1):=htrtr1.ex (by omega) hu
  have ht180:=Ts hok hf28
  obtain⟨hxs,hxm⟩:=htx.sound hok (by omega) hvntr1.n0
  have hnn0:=hvntr1.n0;have hn1000:=hxs.few
  have hln9:=fun k (k0:0<=k) (k1:k<nntr1)=>(hxs.all k k0 k1).1.eq
  have hpm1:=hok.m1;have hpm2:=hok.m2
  have hbk9:=fun k (k0:0<=k) (k1:k<nntr1)=>(hxs.all k k0 k1).2
  refine zlv (xln sl_25 hvntr1) ?_
  refine zlv xmv ?_
  refine zx6 ?_
  replace hS:=hS.addnil 1 22 (fun _=>Value.slice none 0 0)
  replace hS:=hS.n4
  refine zlp (fun mm M w=>∃(nP:Int) (wP:Int->Value) (i:Int) (xP:Value),mm=((nntr1-i).toNat)/\(0<=i)/\(i<=nntr1)/\(nP=i)/\(∀k,0<=k->k<i->wP k=pntr1 k)/\(Slh xP nP)/\M= [(2,.pointer (some ⟨g1,0,none⟩)),(4,.bool false),(5,vntr1),(7,xP),(42,vntr1),(43,.int .i64 nntr1),(44,.int .i64 i)]/\Sat w0 w [.blk g1 [vL,vD,.int .i64 p.stock,.int .i64 p.kerf],.own vntr1 2 34 nntr1 (Zf pntr1 cntr1),.sem (Frame.rows 3 nntr1 pntr1 lntr1 gntr1),.own xP 1 22 nP wP]) ⟨0,(fun _=>Value.slice none 0 0),0,(.slice none 0 0),rfl,(by omega),(by omega),(by omega),?_,?_,rfl,hS⟩ ?_
  ·
   intro k k0 k1;omega
  ·
   exact slh_nil
  clear hS w
  rintro mm M w ⟨nP,wP,i,xP,rfl,h0,h1,hnP,hwP,hxP,rfl,hS⟩
  refine zsr ?_
  refine zlv Zk ?_
  refine zlt<|zsq ?_
  refine zcif ?_ ?_<;>intro hc
  ·
   refine zx3 ?_
   refine zlv (xix (kk:=2*i) sl_25 hvntr1) ?_
   refine zlv (xlw (cs:= [(pntr1 i),.int .i64 (cntr1 i)]) U2 (hS.rowN 1 rfl) (Y7 (k:=2*i) (i:=i) pntr1 cntr1 (by omega))) ?_
   refine zla (xal (cs:= [_,_]) Y0 hS) ?_;rintro _ w ⟨g2,rfl,hS⟩
   replace hS:=hS.n5
   refine zle (xsw 4 U2 hS (hd:=(Za (hrntr1 i (by omega) (by omega)).one (Za rfl Zh)))) ?_;clear hS;rintro w hS
   replace hS:=hS.n5
   refine zlt<|zrg ?_
   refine zlv xmv ?_
   refine zlv (xfb 0 Yi) ?_
   refine zlv (xlb 4 pl_22 hS) ?_
   refine zla (xli (n:=1) (len:=1) (pv:= [(0,(pntr1 i))]) (cs:= [(pntr1 i)]) (c:=(fun _=>(pntr1 i))) sl_32 YA hS (hf:=by have hz:=(hrntr1 i (by omega) (by omega));revert hz;generalize (pntr1 i)=z;rintro⟨_,_,_,_,rfl,_⟩;show _=_;kernel_rfl)) ?_;rintro v1 w ⟨hS,hv1⟩
   replace hS:=hS.n6
   refine zla (xap 3 (r:=nP+1) sl_32 YA hS (hS.rowN 5 rfl) (X6 _ _ _) (h1:=fun _ _ _=>(hrntr1 i (by omega) (by omega)).one)) ?_;rintro v2 w ⟨hS,hv2⟩
   replace hS:=hS.n6
   refine zlv xas ?_
   refine zx10 ?_
   refine zlv (xadd (r:=i+1)) ?_
   refine zlv xmv ?_
   refine zln<|zlq ⟨nP+1,gsn wP nP (pntr1 i),i+1,v2,rfl,(by omega),(by omega),(by omega),?_,?_,rfl,hS.pk [0,1,2,3]⟩
   ·
    intro k k0 k1;by_cases e:k<nP
    · rw [Zx e];exact hwP k k0 (by omega)
    · rw [ZF e,show k=i by omega]
   ·
    exact hv2
  refine zx8 ?_
  refine zlv (xls 0 st_24 hS) ?_
  have hiN:i=nntr1:=by omega
  subst hnP
  rw [hiN] at hwP
  rw [hiN] at hS
  replace hS:=hS.recont 3 rfl (d:=pntr1) (fun k k0 k1=>hwP k k0 (by omega))
  have hwPn:=hxP
  rw [hiN] at hwPn
  replace hS:=hS.n4
  refine zlv xmv ?_
  refine zlc (xc0 ZaE) (Uq (p:=p) (u:=nntr1) (ml:=lntr1) (mf:=gntr1) w (h.below hS.below) (⟨(hS.rowN 3 rfl),fun k k0 k1=>hS.rowIn 2 rfl k0 k1,fun k k0 k1=>hS.roomIn 2 rfl k0 k1⟩:MAt _ xP nntr1 pntr1 lntr1 gntr1)) ?_;rintro _ w ⟨vXm81,vYm81,sm81,em81,rfl,hmom81,hvXm81,hvYm81,hS'⟩
  replace hS:Sat w0 w [.blk g1 [vL,vD,.int .i64 p.stock,.int .i64 p.kerf],.own vntr1 2 34 nntr1 (Zf pntr1 cntr1),.sem (Frame.rows 3 nntr1 pntr1 lntr1 gntr1),.own xP 1 22 nntr1 pntr1,.own vXm81 1 3 sm81.n (ints sm81.X),.own vYm81 1 3 sm81.m (ints sm81.Y)]:=hS.comp hS';clear hS'
  refine zs3 ?_
  refine zla (xal (cs:= [_,_,_,_]) Xz hS) ?_;rintro _ w ⟨g3,rfl,hS⟩
  replace hS:=hS.n7
  refine zle (xsw 6 Zt hS (hd:=(Za hvXm81.one (Za hvYm81.one (Za rfl (Za rfl Zh)))))) ?_;clear hS;rintro w hS
  replace hS:=hS.n7
  refine zlv xas ?_
  refine zx5 ?_
  refine zs2 ?_
  refine zlt ?_
  refine zcif ?_ ?_<;>intro hc
  ·
   refine zsr ?_
   refine zlv xmv ?_
   have her:=UB hnn0 hxs hxm hmom81
   refine zs2 ?_
   refine zlb 64 ?_ ?_<;>intro hc
   ·
    iterate 2 refine zlo ?_
    refine zs2 ?_
    refine zx14<|zf1 ⟨_,rfl,?_⟩
    exact⟨rfl,hS.nl⟩
   refine zs4 ?_
   refine zx14<|zf1 ⟨_,rfl,?_⟩
   exact⟨(ZW (by omega)).symm,hS.nl⟩
  refine zsk<|ztn<|zsr ?_
  refine zlv (xls 6 Zt hS) ?_
  have hmo0:MSolveR p nntr1 lntr1 gntr1 sm81 0:=(show em81=0 by omega)▸hmom81
  have hmk:=hmo0.ok hnn0
  have hsn8:=hmk.n;have hn60:sm81.n<=1000:=by omega
  have hd1:=hmk.d1;have hd2:=hmk.d2;have hv:=hmk.v
  refine zlc (xc0 Zcu) (Kc (s:=sm81) w (hS.rowN 4 rfl) (hS.rowN 5 rfl) (by omega)) ?_;rintro _ w ⟨xv91,ev91,rfl,hcev91,hS'⟩
  replace hS:=hS.cmp hS';clear hS'
  refine zs5 ?_
  refine zlz ?_
  refine zlv xmv ?_
  refine zlv (xls 6 Zt hS) ?_
  refine zlc (xc0 Zct) (T2 (u:=nntr1) (ml:=lntr1) (mf:=gntr1) (s:=sm81) w (⟨(hS.rowN 3 rfl),fun k k0 k1=>hS.rowIn 2 rfl k0 k1,fun k k0 k1=>hS.roomIn 2 rfl k0 k1⟩:MAt _ xP nntr1 pntr1 lntr1 gntr1) (hS.rowN 4 rfl) (hS.rowN 5 rfl) (by omega) (fun k k0 k1=>by have:=hln9 k k0 k1;omega)) ?_;rintro _ w ⟨vffl1,fnfl1,fvfl1,flfl1,fgfl1,fcfl1,fefl1,rfl,hflfl1,hvffl1,hS'⟩
  replace hS:Sat w0 w [.blk g1 [vL,vD,.int .i64 p.stock,.int .i64 p.kerf],.own vntr1 2 34 nntr1 (Zf pntr1 cntr1),.sem (Frame.rows 3 nntr1 pntr1 lntr1 gntr1),.own xP 1 22 nntr1 pntr1,.own vXm81 1 3 sm81.n (ints sm81.X),.own vYm81 1 3 sm81.m (ints sm81.Y),.blk g3 [vXm81,vYm81,.int .i64 sm81.val,.int .i64 sm81.den],.own vffl1 2 50 fnfl1 (Zf fvfl1 fcfl1),.sem (Frame.rows 3 fnfl1 fvfl1 flfl1 fgfl1)]:=hS.comp hS';clear hS'
  have hfrfl1:=fun k (k0:0<=k) (k1:k<fnfl1)=>hS.slhIn 8 rfl k0 k1
  refine zs5 ?_
  refine zlt<|zsq ?_
  refine zdst [0,1,2,3,4,5,6,7,8] [0,1,2,3,4,5,6,7,8] 1000 mx_ hS ?_;clear hS;intro w hS
  refine zDrv 0 xmv ?_
  obtain⟨w1,w2,w3,w4,w5,w6,w7,w8,w9,w10⟩:=TE hxs hxm hmk hcev91 hflfl1
  have w11:psum (fun _=>1) cntr1 nntr1.toNat<=180:=by have h9:=htx.few;rw [Y1 _ hnn0] at h9;omega
  have w12:0<=psum (fun _=>1) fcfl1 fnfl1.toNat:=by have:=Ys (d:=fcfl1) (f:=fun _=>1) (i:=0) (n:=fnfl1.toNat) (by omega) (fun k hk=>by have:=w10 k (by omega) (by omega);omega);simpa [psum] using this
  have w13:=Xx (a:=xv91) (b:=sm81.den) (A:=180) (B:=1073741824) (by omega) (by omega) (by omega) (by omega)
  have w14:(xv91-1)*sm81.den=xv91*sm81.den-sm81.den:=by rw [Int.sub_mul];omega
  have w15:=Xx (a:=psum (fun _=>1) fcfl1 fnfl1.toNat) (b:=sm81.den) (A:=180) (B:=1073741824) (by omega) (by omega) (by omega) (by omega)
  refine zDrv 1 xeql ?_
  refine zDrv 2 xmv ?_
  refine zdb 81 ?_ ?_<;>intro hc
  ·
   refine zDrv 3 xmv ?_
   refine zDrv 4 xeql ?_
   refine zDrv 5 xpt ?_
   refine zDrv 6 xmv ?_
   refine zdb 85 ?_ ?_<;>intro hc
   ·
    refine zDrv 7 xmv ?_
    refine zDrv 8 xmv ?_
    refine zdc 9 (xc0 cl_15) (c_vbars (u:=nntr1) (pv:=pntr1) (ln:=lntr1) (pt:=gntr1) (cnt:=cntr1) w (⟨(hS.rowN 1 rfl),fun k k0 k1=>hS.rowIn 2 rfl k0 k1,fun k k0 k1=>hS.roomIn 2 rfl k0 k1⟩:VAt _ vntr1 nntr1 pntr1 lntr1 gntr1 cntr1) (by omega) (fun k k0 k1=>by first|(have h8:=w10 k k0 k1;omega)|(have h8:=hbk9 k k0 k1;omega))) ?_;rintro _ w ⟨rfl,hS'⟩
    replace hS:=hS.cmp hS';clear hS'
    refine⟨⟨fun _=>hS,hS⟩,?_⟩
    refine zDrv 10 Z9 ?_
    refine zDrv 11 xpt ?_
    refine zDrv 12 xmv ?_
    refine zdb 91 ?_ ?_<;>intro hc
    ·
     refine zDrv 13 xmv ?_
     refine zDrv 15 xmv ?_
     refine zdc 14 (xc0 cl_16) (c_pbars (u:=fnfl1) (pv:=fvfl1) (ln:=flfl1) (pt:=fgfl1) (cnt:=fcfl1) w (⟨(hS.rowN 7 rfl),fun k k0 k1=>hS.rowIn 8 rfl k0 k1,fun k k0 k1=>hS.roomIn 8 rfl k0 k1⟩:VAt _ vffl1 fnfl1 fvfl1 flfl1 fgfl1 fcfl1) (by omega) (fun k k0 k1=>by first|(have h8:=w10 k k0 k1;omega)|(have h8:=hbk9 k k0 k1;omega))) ?_;rintro _ w ⟨rfl,hS'⟩
     replace hS:=hS.cmp hS';clear hS'
     refine⟨⟨fun _=>hS,hS⟩,?_⟩
     refine zDrv 16 Z9 ?_
     refine zDrv 17 xpt ?_
     refine zDrv 18 xmv ?_
     refine zdb 97 ?_ ?_<;>intro hc
     ·
      refine zDrv 19 xmv ?_
      refine zDrv 20 xeql ?_
      refine zDrv 21 xmv ?_
      refine zdb 100 ?_ ?_<;>intro hc
      ·
       refine zdof 22 ?_
       refine zdof 23 ?_
       refine zdof 24 ?_
       refine zdof 25 ?_
       refine zdof 26 ?_
       refine zdof 27 ?_
       refine zdof 28 ?_
       refine zdof 29 ?_
       refine zDrv 30 xpt ?_
       refine zDrv 31 xpt ?_
       refine zDrv 32 xmv ?_
       refine zDrv 33 xmv ?_
       refine zDrv 35 (xfb 3 fd_36_3) ?_
       refine zdla 36 (fun w hS=>(xlb 6 pl_3 hS)) ?_
       refine zDrv 38 (xfb 2 fd_36_2) ?_
       refine zdla 39 (fun w hS=>(xlb 6 pl_3 hS)) ?_
       refine zdc 34 (xc0 cl_16) (c_pbars (u:=fnfl1) (pv:=fvfl1) (ln:=flfl1) (pt:=fgfl1) (cnt:=fcfl1) w (⟨(hS.rowN 7 rfl),fun k k0 k1=>hS.rowIn 8 rfl k0 k1,fun k k0 k1=>hS.roomIn 8 rfl k0 k1⟩:VAt _ vffl1 fnfl1 fvfl1 flfl1 fgfl1 fcfl1) (by omega) (fun k k0 k1=>by first|(have h8:=w10 k k0 k1;omega)|(have h8:=hbk9 k k0 k1;omega))) ?_;rintro _ w ⟨rfl,hS'⟩
       replace hS:=hS.cmp hS';clear hS'
       refine⟨⟨fun _=>hS,hS⟩,?_⟩
       refine zdv 37 (fun _=>(Xp (r:=((psum (fun _=>1) fcfl1 (fnfl1).toNat)*sm81.den)) (e:=rfl))) ?_
       refine zDrv 40 Z9 ?_
       refine zDrv 41 xpt ?_
       refine zDrv 42 xas ?_
       refine zdd<|ztn<|zrt<|zf1 ⟨_,rfl,?_⟩
       exact⟨(ZW (by omega)).symm,hS.nl⟩
      refine zDrv 22 (xfb 2 fd_36_2) ?_
      refine zdla 23 (fun w hS=>(xlb 6 pl_3 hS)) ?_
      refine zDrv 24 xmv ?_
      refine zDrv 25 (xsub (r:=xv91-1)) ?_
      refine zDrv 26 (xfb 3 fd_36_3) ?_
      refine zdla 27 (fun w hS=>(xlb 6 pl_3 hS)) ?_
      refine zDrv 28 (Xp (r:=((xv91-1)*sm81.den)) (e:=rfl)) ?_
      refine zDrv 29 xgtr ?_
      refine zDrv 30 xpf ?_
      refine zDrv 31 xpt ?_
      refine zDrv 32 xmv ?_
      refine zdb 111 ?_ ?_<;>intro hc
      ·
       refine zDrv 33 xmv ?_
       refine zDrv 35 (xfb 3 fd_36_3) ?_
       refine zdla 36 (fun w hS=>(xlb 6 pl_3 hS)) ?_
       refine zDrv 38 (xfb 2 fd_36_2) ?_
       refine zdla 39 (fun w hS=>(xlb 6 pl_3 hS)) ?_
       refine zdc 34 (xc0 cl_16) (c_pbars (u:=fnfl1) (pv:=fvfl1) (ln:=flfl1) (pt:=fgfl1) (cnt:=fcfl1) w (⟨(hS.rowN 7 rfl),fun k k0 k1=>hS.rowIn 8 rfl k0 k1,fun k k0 k1=>hS.roomIn 8 rfl k0 k1⟩:VAt _ vffl1 fnfl1 fvfl1 flfl1 fgfl1 fcfl1) (by omega) (fun k k0 k1=>by first|(have h8:=w10 k k0 k1;omega)|(have h8:=hbk9 k k0 k1;omega))) ?_;rintro _ w ⟨rfl,hS'⟩
       replace hS:=hS.cmp hS';clear hS'
       refine⟨⟨fun _=>hS,hS⟩,?_⟩
       refine zdv 37 (fun _=>(Xp (r:=((psum (fun _=>1) fcfl1 (fnfl1).toNat)*sm81.den)) (e:=rfl))) ?_
       refine zDrv 40 Z9 ?_
       refine zDrv 41 xpt ?_
       refine zDrv 42 xas ?_
       refine zdd<|ztn<|zrt<|zf1 ⟨_,rfl,?_⟩
       exact⟨(ZW (by omega)).symm,hS.nl⟩
      refine zdof 33 ?_
      refine zdof 35 ?_
      refine zdof 36 ?_
      refine zdof 38 ?_
      refine zdof 39 ?_
      refine zdof 34 ?_
      refine zdof 37 ?_
      refine zdof 40 ?_
      refine zDrv 41 xpf ?_
      refine zDrv 42 xas ?_
      refine zdd<|ztn<|zrt<|zf1 ⟨_,rfl,?_⟩
      exfalso
      omega
     refine zdof 19 ?_
     refine zdof 20 ?_
     refine zdof 21 ?_
     refine zdof 22 ?_
     refine zdof 23 ?_
     refine zdof 24 ?_
     refine zdof 25 ?_
     refine zdof 26 ?_
     refine zdof 27 ?_
     refine zdof 28 ?_
     refine zdof 29 ?_
     refine zdof 30 ?_
     refine zDrv 31 xpf ?_
     refine zDrv 32 xmv ?_
     refine zdof 33 ?_
     refine zdof 35 ?_
     refine zdof 36 ?_
     refine zdof 38 ?_
     refine zdof 39 ?_
     refine zdof 34 ?_
     refine zdof 37 ?_
     refine zdof 40 ?_
     refine zDrv 41 xpf ?_
     refine zDrv 42 xas ?_
     refine zdd<|ztn<|zrt<|zf1 ⟨_,rfl,?_⟩
     exfalso
     omega
    refine zdof 13 ?_
    refine zdof 15 ?_
    refine zdof 14 ?_
    refine zdof 16 ?_
    refine zDrv 17 xpf ?_
    refine zDrv 18 xmv ?_
    refine zdof 19 ?_
    refine zdof 20 ?_
    refine zdof 21 ?_
    refine zdof 22 ?_
    refine zdof 23 ?_
    refine zdof 24 ?_
    refine zdof 25 ?_
    refine zdof 26 ?_
    refine zdof 27 ?_
    refine zdof 28 ?_
    refine zdof 29 ?_
    refine zdof 30 ?_
    refine zDrv 31 xpf ?_
    refine zDrv 32 xmv ?_
    refine zdof 33 ?_
    refine zdof 35 ?_
    refine zdof 36 ?_
    refine zdof 38 ?_
    refine zdof 39 ?_
    refine zdof 34 ?_
    refine zdof 37 ?_
    refine zdof 40 ?_
    refine zDrv 41 xpf ?_
    refine zDrv 42 xas ?_
    refine zdd<|ztn<|zrt<|zf1 ⟨_,rfl,?_⟩
    exfalso
    omega
   refine zdof 7 ?_
   refine zdof 8 ?_
   refine zdof 9 ?_
   refine zdof 10 ?_
   refine zDrv 11 xpf ?_
   refine zDrv 12 xmv ?_
   refine zdof 13 ?_
   refine zdof 15 ?_
   refine zdof 14 ?_
   refine zdof 16 ?_
   refine zDrv 17 xpf ?_
   refine zDrv 18 xmv ?_
   refine zdof 19 ?_
   refine zdof 20 ?_
   refine zdof 21 ?_
   refine zdof 22 ?_
   refine zdof 23 ?_
   refine zdof 24 ?_
   refine zdof 25 ?_
   refine zdof 26 ?_
   refine zdof 27 ?_
   refine zdof 28 ?_
   refine zdof 29 ?_
   refine zdof 30 ?_
   refine zDrv 31 xpf ?_
   refine zDrv 32 xmv ?_
   refine zdof 33 ?_
   refine zdof 35 ?_
   refine zdof 36 ?_
   refine zdof 38 ?_
   refine zdof 39 ?_
   refine zdof 34 ?_
   refine zdof 37 ?_
   refine zdof 40 ?_
   refine zDrv 41 xpf ?_
   refine zDrv 42 xas ?_
   refine zdd<|ztn<|zrt<|zf1 ⟨_,rfl,?_⟩
   exfalso
   omega
  refine zdof 3 ?_
  refine zdof 4 ?_
  refine zDrv 5 xpf ?_
  refine zDrv 6 xmv ?_
  refine zdof 7 ?_
  refine zdof 8 ?_
  refine zdof 9 ?_
  refine zdof 10 ?_
  refine zDrv 11 xpf ?_
  refine zDrv 12 xmv ?_
  refine zdof 13 ?_
  refine zdof 15 ?_
  refine zdof 14 ?_
  refine zdof 16 ?_
  refine zDrv 17 xpf ?_
  refine zDrv 18 xmv ?_
  refine zdof 19 ?_
  refine zdof 20 ?_
  refine zdof 21 ?_
  refine zdof 22 ?_
  refine zdof 23 ?_
  refine zdof 24 ?_
  refine zdof 25 ?_
  refine zdof 26 ?_
  refine zdof 27 ?_
  refine zdof 28 ?_
  refine zdof 29 ?_
  refine zdof 30 ?_
  refine zDrv 31 xpf ?_
  refine zDrv 32 xmv ?_
  refine zdof 33 ?_
  refine zdof 35 ?_
  refine zdof 36 ?_
  refine zdof 38 ?_
  refine zdof 39 ?_
  refine zdof 34 ?_
  refine zdof 37 ?_
  refine zdof 40 ?_
  refine zDrv 41 xpf ?_
  refine zDrv 42 xas ?_
  refine zdd<|ztn<|zrt<|zf1 ⟨_,rfl,?_⟩
  exfalso
  omega
  all_goals
   refine Xe ?_
   refine zlt<|zct<|zsr ?_
   refine zlc (xc0 cl_7) (c_awake30 w) ?_;rintro _ w ⟨rfl,hS'⟩
   replace hS:=hS.cmp hS';clear hS'
   refine Xe ?_
   refine zx14<|zf1 ⟨_,rfl,?_⟩
   exact⟨rfl,hS.nl⟩
end Go.Proofs.Ytopmifmfecfaaaa
namespace Go.Proofs.Gw
open Go Go.RowKit Go.ChangeShapes Go.WideShapes Go.ChangeAt
section
variable {H:Type} {enc:TypeId×Value->H} {P:Program} {w:World} {held:Bool}
def Small{H:Type}(P:Program)(t:TypeId)(d:DataW H):Prop:=(d.weights P t).all (· <=reachBytes)=true
theorem Xj{ts:List TypeId}{ds:List (DataW H)}(h:(DataW.weightsEach P ts ds).all (· <=reachBytes)=true){j:Nat}{t:TypeId}{d:DataW H}(ht:ts[j]? =some t)(hd:ds[j]? =some d):Small P t d:=
  List.all_eq_true.2 fun n hn=>List.all_eq_true.1 h n (DataW.weights_mem_each ht hd n hn)
theorem Va{t:TypeId}{fs:Array Field}{parts:List (DataW H)}(h:Small P t (.agg parts))(hu:P.underlying t=some (.struct fs)){j:Nat}{u:TypeId}{d:DataW H}(ht:(fs.toList.map (·.type))[j]? =some u)(hd:parts[j]? =some d):Small P u d:=by
  unfold Small at h
  simp only [DataW.weights,hu] at h
  exact Xj h ht hd
theorem XJ{e:TypeId}:∀{ds:List (DataW H)},(DataW.weightsAll P e ds).all (· <=reachBytes)=true->∀d∈ds,Small P e d
  | [],_,d,hd=>by cases hd
  | x::r,h,d,hd=>by
    simp only [DataW.weightsAll,List.all_append,Bool.and_eq_true] at h
    rcases List.mem_cons.1 hd with rfl|hd
    · exact h.1
    · exact XJ h.2 d hd
theorem VP{t e:TypeId}{elems spare:List (DataW H)}(h:Small P t (.slice elems spare))(hu:P.underlying t=some (.slice e)):(elems.length+spare.length)*P.bytesOf e<=reachBytes/\∀d∈elems,Small P e d:=by
  unfold Small at h
  simp only [DataW.weights,hu,List.all_cons,List.all_append,Bool.and_eq_true,decide_eq_true_eq] at h
  exact⟨h.1,XJ h.2.1⟩
theorem W6{n:Int}(h:(Lit.int .i64 n).wf=true): -9223372036854775808<=n/\n<=9223372036854775807:=by
  simp only [Lit.wf,Bool.and_eq_true,decide_eq_true_eq] at h
  have h1:IntKind.i64.min= -9223372036854775808:=by decide
  have h2:IntKind.i64.max=9223372036854775807:=by decide
  omega
theorem TI{a:Addr}{v:Value}(h:w.cell? a=some v):a.spot=none:=World.cell?_spot h
end
end Go.Proofs.Gw
namespace Go.Proofs.Gw
open Go Go.RowKit Go.ChangeShapes Go.WideShapes Go.ChangeAt
section
variable {H:Type} {enc:TypeId×Value->H} {P:Program} {w:World} {held:Bool}
def Rd{H:Type}(enc:TypeId×Value->H)(P:Program)(w:World)(held:Bool)(t:TypeId)(cs:List Value):Prop:=∃fuel y,DataW.trod enc P w 0 (fun _=>true) held fuel t cs=some y/\Small P t y.1
theorem Rd.int{k:IntKind}{t:TypeId}{cs:List Value}(h:Rd enc P w held t cs)(ht:P.underlying t=some (.int k)):∃n,cs= [.int k n]/\(Lit.int k n).wf=true:=by
  obtain⟨fuel,y,h,_⟩:=h
  obtain⟨n,h1,_,h2⟩:=DataW.trod_int ht h
  exact⟨n,h1,h2⟩
theorem Rd.intv{k:IntKind}{t:TypeId}{v:Value}(h:Rd enc P w held t [v])(ht:P.underlying t=some (.int k)):∃n,v= .int k n/\(Lit.int k n).wf=true:=by
  obtain⟨n,h1,h2⟩:=h.int ht
  exact⟨n,by simpa using h1,h2⟩
theorem Rd.struct{fs:Array Field}{t:TypeId}{cs:List Value}(h:Rd enc P w held t cs)(ht:P.underlying t=some (.struct fs)):∀(j:Nat) (f:Field),fs[j]? =some f->Rd enc P w held f.type ((cs.drop f.offset).take (P.cellsOf f.type)):=fun j f hf=>by
  obtain⟨fuel,y,h,hs⟩:=h
  obtain⟨xs,n,_,rfl,hl,hlen,hx⟩:=DataW.trod_struct ht h
  have hj:j<xs.length:=by rw [hlen];exact(Array.getElem?_eq_some_iff.1 hf).1
  have h1:=hx j f hf
  rw [List.getElem?_eq_getElem hj] at h1
  exact⟨n,_,h1,Va (j:=j) hs ht (by simp [hf]) (by simp [hj])⟩
theorem Rd.len{fs:Array Field}{t:TypeId}{cs:List Value}(h:Rd enc P w held t cs)(ht:P.underlying t=some (.struct fs)):cs.length=P.cellsOf t:=by
  obtain⟨fuel,y,h,hs⟩:=h
  obtain⟨xs,n,_,rfl,hl,hlen,hx⟩:=DataW.trod_struct ht h
  exact hl
theorem Rd.slice {t e:TypeId} {s b:Nat} {v:Value} (h:Rd enc P w held t [v]) (ht:P.underlying t=some (.slice e)) (ce:P.cellsOf e=s) (be:P.bytesOf e=b) (hs1:1<=s) (hsb:s<=b):
    ∃(n:Int) (c:Int->Value),Row w v s n c/\b*n<=140737488351232/\∀i:Int,0<=i->i<n->Rd enc P w held e ((List.range s).map fun j:Nat=>c (i*s+j)):=by
  obtain⟨fuel,y,h,hs⟩:=h
  rcases Go.Deep.open_slice ht h with⟨hcs,_⟩|⟨a,len,cap,m,n,D,Pl,hcs,_,hl,hm,hmm,hy,hx⟩
  · simp only [List.cons.injEq,and_true] at hcs
    subst hcs
    exact⟨0,fun _=>undef,⟨⟨by omega,by omega,none,0,rfl,.inl rfl⟩,fun k hk=>by rw [Int.zero_mul] at hk;omega⟩,by omega,fun i a0 a1=>by omega⟩
  · simp only [List.cons.injEq,and_true] at hcs
    subst hcs
    simp only [if_true] at hmm
    subst hmm
    rw [hy] at hs
    have hsm:=VP hs ht
    have hb1:=hsm.1
    rw [be] at hb1
    simp only [List.length_map,List.length_range] at hb1
    have h2:len*b<=(len+(m-len))*b:=Nat.mul_le_mul_right _ (by omega)
    have h3:len*b<=140737488351232:=by unfold reachBytes at hb1;omega
    have h4:len*1<=len*b:=Nat.mul_le_mul_left _ (by omega)
    rw [ce] at hx
    have e0:∀i:Nat,∃cs':List Value,i<len->w.cells? 0 (a.add (i*s)) s=some cs'/\DataW.trod enc P w 0 (fun _=>true) held n e cs'=some (D i,Pl i):=fun i=>by
      by_cases hi:i<len
      · obtain⟨cs',h5,h6⟩:=hx i (by omega)
        exact⟨cs',fun _=>⟨h5,h6⟩⟩
      · exact⟨[],fun h=>absurd h hi⟩
    obtain⟨C,hC⟩:=Classical.axiomOfChoice e0
    have hsp0:0<len->a.spot=none:=fun h0=>by
      obtain⟨_,h7,h8⟩:=World.cells?_some (hC 0 h0).1
      have h9:=h8 0 (by omega)
      rw [List.getElem?_eq_getElem (by omega)] at h9
      have h10:=TI h9
      simpa [Addr.add] using h10
    refine⟨len,fun k=>(C (k/s).toNat).getD (k%s).toNat undef,⟨⟨by omega,by omega,some a,m,by simp,?_⟩,fun j hj=> ?_⟩,?_,fun i i0 i1=> ?_⟩
    · by_cases hl0:len=0
      · left;omega
      · right
        have hsp:=hsp0 (by omega)
        exact⟨a.block,a.off,by cases a;simp at hsp;simp [hsp]⟩
    · have hjs:j<len*s:=by rw [<-Int.natCast_mul] at hj;omega
      have hi:j/s<len:=(Nat.div_lt_iff_lt_mul (by omega)).2 hjs
      have hlen0:0<len:=Nat.lt_of_le_of_lt (Nat.zero_le _) hi
      have hsp:=hsp0 hlen0
      obtain⟨_,h7,h8⟩:=World.cells?_some (hC (j/s) hi).1
      have hr:j%s<s:=Nat.mod_lt _ (by omega)
      have h9:=h8 (j%s) hr
      rw [Addr.add_eq a hsp,Addr.add_eq _ rfl] at h9
      have e1:((j:Int)/(s:Int)).toNat=j/s:=by rw [<-Int.natCast_ediv,Int.toNat_natCast]
      have e2:((j:Int)%(s:Int)).toNat=j%s:=by rw [<-Int.natCast_emod,Int.toNat_natCast]
      have e3:a.off+j/s*s+j%s=a.off+j:=by rw [Nat.add_assoc,Nat.mul_comm,Nat.div_add_mod]
      rw [List.getElem?_eq_getElem (by omega)] at h9
      simp only [e1,e2,List.getD_eq_getElem?_getD]
      rw [List.getElem?_eq_getElem (by omega)]
      simp only [cad,Int.toNat_natCast,Option.getD_some]
      simp only [e3] at h9
      exact h9
    · have:((len*b:Nat):Int)=b*len:=by rw [Int.natCast_mul,Int.mul_comm]
      omega
    · obtain⟨k,rfl⟩:=Int.eq_ofNat_of_zero_le i0
      have hk:k<len:=by omega
      obtain⟨h5,h6⟩:=hC k hk
      obtain⟨_,h7,h8⟩:=World.cells?_some h5
      have e:((List.range s).map fun j:Nat=>(C (((k:Int)*(s:Int)+(j:Int))/(s:Int)).toNat).getD (((k:Int)*(s:Int)+(j:Int))%(s:Int)).toNat undef)=C k:=by
        apply List.ext_getElem
        · simp [h7]
        · intro j hj1 hj2
          rw [List.getElem_map,List.getElem_range]
          have hjs:j<s:=by simpa using hj1
          have e0:((k:Int)*(s:Int)+(j:Int))=((k*s+j:Nat):Int):=by rw [Int.natCast_add,Int.natCast_mul]
          have e1:(((k*s+j:Nat):Int)/(s:Int)).toNat=k:=by
            rw [<-Int.natCast_ediv,Int.toNat_natCast,Nat.mul_comm,Nat.mul_add_div (by omega),Nat.div_eq_of_lt hjs,Nat.add_zero]
          have e2:(((k*s+j:Nat):Int)%(s:Int)).toNat=j:=by
            rw [<-Int.natCast_emod,Int.toNat_natCast,Nat.mul_comm,Nat.mul_add_mod,Nat.mod_eq_of_lt hjs]
          rw [e0,e1,e2,List.getD_eq_getElem?_getD,List.getElem?_eq_getElem hj2,Option.getD_some]
      rw [e]
      exact⟨n,_,h6,hsm.2 (D k) (List.mem_map.2 ⟨k,List.mem_range.2 hk,rfl⟩)⟩
theorem Rd.array{n:Nat}{t e:TypeId}{cs:List Value}(h:Rd enc P w held t cs)(ht:P.underlying t=some (.array n e)):∀i,i<n->Rd enc P w held e ((cs.drop (i*P.cellsOf e)).take (P.cellsOf e)):=fun i hi=>by
  obtain⟨fuel,y,h,hs⟩:=h
  obtain⟨xs,m,_,rfl,_,hl,hel⟩:=DataW.trod_array ht h
  have h1:=hel i hi
  rw [List.getElem?_eq_getElem (by omega)] at h1
  refine⟨m,_,h1,?_⟩
  unfold Small at hs
  simp only [DataW.weights,ht] at hs
  exact XJ hs _ (List.mem_map.2 ⟨xs[i],List.getElem_mem _,rfl⟩)
theorem Rd.field{fs:Array Field}{t u:TypeId}{cs ds:List Value}(h:Rd enc P w held t cs)(ht:P.underlying t=some (.struct fs))(j:Nat){f:Field}(hf:fs[j]? =some f){k:Nat}(hu:f.type=u)(hk:P.cellsOf u=k)(hd:(cs.drop f.offset).take k=ds):Rd enc P w held u ds:=by
  subst hu;subst hd;rw [<-hk];exact h.struct ht j f hf
theorem UC{cs:Array Value}{l:List Value}(h:cs.toList=l):cs=l.toArray:=by subst h;simp
theorem Rd.arg{t:TypeId}{v:Value}{d:DataW H}{p:List MemPlace}(h:DataW.Trod enc P w 0 (fun _=>true) held t v d p)(hs:Small P t d):Rd enc P w held t v.cells.toList:=by
  obtain⟨fuel,hf⟩:=h
  exact⟨fuel,_,hf,hs⟩
theorem Zb0{cs:List Value}(h:cs.length=4):∃a b c d,cs= [a,b,c,d]:=by match cs,h with| [a,b,c,d],_=>exact⟨_,_,_,_,rfl⟩
theorem Rd.nums{k:IntKind}{t e:TypeId}{b:Nat}{v:Value}(h:Rd enc P w held t [v])(ht:P.underlying t=some (.slice e))(he:P.underlying e=some (.int k))(hc:P.cellsOf e=1)(hb:P.bytesOf e=b)(hb1:1<=b):
    ∃(n:Int) (f:Int->Int),Row w v 1 n (fun j=> .int k (f j))/\b*n<=140737488351232/\∀j,(Lit.int k (f j)).wf=true:=by
  obtain⟨n,c,h1,h2,h3⟩:=h.slice ht hc hb (by omega) hb1
  have h0:(Lit.int k 0).wf=true:=by cases k<;>decide
  have e0:∀i:Int,∃x:Int,(Lit.int k x).wf=true/\(0<=i->i<n->c i= .int k x):=fun i=>by
    by_cases hi:0<=i/\i<n
    · have h4:=h3 i hi.1 hi.2
      simp only [List.range_one,List.map_cons,List.map_nil] at h4
      obtain⟨x,hx,hw⟩:=h4.intv he
      refine⟨x,hw,fun _ _=> ?_⟩
      rw [<-hx];congr 1;omega
    · exact⟨0,h0,fun a0 a1=>absurd ⟨a0,a1⟩ hi⟩
  obtain⟨f,hf⟩:=Classical.axiomOfChoice e0
  exact⟨n,f,h1.congr fun i i0 i1=>(hf i).2 i0 (by omega),h2,fun j=>(hf j).1⟩
theorem Rd.ints{t e:TypeId}{v:Value}(h:Rd enc P w held t [v])(ht:P.underlying t=some (.slice e))(he:P.underlying e=some (.int .i64))(hc:P.cellsOf e=1)(hb:P.bytesOf e=8):∃(n:Int) (f:Int->Int),IAt w v n f:=by
  obtain⟨n,f,h1,_,h2⟩:=h.nums ht he hc hb (by omega)
  exact⟨n,f,h1,fun k=>W6 (h2 k)⟩
end
end Go.Proofs.Gw
namespace Go.Proofs.Gw
open Go Go.RowKit
section
variable {H:Type} {enc:TypeId×Value->H} {P:Program} {w:World} {held:Bool}
theorem Rd.roomy{t e:TypeId}{v:Value}(h:Rd enc P w true t [v])(ht:P.underlying t=some (.slice e)):Yn v:=by
  obtain⟨fuel,y,h,hs⟩:=h
  rcases Go.Deep.open_slice ht h with⟨hcs,_⟩|⟨a,len,cap,m,n,D,Pl,hcs,_,hl,hm,hmm,hy,hx⟩
  · simp only [List.cons.injEq,and_true] at hcs
    subst hcs
    intro a len cap e
    cases e
    omega
  · simp only [List.cons.injEq,and_true] at hcs
    subst hcs
    simp only [if_true] at hmm
    subst hmm
    intro a len cap e
    cases e
    omega
end
end Go.Proofs.Gw
namespace Go.Proofs.Gw
open Go Go.RowKit
section
variable {H:Type} {enc:TypeId×Value->H} {P:Program} {w:World} {held:Bool}
theorem Rd.uses {t e i:TypeId} {f0 f1:Field} {b:Nat} {v:Value} (h:Rd enc P w true t [v]) (ht:P.underlying t=some (.slice e)) (he:P.underlying e=some (.struct #[f0,f1])) (ce:P.cellsOf e=2) (be:P.bytesOf e=b) (hb:2<=b)
    (o0:f0.offset=0) (o1:f1.offset=1) (c0:P.cellsOf f0.type=1) (c1:P.cellsOf f1.type=1) (u0:P.underlying f0.type=some (.slice i)) (u1:P.underlying f1.type=some (.int .i64)) (hi:P.underlying i=some (.int .i64)) (ci:P.cellsOf i=1) (bi:P.bytesOf i=8):
    ∃(n:Int) (pv:Int->Value) (ln:Int->Int) (pt:Int->Int->Int) (cnt:Int->Int),UAt w v n pv ln pt cnt/\∀k,0<=k->k<n->Yn (pv k):=by
  obtain⟨n,c,h1,h2,h3⟩:=h.slice ht ce be (by omega) hb
  have e0:∀k:Int,∃x:Value×Int×(Int->Int)×Int,(0<=k->k<n->c (2*k)=x.1/\c (2*k+1)= .int .i64 x.2.2.2/\IAt w x.1 x.2.1 x.2.2.1/\Yn x.1)/\(-9223372036854775808<=x.2.2.2/\x.2.2.2<=9223372036854775807):=fun k=>by
    by_cases hk:0<=k/\k<n
    · have h4:=h3 k hk.1 hk.2
      have e:((List.range 2).map fun j:Nat=>c (k*(2:Nat)+j))= [c (2*k),c (2*k+1)]:=by
        simp [List.range_succ]
        exact⟨by congr 1;omega,by congr 1;omega⟩
      rw [e] at h4
      have h5:=h4.field he 0 rfl rfl c0 (ds:= [c (2*k)]) (by show List.take 1 (List.drop f0.offset _)=_;rw [o0];rfl)
      obtain⟨m,f,hf⟩:=h5.ints u0 hi ci bi
      obtain⟨y,hy,wy⟩:=(h4.field he 1 rfl rfl c1 (ds:= [c (2*k+1)]) (by show List.take 1 (List.drop f1.offset _)=_;rw [o1];rfl)).intv u1
      exact⟨(c (2*k),m,f,y),fun _ _=>⟨rfl,hy,hf,h5.roomy u0⟩,W6 wy⟩
    · exact⟨(undef,0,fun _=>0,0),fun a0 a1=>absurd ⟨a0,a1⟩ hk,by dsimp only;omega⟩
  obtain⟨f,hf⟩:=Classical.axiomOfChoice e0
  refine⟨n,fun k=>(f k).1,fun k=>(f k).2.1,fun k=>(f k).2.2.1,fun k=>(f k).2.2.2,⟨h1.congr fun k k0 k1=> ?_,fun k k0 k1=>((hf k).1 k0 k1).2.2.1,fun k=>(hf k).2⟩,fun k k0 k1=>((hf k).1 k0 k1).2.2.2⟩
  unfold Zf
  by_cases e:k%2=0
  · rw [if_pos e];show c k=(f (k/2)).1;rw [<-((hf (k/2)).1 (by omega) (by omega)).1];congr 1;omega
  · rw [if_neg e];show c k= .int .i64 (f (k/2)).2.2.2;rw [<-((hf (k/2)).1 (by omega) (by omega)).2.1];congr 1;omega
end
end Go.Proofs.Gw
