import Derived.Test.YtopmifmfecfaaaaGreatRpAG
import Derived.ProofKit
import Derived.OpenShut
import Derived.ChangeOld
import Derived.SizedLaws
import Derived.Lib.SmallJoins
import Derived.Deep.Slices
set_option linter.unusedVariables false
set_option linter.unusedSimpArgs false
set_option maxRecDepth 20000
set_option maxHeartbeats 4000000
namespace Go.Proofs.YtopmifmfecfaaaaGreat
open Go Go.RowKit Go.Proofs.Gw
theorem Zia:Zc Tryz.prog 150=true:=by kernel_rfl
theorem ZdX:Zc Tryz.prog 74=true:=by kernel_rfl
theorem Zc4{m nO l:Int}{m0:List Int}{h:List (List Int)}{M M2 a a2 lO cO:Int->Int}{gO:Int->Int->Int}(hs:(lst m M,plL nO lO gO cO)=XQ m0 h)(n0:0<=nO)(hl:l=m)(ha:∀k,0<=k->k<m->a2 k=a k-min (a k) (M k))(hM:∀k,0<=k->k<m->M2 k=M k-min (a k) (M k))(hx:∃k,0<=k/\k<l/\0<a2 k):
    (lst m M2,plL (nO+1) (gsn lO nO l) (gsn gO nO a2) (snoc cO nO 1))=XQ m0 (h++ [lst l a]):=by
  subst hl
  rw [WK,<-hs]
  unfold Xk tM tA
  dsimp only
  rw [YI,YI,ZI (f:=fun k=>a k-min (a k) (M k)) (g:=a2) fun k k0 k1=>(ha k k0 k1).symm,if_pos (Wr.2 hx),ZI (f:=fun k=>M k-min (a k) (M k)) (g:=M2) fun k k0 k1=>(hM k k0 k1).symm,
    Vs n0 (fun k k0 k1=>⟨Zs k1,Zl k1,Zs k1⟩) (Zr (by omega)) (Zk (by omega)) (Zr (by omega))]
theorem ZgB{m nO l:Int}{m0:List Int}{h:List (List Int)}{M M2 a a2 lO cO:Int->Int}{gO:Int->Int->Int}(hs:(lst m M,plL nO lO gO cO)=XQ m0 h)(hl:l=m)(ha:∀k,0<=k->k<m->a2 k=a k-min (a k) (M k))(hM:∀k,0<=k->k<m->M2 k=M k-min (a k) (M k))(hx:¬∃k,0<=k/\k<l/\0<a2 k):
    (lst m M2,plL nO lO gO cO)=XQ m0 (h++ [lst l a]):=by
  subst hl
  rw [WK,<-hs]
  unfold Xk tM tA
  dsimp only
  rw [YI,YI,ZI (f:=fun k=>a k-min (a k) (M k)) (g:=a2) fun k k0 k1=>(ha k k0 k1).symm,if_neg (fun hh=>hx (Wr.1 hh)),ZI (f:=fun k=>M k-min (a k) (M k)) (g:=M2) fun k k0 k1=>(hM k k0 k1).symm]
theorem Zay{fa fa2:Int->Int}{j:Int}{p p2:Prop}(j0:0<=j)(h:p↔∃q,0<=q/\q<j/\0<fa q)(he:∀q,q<j->fa2 q=fa q)(h2:p2↔(p\/0<fa2 j)):p2↔∃q,0<=q/\q<j+1/\0<fa2 q:=by
  rw [h2,h]
  constructor
  · rintro(⟨q,q0,q1,q2⟩|h)
    · exact⟨q,q0,by omega,by rw [he q q1];exact q2⟩
    · exact⟨j,j0,by omega,h⟩
  · rintro⟨q,q0,q1,q2⟩
    by_cases e:q=j
    · rw [e] at q2;exact .inr q2
    · rw [he q (by omega)] at q2;exact .inl ⟨q,q0,by omega,q2⟩
theorem Vp{α:Type}(l:List α)(x:α){n:Int}(n0:0<=n):l++List.replicate (n+1).toNat x=(l++List.replicate n.toNat x)++ [x]:=by
  rw [show(n+1).toNat=n.toNat+1 by omega,List.replicate_succ',List.append_assoc]
theorem Zb6 {vV:Value} {u:Int} {pv:Int->Value} {ln:Int->Int} {pt:Int->Int->Int} {cnt:Int->Int} {vL vD:Value} {p:Prob} (w0:World) (hV:VAt w0 vV u pv ln pt cnt) (h:PAt w0 vL vD p):
    Calls Tryz.prog 111 [.agg #[vL,vD,.int .i64 p.stock,.int .i64 p.kerf],vV].toArray w0 fun e w=>∃v,e= .returned v/\∃r n2 pv2 ln2 pt2 cnt2 e,v= .tuple #[r,.int .i64 e]/\TrimR p u ln pt cnt (plL n2 ln2 pt2 cnt2) e/\(∀k,0<=k->k<n2->1<=cnt2 k/\cnt2 k<=1000000000)/\n2<=1000000/\Slh r n2/\Sat w0 w [.own r 2 100 n2 (Zd pv2 cnt2),.sem (Frame.rows 3 n2 pv2 ln2 pt2)]:=by
  have hm:=h.L.slh.n0;have hm1:=h.L.slh.n1;have hd:=h.D.slh.n0;have hd1:=h.D.slh.n1;have hs:=h.is;have hk:=h.ik
  have hu:=hV.row.slh.n0;have hu1:=hV.row.slh.n1
  refine Zm Tryz.func111 Tryz.ntmps111 fun w hS=> ?_
  refine zsr<|zla (xbx (cs:= [_,_,_,_]) hS) ?_;rintro _ w ⟨g1,rfl,hS⟩
  refine(zP)<|(zP)<|zlz<|(zV (xls 0 ZC hS))<|(zP)<|zlc (xc0 Zd1) (R8 (u:=u) (pv:=pv) (ln:=ln) (pt:=pt) (cnt:=cnt) (p:=p) w (hV.below hS.below) (h.below hS.below)) ?_;rintro _ w ⟨qh,qd,qb,xT,rfl,qm,qe,hS'⟩
  replace hS:=(hS.comp hS').n2;clear hS'
  refine zs5 ?_
  refine zlt<|zsq<|zbk<|zsr<|(zP)<|(zP)<|(zP)<|zlt<|Ze ?_ ?_<;>intro hc
  ·
   refine zsr<|(zP)<|(zP)<|(zP)<|X9<|zf2 ⟨_,rfl,?_⟩
   have hmd:¬PlanOk p u ln pt cnt/\xT=1:=by rcases qm with⟨g1,_,g3⟩|⟨_,_,_,g4⟩;exact⟨g1,g3⟩;omega
   exact⟨_,0,fun _=>undef,fun _=>0,fun _ _=>0,fun _=>0,_,rfl,.inl ⟨hmd.1,rfl,by omega⟩,fun k k0 k1=>by omega,by omega,slh_nil,((hS.sub (.cons _ (.cons _ .slnil))).addnil 2 100 (Zd (fun _=>undef) (fun _=>0))).addrows 3 (fun _=>undef) (fun _=>0) (fun _ _=>0)⟩
  refine zsr<|(zV (xls 0 ZC hS))<|(zP)<|zlc (xc0 Zia) (Zeo (u:=u) (pv:=pv) (ln:=ln) (pt:=pt) (cnt:=cnt) (p:=p) w (hV.below hS.below) (h.below hS.below)) ?_;rintro _ w ⟨rfl,hS'⟩
  replace hS:=hS.cmp hS';clear hS'
  refine(zP)<|(zP)<|zlt<|Ze ?_ ?_<;>intro hc
  ·
   refine zsr<|(zP)<|(zP)<|X9<|zf2 ⟨_,rfl,?_⟩
   have qf:PlanOk p u ln pt cnt:=by rcases qm with⟨_,_,g3⟩|⟨g1,_⟩;omega;exact g1
   exact⟨_,0,fun _=>undef,fun _=>0,fun _ _=>0,fun _=>0,_,rfl,.inr (.inl ⟨qf,fun hh=>‹¬(_/\_)› ⟨qf,hh⟩,rfl,rfl⟩),fun k k0 k1=>by omega,by omega,slh_nil,((hS.sub (.cons _ (.cons _ .slnil))).addnil 2 100 (Zd (fun _=>undef) (fun _=>0))).addrows 3 (fun _=>undef) (fun _=>0) (fun _ _=>0)⟩
  refine zsk<|zbn<|ztn<|zsr<|zlv xmv ?_
  obtain⟨qf,zY,xW⟩:PlanOk p u ln pt cnt/\qd=p.m/\qb=Zo u pt cnt:=by rcases qm with⟨_,_,g3⟩|⟨g1,g2,g3,_⟩;omega;exact⟨g1,g2,g3⟩
  have yy:=qf.1.m1;have xc:=qf.1.m2;have hpd:=qf.1.d;have hu3:=qf.2.1
  have zZ:∀j,0<=j->j<p.m->p.D j<=Zo u pt cnt j:=(Classical.not_not.1 ‹¬¬(_/\_)›).2
  refine zlc (xc0 ZdX) (R9 (u:=u) (pv:=pv) (ln:=ln) (pt:=pt) (cnt:=cnt) w (hV.below hS.below) (by omega) (fun k k0 k1=>by have h9:=(qf.2.2 k k0 k1).2.2.eq;omega) (fun k k0 k1=>by have h9:=qf.2.2 k k0 k1;exact⟨h9.1,h9.2.1⟩)) ?_;rintro xm w ⟨_,qo,qT,qK,qH,qE,rfl,qY,xA,zw,xk,q9,hS'⟩
  replace hS:=(hS.comp hS').n4;clear hS'
  have yx:=fun k (k0:0<=k) (k1:k<qo)=>hS.slhIn 3 rfl k0 k1
  have c7:=fun k k0 k1=>(yx k k0 k1).n0
  have qA:=TX qf qY c7
  have fZ:=TY hu xA qf qY
  refine(zP)<|zlz<|(zP)<|zx5<|(zP)<|(zV (xln Zv q9))<|(zV (ZD (r:=qo-1)))<|(zP)<|zx6 ?_
  replace hS:=hS.addnil 2 100 (Zd (fun _=>Value.slice none 0 0) (fun _=>0))
  replace hS:=hS.addrows 3 (fun _=>Value.slice none 0 0) (fun _=>0) (fun _ _=>0)
  have yw:=fun k (k0:0<=k) (k1:k<0)=>hS.slhIn 5 rfl k0 k1
  refine zlp (fun mm M w=>∃(nO:Int) (wO:Int->Value) (lO:Int->Int) (gO:Int->Int->Int) (cO:Int->Int) (fM:Int->Int) (i:Int) (xO:Value),mm=((i+1).toNat)/\(-1<=i)/\(i<qo)/\(0<=nO/\nO<=((Xs qK qH qE (dwn qo i)).length:Int))/\((lst p.m (fun k=>fM k-p.D k),plL nO lO gO cO)=XQ (lst p.m fun j=>Zo u pt cnt j-p.D j) (Xs qK qH qE (dwn qo i)))/\(∀k,0<=k->k<p.m->p.D k<=fM k/\fM k<=2000000000)/\(∀k,0<=k->k<nO->lO k=p.m/\cO k=1)/\(∀x,(wO x).oneCell'=true)/\(Slh xO nO)/\M= [(2,.pointer (some ⟨g1,0,none⟩)),(4,.slice none 0 0),(5,.int .i64 0),(6,qh),(8,xm),(9,xO),(10,.int .i64 i)]/\Sat w0 w [.blk g1 [vL,vD,.int .i64 p.stock,.int .i64 p.kerf],.own qh 1 3 qd (ints fM),.own xm 2 100 qo (Zd qT qE),.sem (Frame.rows 3 qo qT qK qH),.own xO 2 100 nO (Zd wO cO),.sem (Frame.rows 3 nO wO lO gO)]) ⟨0,(fun _=>Value.slice none 0 0),(fun _=>0),(fun _ _=>0),(fun _=>0),qb,qo-1,(.slice none 0 0),rfl,(by omega),(by omega),?_,?_,?_,?_,?_,?_,rfl,hS⟩ ?_
  ·
   rw [V3];exact⟨Int.le_refl _,by simp [Xs]⟩
  ·
   rw [V3,xW];rfl
  ·
   intro k k0 k1;rw [xW];have h9:=zZ k k0 k1;have h7:=Yj qf.2.2 hu (Int.le_refl _) k0 k1;omega
  ·
   intro k k0 k1;omega
  ·
   intro x;rfl
  ·
   exact slh_nil
  clear hS w
  rintro mm M w ⟨nO,wO,lO,gO,cO,fM,i,xO,rfl,i0,i1,hnO,hT,hMr,hlO,qk,hxO,rfl,hS⟩
  have qN:=fun k (k0:0<=k) (k1:k<nO)=>hS.slhIn 5 rfl k0 k1
  refine zx11<|(zP)<|(zP)<|zlt<|Ze ?_ ?_<;>intro hc
  ·
   refine zx3<|(zP)<|zx6 ?_
   have jl:=xk i (by omega) (by omega)
   have aL:=qA i (by omega) (by omega)
   have gD:=aL.1
   refine zlp (fun mm M w=>∃(nO2:Int) (wO2:Int->Value) (lO2:Int->Int) (gO2:Int->Int->Int) (cO2:Int->Int) (fM2:Int->Int) (n:Int) (xO2:Value),mm=((qE i-n).toNat)/\(0<=n)/\(n<=qE i)/\(0<=nO2/\nO2<=((Xs qK qH qE (dwn qo i)++List.replicate n.toNat (lst (qK i) (qH i))).length:Int))/\((lst p.m (fun k=>fM2 k-p.D k),plL nO2 lO2 gO2 cO2)=XQ (lst p.m fun j=>Zo u pt cnt j-p.D j) (Xs qK qH qE (dwn qo i)++List.replicate n.toNat (lst (qK i) (qH i))))/\(∀k,0<=k->k<p.m->p.D k<=fM2 k/\fM2 k<=2000000000)/\(∀k,0<=k->k<nO2->lO2 k=p.m/\cO2 k=1)/\(∀x,(wO2 x).oneCell'=true)/\(Slh xO2 nO2)/\M= [(2,.pointer (some ⟨g1,0,none⟩)),(4,.slice none 0 0),(5,.int .i64 0),(6,qh),(8,xm),(9,xO2),(10,.int .i64 i),(11,.int .i64 n)]/\Sat w0 w [.blk g1 [vL,vD,.int .i64 p.stock,.int .i64 p.kerf],.own qh 1 3 qd (ints fM2),.own xm 2 100 qo (Zd qT qE),.sem (Frame.rows 3 qo qT qK qH),.own xO2 2 100 nO2 (Zd wO2 cO2),.sem (Frame.rows 3 nO2 wO2 lO2 gO2)]) ⟨nO,wO,lO,gO,cO,fM,0,xO,rfl,(by omega),(by omega),?_,?_,?_,?_,?_,?_,rfl,hS⟩ ?_
   ·
    simpa using hnO
   ·
    simpa using hT
   ·
    exact hMr
   ·
    exact hlO
   ·
    exact qk
   ·
    exact hxO
   clear hS w
   rintro mm M w ⟨nO2,wO2,lO2,gO2,cO2,fM2,n,xO2,rfl,n0,n1,c6,hT2,yW,bs,x9,dJ,rfl,hS⟩
   have xe:=fun k (k0:0<=k) (k1:k<nO2)=>hS.slhIn 5 rfl k0 k1
   refine zx11<|(zP)<|(zP)<|(zP)<|(zV (xix (kk:=2*i) Zv q9))<|(zV (xfc (kk:=2*i+1) Yf q9))<|(zV (xlr (u:= .int .i64 (qE i)) pl_3 (hS.rowN 2 rfl) (e:=(Yt qT qE (by omega)))))<|(zP)<|zlt<|Ze ?_ ?_<;>intro hc
   ·
    refine zx3<|zla (xl0 (c:=ints (qH i)) Zb hS) ?_;rintro v1 w ⟨hS,hv1⟩
    refine(zP)<|(zP)<|(zV (xix (kk:=2*i) Zv q9))<|(zV (xfc (kk:=2*i) Yp q9))<|zlv (xlr (u:=(qT i)) pl_22 (hS.rowN 2 rfl) (e:=(Yu qT qE (by omega)))) ?_
    have hbp:=VM (ln:=qK) (pt:=qH) (cnt:=qE) (u:=qo) (x:=i) (c:=n) (fun k k0 k1=>by have:=xk k k0 k1;omega) (by omega) (by omega) n0 (by omega)
    refine zla (xap 6 (r:=(qK i)) (f:=ints (qH i)) Zb Zn hS (hS.rowIn (k:=i) 3 rfl (by omega) (by omega)) (by exact XG _ _)) ?_;rintro v2 w ⟨hS,hv2⟩
    refine(zP)<|zlz<|(zP)<|zx5<|(zP)<|zx6<|zlp (fun mm M w=>∃(any:Prop) (fa3:Int->Int) (fm3:Int->Int) (j:Int),mm=((qK i-j).toNat)/\(0<=j)/\(j<=qK i)/\(∀k,0<=k->k<p.m->fa3 k=(if k<j then qH i k-min (qH i k) (fM2 k-p.D k) else qH i k))/\(∀k,0<=k->k<p.m->fm3 k=(if k<j then fM2 k-min (qH i k) (fM2 k-p.D k) else fM2 k))/\(any↔∃q,0<=q/\q<j/\0<fa3 q)/\M= [(2,.pointer (some ⟨g1,0,none⟩)),(4,.slice none 0 0),(5,.int .i64 0),(6,qh),(8,xm),(9,xO2),(10,.int .i64 i),(11,.int .i64 n),(12,v2),(13,B (any)),(14,.int .i64 j)]/\Sat w0 w [.blk g1 [vL,vD,.int .i64 p.stock,.int .i64 p.kerf],.own qh 1 3 qd (ints fm3),.own xm 2 100 qo (Zd qT qE),.sem (Frame.rows 3 qo qT qK qH),.own xO2 2 100 nO2 (Zd wO2 cO2),.sem (Frame.rows 3 nO2 wO2 lO2 gO2),.own v2 1 3 (qK i) (ints fa3)]) ⟨False,qH i,fM2,0,rfl,(by omega),(by omega),?_,?_,?_,rfl,hS⟩ ?_ (hM:=by repeat' first|exact UH|refine zpk rfl ?_|refine zpk (congrArg some (B_false not_false).symm) ?_|refine zpk (congrArg some (YM trivial).symm) ?_)
    ·
     intro k k0 k1;rw [if_neg (by omega)]
    ·
     intro k k0 k1;rw [if_neg (by omega)]
    ·
     exact⟨fun h=>h.elim,fun⟨q,q0,q1,_⟩=>by omega⟩
    clear hS w
    rintro mm M w ⟨any,fa3,fm3,j,rfl,j0,j1,yJ,yH,z7,rfl,hS⟩
    refine zx11<|(zP)<|(zP)<|(zV (xln Zb hv2))<|(zP)<|zlt<|Ze ?_ ?_<;>intro hc
    ·
     refine zx27<|zdst [0,1,2,3,4,5,6] [0,1,2,3,4,5,6] 1000 mx_ hS ?_;clear hS;intro w hS
     refine(zDw 0 xmv)<|zDrv 1 xmv ?_
     have haj:=aL.2 j j0 (by omega)
     have dh:=yJ j j0 (by omega)
     have df:=yH j j0 (by omega)
     have hMj:=yW j j0 (by omega)
     have hdj:=X2 qf.1 j0 (by omega:j<p.m)
     rw [if_neg (by omega)] at dh df
     refine(zDw 2 (xix (kk:=j) Zb hv2))<|(zDl 3 (fun w hS=>(xlr (u:= .int .i64 (fa3 j)) pl_3 (hS.rowN 6 rfl))))<|(zDw 4 xmv)<|(zDw 5 xmv)<|(zDw 6 (xix (kk:=j) Zb qe))<|(zDl 7 (fun w hS=>(xlr (u:= .int .i64 (fm3 j)) pl_3 (hS.rowN 1 rfl))))<|(zDw 8 (xfb 1 fd_24_1))<|(zDl 9 (fun w hS=>(xlb 0 pl_22 hS)))<|(zDw 10 xmv)<|(zDw 11 (xix (kk:=j) Zb h.D.slh))<|zdla 12 (fun w hS=>(xlr (u:= .int .i64 (p.D j)) pl_3 (h.D.below hS.below))) ?_
     have hbv:=h.iD j
     refine(zDw 13 (ZD (r:=fm3 j-p.D j)))<|(zDw 14 (ZaH (r:=(min (fa3 j) (fm3 j-p.D j)))))<|(zDw 15 xas)<|zdd<|ztn<|zsr ?_
     refine(zP)<|(zP)<|(zV (xix (kk:=j) Zb hv2))<|(zV (xlr (u:= .int .i64 (fa3 j)) pl_3 (hS.rowN 6 rfl)))<|(zP)<|(zV (ZD (r:=fa3 j-(min (fa3 j) (fm3 j-p.D j)))))<|(zV (xix (kk:=j) Zb hv2))<|zle (xso 6 pl_3 hS (ZE _ _ _)) ?_;clear hS;rintro w hS
     refine zlz<|(zP)<|(zP)<|(zV (xix (kk:=j) Zb qe))<|(zV (xlr (u:= .int .i64 (fm3 j)) pl_3 (hS.rowN 1 rfl)))<|(zP)<|(zV (ZD (r:=fm3 j-(min (fa3 j) (fm3 j-p.D j)))))<|(zV (xix (kk:=j) Zb qe))<|zle (xso 1 pl_3 hS (ZE _ _ _)) ?_;clear hS;rintro w hS
     refine zlt<|zrg<|(zP)<|(zP)<|zlb 92 ?_ ?_<;>intro hc
     ·
      iterate 5 refine zlo ?_
      refine(zP)<|(zP)<|zx10<|(zP)<|(zV (Zf (r:=j+1)))<|(zP)<|zln<|zlq ⟨True,(upd fa3 j (fa3 j-(min (fa3 j) (fm3 j-p.D j)))),(upd fm3 j (fm3 j-(min (fa3 j) (fm3 j-p.D j)))),j+1,rfl,(by omega),(by omega),?_,?_,?_,rfl,hS⟩ (hM:=by repeat' first|exact UH|refine zpk rfl ?_|refine zpk (congrArg some (B_false not_false).symm) ?_|refine zpk (congrArg some (YM trivial).symm) ?_)
      ·
       intro k k0 k1;unfold upd;by_cases e:k=j
       · rw [if_pos e,if_pos (by omega),e];omega
       · rw [if_neg e,yJ k k0 k1];by_cases e2:k<j
         · rw [if_pos e2,if_pos (by omega)]
         · rw [if_neg e2,if_neg (by omega)]
      ·
       intro k k0 k1;unfold upd;by_cases e:k=j
       · rw [if_pos e,if_pos (by omega),e];omega
       · rw [if_neg e,yH k k0 k1];by_cases e2:k<j
         · rw [if_pos e2,if_pos (by omega)]
         · rw [if_neg e2,if_neg (by omega)]
      ·
       refine Zay j0 z7 (fun q hq=>by unfold upd;rw [if_neg (by omega)]) ?_
       first
       |exact⟨fun _=> .inl ‹any›,fun _=>trivial⟩
       |exact⟨fun h9=> .inr h9,fun h9=>h9.elim (fun h8=>absurd h8 ‹¬any›) id⟩
     refine(zP)<|(zP)<|(zV (xix (kk:=j) Zb hv2))<|(zV (xlr (u:= .int .i64 ((upd fa3 j (fa3 j-(min (fa3 j) (fm3 j-p.D j)))) j)) pl_3 (hS.rowN 6 rfl)))<|(zP)<|(zP)<|(zP)<|zx10<|(zP)<|(zV (Zf (r:=j+1)))<|(zP)<|zln<|zlq ⟨0<(upd fa3 j (fa3 j-(min (fa3 j) (fm3 j-p.D j)))) j,(upd fa3 j (fa3 j-(min (fa3 j) (fm3 j-p.D j)))),(upd fm3 j (fm3 j-(min (fa3 j) (fm3 j-p.D j)))),j+1,rfl,(by omega),(by omega),?_,?_,?_,rfl,hS⟩
     ·
      intro k k0 k1;unfold upd;by_cases e:k=j
      · rw [if_pos e,if_pos (by omega),e];omega
      · rw [if_neg e,yJ k k0 k1];by_cases e2:k<j
        · rw [if_pos e2,if_pos (by omega)]
        · rw [if_neg e2,if_neg (by omega)]
     ·
      intro k k0 k1;unfold upd;by_cases e:k=j
      · rw [if_pos e,if_pos (by omega),e];omega
      · rw [if_neg e,yH k k0 k1];by_cases e2:k<j
        · rw [if_pos e2,if_pos (by omega)]
        · rw [if_neg e2,if_neg (by omega)]
     ·
      refine Zay j0 z7 (fun q hq=>by unfold upd;rw [if_neg (by omega)]) ?_
      first
      |exact⟨fun _=> .inl ‹any›,fun _=>trivial⟩
      |exact⟨fun h9=> .inr h9,fun h9=>h9.elim (fun h8=>absurd h8 ‹¬any›) id⟩
    refine zx8<|(zP)<|zlt<|Ze ?_ ?_<;>intro hc
    ·
     refine zrg<|(zP)<|(zP)<|zlv (xany (v:= .agg #[v2,.int .i64 1]) (hr:=by obtain⟨_,_,_,_,rfl,_⟩:=hv2;kernel_rfl)) ?_
     refine zla (xli (n:=1) (len:=1) (pv:= [(0,.agg #[v2,.int .i64 1])]) (cs:= [v2,.int .i64 1]) (c:=Zd (fun _=>v2) (fun _=>1)) Zv Yq hS (hf:=by obtain⟨_,_,_,_,rfl,_⟩:=hv2;kernel_rfl)) ?_;rintro v3 w ⟨hS,hv3⟩
     refine zla (xap 4 (r:=nO2+1) Zv Yq hS (hS.rowN 7 rfl) (Yb _ _ _ _ _) (h1:=fun k _ _=>ZG (fun _=>hv2.one) k)) ?_;rintro v4 w ⟨hS,hv4⟩
     replace hS:=Sat.merge (l1:= [_,_,_,_,_]) (l2:= []) (l3:= [_]) hS (by omega)
     have cU:=fun k (k0:0<=k) (k1:k<nO2+1)=>hS.slhIn 5 rfl k0 k1
     refine(zP)<|zx10<|(zP)<|(zV (Zf (r:=n+1)))<|(zP)<|zln<|zlq ⟨nO2+1,gsn wO2 nO2 v2,gsn lO2 nO2 (qK i),gsn gO2 nO2 fa3,(snoc cO2 nO2 1),fm3,n+1,v4,rfl,(by omega),(by omega),?_,?_,?_,?_,?_,?_,rfl,hS.pk [0,1,2,3,4,5]⟩
     ·
      rw [Vp _ _ n0,List.length_append];simp only [List.length_singleton];push_cast;omega
     ·
      rw [Vp _ _ n0]
      first
      |exact Zc4 hT2 c6.1 aL.1 (fun k k0 k1=>by have h9:=yH k k0 k1;have h8:=yJ k k0 k1;have h7:=(qA i (by omega) (by omega)).2 k k0 k1;have h6:=yW k k0 k1;rw [if_pos (by omega)] at h9 h8;omega) (fun k k0 k1=>by have h9:=yH k k0 k1;have h8:=yJ k k0 k1;have h7:=(qA i (by omega) (by omega)).2 k k0 k1;have h6:=yW k k0 k1;rw [if_pos (by omega)] at h9 h8;omega) (by first|exact z7.1 ‹any›|(obtain⟨q,q0,q1,q2⟩:=z7.1 ‹any›;exact⟨q,q0,by omega,q2⟩))
      |exact ZgB hT2 aL.1 (fun k k0 k1=>by have h9:=yH k k0 k1;have h8:=yJ k k0 k1;have h7:=(qA i (by omega) (by omega)).2 k k0 k1;have h6:=yW k k0 k1;rw [if_pos (by omega)] at h9 h8;omega) (fun k k0 k1=>by have h9:=yH k k0 k1;have h8:=yJ k k0 k1;have h7:=(qA i (by omega) (by omega)).2 k k0 k1;have h6:=yW k k0 k1;rw [if_pos (by omega)] at h9 h8;omega) (fun⟨q,q0,q1,q2⟩=>absurd (z7.2 ⟨q,q0,by omega,q2⟩) ‹¬any›)
     ·
      exact fun k k0 k1=>by have h9:=yH k k0 k1;have h8:=yJ k k0 k1;have h7:=(qA i (by omega) (by omega)).2 k k0 k1;have h6:=yW k k0 k1;rw [if_pos (by omega)] at h9 h8;omega
     ·
      first|exact bs|(intro k k0 k1;by_cases e:k<nO2;(rw [Zs e,Zl e];exact bs k k0 e);(rw [Zr e,Zk e];exact⟨by omega,rfl⟩))
     ·
      first|exact x9|exact XO x9 ‹Slh _ _›.one
     ·
      exact hv4
    refine zx4<|(zP)<|(zV (Zf (r:=n+1)))<|(zP)<|zln<|zlq ⟨nO2,wO2,lO2,gO2,cO2,fm3,n+1,xO2,rfl,(by omega),(by omega),?_,?_,?_,?_,?_,?_,rfl,hS.pk [0,1,2,3,4,5]⟩
    ·
     rw [Vp _ _ n0,List.length_append];simp only [List.length_singleton];push_cast;omega
    ·
     rw [Vp _ _ n0]
     first
     |exact Zc4 hT2 c6.1 aL.1 (fun k k0 k1=>by have h9:=yH k k0 k1;have h8:=yJ k k0 k1;have h7:=(qA i (by omega) (by omega)).2 k k0 k1;have h6:=yW k k0 k1;rw [if_pos (by omega)] at h9 h8;omega) (fun k k0 k1=>by have h9:=yH k k0 k1;have h8:=yJ k k0 k1;have h7:=(qA i (by omega) (by omega)).2 k k0 k1;have h6:=yW k k0 k1;rw [if_pos (by omega)] at h9 h8;omega) (by first|exact z7.1 ‹any›|(obtain⟨q,q0,q1,q2⟩:=z7.1 ‹any›;exact⟨q,q0,by omega,q2⟩))
     |exact ZgB hT2 aL.1 (fun k k0 k1=>by have h9:=yH k k0 k1;have h8:=yJ k k0 k1;have h7:=(qA i (by omega) (by omega)).2 k k0 k1;have h6:=yW k k0 k1;rw [if_pos (by omega)] at h9 h8;omega) (fun k k0 k1=>by have h9:=yH k k0 k1;have h8:=yJ k k0 k1;have h7:=(qA i (by omega) (by omega)).2 k k0 k1;have h6:=yW k k0 k1;rw [if_pos (by omega)] at h9 h8;omega) (fun⟨q,q0,q1,q2⟩=>absurd (z7.2 ⟨q,q0,by omega,q2⟩) ‹¬any›)
    ·
     exact fun k k0 k1=>by have h9:=yH k k0 k1;have h8:=yJ k k0 k1;have h7:=(qA i (by omega) (by omega)).2 k k0 k1;have h6:=yW k k0 k1;rw [if_pos (by omega)] at h9 h8;omega
    ·
     first|exact bs|(intro k k0 k1;by_cases e:k<nO2;(rw [Zs e,Zl e];exact bs k k0 e);(rw [Zr e,Zk e];exact⟨by omega,rfl⟩))
    ·
     first|exact x9|exact XO x9 ‹Slh _ _›.one
    ·
     exact dJ
   refine zx21<|(zP)<|(zV (ZD (r:=i-1)))<|(zP)<|zln<|zlq ⟨nO2,wO2,lO2,gO2,cO2,fM2,i-1,xO2,rfl,(by omega),(by omega),?_,?_,?_,?_,?_,?_,rfl,hS⟩
   ·
    rw [Ti (by omega),Wq,show qE i=n by omega];exact c6
   ·
    rw [Ti (by omega),Wq,show qE i=n by omega];exact hT2
   ·
    exact yW
   ·
    exact bs
   ·
    exact x9
   ·
    exact dJ
  refine zx8<|zlv xmv ?_
  have eg:nO<=1000000:=by
    have h9:=UF (ln:=qK) (pt:=qH) (u:=qo) (cnt:=qE) xA (fun k k0 k1=>by have:=xk k k0 k1;omega) (qo-1-i).toNat (by omega)
    unfold dwn at hnO
    have h8:=X0 (d:=qE) (f:=fun _=>1) (i:=0) (n:=(qo-((qo-1-i).toNat:Int)).toNat) (by omega) (fun k hk=>by have:=xk k (by omega) (by omega);omega)
    simp only [psum] at h8
    omega
  refine zlc (xc0 ZdX) (R9 (u:=nO) (pv:=wO) (ln:=lO) (pt:=gO) (cnt:=cO) w (⟨(hS.rowN 4 rfl),fun k k0 k1=>hS.rowIn 5 rfl k0 k1,fun k k0 k1=>hS.roomIn 5 rfl k0 k1⟩:VAt _ xO nO wO lO gO cO) (by omega) (fun k k0 k1=>by have h9:=(hlO k k0 k1).1;omega) (fun k k0 k1=>by have h9:=(hlO k k0 k1).2;omega)) ?_;rintro eQ w ⟨_,aU,eX,cF,du,dx,rfl,bo,ed,d9,bp,bb,hS'⟩
  replace hS:=(hS.comp hS').n8;clear hS'
  have dU:=fun k (k0:0<=k) (k1:k<aU)=>hS.slhIn 7 rfl k0 k1
  refine(zP)<|(zP)<|zx1<|zf2 ⟨_,rfl,?_⟩
  rw [show i= -1 by omega,Rj _ _ _ xA] at hT
  have hTR:NormR (XQ (lst p.m fun j=>Zo u pt cnt j-p.D j) (WD (plL qo qK qH qE))).2 (plL aU cF du dx):=by
    rw [<-hT];exact bo
  exact⟨_,_,_,_,_,_,0,rfl,.inr (.inr ⟨qf,zZ,rfl,_,qY,hTR⟩),fun k k0 k1=>by have:=bp k k0 k1;omega,by omega,bb,hS.pk [6,7]⟩
end Go.Proofs.YtopmifmfecfaaaaGreat
namespace Go.Proofs.YtopmifmfecfaaaaGreat
open Go Go.RowKit Go.Proofs.Gw
variable {n r x:Int} {g3:Int->Int->Int}
theorem ZdZ:Zc Tryz.prog 72=true:=by kernel_rfl
theorem Zc3{p:Prob}(hok:p.Ok){f:Int->Int}(h0:∀j,0<=j->j<p.m->0<=f j)(hu:Z8 p f p.m.toNat<=p.stock+p.kerf):∀j,0<=j->j<p.m->0<=f j/\f j<=2000:=fun j j0 j1=>by
  have h1:=XY (f:=fun i=>f i*(p.L i+p.kerf)) (n:=p.m.toNat) j0 (by omega) fun i i0 i1=>by
    have he:=hok.all i i0 (by omega)
    unfold Prob.each at he
    have hk:=hok.k1
    exact Int.mul_nonneg (h0 i i0 (by omega)) (by omega)
  have h2:f j*(p.L j+p.kerf)<=p.stock+p.kerf:=Int.le_trans h1 hu
  have he:=hok.all j j0 j1
  unfold Prob.each at he
  have hk:=hok.k1;have hs:=hok.s2
  refine⟨h0 j j0 j1,?_⟩
  by_cases hx:f j<=2000
  · exact hx
  · exfalso
    have h3:=Int.mul_le_mul_of_nonneg_left (show 1+p.kerf<=p.L j+p.kerf by omega) (h0 j j0 j1)
    have h4:=Int.mul_le_mul_of_nonneg_right (show 1<=f j by omega) hk
    have h5:f j*(1+p.kerf)=f j+f j*p.kerf:=by rw [Int.mul_add,Int.mul_one]
    omega
theorem fits_of_used{p:Prob}(hok:p.Ok){f:Int->Int}(h0:∀j,0<=j->j<p.m->0<=f j)(hu:Z8 p f p.m.toNat<=p.stock+p.kerf):FitsP p p.m f:=⟨hok,rfl,Zc3 hok h0 hu,hu⟩
theorem WJ{p:Prob}{f g:Int->Int}{x:Int}(x0:0<=x):∀n:Nat,(∀b,0<=b->b<(n:Int)->g b=if b=x then f b+1 else f b)->Z8 p g n=Z8 p f n+if x<(n:Int) then szP p x else 0
  |0,_=>by rw [if_neg (by omega)];rfl
  | n +1,h=>by
    have ih:=WJ (p:=p) (f:=f) (g:=g) x0 n fun b b0 b1=>h b b0 (by omega)
    have h1:Z8 p g (n+1)=Z8 p g n+g n*(p.L n+p.kerf):=by
      have:=Z2 (fun i=>g i*(p.L i+p.kerf)) (i:=(n:Int)) (by omega)
      rw [show((n:Int)+1).toNat=n+1 by omega,Int.toNat_natCast] at this;exact this
    have h2:Z8 p f (n+1)=Z8 p f n+f n*(p.L n+p.kerf):=by
      have:=Z2 (fun i=>f i*(p.L i+p.kerf)) (i:=(n:Int)) (by omega)
      rw [show((n:Int)+1).toNat=n+1 by omega,Int.toNat_natCast] at this;exact this
    rw [h1,h2,ih,h n (by omega) (by omega)]
    by_cases e:(n:Int)=x
    · rw [if_pos e,if_neg (by omega),if_pos (by omega),Int.add_mul,Int.one_mul,e];unfold szP;omega
    · rw [if_neg e]
      by_cases e2:x<(n:Int)
      · rw [if_pos e2,if_pos (by omega)];omega
      · rw [if_neg e2,if_neg (by omega)];omega
theorem TF{p:Prob}{f g:Int->Int}{n:Nat}(h:∀b,0<=b->b<(n:Int)->g b=f b):Z8 p g n=Z8 p f n:=Zj fun b b0 b1=>by rw [h b b0 b1]
abbrev WG(p:Prob)(g:Int->Int->Int):Int->Int:=fun k=>p.stock+p.kerf-Z8 p (g k) p.m.toNat
theorem Zko{g:Int->Int->Int}{m:Int}(hg:∀k,0<=k->k<n->∀j,0<=j->j<m->g3 k j=g k j)(r0:0<=r)(r1:r<n)(x0:0<=x)(x1:x<m):∀a,0<=a->a<n->∀b,0<=b->b<m->upd g3 r (upd (g3 r) x (g3 r x+1)) a b=if a=r/\b=x then g a b+1 else g a b:=fun a a0 a1 b b0 b1=>by
  unfold upd
  by_cases e:a=r
  · subst e
    rw [if_pos rfl]
    by_cases e2:b=x
    · subst e2;rw [if_pos rfl,if_pos ⟨rfl,rfl⟩,hg a a0 a1 b b0 b1]
    · rw [if_neg e2,if_neg (fun h=>e2 h.2),hg a a0 a1 b b0 b1]
  · rw [if_neg e,if_neg (fun h=>e h.1),hg a a0 a1 b b0 b1]
theorem Zkn{g:Int->Int->Int}{m y:Int}(hg:∀k,0<=k->k<n->∀j,0<=j->j<m->g3 k j=g k j)(hy:y=g3 r x):∀k,0<=k->k<n->∀j,0<=j->j<m->upd (upd g3 r (upd (g3 r) x (g3 r x+1))) r (upd (upd g3 r (upd (g3 r) x (g3 r x+1)) r) x y) k j=g k j:=fun k k0 k1 j j0 j1=>by
  subst hy
  rw [<-hg k k0 k1 j j0 j1]
  unfold upd
  by_cases e:k=r
  · subst e
    rw [if_pos rfl,if_pos rfl]
    by_cases e2:j=x
    · subst e2;rw [if_pos rfl]
    · rw [if_neg e2,if_neg e2]
  · rw [if_neg e,if_neg e]
theorem U9{p:Prob}(hok:p.Ok){g g4:Int->Int->Int}{l:Int}(hl:l=p.m)(h0:∀k,0<=k->k<n->∀j,0<=j->j<p.m->0<=g k j)(r0:0<=r)(r1:r<n)(x0:0<=x)(x1:x<p.m)(h4:∀a,0<=a->a<n->∀b,0<=b->b<p.m->g4 a b=if a=r/\b=x then g a b+1 else g a b):FitsP p l (g4 r)↔szP p x<=WG p g r:=by
  subst hl
  have hm:=hok.m1
  have hu:=WJ (p:=p) (f:=g r) (g:=g4 r) x0 p.m.toNat fun b b0 b1=>by
    rw [h4 r r0 r1 b b0 (by omega)]
    by_cases e:b=x
    · rw [if_pos ⟨rfl,e⟩,if_pos e]
    · rw [if_neg (fun h=>e h.2),if_neg e]
  rw [if_pos (by omega)] at hu
  unfold WG
  constructor
  · intro h;have:=h.used;omega
  · intro h
    refine fits_of_used hok (fun j j0 j1=> ?_) (by omega)
    rw [h4 r r0 r1 j j0 j1]
    have:=h0 r r0 r1 j j0 j1
    split<;>omega
theorem ZdA{p:Prob}(hok:p.Ok){g g4:Int->Int->Int}{qv:List Int}(hF:plL n (fun _=>p.m) g (WG p g)=Yh p.m (p.stock+p.kerf) (szP p) qv)(n0:0<=n)(r0:0<=r)(r1:r<n)(x0:0<=x)(x1:x<p.m)(h4:∀a,0<=a->a<n->∀b,0<=b->b<p.m->g4 a b=if a=r/\b=x then g a b+1 else g a b)(hs:szP p x<=WG p g r)(hno:∀k,0<=k->k<r->¬szP p x<=WG p g k):
    plL n (fun _=>p.m) g4 (WG p g4)=Yh p.m (p.stock+p.kerf) (szP p) (qv++ [x]):=by
  have hm:=hok.m1
  rw [Wm,<-hF]
  refine ZgE n0 x0 r0 r1 hs (fun j j0 j1=>by have:=hno j j0 j1;omega) h4 fun a a0 a1=> ?_
  unfold WG
  by_cases e:a=r
  · subst e
    have hu:=WJ (p:=p) (f:=g a) (g:=g4 a) x0 p.m.toNat fun b b0 b1=>by
      rw [h4 a a0 a1 b b0 (by omega)]
      by_cases e:b=x
      · rw [if_pos ⟨rfl,e⟩,if_pos e]
      · rw [if_neg (fun h=>e h.2),if_neg e]
    rw [if_pos (by omega)] at hu
    rw [if_pos rfl,hu];omega
  · rw [if_neg e,TF (p:=p) (f:=g a) (g:=g4 a) fun b b0 b1=>by rw [h4 a a0 a1 b b0 (by omega),if_neg fun h=>e h.1]]
theorem ZbS {p:Prob} (hok:p.Ok) {g:Int->Int->Int} {qv:List Int} (hF:plL n (fun _=>p.m) g (WG p g)=Yh p.m (p.stock+p.kerf) (szP p) qv) (n0:0<=n) (x0:0<=x) (x1:x<p.m) (hg:∀k,0<=k->k<n->∀j,0<=j->j<p.m->g3 k j=g k j) (hno:∀k,0<=k->k<n->¬szP p x<=WG p g k):
    plL (n+1) (fun _=>p.m) (gsn g3 n (upd (fun _=>0) x 1)) (WG p (gsn g3 n (upd (fun _=>0) x 1)))=Yh p.m (p.stock+p.kerf) (szP p) (qv++ [x]):=by
  have hm:=hok.m1
  rw [Wm,<-hF]
  refine ZdC n0 x0 (fun j j0 j1=>by have:=hno j j0 j1;omega) (fun a a0 a1 b b0 b1=>by rw [Zs a1];exact hg a a0 a1 b b0 b1) (fun b b0 b1=>by rw [Zr (by omega)];rfl) (fun a a0 a1=> ?_) ?_
  · unfold WG
    rw [Zs a1,TF (p:=p) (f:=g a) (g:=g3 a) fun b b0 b1=>hg a a0 a1 b b0 (by omega)]
  · unfold WG
    have hu:=WJ (p:=p) (f:=fun _=>0) (g:=upd (fun _=>(0:Int)) x 1) x0 p.m.toNat fun b b0 b1=>by
      unfold upd
      by_cases e:b=x
      · rw [if_pos e,if_pos e];rfl
      · rw [if_neg e,if_neg e]
    have hz:Z8 p (fun _=>0) p.m.toNat=0:=by
      unfold Z8
      have:∀n:Nat,Zh (fun i=>0*(p.L i+p.kerf)) n=0:=fun n=>by
        induction n with
        |zero=>rfl
        |succ n ih=>simp only [Zh] at ih⊢;rw [ih];omega
      exact this _
    rw [if_pos (by omega)] at hu
    rw [Zr (by omega),hu,hz];omega
theorem ZbR{p:Prob}(hok:p.Ok){v:Value}{i c:Int}{g:Int->Int->Int}(hv:Slh v n)(hF:plL n (fun _=>p.m) g (WG p g)=Yh p.m (p.stock+p.kerf) (szP p) (pcsTo p.D i c))(i0:0<=i)(i1:i<=p.m)(c0:0<=c)(c1:i<p.m->c<=p.D i)(c2:i=p.m->c=0)(ht:psum (fun _=>1) p.D p.m.toNat<=1000):
    n<=1000/\∀k,0<=k->k<n->∀j,0<=j->j<p.m->0<=g k j/\g k j<=2100:=by
  obtain⟨h1,h2⟩:=Vt (d:=p.D) (fun k k0 k1=>(X2 hok k0 k1).1) i0 i1 c0 c1 c2
  have h3:FInv p ⟨pcsTo p.D i c,v,n,fun _=>undef,g,v,WG p g⟩:=⟨hF,hv,hv⟩
  obtain⟨h4,h5⟩:=h3.rng hok h1 (by show((pcsTo p.D i c).length:Int)<=1000;omega)
  have hs:=hok.s2;have hk:=hok.k2
  exact⟨h4,fun k k0 k1 j j0 j1=>by have:=(h5 k k0 k1).2 j j0 j1;dsimp only at this;omega⟩
theorem Zbg{vL vD:Value}{p:Prob}(w0:World)(h:PAt w0 vL vD p)(hok:p.Ok):
    Calls Tryz.prog 72 [.agg #[vL,vD,.int .i64 p.stock,.int .i64 p.kerf]].toArray w0 fun e w=>∃v,e= .returned v/\v=B (1000<psum (fun _=>1) p.D p.m.toNat)/\Sat w0 w []:=by
  have hm:=h.L.slh.n0;have hm1:=h.L.slh.n1;have hd:=h.D.slh.n0;have hd1:=h.D.slh.n1;have hs:=h.is;have hk:=h.ik
  have hpd:=hok.d;have xc:=hok.m2
  refine Zm Tryz.func72 Tryz.ntmps72 fun w hS=> ?_
  refine zsr<|zla (xbx (cs:= [_,_,_,_]) hS) ?_;rintro _ w ⟨g1,rfl,hS⟩
  refine(zP)<|zlz<|(zP)<|zx5<|(zP)<|zx6<|zlp (fun mm M w=>∃(s:Int) (i:Int),mm=((p.d-i).toNat)/\(0<=i)/\(i<=p.d)/\(s=psum (fun _=>1) p.D i.toNat)/\(0<=s/\s<=1000000*i)/\M= [(1,.pointer (some ⟨g1,0,none⟩)),(2,.bool false),(3,.int .i64 s),(4,.int .i64 i)]/\Sat w0 w [.blk g1 [vL,vD,.int .i64 p.stock,.int .i64 p.kerf]]) ⟨0,0,rfl,(by omega),(by omega),?_,(by omega),rfl,hS⟩ ?_
  ·
   rfl
  clear hS w
  rintro mm M w ⟨s,i,rfl,h0,h1,hs9,hsb,rfl,hS⟩
  refine zx11<|(zP)<|(zV (xfb 1 fd_24_1))<|(zV (xlb 0 pl_22 hS))<|(zV (xln Zb h.D.slh))<|(zP)<|zlt<|Ze ?_ ?_<;>intro hc
  ·
   refine zsk<|ztn<|zsq<|zbk<|zrg<|(zP)<|(zV (xfb 1 fd_24_1))<|(zV (xlb 0 pl_22 hS))<|(zP)<|(zV (xix (kk:=i) Zb h.D.slh))<|zlv (xlr (u:= .int .i64 (p.D i)) pl_3 (h.D.below hS.below)) ?_
   have hbv:=h.iD i
   have he:=hok.all i h0 (by omega);unfold Prob.each at he
   refine(zV (Zf (r:=s+p.D i)))<|(zP)<|zx10<|(zP)<|(zV (Zf (r:=i+1)))<|(zP)<|zln<|zlq ⟨s+p.D i,i+1,rfl,(by omega),(by omega),?_,(by omega),rfl,hS⟩
   ·
    rw [YC _ _ h0,<-hs9];omega
  refine zx8<|(zP)<|(zP)<|(zP)<|zx1<|zf1 ⟨_,rfl,?_⟩
  have hiN:i=p.m:=by omega
  rw [hiN] at hs9
  rw [<-hs9]
  exact⟨rfl,hS.nl⟩
theorem Ka{vL vD:Value}{p:Prob}(w0:World)(h:PAt w0 vL vD p):
    Calls Tryz.prog 39 [.agg #[vL,vD,.int .i64 p.stock,.int .i64 p.kerf]].toArray w0 fun e w=>∃v,e= .returned v/\∃r n pv ln pt cnt e,v= .tuple #[r,.int .i64 e]/\FFitR p (plL n ln pt cnt) e/\(∀k,0<=k->k<n->1<=cnt k/\cnt k<=1000000)/\n<=1000/\Slh r n/\Sat w0 w [.own r 2 100 n (Zd pv cnt),.sem (Frame.rows 3 n pv ln pt)]:=by
  have hm:=h.L.slh.n0;have hm1:=h.L.slh.n1;have hd:=h.D.slh.n0;have hd1:=h.D.slh.n1;have hs:=h.is;have hk:=h.ik
  refine Zm Tryz.func39 Tryz.ntmps39 fun w hS=> ?_
  refine zsr<|zla (xbx (cs:= [_,_,_,_]) hS) ?_;rintro _ w ⟨g1,rfl,hS⟩
  refine(zP)<|(zP)<|zlt<|zsq<|zbk<|zsr<|(zV (xls 0 ZC hS))<|zlc (xc0 Uo) (YH (p:=p) w (h.below hS.below)) ?_;rintro _ w ⟨rfl,hS'⟩
  replace hS:=hS.cmp hS';clear hS'
  refine(zP)<|(zP)<|zlt<|Ze ?_ ?_<;>intro hc
  ·
   refine zsr<|(zP)<|(zP)<|X9<|zf2 ⟨_,rfl,?_⟩
   exact⟨_,0,fun _=>undef,fun _=>0,fun _ _=>0,fun _=>0,_,rfl,⟨.inl ⟨‹¬p.Ok›,rfl⟩,fun h=>by omega,fun _=>rfl⟩,fun k k0 k1=>by omega,by omega,slh_nil,((hS.sub (.cons _ .slnil)).addnil 2 100 (Zd (fun _=>undef) (fun _=>0))).addrows 3 (fun _=>undef) (fun _=>0) (fun _ _=>0)⟩
  refine zsr<|zlv (xls 0 ZC hS) ?_
  have qs:p.Ok:=by first|assumption|exact Classical.not_not.1 ‹_›
  refine zlc (xc0 ZdZ) (Zbg (p:=p) w (h.below hS.below) qs) ?_;rintro _ w ⟨rfl,hS'⟩
  replace hS:=hS.cmp hS';clear hS'
  refine(zP)<|zlt<|Ze ?_ ?_<;>intro hc
  ·
   refine zsr<|(zP)<|(zP)<|X9<|zf2 ⟨_,rfl,?_⟩
   exact⟨_,0,fun _=>undef,fun _=>0,fun _ _=>0,fun _=>0,_,rfl,⟨.inr (.inl ⟨qs,by omega,rfl⟩),fun h=>by omega,fun _=>rfl⟩,fun k k0 k1=>by omega,by omega,slh_nil,((hS.sub (.cons _ .slnil)).addnil 2 100 (Zd (fun _=>undef) (fun _=>0))).addrows 3 (fun _=>undef) (fun _=>0) (fun _ _=>0)⟩
  refine zsk<|zbn<|ztn<|zsr<|(zP)<|zx5<|(zP)<|zx6 ?_
  have yy:=qs.m1;have xc:=qs.m2;have hpd:=qs.d;have hs1:=qs.s1;have hs2:=qs.s2;have hk1:=qs.k1;have hk2:=qs.k2
  have zB:psum (fun _=>1) p.D p.m.toNat<=1000:=by omega
  replace hS:=hS.addnil 2 100 (Zd (fun _=>Value.slice none 0 0) (fun _=>0))
  replace hS:=hS.addrows 3 (fun _=>Value.slice none 0 0) (fun _=>0) (fun _ _=>0)
  have yw:=fun k (k0:0<=k) (k1:k<0)=>hS.slhIn 2 rfl k0 k1
  refine zlp (fun mm M w=>∃(nB:Int) (wB:Int->Value) (lB:Int->Int) (gB:Int->Int->Int) (cB:Int->Int) (i:Int) (xB:Value),mm=((p.m-i).toNat)/\(0<=i)/\(i<=p.m)/\(0<=nB)/\(plL nB (fun _=>p.m) gB (WG p gB)=Yh p.m (p.stock+p.kerf) (szP p) (pcsTo p.D i 0))/\(∀k,0<=k->k<nB->lB k=p.m/\cB k=1)/\(∀x,(wB x).oneCell'=true)/\(Slh xB nB)/\M= [(1,.pointer (some ⟨g1,0,none⟩)),(2,.slice none 0 0),(3,.int .i64 0),(4,xB),(5,.int .i64 i)]/\Sat w0 w [.blk g1 [vL,vD,.int .i64 p.stock,.int .i64 p.kerf],.own xB 2 100 nB (Zd wB cB),.sem (Frame.rows 3 nB wB lB gB)]) ⟨0,(fun _=>Value.slice none 0 0),(fun _=>0),(fun _ _=>0),(fun _=>0),0,(.slice none 0 0),rfl,(by omega),(by omega),?_,?_,?_,?_,?_,rfl,hS⟩ ?_
  ·
   omega
  ·
   rfl
  ·
   intro k k0 k1;omega
  ·
   intro x;rfl
  ·
   exact slh_nil
  clear hS w
  rintro mm M w ⟨nB,wB,lB,gB,cB,i,xB,rfl,h0,h1,hnB,hF,hlB,qk,hxB,rfl,hS⟩
  have qN:=fun k (k0:0<=k) (k1:k<nB)=>hS.slhIn 2 rfl k0 k1
  refine zx11<|(zP)<|(zV (xfb 0 fd_24_0))<|(zV (xlb 0 pl_22 hS))<|(zV (xln Zb h.L.slh))<|(zP)<|zlt<|Ze ?_ ?_<;>intro hc
  ·
   refine zx3<|(zP)<|zx6 ?_
   have hdi:=X2 qs h0 (by omega:i<p.m)
   refine zlp (fun mm M w=>∃(nB2:Int) (wB2:Int->Value) (lB2:Int->Int) (gB2:Int->Int->Int) (cB2:Int->Int) (n:Int) (xB2:Value),mm=((p.D i-n).toNat)/\(0<=n)/\(n<=p.D i)/\(0<=nB2)/\(plL nB2 (fun _=>p.m) gB2 (WG p gB2)=Yh p.m (p.stock+p.kerf) (szP p) (pcsTo p.D i n))/\(∀k,0<=k->k<nB2->lB2 k=p.m/\cB2 k=1)/\(∀x,(wB2 x).oneCell'=true)/\(Slh xB2 nB2)/\M= [(1,.pointer (some ⟨g1,0,none⟩)),(2,.slice none 0 0),(3,.int .i64 0),(4,xB2),(5,.int .i64 i),(6,.int .i64 n)]/\Sat w0 w [.blk g1 [vL,vD,.int .i64 p.stock,.int .i64 p.kerf],.own xB2 2 100 nB2 (Zd wB2 cB2),.sem (Frame.rows 3 nB2 wB2 lB2 gB2)]) ⟨nB,wB,lB,gB,cB,0,xB,rfl,(by omega),(by omega),?_,?_,?_,?_,?_,rfl,hS⟩ ?_
   ·
    exact hnB
   ·
    exact hF
   ·
    exact hlB
   ·
    exact qk
   ·
    exact hxB
   clear hS w
   rintro mm M w ⟨nB2,wB2,lB2,gB2,cB2,n,xB2,rfl,n0,n1,bq,hF2,zE,x9,yU,rfl,hS⟩
   have xe:=fun k (k0:0<=k) (k1:k<nB2)=>hS.slhIn 2 rfl k0 k1
   refine zx11<|(zP)<|(zV (xfb 1 fd_24_1))<|(zV (xlb 0 pl_22 hS))<|(zP)<|(zV (xix (kk:=i) Zb h.D.slh))<|zlv (xlr (u:= .int .i64 (p.D i)) pl_3 (h.D.below hS.below)) ?_
   have hbv:=h.iD i
   refine(zP)<|zlt<|Ze ?_ ?_<;>intro hc
   ·
    refine zx3<|(zP)<|zlt<|zsq<|zbk ?_
    obtain⟨gX,hrg⟩:=ZbR qs yU hF2 h0 (by omega) n0 (fun _=>by omega) (fun _=>by omega) zB
    refine zlp (fun mm M w=>∃(g3:Int->Int->Int) (at7:Int),mm=((nB2-at7).toNat)/\(0<=at7)/\(at7<=nB2)/\(∀k,0<=k->k<nB2->∀j,0<=j->j<p.m->g3 k j=gB2 k j)/\(∀k,0<=k->k<at7->¬szP p i<=WG p gB2 k)/\M= [(1,.pointer (some ⟨g1,0,none⟩)),(2,.slice none 0 0),(3,.int .i64 0),(4,xB2),(5,.int .i64 i),(6,.int .i64 n),(7,.int .i64 at7)]/\Sat w0 w [.blk g1 [vL,vD,.int .i64 p.stock,.int .i64 p.kerf],.own xB2 2 100 nB2 (Zd wB2 cB2),.sem (Frame.rows 3 nB2 wB2 lB2 g3)]) ⟨gB2,0,rfl,(by omega),(by omega),?_,?_,rfl,hS⟩ ?_
    ·
     exact fun _ _ _ _ _ _=>rfl
    ·
     intro k k0 k1;omega
    clear hS w
    rintro mm M w ⟨g3,at7,rfl,at0,at1,hg3,hno,rfl,hS⟩
    refine zx11<|(zP)<|(zP)<|(zV (xln Zv yU))<|(zP)<|zlt<|Ze ?_ ?_<;>intro hc
    ·
     refine zx3<|(zP)<|(zP)<|(zV (xix (kk:=2*at7) Zv yU))<|(zV (xfc (kk:=2*at7) Yp yU))<|zlv (xlr (u:=(wB2 at7)) pl_22 (hS.rowN 1 rfl) (e:=(Yu wB2 cB2 (by omega)))) ?_
     have hl7:=(zE at7 at0 (by omega)).1
     have hg7:=hg3 at7 at0 (by omega) i h0 (by omega)
     have hr7:=hrg at7 at0 (by omega) i h0 (by omega)
     have hu4:=Zko hg3 at0 (by omega) h0 (by omega)
     have he7:=(hu4 at7 at0 (by omega) i h0 (by omega)).trans (if_pos ⟨rfl,rfl⟩)
     refine(zP)<|(zV (xix (kk:=i) Zb (xe at7 (by omega) (by omega))))<|(zV (xlr (u:= .int .i64 (g3 at7 i)) pl_3 (hS.rowIn (k:=at7) 2 rfl (by omega) (by omega))))<|(zV (Zf (r:=(g3 at7 i)+1)))<|(zV (xix (kk:=i) Zb (xe at7 (by omega) (by omega))))<|zle (xsr 2 pl_3 hS rfl) ?_;clear hS;rintro w hS
     refine zlt<|zsq<|zsq<|zdst [0,1,2] [0,1,2] 1000 mx_ hS ?_;clear hS;intro w hS
     refine(zDl 0 (fun w hS=>(xls 0 ZC hS)))<|(zDw 1 xmv)<|(zDw 2 xmv)<|(zDw 3 (xix (kk:=2*at7) Zv yU))<|(zDw 4 (xfc (kk:=2*at7) Yp yU))<|(zDl 5 (fun w hS=>(xlr (u:=(wB2 at7)) pl_22 (hS.rowN 1 rfl) (e:=(Yu wB2 cB2 (by omega))))))<|zdc 6 (xc0 ZdY) (Zbi (p:=p) w (h.below hS.below) (hS.rowIn (k:=at7) 2 rfl (by omega) (by omega))) ?_;rintro _ w ⟨rfl,hS'⟩
     replace hS:=hS.cmp hS';clear hS'
     refine⟨⟨fun _=>hS,hS⟩,?_⟩
     refine zdd<|ztn ?_
     refine Ze ?_ ?_<;>intro hc
     ·
      refine zxt<|ztx<|zbm<|ztx<|ztx<|zbh<|ztn<|zsr ?_
      refine(zP)<|(zP)<|(zV (xln Zv yU))<|(zV (xkf YO))<|zlt<|zcf<|zsk<|zbn<|ztn<|zrg ?_
      refine(zP)<|(zV (Zf (r:=n+1)))<|(zP)<|zln<|zlq ⟨nB2,wB2,lB2,upd g3 at7 (upd (g3 at7) i ((g3 at7 i)+1)),cB2,n+1,xB2,rfl,(by omega),(by omega),?_,?_,?_,?_,?_,rfl,hS⟩
      ·
       omega
      ·
       rw [W9 _ n0]
       first
       |exact ZdA qs hF2 bq at0 (by omega) h0 (by omega) hu4 ((U9 qs (zE at7 at0 (by omega)).1 (fun k k0 k1 j j0 j1=>(hrg k k0 k1 j j0 j1).1) at0 (by omega) h0 (by omega) hu4).1 ‹FitsP p _ _›) hno
       |exact ZbS qs hF2 bq h0 (by omega) hg3 (fun k k0 k1=>hno k k0 (by omega))
      ·
       first|exact zE|(intro k k0 k1;by_cases e:k<nB2;(rw [Zs e,Zl e];exact zE k k0 e);(rw [Zr e,Zk e];exact⟨rfl,rfl⟩))
      ·
       first|exact x9|exact XO x9 ‹Slh _ _›.one
      ·
       exact yU
     refine zsk<|ztn<|zrg<|(zP)<|(zP)<|(zV (xix (kk:=2*at7) Zv yU))<|(zV (xfc (kk:=2*at7) Yp yU))<|(zV (xlr (u:=(wB2 at7)) pl_22 (hS.rowN 1 rfl) (e:=(Yu wB2 cB2 (by omega)))))<|(zP)<|(zV (xix (kk:=i) Zb (xe at7 (by omega) (by omega))))<|(zV (xlr (u:= .int .i64 ((upd g3 at7 (upd (g3 at7) i ((g3 at7 i)+1))) at7 i)) pl_3 (hS.rowIn (k:=at7) 2 rfl (by omega) (by omega))))<|(zV (ZD (r:=((upd g3 at7 (upd (g3 at7) i ((g3 at7 i)+1))) at7 i)-1)))<|(zV (xix (kk:=i) Zb (xe at7 (by omega) (by omega))))<|zle (xsr 2 pl_3 hS rfl) ?_;clear hS;rintro w hS
     refine zx10<|(zP)<|(zV (Zf (r:=at7+1)))<|(zP)<|zln<|zlq ⟨upd (upd g3 at7 (upd (g3 at7) i ((g3 at7 i)+1))) at7 (upd ((upd g3 at7 (upd (g3 at7) i ((g3 at7 i)+1))) at7) i (((upd g3 at7 (upd (g3 at7) i ((g3 at7 i)+1))) at7 i)-1)),at7+1,rfl,(by omega),(by omega),?_,?_,rfl,hS⟩
     ·
      exact Zkn hg3 (by omega)
     ·
      intro k k0 k1;rcases Int.lt_or_eq_of_le (show k<=at7 by omega) with h9|h9
      · exact hno k k0 h9
      · rw [h9];exact fun hh=>absurd ((U9 qs (zE at7 at0 (by omega)).1 (fun k k0 k1 j j0 j1=>(hrg k k0 k1 j j0 j1).1) at0 (by omega) h0 (by omega) hu4).2 hh) ‹_›
    refine zx8<|(zP)<|(zP)<|(zV (xln Zv yU))<|(zV (xkt YO))<|zlt<|zct<|zsr ?_
    refine(zV (xfb 0 fd_24_0))<|(zV (xlb 0 pl_22 hS))<|(zV (xln Zb h.L.slh))<|zla (xmk Zb Zn hS) ?_;rintro v1 w ⟨hS,hv1⟩
    refine(zP)<|zlz<|(zP)<|(zP)<|(zV (xix (kk:=i) Zb hv1))<|zle (xso 3 pl_3 hS (ZE _ _ _)) ?_;clear hS;rintro w hS
    refine zlt<|zrg<|(zP)<|(zP)<|zlv (xany (v:= .agg #[v1,.int .i64 1]) (hr:=by obtain⟨_,_,_,_,rfl,_⟩:=hv1;kernel_rfl)) ?_
    refine zla (xli (n:=1) (len:=1) (pv:= [(0,.agg #[v1,.int .i64 1])]) (cs:= [v1,.int .i64 1]) (c:=Zd (fun _=>v1) (fun _=>1)) Zv Yq hS (hf:=by obtain⟨_,_,_,_,rfl,_⟩:=hv1;kernel_rfl)) ?_;rintro v2 w ⟨hS,hv2⟩
    refine zla (xap 1 (r:=nB2+1) Zv Yq hS (hS.rowN 4 rfl) (Yb _ _ _ _ _) (h1:=fun k _ _=>ZG (fun _=>hv1.one) k)) ?_;rintro v3 w ⟨hS,hv3⟩
    replace hS:=Sat.merge (l1:= [_,_]) (l2:= []) (l3:= [_]) hS (by omega)
    have cU:=fun k (k0:0<=k) (k1:k<nB2+1)=>hS.slhIn 2 rfl k0 k1
    refine(zP)<|zx10<|(zP)<|(zV (Zf (r:=n+1)))<|(zP)<|zln<|zlq ⟨nB2+1,gsn wB2 nB2 v1,gsn lB2 nB2 p.m,gsn g3 nB2 (upd (fun _=>0) i 1),(snoc cB2 nB2 1),n+1,v3,rfl,(by omega),(by omega),?_,?_,?_,?_,?_,rfl,hS.pk [0,1,2]⟩
    ·
     omega
    ·
     rw [W9 _ n0]
     first
     |exact ZdA qs hF2 bq at0 (by omega) h0 (by omega) hu4 ((U9 qs (zE at7 at0 (by omega)).1 (fun k k0 k1 j j0 j1=>(hrg k k0 k1 j j0 j1).1) at0 (by omega) h0 (by omega) hu4).1 ‹FitsP p _ _›) hno
     |exact ZbS qs hF2 bq h0 (by omega) hg3 (fun k k0 k1=>hno k k0 (by omega))
    ·
     first|exact zE|(intro k k0 k1;by_cases e:k<nB2;(rw [Zs e,Zl e];exact zE k k0 e);(rw [Zr e,Zk e];exact⟨rfl,rfl⟩))
    ·
     first|exact x9|exact XO x9 ‹Slh _ _›.one
    ·
     exact hv3
   refine zx21<|(zP)<|(zV (Zf (r:=i+1)))<|(zP)<|zln<|zlq ⟨nB2,wB2,lB2,gB2,cB2,i+1,xB2,rfl,(by omega),(by omega),?_,?_,?_,?_,?_,rfl,hS⟩
   ·
    exact bq
   ·
    rw [UY p.D h0 (by rw [show p.D i=n by omega])];exact hF2
   ·
    exact zE
   ·
    exact x9
   ·
    exact yU
  refine zx8<|zlv xmv ?_
  have gY:=(ZbR qs hxB hF h0 (by omega) (by omega) (fun _=>by have:=X2 qs h0 (by omega:i<p.m);omega) (fun _=>rfl) zB).1
  refine zlc (xc0 ZdX) (R9 (u:=nB) (pv:=wB) (ln:=lB) (pt:=gB) (cnt:=cB) w (⟨(hS.rowN 1 rfl),fun k k0 k1=>hS.rowIn 2 rfl k0 k1,fun k k0 k1=>hS.roomIn 2 rfl k0 k1⟩:VAt _ xB nB wB lB gB cB) (by omega) (fun k k0 k1=>by have h9:=(hlB k k0 k1).1;omega) (fun k k0 k1=>by have h9:=(hlB k k0 k1).2;omega)) ?_;rintro xm w ⟨_,qo,qT,qK,qH,qE,rfl,qY,xA,zw,xk,q9,hS'⟩
  replace hS:=(hS.comp hS').n5;clear hS'
  have yx:=fun k (k0:0<=k) (k1:k<qo)=>hS.slhIn 4 rfl k0 k1
  refine(zP)<|(zP)<|zx1<|zf2 ⟨_,rfl,?_⟩
  have hiM:i=p.m:=by omega
  rw [hiM] at hF
  have hLL:plL nB lB gB cB=VZ (Yh p.m (p.stock+p.kerf) (szP p) (pcsTo p.D p.m 0)):=by
    rw [<-hF,KM];exact WO fun k k0 k1=>⟨(hlB k k0 k1).1,(hlB k k0 k1).2,fun _ _ _=>rfl⟩
  rw [hLL] at qY
  exact⟨_,_,_,_,_,_,0,rfl,⟨.inr (.inr ⟨qs,zB,rfl⟩),fun _=>qY,fun h=>absurd rfl h⟩,fun k k0 k1=>by have:=xk k k0 k1;omega,by omega,q9,hS.pk [3,4]⟩
end Go.Proofs.YtopmifmfecfaaaaGreat
namespace Go.Proofs.YtopmifmfecfaaaaGreat
open Go Go.RowKit Go.Proofs.Gw
variable {u:Int} {cnt ln:Int->Int} {pt:Int->Int->Int} {pv:Int->Value} {vD vL vV:Value}
theorem Tg:Z0 Tryz.prog 24=some (.agg #[.slice none 0 0,.slice none 0 0,.int .i64 0,.int .i64 0],4,64):=by kernel_rfl
def LeftR(p:Prob)(u:Int)(ln:Int->Int)(pt:Int->Int->Int)(cnt:Int->Int)(q:Prob)(e:Int):Prop:=
  (¬PlanOk p u ln pt cnt/\q=⟨0,fun _=>0,0,fun _=>0,0,0⟩/\e=1)\/(PlanOk p u ln pt cnt/\q=⟨p.m,p.L,p.d,leftF p (Zo u pt cnt),p.stock,p.kerf⟩/\e=0)
theorem LeftR.same{p q q2:Prob}{e e2:Int}(h:LeftR p u ln pt cnt q e)(k:LeftR p u ln pt cnt q2 e2):q=q2/\e=e2:=by
  rcases h with⟨h1,h2,h3⟩|⟨h1,h2,h3⟩<;>rcases k with⟨k1,k2,k3⟩|⟨k1,k2,k3⟩
  · exact⟨by rw [h2,k2],by omega⟩
  · exact absurd k1 h1
  · exact absurd h1 k1
  · exact⟨by rw [h2,k2],by omega⟩
theorem Kb{p:Prob}(w0:World)(hV:VAt w0 vV u pv ln pt cnt)(h:PAt w0 vL vD p):
    Calls Tryz.prog 40 [.agg #[vL,vD,.int .i64 p.stock,.int .i64 p.kerf],vV].toArray w0 fun e w=>∃v,e= .returned v/\∃vl vd q e,v= .tuple #[.agg #[vl,vd,.int .i64 (Prob.stock q),.int .i64 (Prob.kerf q)],.int .i64 e]/\LeftR p u ln pt cnt q e/\Slh vl q.m/\Slh vd q.d/\Sat w0 w [.own vl 1 3 q.m (ints q.L),.own vd 1 3 q.d (ints q.D)]:=by
  have hm:=h.L.slh.n0;have hm1:=h.L.slh.n1;have hd:=h.D.slh.n0;have hd1:=h.D.slh.n1;have hs:=h.is;have hk:=h.ik
  have hu:=hV.row.slh.n0;have hu1:=hV.row.slh.n1
  refine Zm Tryz.func40 Tryz.ntmps40 fun w hS=> ?_
  refine zsr<|zla (xbx (cs:= [_,_,_,_]) hS) ?_;rintro _ w ⟨g1,rfl,hS⟩
  refine zla (xal (cs:= [_,_,_,_]) Zak hS) ?_;rintro _ w ⟨g2,rfl,hS⟩
  refine(zP)<|zlz<|(zV (xls 0 st_35 hS))<|(zP)<|zlc (xc0 Zaq) (VK (u:=u) (pv:=pv) (ln:=ln) (pt:=pt) (cnt:=cnt) (p:=p) w (hV.below hS.below) (h.below hS.below)) ?_;rintro _ w ⟨qh,qd,qb,xT,rfl,qm,qe,hS'⟩
  replace hS:=(hS.comp hS').n3;clear hS'
  refine zs5 ?_
  refine zx5<|(zP)<|(zP)<|zlt<|Ze ?_ ?_<;>intro hc
  ·
   refine zsr<|(zV (xany (v:= .agg #[.slice none 0 0,.slice none 0 0,.int .i64 0,.int .i64 0])))<|(zP)<|zle (xsw 1 st_35 hS) ?_;clear hS;rintro w hS
   refine(zP)<|zx14<|ZW 1 st_35 hS ⟨_,rfl,?_⟩
   have hmd:¬PlanOk p u ln pt cnt/\xT=1:=by rcases qm with⟨q1,_,q3⟩|⟨_,_,_,q4⟩;exact⟨q1,q3⟩;omega
   exact⟨_,_,⟨0,fun _=>0,0,fun _=>0,0,0⟩,_,rfl,.inl ⟨hmd.1,rfl,by omega⟩,slh_nil,slh_nil,((hS.sub (.cons _ (.cons _ (.cons _ .slnil)))).addnil 1 3 (ints fun _=>0)).addnil 1 3 (ints fun _=>0)⟩
  refine Z7<|zlv (xls 0 st_35 hS) ?_
  obtain⟨qf,zY,xW⟩:PlanOk p u ln pt cnt/\qd=p.m/\qb=Zo u pt cnt:=by rcases qm with⟨_,_,q3⟩|⟨q1,q2,q3,_⟩;omega;exact⟨q1,q2,q3⟩
  have qg:=qf.1
  have yy:=qg.m1;have xc:=qg.m2;have hpd:=qg.d;have hu3:=qf.2.1
  have yI:∀k,0<=k->k<p.m->0<=qb k/\qb k<=2000000000:=fun k k0 k1=>by rw [xW];have h9:=Yj qf.2.2 hu (Int.le_refl _) k0 k1;omega
  have yA:=fun k (k0:0<=k) (k1:k<p.m)=>(yI k k0 k1).1
  refine(zP)<|zlc (xc0 Zd0) (Zbh (p:=p) (f:=qb) w (h.below hS.below) qg (zY▸(hS.rowN 2 rfl)) yI) ?_;rintro _ w ⟨xQ,qP,rfl,x4,qU,hS'⟩
  replace hS:=(hS.comp hS').n5;clear hS'
  refine zle (xsw 1 st_35 hS (hd:=(Za x4.one (Za qU.one (Za rfl (Za rfl Zg)))))) ?_;clear hS;rintro w hS
  refine(zP)<|zx1<|ZW 1 st_35 hS ⟨_,rfl,?_⟩
  rw [xW] at hS
  have zn:=qU
  exact⟨_,_,⟨p.m,p.L,p.d,leftF p (Zo u pt cnt),p.stock,p.kerf⟩,0,rfl,.inr ⟨qf,rfl,rfl⟩,x4,zn,hS.pk [3,4]⟩
theorem Zb7{p:Prob}(w0:World)(hV:VAt w0 vV u pv ln pt cnt)(h:PAt w0 vL vD p):
    Calls Tryz.prog 42 [.agg #[vL,vD,.int .i64 p.stock,.int .i64 p.kerf],vV].toArray w0 fun e w=>∃v,e= .returned v/\∃vl vd q e,v= .tuple #[.agg #[vl,vd,.int .i64 (Prob.stock q),.int .i64 (Prob.kerf q)],.int .i64 e]/\LeftR p u ln pt cnt q e/\Slh vl q.m/\Slh vd q.d/\Sat w0 w [.own vl 1 3 q.m (ints q.L),.own vd 1 3 q.d (ints q.D)]:=by
  have hm:=h.L.slh.n0;have hm1:=h.L.slh.n1;have hd:=h.D.slh.n0;have hd1:=h.D.slh.n1;have hs:=h.is;have hk:=h.ik
  have hu:=hV.row.slh.n0;have hu1:=hV.row.slh.n1
  refine Zm Tryz.func42 Tryz.ntmps42 fun w hS=> ?_
  refine zsr<|zla (xbx (cs:= [_,_,_,_]) hS) ?_;rintro _ w ⟨g1,rfl,hS⟩
  refine zla (xal (cs:= [_,_,_,_]) Tg hS) ?_;rintro _ w ⟨g2,rfl,hS⟩
  refine(zP)<|zlz<|(zV (xls 0 ZC hS))<|(zP)<|zlc (xc0 Zd1) (R8 (u:=u) (pv:=pv) (ln:=ln) (pt:=pt) (cnt:=cnt) (p:=p) w (hV.below hS.below) (h.below hS.below)) ?_;rintro _ w ⟨qh,qd,qb,xT,rfl,qm,qe,hS'⟩
  replace hS:=(hS.comp hS').n3;clear hS'
  refine zs5 ?_
  refine zx5<|(zP)<|(zP)<|zlt<|Ze ?_ ?_<;>intro hc
  ·
   refine zsr<|(zV (xany (v:= .agg #[.slice none 0 0,.slice none 0 0,.int .i64 0,.int .i64 0])))<|(zP)<|zle (xsw 1 ZC hS) ?_;clear hS;rintro w hS
   refine(zP)<|zx14<|ZW 1 ZC hS ⟨_,rfl,?_⟩
   have hmd:¬PlanOk p u ln pt cnt/\xT=1:=by rcases qm with⟨q1,_,q3⟩|⟨_,_,_,q4⟩;exact⟨q1,q3⟩;omega
   exact⟨_,_,⟨0,fun _=>0,0,fun _=>0,0,0⟩,_,rfl,.inl ⟨hmd.1,rfl,by omega⟩,slh_nil,slh_nil,((hS.sub (.cons _ (.cons _ (.cons _ .slnil)))).addnil 1 3 (ints fun _=>0)).addnil 1 3 (ints fun _=>0)⟩
  refine zsk<|ztn<|zsq<|zdst [0,1,2] [0,1,2] 10 mx_ hS ?_;clear hS;intro w hS
  refine(zDw 1 (xfb 0 fd_24_0))<|zdla 2 (fun w hS=>(xlb 0 pl_22 hS)) ?_
  obtain⟨qf,zY,xW⟩:PlanOk p u ln pt cnt/\qd=p.m/\qb=Zo u pt cnt:=by rcases qm with⟨_,_,q3⟩|⟨q1,q2,q3,_⟩;omega;exact⟨q1,q2,q3⟩
  have qg:=qf.1
  have yy:=qg.m1;have xc:=qg.m2;have hpd:=qg.d;have hu3:=qf.2.1
  have yI:∀k,0<=k->k<p.m->0<=qb k/\qb k<=2000000000:=fun k k0 k1=>by rw [xW];have h9:=Yj qf.2.2 hu (Int.le_refl _) k0 k1;omega
  have yA:=fun k (k0:0<=k) (k1:k<p.m)=>(yI k k0 k1).1
  refine(zDw 4 (xfb 2 fd_24_2))<|(zDl 5 (fun w hS=>(xlb 0 pl_3 hS)))<|(zDw 6 (xfb 3 fd_24_3))<|(zDl 7 (fun w hS=>(xlb 0 pl_3 hS)))<|YS (r:= [0,9]) ((ZO ?_ (ZO ?_ YR)))
  ·
   refine zka (xl0 (c:=ints p.L) Zb hS) ?_;rintro v1 w ⟨hS,hv1⟩
   refine⟨⟨fun _=>hS.pk [0,1,2],hS.pk [0,1,2]⟩,?_⟩
   refine YS (r:= [3,9]) ((ZO ?_ (ZO ?_ YR)))
   ·
    refine zka (xap 3 (r:=p.m) (f:=ints p.L) Zb Zn hS (h.L.below hS.below) (by exact XG _ _)) ?_;rintro v2 w ⟨hS,hv2⟩
    refine⟨⟨fun _=>hS.pk [0,1,2],hS.pk [0,1,2]⟩,?_⟩
    refine zDrv 8 (xany (v:= .agg #[v2,.slice none 0 0,.int .i64 p.stock,.int .i64 p.kerf]) (hr:=by obtain⟨_,_,_,_,rfl,_⟩:=hv2;kernel_rfl)) ?_
    refine zda 9 (xal (cs:= [_,_,_,_]) Tg hS) ?_;rintro _ w ⟨g3,rfl,hS⟩
    refine⟨⟨fun _=>hS.pk [0,1,2],hS.pk [0,1,2]⟩,?_⟩
    refine zde 10 (xsw 4 ZC hS (hd:=(Za hv2.one (Za rfl (Za rfl (Za rfl Zg)))))) ?_;clear hS;rintro w hS
    refine⟨⟨fun h=>absurd h (by decide),hS.pk [0,1,2]⟩,?_⟩
    refine zdd<|ztn<|zsq<|zsr ?_
    refine(zP)<|zx6 ?_
    replace hS:=hS.addnil 1 3 (ints (fun _=>0))
    refine zlp (fun mm M w=>∃(i:Int) (vb9:Value) (f9:Int->Int),mm=((p.m-i).toNat)/\(0<=i)/\(i<=p.m)/\(∀k,0<=k->k<i->f9 k=leftF p (Zo u pt cnt) k)/\(Slh vb9 i)/\M= [(2,.pointer (some ⟨g1,0,none⟩)),(4,.pointer (some ⟨g2,0,none⟩)),(5,.int .i64 0),(6,qh),(8,.pointer (some ⟨g3,0,none⟩)),(9,.int .i64 i)]/\Sat w0 w [.blk g1 [vL,vD,.int .i64 p.stock,.int .i64 p.kerf],.blk g2 [.slice none 0 0,.slice none 0 0,.int .i64 0,.int .i64 0],.own qh 1 3 qd (ints qb),.own v2 1 3 p.m (ints p.L),.blk g3 [v2,vb9,.int .i64 p.stock,.int .i64 p.kerf],.own vb9 1 3 i (ints f9)]) ⟨0,(.slice none 0 0),(fun _=>0),rfl,(by omega),(by omega),?_,?_,rfl,hS⟩ ?_
    ·
     intro k k0 k1;omega
    ·
     exact slh_nil
    clear hS w
    rintro mm M w ⟨i,vb9,f9,rfl,h0,h1,hf9,zT,rfl,hS⟩
    refine zx11<|(zP)<|(zP)<|(zV (xln Zb qe))<|(zP)<|zlt<|Ze ?_ ?_<;>intro hc
    ·
     refine zx38<|zdst [0,1,2,4] [0,1,2] 16 mx_ hS ?_;clear hS;intro w hS
     refine(zDw 0 (xfb 1 fd_24_1))<|zdl 1 (fun w hS=>(xlb 3 pl_22 hS)) ?_
     refine(zDw 2 (xfb 1 fd_24_1))<|zdla 3 (fun w hS=>(xlb 0 pl_22 hS)) ?_
     have hfi:=yI i h0 (by omega)
     have hdi:=X2 qg h0 (by omega:i<p.m)
     refine(zDw 4 xmv)<|(zDw 5 (xix (kk:=i) Zb h.D.slh))<|zdla 6 (fun w hS=>(xlr (u:= .int .i64 (p.D i)) pl_3 (h.D.below hS.below))) ?_
     have hbv:=h.iD i
     refine(zDw 7 xmv)<|(zDw 8 xmv)<|(zDw 9 (xix (kk:=i) Zb qe))<|(zDl 10 (fun w hS=>(xlr (u:= .int .i64 (qb i)) pl_3 (hS.rowN 2 rfl))))<|(zDw 11 (ZD (r:=p.D i-(qb i))))<|(zDw 12 (ZaI (r:=(max 0 (p.D i-(qb i))))))<|zda 13 (xli (n:=1) (len:=1) (pv:= [(0,.int .i64 (max 0 (p.D i-(qb i))))]) (cs:= [.int .i64 (max 0 (p.D i-(qb i)))]) (c:=ints (fun _=>(max 0 (p.D i-(qb i))))) Zb Zn hS) ?_;rintro v3 w ⟨hS,hv3⟩
     refine⟨⟨fun _=>hS.pk [0,1,2,4],hS.pk [0,1,2]⟩,?_⟩
     refine zda 14 (xap 5 (r:=i+1) Zb Zn hS (hS.rowN 6 rfl) (Z1 _ _ _)) ?_;rintro v4 w ⟨hS,hv4⟩
     refine⟨⟨fun _=>hS.pk [0,1,2,4],hS.pk [0,1,2]⟩,?_⟩
     refine(zDw 15 (xfb 1 fd_24_1))<|zde 16 (xsb 4 pl_22 hS (hv:=hv4.one)) ?_;clear hS;rintro w hS
     refine⟨⟨fun h=>absurd h (by decide),hS.pk [0,1,2]⟩,?_⟩
     refine zdd<|zbn<|ztn<|zrg ?_
     refine(zP)<|(zV (Zf (r:=i+1)))<|(zP)<|zln<|zlq ⟨i+1,v4,(snoc f9 i (max 0 (p.D i-(qb i)))),rfl,(by omega),(by omega),?_,?_,rfl,hS.pk [0,1,2,3,4,5]⟩
     ·
      exact US hf9 (by unfold leftF;rw [if_pos ⟨h0,by omega⟩,<-xW])
     ·
      exact hv4
    refine zx8<|(zV (xls 4 ZC hS))<|zle (xsw 1 ZC hS (hd:=(Za hv2.one (Za zT.one (Za rfl (Za rfl Zg)))))) ?_;clear hS;rintro w hS
    refine(zP)<|zx1<|ZW 1 ZC hS ⟨_,rfl,?_⟩
    have hin:i=p.m:=by omega
    replace hS:=hS.recont 5 rfl (d:=ints (leftF p (Zo u pt cnt))) (fun k k0 k1=>congrArg (Value.int .i64) (hf9 k k0 (by omega)))
    have zn:=zT
    rw [show i=p.d by omega] at zn hS
    exact⟨_,_,⟨p.m,p.L,p.d,leftF p (Zo u pt cnt),p.stock,p.kerf⟩,0,rfl,.inr ⟨qf,rfl,rfl⟩,hv2,zn,hS.pk [3,5]⟩
   refine zka (xal (cs:= [_,_,_,_]) Tg hS) ?_;rintro _ w ⟨g3,rfl,hS⟩
   refine⟨⟨fun _=>hS.pk [0,1,2],hS.pk [0,1,2]⟩,?_⟩
   refine zda 3 (xap 3 (r:=p.m) (f:=ints p.L) Zb Zn hS (h.L.below hS.below) (by exact XG _ _)) ?_;rintro v2 w ⟨hS,hv2⟩
   refine⟨⟨fun _=>hS.pk [0,1,2],hS.pk [0,1,2]⟩,?_⟩
   refine zDrv 8 (xany (v:= .agg #[v2,.slice none 0 0,.int .i64 p.stock,.int .i64 p.kerf]) (hr:=by obtain⟨_,_,_,_,rfl,_⟩:=hv2;kernel_rfl)) ?_
   refine zde 10 (xsw 4 ZC hS (hd:=(Za hv2.one (Za rfl (Za rfl (Za rfl Zg)))))) ?_;clear hS;rintro w hS
   refine⟨⟨fun h=>absurd h (by decide),hS.pk [0,1,2]⟩,?_⟩
   refine zdd<|ztn<|zsq<|zsr ?_
   refine(zP)<|zx6 ?_
   replace hS:=hS.addnil 1 3 (ints (fun _=>0))
   refine zlp (fun mm M w=>∃(i:Int) (vb9:Value) (f9:Int->Int),mm=((p.m-i).toNat)/\(0<=i)/\(i<=p.m)/\(∀k,0<=k->k<i->f9 k=leftF p (Zo u pt cnt) k)/\(Slh vb9 i)/\M= [(2,.pointer (some ⟨g1,0,none⟩)),(4,.pointer (some ⟨g2,0,none⟩)),(5,.int .i64 0),(6,qh),(8,.pointer (some ⟨g3,0,none⟩)),(9,.int .i64 i)]/\Sat w0 w [.blk g1 [vL,vD,.int .i64 p.stock,.int .i64 p.kerf],.blk g2 [.slice none 0 0,.slice none 0 0,.int .i64 0,.int .i64 0],.own qh 1 3 qd (ints qb),.own v2 1 3 p.m (ints p.L),.blk g3 [v2,vb9,.int .i64 p.stock,.int .i64 p.kerf],.own vb9 1 3 i (ints f9)]) ⟨0,(.slice none 0 0),(fun _=>0),rfl,(by omega),(by omega),?_,?_,rfl,hS⟩ ?_
   ·
    intro k k0 k1;omega
   ·
    exact slh_nil
   clear hS w
   rintro mm M w ⟨i,vb9,f9,rfl,h0,h1,hf9,zT,rfl,hS⟩
   refine zx11<|(zP)<|(zP)<|(zV (xln Zb qe))<|(zP)<|zlt<|Ze ?_ ?_<;>intro hc
   ·
    refine zx38<|zdst [0,1,2,4] [0,1,2] 16 mx_ hS ?_;clear hS;intro w hS
    refine(zDw 0 (xfb 1 fd_24_1))<|zdl 1 (fun w hS=>(xlb 3 pl_22 hS)) ?_
    refine(zDw 2 (xfb 1 fd_24_1))<|zdla 3 (fun w hS=>(xlb 0 pl_22 hS)) ?_
    have hfi:=yI i h0 (by omega)
    have hdi:=X2 qg h0 (by omega:i<p.m)
    refine(zDw 4 xmv)<|(zDw 5 (xix (kk:=i) Zb h.D.slh))<|zdla 6 (fun w hS=>(xlr (u:= .int .i64 (p.D i)) pl_3 (h.D.below hS.below))) ?_
    have hbv:=h.iD i
    refine(zDw 7 xmv)<|(zDw 8 xmv)<|(zDw 9 (xix (kk:=i) Zb qe))<|(zDl 10 (fun w hS=>(xlr (u:= .int .i64 (qb i)) pl_3 (hS.rowN 2 rfl))))<|(zDw 11 (ZD (r:=p.D i-(qb i))))<|(zDw 12 (ZaI (r:=(max 0 (p.D i-(qb i))))))<|zda 13 (xli (n:=1) (len:=1) (pv:= [(0,.int .i64 (max 0 (p.D i-(qb i))))]) (cs:= [.int .i64 (max 0 (p.D i-(qb i)))]) (c:=ints (fun _=>(max 0 (p.D i-(qb i))))) Zb Zn hS) ?_;rintro v3 w ⟨hS,hv3⟩
    refine⟨⟨fun _=>hS.pk [0,1,2,4],hS.pk [0,1,2]⟩,?_⟩
    refine zda 14 (xap 5 (r:=i+1) Zb Zn hS (hS.rowN 6 rfl) (Z1 _ _ _)) ?_;rintro v4 w ⟨hS,hv4⟩
    refine⟨⟨fun _=>hS.pk [0,1,2,4],hS.pk [0,1,2]⟩,?_⟩
    refine(zDw 15 (xfb 1 fd_24_1))<|zde 16 (xsb 4 pl_22 hS (hv:=hv4.one)) ?_;clear hS;rintro w hS
    refine⟨⟨fun h=>absurd h (by decide),hS.pk [0,1,2]⟩,?_⟩
    refine zdd<|zbn<|ztn<|zrg ?_
    refine(zP)<|(zV (Zf (r:=i+1)))<|(zP)<|zln<|zlq ⟨i+1,v4,(snoc f9 i (max 0 (p.D i-(qb i)))),rfl,(by omega),(by omega),?_,?_,rfl,hS.pk [0,1,2,3,4,5]⟩
    ·
     exact US hf9 (by unfold leftF;rw [if_pos ⟨h0,by omega⟩,<-xW])
    ·
     exact hv4
   refine zx8<|(zV (xls 4 ZC hS))<|zle (xsw 1 ZC hS (hd:=(Za hv2.one (Za zT.one (Za rfl (Za rfl Zg)))))) ?_;clear hS;rintro w hS
   refine(zP)<|zx1<|ZW 1 ZC hS ⟨_,rfl,?_⟩
   have hin:i=p.m:=by omega
   replace hS:=hS.recont 5 rfl (d:=ints (leftF p (Zo u pt cnt))) (fun k k0 k1=>congrArg (Value.int .i64) (hf9 k k0 (by omega)))
   have zn:=zT
   rw [show i=p.d by omega] at zn hS
   exact⟨_,_,⟨p.m,p.L,p.d,leftF p (Zo u pt cnt),p.stock,p.kerf⟩,0,rfl,.inr ⟨qf,rfl,rfl⟩,hv2,zn,hS.pk [3,5]⟩
  refine zka (xal (cs:= [_,_,_,_]) Tg hS) ?_;rintro _ w ⟨g3,rfl,hS⟩
  refine⟨⟨fun _=>hS.pk [0,1,2],hS.pk [0,1,2]⟩,?_⟩
  refine zda 0 (xl0 (c:=ints p.L) Zb hS) ?_;rintro v1 w ⟨hS,hv1⟩
  refine⟨⟨fun _=>hS.pk [0,1,2],hS.pk [0,1,2]⟩,?_⟩
  refine zda 3 (xap 4 (r:=p.m) (f:=ints p.L) Zb Zn hS (h.L.below hS.below) (by exact XG _ _)) ?_;rintro v2 w ⟨hS,hv2⟩
  refine⟨⟨fun _=>hS.pk [0,1,2],hS.pk [0,1,2]⟩,?_⟩
  refine zDrv 8 (xany (v:= .agg #[v2,.slice none 0 0,.int .i64 p.stock,.int .i64 p.kerf]) (hr:=by obtain⟨_,_,_,_,rfl,_⟩:=hv2;kernel_rfl)) ?_
  refine zde 10 (xsw 3 ZC hS (hd:=(Za hv2.one (Za rfl (Za rfl (Za rfl Zg)))))) ?_;clear hS;rintro w hS
  refine⟨⟨fun h=>absurd h (by decide),hS.pk [0,1,2]⟩,?_⟩
  refine zdd<|ztn<|zsq<|zsr ?_
  refine(zP)<|zx6 ?_
  replace hS:=hS.addnil 1 3 (ints (fun _=>0))
  refine zlp (fun mm M w=>∃(i:Int) (vb9:Value) (f9:Int->Int),mm=((p.m-i).toNat)/\(0<=i)/\(i<=p.m)/\(∀k,0<=k->k<i->f9 k=leftF p (Zo u pt cnt) k)/\(Slh vb9 i)/\M= [(2,.pointer (some ⟨g1,0,none⟩)),(4,.pointer (some ⟨g2,0,none⟩)),(5,.int .i64 0),(6,qh),(8,.pointer (some ⟨g3,0,none⟩)),(9,.int .i64 i)]/\Sat w0 w [.blk g1 [vL,vD,.int .i64 p.stock,.int .i64 p.kerf],.blk g2 [.slice none 0 0,.slice none 0 0,.int .i64 0,.int .i64 0],.own qh 1 3 qd (ints qb),.blk g3 [v2,vb9,.int .i64 p.stock,.int .i64 p.kerf],.own v2 1 3 p.m (ints p.L),.own vb9 1 3 i (ints f9)]) ⟨0,(.slice none 0 0),(fun _=>0),rfl,(by omega),(by omega),?_,?_,rfl,hS⟩ ?_
  ·
   intro k k0 k1;omega
  ·
   exact slh_nil
  clear hS w
  rintro mm M w ⟨i,vb9,f9,rfl,h0,h1,hf9,zT,rfl,hS⟩
  refine zx11<|(zP)<|(zP)<|(zV (xln Zb qe))<|(zP)<|zlt<|Ze ?_ ?_<;>intro hc
  ·
   refine zx38<|zdst [0,1,2,3] [0,1,2] 16 mx_ hS ?_;clear hS;intro w hS
   refine(zDw 0 (xfb 1 fd_24_1))<|zdl 1 (fun w hS=>(xlb 3 pl_22 hS)) ?_
   refine(zDw 2 (xfb 1 fd_24_1))<|zdla 3 (fun w hS=>(xlb 0 pl_22 hS)) ?_
   have hfi:=yI i h0 (by omega)
   have hdi:=X2 qg h0 (by omega:i<p.m)
   refine(zDw 4 xmv)<|(zDw 5 (xix (kk:=i) Zb h.D.slh))<|zdla 6 (fun w hS=>(xlr (u:= .int .i64 (p.D i)) pl_3 (h.D.below hS.below))) ?_
   have hbv:=h.iD i
   refine(zDw 7 xmv)<|(zDw 8 xmv)<|(zDw 9 (xix (kk:=i) Zb qe))<|(zDl 10 (fun w hS=>(xlr (u:= .int .i64 (qb i)) pl_3 (hS.rowN 2 rfl))))<|(zDw 11 (ZD (r:=p.D i-(qb i))))<|(zDw 12 (ZaI (r:=(max 0 (p.D i-(qb i))))))<|zda 13 (xli (n:=1) (len:=1) (pv:= [(0,.int .i64 (max 0 (p.D i-(qb i))))]) (cs:= [.int .i64 (max 0 (p.D i-(qb i)))]) (c:=ints (fun _=>(max 0 (p.D i-(qb i))))) Zb Zn hS) ?_;rintro v3 w ⟨hS,hv3⟩
   refine⟨⟨fun _=>hS.pk [0,1,2,3],hS.pk [0,1,2]⟩,?_⟩
   refine zda 14 (xap 5 (r:=i+1) Zb Zn hS (hS.rowN 6 rfl) (Z1 _ _ _)) ?_;rintro v4 w ⟨hS,hv4⟩
   refine⟨⟨fun _=>hS.pk [0,1,2,3],hS.pk [0,1,2]⟩,?_⟩
   refine(zDw 15 (xfb 1 fd_24_1))<|zde 16 (xsb 3 pl_22 hS (hv:=hv4.one)) ?_;clear hS;rintro w hS
   refine⟨⟨fun h=>absurd h (by decide),hS.pk [0,1,2]⟩,?_⟩
   refine zdd<|zbn<|ztn<|zrg ?_
   refine(zP)<|(zV (Zf (r:=i+1)))<|(zP)<|zln<|zlq ⟨i+1,v4,(snoc f9 i (max 0 (p.D i-(qb i)))),rfl,(by omega),(by omega),?_,?_,rfl,hS.pk [0,1,2,3,4,5]⟩
   ·
    exact US hf9 (by unfold leftF;rw [if_pos ⟨h0,by omega⟩,<-xW])
   ·
    exact hv4
  refine zx8<|(zV (xls 3 ZC hS))<|zle (xsw 1 ZC hS (hd:=(Za hv2.one (Za zT.one (Za rfl (Za rfl Zg)))))) ?_;clear hS;rintro w hS
  refine(zP)<|zx1<|ZW 1 ZC hS ⟨_,rfl,?_⟩
  have hin:i=p.m:=by omega
  replace hS:=hS.recont 5 rfl (d:=ints (leftF p (Zo u pt cnt))) (fun k k0 k1=>congrArg (Value.int .i64) (hf9 k k0 (by omega)))
  have zn:=zT
  rw [show i=p.d by omega] at zn hS
  exact⟨_,_,⟨p.m,p.L,p.d,leftF p (Zo u pt cnt),p.stock,p.kerf⟩,0,rfl,.inr ⟨qf,rfl,rfl⟩,hv2,zn,hS.pk [4,5]⟩
theorem Ts{p:Prob}(w0:World)(hV:VAt w0 vV u pv ln pt cnt)(h:PAt w0 vL vD p)(hp9:PlanOk p u ln pt cnt):
    Calls Tryz.prog 42 [.agg #[vL,vD,.int .i64 p.stock,.int .i64 p.kerf],vV].toArray w0 fun e w=>∃v,e= .returned v/\∃vl vd,v= .tuple #[.agg #[vl,vd,.int .i64 p.stock,.int .i64 p.kerf],.int .i64 0]/\Slh vl p.m/\Slh vd p.d/\Sat w0 w [.own vl 1 3 p.m (ints p.L),.own vd 1 3 p.d (ints (leftF p (Zo u pt cnt)))]:=
  (Zb7 w0 hV h).mono fun e w ⟨v,he,vl,vd,q,e2,hv,hl,h1,h2,h3⟩=>by
    rcases hl with⟨hn,_⟩|⟨_,rfl,rfl⟩
    · exact absurd hp9 hn
    · exact⟨v,he,vl,vd,hv,h1,h2,h3⟩
end Go.Proofs.YtopmifmfecfaaaaGreat
namespace Go.Proofs.YtopmifmfecfaaaaGreat
open Go Go.RowKit Go.Proofs.Gw
theorem Zej:Zc Tryz.prog 109=true:=by kernel_rfl
theorem Zei:Zc Tryz.prog 110=true:=by kernel_rfl
theorem Zeh:Zc Tryz.prog 111=true:=by kernel_rfl
theorem Zd5:Zc Tryz.prog 39=true:=by kernel_rfl
theorem Zd3:Zc Tryz.prog 42=true:=by kernel_rfl
theorem Zc1{w:World}{v v2:Value}{n1 n2:Int}{pv1 pv2:Int->Value}{ln1 ln2 c1 c2:Int->Int}{pt1 pt2:Int->Int->Int}(hr:Row w v 2 (n1+n2) (Zd (cat n1 pv1 pv2) (cat n1 c1 c2)))(h1:∀i,0<=i->i<n1->Row w (pv1 i) 1 (ln1 i) (ints (pt1 i)))(h1r:∀i,0<=i->i<n1->Gw.Y9 (pv1 i))(h2:VAt w v2 n2 pv2 ln2 pt2 c2)(n10:0<=n1):VAt w v (n1+n2) (cat n1 pv1 pv2) (cat n1 ln1 ln2) (cat n1 pt1 pt2) (cat n1 c1 c2):=by
  refine⟨hr,fun i i0 i1=> ?_,fun i i0 i1=> ?_⟩
  · unfold Gw.cat
    by_cases h:i<n1
    · rw [if_pos h,if_pos h,if_pos h];exact h1 i i0 h
    · rw [if_neg h,if_neg h,if_neg h];exact h2.p (i-n1) (by omega) (by omega)
  · unfold Gw.cat
    by_cases h:i<n1
    · rw [if_pos h];exact h1r i i0 h
    · rw [if_neg h];exact h2.room (i-n1) (by omega) (by omega)
theorem Zf6{vL vD:Value}{p:Prob}{vM:Value}{u:Int}{mv:Int->Value}{ml:Int->Int}{mf:Int->Int->Int}{vX vY:Value}{s:So}(w0:World)(h:PAt w0 vL vD p)(hM:MAt w0 vM u mv ml mf)(hX:Row w0 vX 1 s.n (ints s.X))(hY:Row w0 vY 1 s.m (ints s.Y))(xV:s.n<=1000):
    Calls Tryz.prog 75 [.agg #[vL,vD,.int .i64 p.stock,.int .i64 p.kerf],.agg #[vM,vX,vY,.int .i64 s.val,.int .i64 s.den]].toArray w0 fun e w=>∃v,e= .returned v/\∃r n pv ln pt cnt e,v= .tuple #[r,.int .i64 e]/\DownR p u ml mf s (plL n ln pt cnt) e/\(∀k,0<=k->k<n->1<=cnt k/\cnt k<=1000000000)/\n<=1000000/\Slh r n/\Sat w0 w [.own r 2 100 n (Zd pv cnt),.sem (Frame.rows 3 n pv ln pt)]:=by
  have hm:=h.L.slh.n0;have hm1:=h.L.slh.n1;have hd:=h.D.slh.n0;have hd1:=h.D.slh.n1;have hs:=h.is;have hk:=h.ik
  have hu:=hM.row.slh.n0;have hu1:=hM.row.slh.n1;have hn:=hX.slh.n0;have hn1:=hX.slh.n1
  refine Zm Tryz.func75 Tryz.ntmps75 fun w hS=> ?_
  refine zsr<|zla (xbx (cs:= [_,_,_,_]) hS) ?_;rintro _ w ⟨g1,rfl,hS⟩
  refine zla (xbx (cs:= [_,_,_,_,_]) hS) ?_;rintro _ w ⟨g2,rfl,hS⟩
  refine(zP)<|(zP)<|zlt<|zsq<|zbk<|zsr<|(zV (xls 0 ZC hS))<|(zV (xls 1 XZ hS))<|zlc (xc0 Zej) (Zas (p:=p) (u:=u) (ml:=ml) (mf:=mf) (s:=s) w (h.below hS.below) (hM.below hS.below) (hX.below hS.below) (hY.below hS.below) xV) ?_;rintro _ w ⟨rfl,hS'⟩
  replace hS:=hS.cmp hS';clear hS'
  refine(zP)<|(zP)<|zlt<|Ze ?_ ?_<;>intro hc
  ·
   refine zsr<|(zP)<|(zP)<|X9<|zf2 ⟨_,rfl,?_⟩
   exact⟨_,0,fun _=>undef,fun _=>0,fun _ _=>0,fun _=>0,_,rfl,.inl ⟨by omega,rfl,0,fun _=>0,fun _ _=>0,fun _=>0,.inl ⟨‹¬(p.Ok/\_)›,rfl,rfl⟩⟩,fun k k0 k1=>by omega,by omega,slh_nil,((hS.sub (.cons _ (.cons _ .slnil))).addnil 2 100 (Zd (fun _=>undef) (fun _=>0))).addrows 3 (fun _=>undef) (fun _=>0) (fun _ _=>0)⟩
  refine zsr<|zlv (xls 0 ZC hS) ?_
  obtain⟨qg,qq⟩:p.Ok/\WZ p u ml mf s:=by first|assumption|exact Classical.not_not.1 ‹_›
  have qs:=qg
  have yy:=qg.m1;have xc:=qg.m2;have hpd:=qg.d
  refine zlc (xc0 ZdZ) (Zbg (p:=p) w (h.below hS.below) qs) ?_;rintro _ w ⟨rfl,hS'⟩
  replace hS:=hS.cmp hS';clear hS'
  refine(zP)<|zlt<|Ze ?_ ?_<;>intro hc
  ·
   refine zsr<|(zP)<|(zP)<|X9<|zf2 ⟨_,rfl,?_⟩
   exact⟨_,0,fun _=>undef,fun _=>0,fun _ _=>0,fun _=>0,_,rfl,.inl ⟨by omega,rfl,0,fun _=>0,fun _ _=>0,fun _=>0,.inr (.inl ⟨qg,qq,.inr (.inl ⟨qg,by omega,rfl⟩),by omega,rfl⟩)⟩,fun k k0 k1=>by omega,by omega,slh_nil,((hS.sub (.cons _ (.cons _ .slnil))).addnil 2 100 (Zd (fun _=>undef) (fun _=>0))).addrows 3 (fun _=>undef) (fun _=>0) (fun _ _=>0)⟩
  refine zsk<|zbn<|ztn<|zsr<|(zV (xfb 0 fd_38_0))<|(zV (xlb 1 Zu hS))<|(zV (xfb 1 RO))<|zlv (xlp 1 (ds:= [vX,vY,.int .i64 s.val,.int .i64 s.den]) st_36 hS) ?_
  have hml:=fun k k0 k1=>(show ml k<=100000 by have:=(YA (qq.2.2.2.1 k k0 k1).1).1;omega)
  have hun:=qq.2.1
  have hu6:=qq.2.2.1
  refine zlc (xc0 Zei) (Tu (u:=u) (ml:=ml) (mf:=mf) (s:=s) w (hM.below hS.below) (hX.below hS.below) (hY.below hS.below) (by omega) (fun k k0 k1=>by have:=hml k k0 k1;omega)) ?_;rintro _ w ⟨ax,qF,zj,yB,xS,xD,cv,rfl,zf,zA,hS'⟩
  replace hS:=(hS.comp hS').n4;clear hS'
  have bt:=fun k (k0:0<=k) (k1:k<qF)=>hS.slhIn 3 rfl k0 k1
  have hfl:=zf.resolve_left fun hh=>hh.1 ⟨qq.1,qq.2.1.symm⟩
  have hwh:WholeR p u ml mf s qF yB xS xD 0:= .inr (.inr ⟨qg,qq,.inr (.inr ⟨qg,by omega,rfl⟩),rfl,hfl.2.2.1,hfl.2.2.2.1,hfl.2.2.2.2.1,hfl.2.2.2.2.2.1⟩)
  obtain⟨_,_,zB,br,zb,zc⟩:=hwh.ok rfl hu
  have yA:=fun k (k0:0<=k) (k1:k<p.m)=>(Yj zb.2.2 zc (Int.le_refl _) k0 k1).1
  refine zs5 ?_
  refine zlz<|(zV (xls 0 ZC hS))<|(zP)<|zlc (xc0 Zd3) (Ts (u:=qF) (pv:=zj) (ln:=yB) (pt:=xS) (cnt:=xD) (p:=p) w (⟨(hS.rowN 2 rfl),fun k k0 k1=>hS.rowIn 3 rfl k0 k1,fun k k0 k1=>hS.roomIn 3 rfl k0 k1⟩:VAt _ ax qF zj yB xS xD) (h.below hS.below) zb) ?_;rintro _ w ⟨xQ,qP,rfl,x4,qU,hS'⟩
  replace hS:=(hS.comp hS').n6;clear hS'
  refine(zP)<|(zP)<|(zP)<|zla (xal (cs:= [_,_,_,_]) Tg hS) ?_;rintro _ w ⟨g3,rfl,hS⟩
  refine zle (xsw 6 ZC hS (hd:=(Za x4.one (Za qU.one (Za rfl (Za rfl Zg)))))) ?_;clear hS;rintro w hS
  refine(zP)<|zlz<|(zV (xls 6 ZC hS))<|zlc (xc0 Zd5) (Ka (p:=(⟨p.m,p.L,p.d,(leftF p (Zo qF xS xD)),p.stock,p.kerf⟩:Prob)) w (⟨(hS.rowN 4 rfl),(hS.rowN 5 rfl),h.iL,(T0 qg yA),(by(try dsimp only);omega),(by(try dsimp only);omega)⟩:PAt _ _ _ (⟨p.m,p.L,p.d,(leftF p (Zo qF xS xD)),p.stock,p.kerf⟩:Prob))) ?_;rintro _ w ⟨xi,qB,q8,qX,qZ,qS,xE,rfl,qC,ya,zF,qV,hS'⟩
  replace hS:=(hS.comp hS').n9;clear hS'
  have ym:=fun k (k0:0<=k) (k1:k<qB)=>hS.slhIn 8 rfl k0 k1
  have fh:=KS qg yA
  have htl:=WQ qg yA p.m.toNat (by omega)
  have he0:xE=0:=by
    rcases qC.1 with⟨q1,_⟩|⟨_,q2,_⟩|⟨_,_,q3⟩
    · exact absurd fh q1
    · (dsimp only at q2;omega)
    · exact q3
  have d8:=qV.n0
  refine zs5 ?_
  refine zx7<|zdst [0,1,6] [0,1,6] 1000 mx_ hS ?_;clear hS;intro w hS
  refine(zDl 0 (fun w hS=>(xls 0 ZC hS)))<|(zDw 1 xmv)<|(zDw 2 xmv)<|zda 3 (xap 2 (r:=qF+qB) (f:=Zd (cat qF zj q8) (cat qF xD qS)) Zv Yq hS (hS.rowN 7 rfl) (by exact Up _ _ _ _ _) (h1:=(Ud (fun k k0 k1=>(ym k k0 k1).one)))) ?_;rintro v1 w ⟨hS,hv1⟩
  refine⟨⟨fun _=>hS.pk [0,1,6],hS.pk [0,1,6]⟩,?_⟩
  refine zdc 4 (xc0 Zeh) (Zb6 (u:=(qF+qB)) (pv:=(cat qF zj q8)) (ln:=(cat qF yB qX)) (pt:=(cat qF xS qZ)) (cnt:=(cat qF xD qS)) (p:=p) w (Zc1 (hS.rowN 2 rfl) (fun k k0 k1=>hS.rowIn 3 rfl k0 k1) (fun k k0 k1=>hS.roomIn 3 rfl k0 k1) (⟨(hS.rowN 7 rfl),fun k k0 k1=>hS.rowIn 8 rfl k0 k1,fun k k0 k1=>hS.roomIn 8 rfl k0 k1⟩:VAt _ xi qB q8 qX qZ qS) (by omega)) (h.below hS.below)) ?_;rintro _ w ⟨aO,y5,aS,aY,bC,bH,bG,rfl,yj,yl,yk,yh,hS'⟩
  replace hS:=(hS.comp hS').n11;clear hS'
  have al:=fun k (k0:0<=k) (k1:k<y5)=>hS.slhIn 10 rfl k0 k1
  refine⟨⟨fun _=>hS.pk [0,1,6],hS.pk [0,1,6]⟩,?_⟩
  refine(zDw 5 xex)<|(zDw 6 xex)<|(zDw 7 xas)<|(zDw 8 xas)<|zdd<|ztn<|zrt<|zf2 ⟨_,rfl,?_⟩
  exact⟨_,_,_,_,_,_,_,rfl,.inr ⟨_,_,_,_,_,_,_,_,hwh,zc,d8,qC.2.1 he0,yj⟩,yl,yk,yh,hS.pk [9,10]⟩
end Go.Proofs.YtopmifmfecfaaaaGreat
namespace Go.Proofs.YtopmifmfecfaaaaGreat
open Go Go.RowKit Go.Proofs.Gw
variable {N b e1 e2 i m n u:Int} {cnt cnt2 h ln ln2 ml t:Int->Int} {mf pt pt2:Int->Int->Int} {dn:Int->Prop} {s:So} {o1 o2:Us}
theorem ZiA:Zc Tryz.prog 112=true:=by kernel_rfl
theorem ZeL{vV:Value}{pv:Int->Value}{vL vD:Value}{p:Prob}{vA:Value}{f:Int->Int}(w0:World)(hV:VAt w0 vV u pv ln pt cnt)(h:PAt w0 vL vD p)(cZ:PlanOk p u ln pt cnt)(hA:Row w0 vA 1 p.m (ints f)):
    Calls Tryz.prog 112 [.agg #[vL,vD,.int .i64 p.stock,.int .i64 p.kerf],vV,vA].toArray w0 fun e w=>∃v,e= .returned v/\v=B (∃q,0<=q/\q<p.m/\0<f q/\0<leftF p (Zo u pt cnt) q)/\Sat w0 w []:=by
  have hm:=h.L.slh.n0;have hm1:=h.L.slh.n1;have hd:=h.D.slh.n0;have hd1:=h.D.slh.n1;have hs:=h.is;have hk:=h.ik
  have hu:=hV.row.slh.n0;have hu1:=hV.row.slh.n1
  have qg:=cZ.1
  have hpd:=qg.d;have yy:=qg.m1;have xc:=qg.m2
  have yA:=fun k (k0:0<=k) (k1:k<p.m)=>(Yj cZ.2.2 hu (Int.le_refl _) k0 k1).1
  refine Zm Tryz.func112 Tryz.ntmps112 fun w hS=> ?_
  refine zsr<|zla (xbx (cs:= [_,_,_,_]) hS) ?_;rintro _ w ⟨g1,rfl,hS⟩
  refine(zP)<|zlz<|(zV (xls 0 ZC hS))<|(zP)<|zlc (xc0 Zd3) (Ts (u:=u) (pv:=pv) (ln:=ln) (pt:=pt) (cnt:=cnt) (p:=p) w (hV.below hS.below) (h.below hS.below) cZ) ?_;rintro _ w ⟨xQ,qP,rfl,x4,qU,hS'⟩
  replace hS:=(hS.comp hS').n3;clear hS'
  refine(zP)<|(zP)<|(zP)<|zla (xal (cs:= [_,_,_,_]) Tg hS) ?_;rintro _ w ⟨g2,rfl,hS⟩
  refine zle (xsw 3 ZC hS (hd:=(Za x4.one (Za qU.one (Za rfl (Za rfl Zg)))))) ?_;clear hS;rintro w hS
  refine(zP)<|zx5<|(zP)<|zx6<|zlp (fun mm M w=>∃(i:Int),mm=((p.m-i).toNat)/\(0<=i)/\(i<=p.m)/\(∀k,0<=k->k<i->¬(0<f k/\0<leftF p (Zo u pt cnt) k))/\M= [(2,vA),(7,.pointer (some ⟨g2,0,none⟩)),(9,.int .i64 i)]/\Sat w0 w [.blk g1 [vL,vD,.int .i64 p.stock,.int .i64 p.kerf],.own xQ 1 3 p.m (ints p.L),.own qP 1 3 p.d (ints (leftF p (Zo u pt cnt))),.blk g2 [xQ,qP,.int .i64 p.stock,.int .i64 p.kerf]]) ⟨0,rfl,(by omega),(by omega),?_,rfl,hS⟩ ?_
  ·
   intro k k0 k1;omega
  clear hS w
  rintro mm M w ⟨i,rfl,h0,h1,hno,rfl,hS⟩
  refine zx11<|(zP)<|(zP)<|(zV (xln Zb hA.slh))<|(zP)<|zlt<|Ze ?_ ?_<;>intro hc
  ·
   refine zx3<|(zP)<|(zP)<|(zV (xix (kk:=i) Zb hA.slh))<|(zV (xlr (u:= .int .i64 (f i)) pl_3 (hA.below hS.below)))<|(zP)<|(zP)<|zlb 27 ?_ ?_<;>intro hc
   ·
    refine(zV (xfb 1 fd_24_1))<|(zV (xlb 3 pl_22 hS))<|(zP)<|(zV (xix (kk:=i) Zb qU))<|(zV (xlr (u:= .int .i64 ((leftF p (Zo u pt cnt)) i)) pl_3 (hS.rowN 2 rfl)))<|(zP)<|(zP)<|zlt<|Ze ?_ ?_<;>intro hc
    ·
     refine zsr<|(zP)<|zx2<|zf1 ⟨_,rfl,?_⟩
     exact⟨ZU ⟨i,h0,by omega,by assumption,by assumption⟩,hS.nl⟩
    refine zx4<|(zP)<|(zV (Zf (r:=i+1)))<|(zP)<|zln<|zlq ⟨i+1,rfl,(by omega),(by omega),?_,rfl,hS⟩
    ·
     intro k k0 k1;rcases Int.lt_or_eq_of_le (show k<=i by omega) with h9|h9
     · exact hno k k0 h9
     · rw [h9];rintro⟨ha9,hb9⟩;first|omega|exact absurd hb9 ‹_›|exact absurd ha9 ‹_›
   iterate 6 refine zlo ?_
   refine(zP)<|zlt<|zcf<|zsk<|zbn<|ztn<|zrg ?_
   refine(zP)<|(zV (Zf (r:=i+1)))<|(zP)<|zln<|zlq ⟨i+1,rfl,(by omega),(by omega),?_,rfl,hS⟩
   ·
    intro k k0 k1;rcases Int.lt_or_eq_of_le (show k<=i by omega) with h9|h9
    · exact hno k k0 h9
    · rw [h9];rintro⟨ha9,hb9⟩;first|omega|exact absurd hb9 ‹_›|exact absurd ha9 ‹_›
  refine zx8<|(zP)<|zx1<|zf1 ⟨_,rfl,?_⟩
  exact⟨false_B (fun⟨q,q0,q1,q2,q3⟩=>hno q q0 (by omega) ⟨q2,q3⟩),hS.nl⟩
theorem Uj{p:Prob}(n0:0<=n)(m0:0<=m)(e:plL n ln pt cnt=plL m ln2 pt2 cnt2)(h:PlanOk p n ln pt cnt):PlanOk p m ln2 pt2 cnt2:=by
  have hl:=congrArg List.length e
  rw [plL_len,plL_len] at hl
  exact Wh h.1 (by have:=h.2.1;omega) (by rw [<-e];exact W8 h)
theorem TrimR.same{p:Prob}{n m e1 e2:Int}{ln ln2 cnt cnt2:Int->Int}{pt pt2:Int->Int->Int}{o1 o2:Us}(n0:0<=n)(m0:0<=m)(eL:plL n ln pt cnt=plL m ln2 pt2 cnt2)(h:TrimR p n ln pt cnt o1 e1)(k:TrimR p m ln2 pt2 cnt2 o2 e2):o1=o2/\e1=e2:=by
  have hP:PlanOk p n ln pt cnt↔PlanOk p m ln2 pt2 cnt2:=⟨Uj n0 m0 eL,Uj m0 n0 eL.symm⟩
  have hM:PlanOk p n ln pt cnt->∀j,0<=j->j<p.m->Zo n pt cnt j=Zo m pt2 cnt2 j:=fun hp j j0 j1=>by rw [hp.mk n0 j0 j1,(hP.1 hp).mk m0 j0 j1,eL]
  rcases h with⟨h1,h2,h3⟩|⟨h1,h2,h3,h4⟩|⟨h1,h2,h3,N,hN,hO⟩<;>rcases k with⟨k1,k2,k3⟩|⟨k1,k2,k3,k4⟩|⟨k1,k2,k3,M,kN,kO⟩
  · exact⟨by rw [h2,k2],by omega⟩
  · exact absurd (hP.2 k1) h1
  · exact absurd (hP.2 k1) h1
  · exact absurd (hP.1 h1) k1
  · exact⟨by rw [h3,k3],by omega⟩
  · exact absurd (fun j j0 j1=>by rw [hM h1 j j0 j1];exact k2 j j0 j1) h2
  · exact absurd (hP.1 h1) k1
  · exact absurd (fun j j0 j1=>by rw [<-hM h1 j j0 j1];exact h2 j j0 j1) k2
  · rw [eL] at hN
    obtain rfl:=hN.same kN
    have e:(lst p.m fun j=>Zo n pt cnt j-p.D j)=lst p.m fun j=>Zo m pt2 cnt2 j-p.D j:=ZI fun j j0 j1=>by rw [hM h1 j j0 j1]
    rw [e] at hO
    exact⟨hO.same kO,by omega⟩
theorem WholeR.same{p:Prob}{u n m e f:Int}{ml ln cnt ln2 cnt2:Int->Int}{mf pt pt2:Int->Int->Int}{s:So}(h:WholeR p u ml mf s n ln pt cnt e)(k:WholeR p u ml mf s m ln2 pt2 cnt2 f):e=f/\(e=0->n=m/\ln=ln2/\pt=pt2/\cnt=cnt2):=by
  rcases h with⟨h1,h2,h3⟩|⟨h1,h2,h3,h4,_⟩|⟨h1,h2,h3,h4,h5,h6,h7,h8⟩<;>rcases k with⟨k1,k2,k3⟩|⟨k1,k2,k3,k4,_⟩|⟨k1,k2,k3,k4,k5,k6,k7,k8⟩
  · exact⟨by omega,fun h=>by omega⟩
  · exact absurd ⟨k1,k2⟩ h1
  · exact absurd ⟨k1,k2⟩ h1
  · exact absurd ⟨h1,h2⟩ k1
  · exact⟨h3.same k3,fun h=>absurd h h4⟩
  · exact absurd (h3.same k3) h4
  · exact absurd ⟨h1,h2⟩ k1
  · exact absurd (h3.same k3).symm k4
  · exact⟨by omega,fun _=>⟨by rw [h5,k5],by rw [h6,k6],by rw [h7,k7],by rw [h8,k8]⟩⟩
theorem DownR.same{p:Prob}{u e1 e2:Int}{ml:Int->Int}{mf:Int->Int->Int}{s:So}{o1 o2:Us}(h:DownR p u ml mf s o1 e1)(k:DownR p u ml mf s o2 e2):o1=o2/\e1=e2:=by
  rcases h with⟨h1,h2,_,_,_,_,h3⟩|⟨n1,ln1,pt1,q6,n2,ln2,pt2,cnt2,hw,n10,n20,hN,hT⟩<;>rcases k with⟨k1,k2,_,_,_,_,k3⟩|⟨m1,lm1,qt1,gk,m2,lm2,qt2,ju,kw,m10,m20,kN,kT⟩
  · exact⟨by rw [h2,k2],(h3.same k3).1⟩
  · exact absurd (h3.same kw).1 h1
  · exact absurd (k3.same hw).1 k1
  · obtain⟨rfl,rfl,rfl,rfl⟩:=(hw.same kw).2 rfl
    exact TrimR.same (by omega) (by omega) (by rw [Zby n10 n20,Zby n10 m20,hN.same kN]) hT kT
def Ze6(s:So)(u N:Int)(h:Int->Int):Prop:=∀j,0<=j->j<N->(0<=h j/\h j<u/\(s.X (h j)).tmod s.den≠0)/\(∀q,0<=q->q<j->h q≠h j)/\
  ∀i,0<=i->i<u->(s.X i).tmod s.den≠0->(∀q,0<=q->q<j->h q≠i)->(s.X i).tmod s.den<(s.X (h j)).tmod s.den\/((s.X i).tmod s.den=(s.X (h j)).tmod s.den/\h j<=i)
theorem Zdd (u0:0<=u) (N0:0<=N) (hp:PermOn 0 (frN s u.toNat) (frF s u.toNat) t) (ho:Srt (Tie fun x y=>(s.X y).tmod s.den<(s.X x).tmod s.den) 0 (frN s u.toNat) t)
    (hs:Ze6 s u N h) (ha:∀i,0<=i->i<u->(s.X i).tmod s.den≠0->∃j,0<=j/\j<N/\h j=i):frN s u.toNat=N/\∀j,0<=j->j<N->t j=h j:=by
  obtain⟨r1,r2,r3,_,r5⟩:=V2 s u.toNat
  rw [Int.toNat_of_nonneg u0] at r2 r3 r5
  have tv:∀k,0<=k->k<frN s u.toNat->0<=t k/\t k<u/\(s.X (t k)).tmod s.den≠0:=fun k k0 k1=>by
    obtain⟨q,q0,q1,q2⟩:=hp.fr k0 k1
    rw [q2];exact r3 q q0 q1
  have tc:∀i,0<=i->i<u->(s.X i).tmod s.den≠0->∃k,0<=k/\k<frN s u.toNat/\t k=i:=fun i i0 i1 hi=>by
    obtain⟨k,k0,k1,e⟩:=r5 i i0 i1 hi
    obtain⟨q,q0,q1,q2⟩:=hp.symm.fr k0 k1
    exact⟨q,q0,q1,by rw [<-q2];exact e⟩
  have ti:∀j k,0<=j->j<k->k<frN s u.toNat->t j≠t k:=fun j k j0 jk k1 e=>by
    have:=ho j k j0 jk k1
    rw [e] at this
    rcases this with h|⟨_,h⟩<;>omega
  have key:∀j:Nat,(j:Int)<=frN s u.toNat->(j:Int)<=N->∀q,0<=q->q<(j:Int)->t q=h q:=by
    intro j
    induction j with
    |zero=>intro _ _ q q0 q1;omega
    | succ j ih=>
      intro h1 h2 q q0 q1
      have ih:=ih (by omega) (by omega)
      by_cases e:q<(j:Int)
      · exact ih q q0 e
      · obtain rfl:q=j:=by omega
        apply Classical.byContradiction
        intro hne
        obtain⟨⟨g1,g2,g3⟩,g4,g5⟩:=hs j q0 (by omega)
        obtain⟨k,k0,k1,ek⟩:=tc _ g1 g2 g3
        have hk:(j:Int)<k:=by
          apply Classical.byContradiction
          intro hh
          by_cases e2:k=(j:Int)
          · rw [e2] at ek;exact hne ek
          · have:=ih k k0 (by omega)
            exact g4 k k0 (by omega) (by rw [<-this,ek])
        have hT:=ho j k q0 hk k1
        obtain⟨f1,f2,f3⟩:=tv j q0 (by omega)
        have g6:=g5 (t j) f1 f2 f3 fun r r0 r1=>by rw [<-ih r r0 r1];exact ti r j r0 r1 (by omega)
        rw [ek] at hT
        rcases hT with hT|⟨hT,hT2⟩<;>rcases g6 with g6|⟨g6,g7⟩<;>omega
  have hNM:frN s u.toNat=N:=by
    rcases Int.lt_trichotomy (frN s u.toNat) N with h1|h1|h1
    · have k1:=key (frN s u.toNat).toNat (by omega) (by omega)
      rw [Int.toNat_of_nonneg r1] at k1
      obtain⟨⟨g1,g2,g3⟩,g4,_⟩:=hs (frN s u.toNat) r1 h1
      obtain⟨k,k0,k2,ek⟩:=tc _ g1 g2 g3
      exact absurd (by rw [<-k1 k k0 k2,ek]) (g4 k k0 k2)
    · exact h1
    · have k1:=key N.toNat (by omega) (by omega)
      rw [Int.toNat_of_nonneg N0] at k1
      obtain⟨f1,f2,f3⟩:=tv N N0 h1
      obtain⟨j,j0,j1,ej⟩:=ha _ f1 f2 f3
      exact absurd (by rw [k1 j j0 j1,ej]) (ti j N j0 j1 h1)
  refine⟨hNM,fun j j0 j1=> ?_⟩
  have k1:=key N.toNat (by omega) (by omega)
  exact k1 j j0 (by omega)
def Zgv (p:Prob) (u:Int) (ml:Int->Int) (mf:Int->Int->Int) (s:So) (out:Us) (e:Int):Prop:=
  (e≠0/\out= []/\∃n ln pt cnt,WholeR p u ml mf s n ln pt cnt e)\/(∃n1 ln1 pt1 q6 N h n ln pt cnt,WholeR p u ml mf s n1 ln1 pt1 q6 0/\0<=n1/\0<=n/\0<=N/\Ze6 s u N h/\(∀i,0<=i->i<u->(s.X i).tmod s.den≠0->∃j,0<=j/\j<N/\h j=i)/\
    plL n ln pt cnt=(WX p.m mf (lst p.m (leftF p (Zo n1 pt1 q6))) (plL n1 ln1 pt1 q6) (lst N h)).2/\TrimR p n ln pt cnt out e)
theorem UpR.same{p:Prob}{u e1 e2:Int}{ml:Int->Int}{mf:Int->Int->Int}{s:So}{o1 o2:Us}(u0:0<=u)(h:UpR p u ml mf s o1 e1)(k:Zgv p u ml mf s o2 e2):o1=o2/\e1=e2:=by
  rcases h with⟨h1,h2,_,_,_,_,h3⟩|⟨n1,ln1,pt1,q6,t,n,ln,pt,cnt,hw,n10,n0,hp,ho,hU,hT⟩<;>rcases k with⟨k1,k2,_,_,_,_,k3⟩|⟨m1,lm1,qt1,gk,N,g,m,lm,qt,dnt,kw,m10,m0,N0,ks,ka,kU,kT⟩
  · exact⟨by rw [h2,k2],(h3.same k3).1⟩
  · exact absurd (h3.same kw).1 h1
  · exact absurd (k3.same hw).1 k1
  · obtain⟨rfl,rfl,rfl,rfl⟩:=(hw.same kw).2 rfl
    obtain⟨e1,e2⟩:=Zdd u0 N0 hp ho ks ka
    exact TrimR.same n0 m0 (by rw [hU,kU,e1,ZI e2]) hT kT
def dnP(h:Int->Int)(N k:Int):Prop:=∃q,0<=q/\q<N/\h q=k
open Classical in
noncomputable def nd(P:Int->Prop):Nat->Nat
  |0=>0
  |n+1=>nd P n+if P n then 0 else 1
theorem ZgD(P:Int->Prop):∀n:Nat,nd P n<=n
  |0=>Nat.le_refl _
  |n+1=>by have:=ZgD P n;simp only [nd];split<;>omega
theorem ZbD{P Q:Int->Prop}(h:∀k,P k->Q k):∀n:Nat,nd Q n<=nd P n
  |0=>Nat.le_refl _
  | n+1=>by
    have:=ZbD h n
    simp only [nd]
    by_cases hp:P n
    · rw [if_pos hp,if_pos (h _ hp)];omega
    · rw [if_neg hp];split<;>omega
theorem ZgC{P Q:Int->Prop}(h:∀k,P k->Q k){b:Int}(b0:0<=b)(hq:Q b)(hp:¬P b):∀n:Nat,b<(n:Int)->nd Q n<nd P n
  |0,hn=>by omega
  | n +1,hn=>by
    simp only [nd]
    by_cases e:b=(n:Int)
    · rw [<-e,if_pos hq,if_neg hp];have:=ZbD h n;omega
    · have:=ZgC h b0 hq hp n (by omega)
      by_cases hp:P n
      · rw [if_pos hp,if_pos (h _ hp)];omega
      · rw [if_neg hp];split<;>omega
theorem Xn(N0:0<=N)(k:Int):dnP (snoc h N b) (N+1) k↔(dnP h N k\/b=k):=by
  constructor
  · rintro⟨q,q0,q1,q2⟩
    by_cases e:q<N
    · rw [Zl e] at q2;exact .inl ⟨q,q0,e,q2⟩
    · rw [Zk e] at q2;exact .inr q2
  · rintro(⟨q,q0,q1,q2⟩|rfl)
    · exact⟨q,q0,by omega,by rw [Zl q1];exact q2⟩
    · exact⟨N,N0,by omega,Zk (by omega)⟩
theorem ZbW(N0:0<=N)(b0:0<=b)(b1:b<n)(hb:¬dnP h N b):nd (dnP (snoc h N b) (N+1)) n.toNat<nd (dnP h N) n.toNat:=
  ZgC (fun k hk=>(Xn N0 k).2 (.inl hk)) b0 ((Xn N0 b).2 (.inr rfl)) hb n.toNat (by omega)
def Bst(s:So)(dn:Int->Prop)(b i:Int):Prop:=(b= -1/\∀k,0<=k->k<i->dn k\/(s.X k).tmod s.den=0)\/(0<=b/\b<i/\¬dn b/\(s.X b).tmod s.den≠0/\∀k,0<=k->k<i->¬dn k->(s.X k).tmod s.den≠0->(s.X k).tmod s.den<(s.X b).tmod s.den\/((s.X k).tmod s.den=(s.X b).tmod s.den/\b<=k))
theorem Bst.rng(h:Bst s dn b i):b= -1\/(0<=b/\b<i):=by
  rcases h with⟨h,_⟩|⟨h1,h2,_⟩
  · exact .inl h
  · exact .inr ⟨h1,h2⟩
theorem Bst.keep(h:Bst s dn b i)(hk:dn i\/(s.X i).tmod s.den=0\/(0<=b/\(s.X i).tmod s.den<=(s.X b).tmod s.den)):Bst s dn b (i+1):=by
  rcases h with⟨h1,h2⟩|⟨h1,h2,h3,h4,h5⟩
  · refine .inl ⟨h1,fun k k0 k1=> ?_⟩
    by_cases e:k=i
    · rw [e];rcases hk with hk|hk|⟨hk,_⟩
      · exact .inl hk
      · exact .inr hk
      · omega
    · exact h2 k k0 (by omega)
  · refine .inr ⟨h1,by omega,h3,h4,fun k k0 k1 g1 g2=> ?_⟩
    by_cases e:k=i
    · rw [e] at g1 g2⊢
      rcases hk with hk|hk|⟨_,hk⟩
      · exact absurd hk g1
      · exact absurd hk g2
      · omega
    · exact h5 k k0 (by omega) g1 g2
theorem Bst.new(h:Bst s dn b i)(i0:0<=i)(h1:¬dn i)(h2:(s.X i).tmod s.den≠0)(h3:b<0\/(s.X b).tmod s.den<(s.X i).tmod s.den):Bst s dn i (i+1):=by
  refine .inr ⟨i0,by omega,h1,h2,fun k k0 k1 g1 g2=> ?_⟩
  by_cases e:k=i
  · right;rw [e];exact⟨rfl,Int.le_refl _⟩
  · rcases h with⟨_,h5⟩|⟨h4,_,_,_,h5⟩
    · rcases h5 k k0 (by omega) with h6|h6
      · exact absurd h6 g1
      · exact absurd h6 g2
    · have:=h5 k k0 (by omega) g1 g2;omega
theorem Ky(N0:0<=N)(hs:Ze6 s u N h)(hB:Bst s (dnP h N) b u)(b0:0<=b):Ze6 s u (N+1) (snoc h N b):=by
  have e1:∀q,q<N->snoc h N b q=h q:=fun q hq=>Zl hq
  intro j j0 j1
  by_cases e:j<N
  · obtain⟨ha,hb,hc⟩:=hs j j0 e
    rw [e1 j e]
    exact⟨ha,fun q q0 q1=>by rw [e1 q (by omega)];exact hb q q0 q1,fun i i0 i1 hi hq=>hc i i0 i1 hi fun q q0 q1=>by have:=hq q q0 q1;rw [e1 q (by omega)] at this;exact this⟩
  · obtain rfl:j=N:=by omega
    rw [Zk e]
    rcases hB with⟨h1,_⟩|⟨_,h2,h3,h4,h5⟩
    · omega
    · exact⟨⟨b0,h2,h4⟩,fun q q0 q1=>by rw [e1 q q1];exact fun hh=>h3 ⟨q,q0,q1,hh⟩,fun i i0 i1 hi hq=>h5 i i0 i1 (fun⟨q,q0,q1,hh⟩=>hq q q0 q1 (by rw [e1 q q1];exact hh)) hi⟩
theorem Zjl{r0:List Int}{L0:Us}{g:Int->Int}(N0:0<=N)(h:(lst m g,plL n ln pt cnt)=WX m mf r0 L0 (lst N t))(hn:¬∃i,0<=i/\i<m/\0<mf b i/\0<g i):(lst m g,plL n ln pt cnt)=WX m mf r0 L0 (lst (N+1) (snoc t N b)):=by
  refine uNo N0 ?_ (by rw [Zk (by omega)];exact hn)
  rw [ZI (f:=snoc t N b) (g:=t) fun k _ k1=>Zl k1];exact h
theorem ZgA{p:Prob}{l:Int}{r0:List Int}{L0:Us}(N0:0<=N)(n0:0<=n)(h:(lst p.m (leftF p (Zo n pt cnt)),plL n ln pt cnt)=WX p.m mf r0 L0 (lst N t))(hl:l=p.m)(hb:∀j,0<=j->j<p.m->0<=mf b j)(hn:∃q,0<=q/\q<p.m/\0<mf b q/\0<leftF p (Zo n pt cnt) q):
    (lst p.m (leftF p (Zo (n+1) (gsn pt n (mf b)) (snoc cnt n 1))),plL (n+1) (gsn ln n l) (gsn pt n (mf b)) (snoc cnt n 1))=WX p.m mf r0 L0 (lst (N+1) (snoc t N b)):=by
  have e:snoc t N b N=b:=Zk (by omega)
  refine ZgW (g:=leftF p (Zo n pt cnt)) (ln:=ln) (cnt:=cnt) (pt:=pt) N0 n0 ?_ (by rw [e];exact hn) (fun k k0 k1=> ?_) (fun k k0 k1=>⟨Zs k1,Zl k1,Zs k1⟩) ((Zr (by omega)).trans hl) (Zk (by omega)) ((Zr (by omega)).trans (by rw [e]))
  · rw [ZI (f:=snoc t N b) (g:=t) fun k _ k1=>Zl k1];exact h
  · have e2:Zo n (gsn pt n (mf b)) (snoc cnt n 1) k=Zo n pt cnt k:=XD fun q hq=>⟨by rw [Zs (by omega)],by rw [Zl (by omega)]⟩
    have h3:=hb k k0 k1
    rw [e]
    unfold leftF
    rw [if_pos ⟨k0,k1⟩,if_pos ⟨k0,k1⟩,YU n0,e2,Zr (by omega),Zk (by omega)]
    omega
theorem Ui{p:Prob}{l:Int}{f:Int->Int}(h:PlanOk p n ln pt cnt)(hn:n+1<=1000)(hf:FitsP p l f):PlanOk p (n+1) (gsn ln n l) (gsn pt n f) (snoc cnt n 1):=
  ⟨h.1,hn,fun k k0 k1=>by
    by_cases e:k<n
    · rw [Zs e,Zs e,Zl e];exact h.2.2 k k0 e
    · rw [Zr e,Zr e,Zk e];exact⟨by omega,by omega,hf⟩⟩
theorem Zka{vL vD:Value}{p:Prob}{vM:Value}{mv:Int->Value}{vX vY:Value}(w0:World)(h:PAt w0 vL vD p)(hM:MAt w0 vM u mv ml mf)(hX:Row w0 vX 1 s.n (ints s.X))(hY:Row w0 vY 1 s.m (ints s.Y))(xV:s.n<=1000):
    Calls Tryz.prog 76 [.agg #[vL,vD,.int .i64 p.stock,.int .i64 p.kerf],.agg #[vM,vX,vY,.int .i64 s.val,.int .i64 s.den]].toArray w0 fun e w=>∃v,e= .returned v/\∃r n pv ln pt cnt e,v= .tuple #[r,.int .i64 e]/\Zgv p u ml mf s (plL n ln pt cnt) e/\(∀k,0<=k->k<n->1<=cnt k/\cnt k<=1000000000)/\n<=1000000/\Slh r n/\Sat w0 w [.own r 2 100 n (Zd pv cnt),.sem (Frame.rows 3 n pv ln pt)]:=by
  have hm:=h.L.slh.n0;have hm1:=h.L.slh.n1;have hd:=h.D.slh.n0;have hd1:=h.D.slh.n1;have hs:=h.is;have hk:=h.ik
  have hu:=hM.row.slh.n0;have hu1:=hM.row.slh.n1;have hn:=hX.slh.n0;have hn1:=hX.slh.n1
  refine Zm Tryz.func76 Tryz.ntmps76 fun w hS=> ?_
  refine zsr<|zla (xbx (cs:= [_,_,_,_]) hS) ?_;rintro _ w ⟨g1,rfl,hS⟩
  refine zla (xbx (cs:= [_,_,_,_,_]) hS) ?_;rintro _ w ⟨g2,rfl,hS⟩
  refine(zP)<|(zP)<|zlt<|zsq<|zbk<|zsr<|(zV (xls 0 ZC hS))<|(zV (xls 1 XZ hS))<|zlc (xc0 Zej) (Zas (p:=p) (u:=u) (ml:=ml) (mf:=mf) (s:=s) w (h.below hS.below) (hM.below hS.below) (hX.below hS.below) (hY.below hS.below) xV) ?_;rintro _ w ⟨rfl,hS'⟩
  replace hS:=hS.cmp hS';clear hS'
  refine(zP)<|(zP)<|zlt<|Ze ?_ ?_<;>intro hc
  ·
   refine zsr<|(zP)<|(zP)<|X9<|zf2 ⟨_,rfl,?_⟩
   exact⟨_,0,fun _=>undef,fun _=>0,fun _ _=>0,fun _=>0,_,rfl,.inl ⟨by omega,rfl,0,fun _=>0,fun _ _=>0,fun _=>0,.inl ⟨‹¬(p.Ok/\_)›,rfl,rfl⟩⟩,fun k k0 k1=>by omega,by omega,slh_nil,((hS.sub (.cons _ (.cons _ .slnil))).addnil 2 100 (Zd (fun _=>undef) (fun _=>0))).addrows 3 (fun _=>undef) (fun _=>0) (fun _ _=>0)⟩
  refine zsr<|zlv (xls 0 ZC hS) ?_
  obtain⟨qg,qq⟩:p.Ok/\WZ p u ml mf s:=by first|assumption|exact Classical.not_not.1 ‹_›
  have qs:=qg
  have yy:=qg.m1;have xc:=qg.m2;have hpd:=qg.d
  refine zlc (xc0 ZdZ) (Zbg (p:=p) w (h.below hS.below) qs) ?_;rintro _ w ⟨rfl,hS'⟩
  replace hS:=hS.cmp hS';clear hS'
  refine(zP)<|zlt<|Ze ?_ ?_<;>intro hc
  ·
   refine zsr<|(zP)<|(zP)<|X9<|zf2 ⟨_,rfl,?_⟩
   exact⟨_,0,fun _=>undef,fun _=>0,fun _ _=>0,fun _=>0,_,rfl,.inl ⟨by omega,rfl,0,fun _=>0,fun _ _=>0,fun _=>0,.inr (.inl ⟨qg,qq,.inr (.inl ⟨qg,by omega,rfl⟩),by omega,rfl⟩)⟩,fun k k0 k1=>by omega,by omega,slh_nil,((hS.sub (.cons _ (.cons _ .slnil))).addnil 2 100 (Zd (fun _=>undef) (fun _=>0))).addrows 3 (fun _=>undef) (fun _=>0) (fun _ _=>0)⟩
  refine zsk<|zbn<|ztn<|zsr<|(zV (xfb 1 RO))<|(zV (xlp 1 (ds:= [vX,vY,.int .i64 s.val,.int .i64 s.den]) st_36 hS))<|zla (xal (cs:= [_,_,_,_]) WA hS) ?_;rintro _ w ⟨g3,rfl,hS⟩
  refine zle (xsw 2 st_36 hS (hd:=(Za hX.slh.one (Za hY.slh.one (Za rfl (Za rfl Zg)))))) ?_;clear hS;rintro w hS
  refine zlz<|(zV (xfb 0 fd_38_0))<|zlv (xlb 1 Zu hS) ?_
  have hml:=fun k k0 k1=>(show ml k<=100000 by have:=(YA (qq.2.2.2.1 k k0 k1).1).1;omega)
  have hun:=qq.2.1
  have hu6:=qq.2.2.1
  refine(zV (xls 2 st_36 hS))<|zlc (xc0 Zei) (Tu (u:=u) (ml:=ml) (mf:=mf) (s:=s) w (hM.below hS.below) (hX.below hS.below) (hY.below hS.below) (by omega) (fun k k0 k1=>by have:=hml k k0 k1;omega)) ?_;rintro _ w ⟨ax,qF,zj,yB,xS,xD,cv,rfl,zf,zA,hS'⟩
  replace hS:=(hS.comp hS').n5;clear hS'
  have bt:=fun k (k0:0<=k) (k1:k<qF)=>hS.slhIn 4 rfl k0 k1
  have hfl:=zf.resolve_left fun hh=>hh.1 ⟨qq.1,qq.2.1.symm⟩
  have hwh:WholeR p u ml mf s qF yB xS xD 0:= .inr (.inr ⟨qg,qq,.inr (.inr ⟨qg,by omega,rfl⟩),rfl,hfl.2.2.1,hfl.2.2.2.1,hfl.2.2.2.2.1,hfl.2.2.2.2.2.1⟩)
  obtain⟨_,_,zB,br,zb,zc⟩:=hwh.ok rfl hu
  have yA:=fun k (k0:0<=k) (k1:k<p.m)=>(Yj zb.2.2 zc (Int.le_refl _) k0 k1).1
  obtain⟨⟨d1,d2⟩,⟨d3,d4⟩,d5⟩:=id qq.1
  refine zs5 ?_
  refine zlz<|(zV (xfb 0 fd_36_0))<|(zV (xlb 2 pl_22 hS))<|(zV (xln Zb hX.slh))<|zla (xmk VU ZjA hS) ?_;rintro v1 w ⟨hS,hv1⟩
  refine(zP)<|zx6<|zlp (fun mm M w=>∃(nC:Int) (wC:Int->Value) (lC:Int->Int) (gC:Int->Int->Int) (cC:Int->Int) (cS:Int->Value) (h6:Int->Int) (N6:Int) (xC:Value),mm=(nd (dnP h6 N6) s.n.toNat)/\(0<=N6)/\(Ze6 s u N6 h6)/\(N6+(nd (dnP h6 N6) s.n.toNat:Int)<=s.n)/\(∀k,0<=k->k<s.n->cS k=B (dnP h6 N6 k))/\((lst p.m (leftF p (Zo nC gC cC)),plL nC lC gC cC)=WX p.m mf (lst p.m (leftF p (Zo qF xS xD))) (plL qF yB xS xD) (lst N6 h6))/\(PlanOk p nC lC gC cC)/\(0<=nC/\nC<=60+N6)/\(Slh xC nC)/\M= [(2,.pointer (some ⟨g1,0,none⟩)),(3,.pointer (some ⟨g2,0,none⟩)),(6,.pointer (some ⟨g3,0,none⟩)),(7,xC),(9,v1)]/\Sat w0 w [.blk g1 [vL,vD,.int .i64 p.stock,.int .i64 p.kerf],.blk g2 [vM,vX,vY,.int .i64 s.val,.int .i64 s.den],.blk g3 [vX,vY,.int .i64 s.val,.int .i64 s.den],.own xC 2 100 nC (Zd wC cC),.sem (Frame.rows 3 nC wC lC gC),.own v1 1 4 s.n cS]) ⟨qF,zj,yB,xS,xD,fun _=> .bool false,(fun _=>0),0,ax,rfl,(by omega),?_,?_,?_,?_,?_,(by omega),?_,rfl,hS⟩ ?_
  ·
   intro j j0 j1;omega
  ·
   have h9:=ZgD (dnP (fun _=>0) 0) s.n.toNat;omega
  ·
   intro k k0 k1;exact false_B (fun⟨q,q0,q1,_⟩=>by omega)
  ·
   rfl
  ·
   exact zb
  ·
   exact zA
  clear hS w
  rintro mm M w ⟨nC,wC,lC,gC,cC,cS,h6,N6,xC,rfl,hN0,dt,hnd,hcS,hU,hPl,hnC,hxC,rfl,hS⟩
  have qN:=fun k (k0:0<=k) (k1:k<nC)=>hS.slhIn 4 rfl k0 k1
  have zo:=hnC.1
  refine zbk<|zsr<|(zP)<|zx5<|(zP)<|zx6<|zlp (fun mm M w=>∃(b6:Int) (i6:Int),mm=((s.n-i6).toNat)/\(0<=i6)/\(i6<=s.n)/\(Bst s (dnP h6 N6) b6 i6)/\M= [(2,.pointer (some ⟨g1,0,none⟩)),(3,.pointer (some ⟨g2,0,none⟩)),(6,.pointer (some ⟨g3,0,none⟩)),(7,xC),(9,v1),(10,.int .i64 b6),(11,.int .i64 i6)]/\Sat w0 w [.blk g1 [vL,vD,.int .i64 p.stock,.int .i64 p.kerf],.blk g2 [vM,vX,vY,.int .i64 s.val,.int .i64 s.den],.blk g3 [vX,vY,.int .i64 s.val,.int .i64 s.den],.own xC 2 100 nC (Zd wC cC),.sem (Frame.rows 3 nC wC lC gC),.own v1 1 4 s.n cS]) ⟨(-1),0,rfl,(by omega),(by omega),?_,rfl,hS⟩ ?_
  ·
   exact .inl ⟨rfl,fun k k0 k1=>by omega⟩
  clear hS w
  rintro mm M w ⟨b6,i6,rfl,i60,i61,hB,rfl,hS⟩
  have hbb:=hB.rng
  refine zx11<|(zP)<|(zV (xfb 0 fd_36_0))<|(zV (xlb 2 pl_22 hS))<|(zV (xln Zb hX.slh))<|(zP)<|zlt<|Ze ?_ ?_<;>intro hc
  ·
   refine zx27<|zdst [0,1,2,3,4,5] [0,1,2,3,4,5] 1000 mx_ hS ?_;clear hS;intro w hS
   refine(zDw 0 xmv)<|(zDw 1 xmv)<|(zDw 2 (xix (kk:=i6) VU hv1))<|(zDl 3 (fun w hS=>(xlr (u:=B (dnP h6 N6 i6)) Zfl (hS.rowN 5 rfl) (e:=(hcS i6 i60 (by omega))))))<|(zDw 4 YK)<|(zDw 5 xmv)<|zdb 45 ?_ ?_<;>intro hc
   ·
    refine(zDw 6 (xfb 0 fd_36_0))<|(zDl 7 (fun w hS=>(xlb 2 pl_22 hS)))<|(zDw 8 xmv)<|(zDw 9 (xix (kk:=i6) Zb hX.slh))<|(zDl 10 (fun w hS=>(xlr (u:= .int .i64 (s.X i6)) pl_3 (hX.below hS.below))))<|(zDw 11 (xfb 3 fd_36_3))<|(zDl 12 (fun w hS=>(xlb 2 pl_3 hS)))<|(zDw 13 (Rq (r:=(Int.tmod (s.X i6) s.den))))<|(zDw 14 YN)<|(zDw 15 xpt)<|(zDw 16 xmv)<|zdb 56 ?_ ?_<;>intro hc
    ·
     refine(zDw 17 xmv)<|(zDw 18 ZZ)<|(zDw 19 xmv)<|zdb 59 ?_ ?_<;>intro hc
     ·
      refine(zDo 20)<|(zDo 21)<|(zDo 22)<|(zDo 23)<|(zDo 24)<|(zDo 25)<|(zDo 26)<|(zDo 27)<|(zDo 28)<|(zDo 29)<|(zDo 30)<|(zDo 31)<|(zDo 32)<|(zDo 33)<|Ur 34 ?_
      refine(zDo 35)<|(zDo 36)<|(zDw 37 xpt)<|(zDw 38 xpt)<|zdd<|ztn<|zct<|zrg ?_
      refine(zP)<|(zP)<|zx10<|(zP)<|(zV (Zf (r:=i6+1)))<|(zP)<|zln<|zlq ⟨i6,i6+1,rfl,(by omega),(by omega),?_,rfl,hS⟩
      ·
       first
       |exact hB.new i60 ‹¬(dnP h6 N6 i6)› (by omega) (by omega)
       |exact hB.keep (.inl (Classical.not_not.1 ‹¬¬(dnP h6 N6 i6)›))
       |exact hB.keep (.inr (.inl (by omega)))
       |exact hB.keep (.inr (.inr ⟨by omega,by omega⟩))
     refine(zDw 20 (xfb 0 fd_36_0))<|(zDl 21 (fun w hS=>(xlb 2 pl_22 hS)))<|(zDw 22 xmv)<|(zDw 23 (xix (kk:=i6) Zb hX.slh))<|(zDl 24 (fun w hS=>(xlr (u:= .int .i64 (s.X i6)) pl_3 (hX.below hS.below))))<|(zDw 25 (xfb 3 fd_36_3))<|(zDl 26 (fun w hS=>(xlb 2 pl_3 hS)))<|(zDw 27 (Rq (r:=(Int.tmod (s.X i6) s.den))))<|(zDw 28 (xfb 0 fd_36_0))<|(zDl 29 (fun w hS=>(xlb 2 pl_22 hS)))<|(zDw 30 xmv)<|(zDw 31 (xix (kk:=b6) Zb hX.slh))<|(zDl 32 (fun w hS=>(xlr (u:= .int .i64 (s.X b6)) pl_3 (hX.below hS.below))))<|(zDw 33 (xfb 3 fd_36_3))<|zdla 34 (fun w hS=>(xlb 2 pl_3 hS)) ?_
     refine(zDw 35 (Rq (r:=(Int.tmod (s.X b6) s.den))))<|(zDw 36 Yr)<|(zDw 37 xpf)<|(zDw 38 xpt)<|zdd<|ztn ?_
     refine Ze ?_ ?_<;>intro hc
     ·
      refine zrg<|(zP)<|(zP)<|zx10<|(zP)<|(zV (Zf (r:=i6+1)))<|(zP)<|zln<|zlq ⟨i6,i6+1,rfl,(by omega),(by omega),?_,rfl,hS⟩
      ·
       first
       |exact hB.new i60 ‹¬(dnP h6 N6 i6)› (by omega) (by omega)
       |exact hB.keep (.inl (Classical.not_not.1 ‹¬¬(dnP h6 N6 i6)›))
       |exact hB.keep (.inr (.inl (by omega)))
       |exact hB.keep (.inr (.inr ⟨by omega,by omega⟩))
     refine zx4<|(zP)<|(zV (Zf (r:=i6+1)))<|(zP)<|zln<|zlq ⟨b6,i6+1,rfl,(by omega),(by omega),?_,rfl,hS⟩
     ·
      first
      |exact hB.new i60 ‹¬(dnP h6 N6 i6)› (by omega) (by omega)
      |exact hB.keep (.inl (Classical.not_not.1 ‹¬¬(dnP h6 N6 i6)›))
      |exact hB.keep (.inr (.inl (by omega)))
      |exact hB.keep (.inr (.inr ⟨by omega,by omega⟩))
    refine(zDo 17)<|(zDo 18)<|(zDo 19)<|(zDo 20)<|(zDo 21)<|(zDo 22)<|(zDo 23)<|(zDo 24)<|(zDo 25)<|(zDo 26)<|(zDo 27)<|(zDo 28)<|(zDo 29)<|(zDo 30)<|Ur 31 ?_
    refine(zDo 32)<|(zDo 33)<|(zDo 34)<|(zDo 35)<|(zDo 36)<|(zDo 37)<|(zDw 38 xpf)<|zdd<|ztn<|zcf<|zsk<|zbn<|ztn<|zrg ?_
    refine(zP)<|(zV (Zf (r:=i6+1)))<|(zP)<|zln<|zlq ⟨b6,i6+1,rfl,(by omega),(by omega),?_,rfl,hS⟩
    ·
     first
     |exact hB.new i60 ‹¬(dnP h6 N6 i6)› (by omega) (by omega)
     |exact hB.keep (.inl (Classical.not_not.1 ‹¬¬(dnP h6 N6 i6)›))
     |exact hB.keep (.inr (.inl (by omega)))
     |exact hB.keep (.inr (.inr ⟨by omega,by omega⟩))
   refine(zDo 6)<|(zDo 7)<|(zDo 8)<|(zDo 9)<|(zDo 10)<|(zDo 11)<|(zDo 12)<|(zDo 13)<|(zDo 14)<|(zDw 15 xpf)<|(zDw 16 xmv)<|(zDo 17)<|(zDo 18)<|(zDo 19)<|Ur 20 ?_
   refine(zDo 21)<|(zDo 22)<|(zDo 23)<|(zDo 24)<|(zDo 25)<|(zDo 26)<|(zDo 27)<|(zDo 28)<|(zDo 29)<|(zDo 30)<|(zDo 31)<|(zDo 32)<|(zDo 33)<|(zDo 34)<|Ur 35 ?_
   refine(zDo 36)<|(zDo 37)<|(zDw 38 xpf)<|zdd<|ztn<|zcf<|zsk<|zbn<|ztn<|zrg ?_
   refine(zP)<|(zV (Zf (r:=i6+1)))<|(zP)<|zln<|zlq ⟨b6,i6+1,rfl,(by omega),(by omega),?_,rfl,hS⟩
   ·
    first
    |exact hB.new i60 ‹¬(dnP h6 N6 i6)› (by omega) (by omega)
    |exact hB.keep (.inl (Classical.not_not.1 ‹¬¬(dnP h6 N6 i6)›))
    |exact hB.keep (.inr (.inl (by omega)))
    |exact hB.keep (.inr (.inr ⟨by omega,by omega⟩))
  refine zx18<|zlv xmv ?_
  have hbb:=hB.rng
  refine(zP)<|zlt<|Ze ?_ ?_<;>intro hc
  ·
   refine zsr<|(zV (xls 0 ZC hS))<|(zP)<|zlc (xc0 Zeh) (Zb6 (u:=nC) (pv:=wC) (ln:=lC) (pt:=gC) (cnt:=cC) (p:=p) w (⟨(hS.rowN 3 rfl),fun k k0 k1=>hS.rowIn 4 rfl k0 k1,fun k k0 k1=>hS.roomIn 4 rfl k0 k1⟩:VAt _ xC nC wC lC gC cC) (h.below hS.below)) ?_;rintro _ w ⟨aO,y5,aS,aY,bC,bH,bG,rfl,yj,yl,yk,yh,hS'⟩
   replace hS:=(hS.comp hS').n8;clear hS'
   have al:=fun k (k0:0<=k) (k1:k<y5)=>hS.slhIn 7 rfl k0 k1
   refine zs4 ?_
   refine zlt<|zrt<|ztr<|zbr<|ztr<|zbr<|zf2 ⟨_,rfl,?_⟩
   have eA:∀i,0<=i->i<u->(s.X i).tmod s.den≠0->∃j,0<=j/\j<N6/\h6 j=i:=fun i i0 i1 hi=>by
     rcases hB with⟨_,q⟩|⟨q,_⟩
     · exact(q i i0 (by omega)).resolve_right hi
     · omega
   exact⟨_,_,_,_,_,_,_,rfl,.inr ⟨_,_,_,_,N6,h6,_,_,_,_,hwh,zc,zo,hN0,dt,eA,(by rw [<-hU]),yj⟩,yl,yk,yh,hS.pk [6,7]⟩
  refine Z7<|zlv xmv ?_
  have bN:¬dnP h6 N6 b6:=by rcases hB with⟨q,_⟩|⟨_,_,q,_⟩;omega;exact q
  have dV:=(qq.2.2.2.1 b6 (by omega) (by omega)).1
  have dW:=dV.1
  have hpb:=YA dV
  refine(zP)<|(zV (xix (kk:=b6) VU hv1))<|zle (xso 5 Zfl hS rfl) ?_;clear hS;rintro w hS
  refine zx7<|zdst [0,1,2,3,4,5] [0,1,2,3,4,5] 1000 mx_ hS ?_;clear hS;intro w hS
  refine(zDl 0 (fun w hS=>(xls 0 ZC hS)))<|(zDw 1 xmv)<|(zDw 2 (xfb 0 fd_38_0))<|(zDl 3 (fun w hS=>(xlb 1 Zu hS)))<|(zDw 4 xmv)<|(zDw 5 (xix (kk:=b6) Zi hM.row.slh))<|(zDl 6 (fun w hS=>(xlr (u:=(mv b6)) pl_22 (hM.row.below hS.below))))<|zdc 7 (xc0 ZiA) (ZeL (u:=nC) (pv:=wC) (ln:=lC) (pt:=gC) (cnt:=cC) (p:=p) (f:=(mf b6)) w (⟨(hS.rowN 3 rfl),fun k k0 k1=>hS.rowIn 4 rfl k0 k1,fun k k0 k1=>hS.roomIn 4 rfl k0 k1⟩:VAt _ xC nC wC lC gC cC) (h.below hS.below) hPl (hpb.1▸((hM.p b6 (by omega) (by omega)).below hS.below))) ?_;rintro _ w ⟨rfl,hS'⟩
  replace hS:=hS.cmp hS';clear hS'
  refine⟨⟨fun _=>hS,hS⟩,?_⟩
  refine zdd<|ztn ?_
  refine Ze ?_ ?_<;>intro hc
  ·
   refine zrg<|(zP)<|zla (xl0 (c:=ints (mf b6)) Zb hS) ?_;rintro v2 w ⟨hS,hv2⟩
   refine(zV (xfb 0 fd_38_0))<|(zV (xlb 1 Zu hS))<|(zP)<|(zV (xix (kk:=b6) Zi hM.row.slh))<|(zV (xlr (u:=(mv b6)) pl_22 (hM.row.below hS.below)))<|zla (xap 6 (r:=(ml b6)) (f:=ints (mf b6)) Zb Zn hS ((hM.p b6 (by omega) (by omega)).below hS.below) (by exact XG _ _)) ?_;rintro v3 w ⟨hS,hv3⟩
   refine zlv (xany (v:= .agg #[v3,.int .i64 1]) (hr:=by obtain⟨_,_,_,_,rfl,_⟩:=hv3;kernel_rfl)) ?_
   refine zla (xli (n:=1) (len:=1) (pv:= [(0,.agg #[v3,.int .i64 1])]) (cs:= [v3,.int .i64 1]) (c:=Zd (fun _=>v3) (fun _=>1)) Zv Yq hS (hf:=by obtain⟨_,_,_,_,rfl,_⟩:=hv3;kernel_rfl)) ?_;rintro v4 w ⟨hS,hv4⟩
   refine zla (xap 3 (r:=nC+1) Zv Yq hS (hS.rowN 7 rfl) (Yb _ _ _ _ _) (h1:=fun k _ _=>ZG (fun _=>hv3.one) k)) ?_;rintro v5 w ⟨hS,hv5⟩
   replace hS:=Sat.merge (l1:= [_,_,_,_]) (l2:= [_]) (l3:= [_]) hS (by omega)
   have xe:=fun k (k0:0<=k) (k1:k<nC+1)=>hS.slhIn 4 rfl k0 k1
   refine(zP)<|zln<|zbn<|zlq ⟨nC+1,gsn wC nC v3,gsn lC nC (ml b6),gsn gC nC (mf b6),(snoc cC nC 1),upd cS b6 (.bool true),(snoc h6 N6 b6),N6+1,v5,rfl,(by omega),?_,?_,?_,?_,?_,(by omega),?_,rfl,hS.pk [0,1,2,3,4,5]⟩ (hlt:=(ZbW hN0 (by omega) (by omega) bN))
   ·
    exact Ky hN0 dt (show Bst s (dnP h6 N6) b6 u by rw [show u=i6 by omega];exact hB) (by omega)
   ·
    have h9:=ZbW (n:=s.n) hN0 (by omega) (by omega) bN;omega
   ·
    intro k k0 k1;unfold upd;by_cases e:k=b6
    · rw [if_pos e];exact ZU ((Xn hN0 k).2 (.inr e.symm))
    · rw [if_neg e,hcS k k0 k1];exact ZA ⟨fun hh=>(Xn hN0 k).2 (.inl hh),fun hh=>((Xn hN0 k).1 hh).resolve_right (fun e2=>e e2.symm)⟩
   ·
    first|exact Zjl hN0 hU ‹_›|exact ZgA hN0 zo hU hpb.1 (fun j j0 j1=>(hpb.2 j j0 j1).1) ‹_›
   ·
    first|exact hPl|exact Ui hPl (by omega) dW
   ·
    exact hv5
  refine zsk<|zbn<|zlq ⟨nC,wC,lC,gC,cC,upd cS b6 (.bool true),(snoc h6 N6 b6),N6+1,xC,rfl,(by omega),?_,?_,?_,?_,?_,(by omega),?_,rfl,hS⟩ (hlt:=(ZbW hN0 (by omega) (by omega) bN))
  ·
   exact Ky hN0 dt (show Bst s (dnP h6 N6) b6 u by rw [show u=i6 by omega];exact hB) (by omega)
  ·
   have h9:=ZbW (n:=s.n) hN0 (by omega) (by omega) bN;omega
  ·
   intro k k0 k1;unfold upd;by_cases e:k=b6
   · rw [if_pos e];exact ZU ((Xn hN0 k).2 (.inr e.symm))
   · rw [if_neg e,hcS k k0 k1];exact ZA ⟨fun hh=>(Xn hN0 k).2 (.inl hh),fun hh=>((Xn hN0 k).1 hh).resolve_right (fun e2=>e e2.symm)⟩
  ·
   first|exact Zjl hN0 hU ‹_›|exact ZgA hN0 zo hU hpb.1 (fun j j0 j1=>(hpb.2 j j0 j1).1) ‹_›
  ·
   first|exact hPl|exact Ui hPl (by omega) dW
  ·
   exact hxC
end Go.Proofs.YtopmifmfecfaaaaGreat
namespace Go.Proofs.YtopmifmfecfaaaaGreat
open Go Go.RowKit Go.Proofs.Gw
variable {u:Int} {ml:Int->Int} {mf:Int->Int->Int} {s:So}
theorem ZjT:Zc Tryz.prog 75=true:=by kernel_rfl
theorem ZjS:Zc Tryz.prog 76=true:=by kernel_rfl
theorem ZbZ:Zc Tryz.prog 77=true:=by kernel_rfl
def RBRun(p:Prob)(u:Int)(ml:Int->Int)(mf:Int->Int->Int)(s:So)(l:Us)(i:Int)(cur:Us):Prop:=
  (i=0/\cur=l)\/(i=1/\∃x e,DownR p u ml mf s x e/\cur=Yg l x e)\/(i=2/\∃x e y f,DownR p u ml mf s x e/\Zgv p u ml mf s y f/\cur=Yg (Yg l x e) y f)
theorem RBRun.s0{p:Prob}{l cur x:Us}{i e:Int}(h:RBRun p u ml mf s l i cur)(hi:i=0)(hx:DownR p u ml mf s x e):RBRun p u ml mf s l (i+1) (Yg cur x e):=by
  rcases h with⟨_,rfl⟩|⟨h,_⟩|⟨h,_⟩
  · exact .inr (.inl ⟨by omega,x,e,hx,rfl⟩)
  · omega
  · omega
theorem RBRun.s1{p:Prob}{l cur x:Us}{i e:Int}(h:RBRun p u ml mf s l i cur)(hi:i=1)(hx:Zgv p u ml mf s x e):RBRun p u ml mf s l (i+1) (Yg cur x e):=by
  rcases h with⟨h,_⟩|⟨_,y,f,h1,rfl⟩|⟨h,_⟩
  · omega
  · exact .inr (.inr ⟨by omega,y,f,x,e,h1,hx,rfl⟩)
  · omega
def Ze8(p:Prob)(out:Us)(e:Int):Prop:=
  (e≠0/\FFitR p [] e/\out= [])\/(e=0/\∃l,FFitR p l 0/\∃u ml mf s ec,0<=u/\ColR p u ml mf s ec/\((ec≠0/\out=l)\/(ec=0/\RBRun p u ml mf s l 2 out)))
theorem ColR.eq0{p:Prob}{u2:Int}{ml2:Int->Int}{mf2:Int->Int->Int}{s2:So}(h:ColR p u ml mf s 0)(k:ColR p u2 ml2 mf2 s2 0):u=u2/\ml=ml2/\mf=mf2/\s=s2:=by
  rcases h with⟨_,_,_,h⟩|⟨_,h,_⟩|⟨hok,_,h2,h3,h4⟩
  · omega
  · exact absurd rfl h
  · rcases k with⟨_,_,_,k⟩|⟨_,k,_⟩|⟨_,_,k2,k3,k4⟩
    · omega
    · exact absurd rfl k
    · have g1:=X6 hok h2 h3 h4 k2
      have g2:=X6 hok k2 k3 k4 h2
      obtain rfl:u=u2:=by omega
      obtain⟨rfl,rfl,_⟩:=Wo hok h2 k2 rfl
      exact⟨rfl,rfl,rfl,(MSolveR.same h3 k3).1⟩
theorem BestR.same {p:Prob} {o1 o2:Us} {e1 e2:Int} (h:BestR p o1 e1) (k:Ze8 p o2 e2):o1=o2/\e1=e2:=by
  rcases h with⟨h1,h2,h3⟩|⟨h1,l,h2,u,ml,mf,s,ec,u0,hc,h3⟩<;>rcases k with⟨k1,k2,k3⟩|⟨k1,m,k2,u',ml',mf',s',ec',u0',kc,k3⟩
  · exact⟨by rw [h3,k3],(h2.same k2).2⟩
  · exact absurd (h2.same k2).2 h1
  · exact absurd (h2.same k2).2.symm k1
  · obtain⟨rfl,_⟩:=h2.same k2
    refine⟨?_,by omega⟩
    have he:=(hc.same kc).2.2
    subst he
    rcases h3 with⟨h4,h5⟩|⟨h4,h5⟩<;>rcases k3 with⟨k4,k5⟩|⟨k4,k5⟩
    · rw [h5,k5]
    · exact absurd k4 h4
    · exact absurd h4 k4
    · subst h4
      obtain⟨rfl,rfl,rfl,rfl⟩:=hc.eq0 kc
      rcases h5 with⟨h,_⟩|⟨h,_⟩|⟨_,x,e,y,f,hx,hy,rfl⟩
      · omega
      · omega
      · rcases k5 with⟨k,_⟩|⟨k,_⟩|⟨_,x',e',y',f',kx,ky,rfl⟩
        · omega
        · omega
        · obtain⟨rfl,rfl⟩:=hx.same kx
          obtain⟨rfl,rfl⟩:=hy.same u0 ky
          rfl
theorem Zf7 {vL vD:Value} {p:Prob} (w0:World) (h:PAt w0 vL vD p):
    Calls Tryz.prog 43 [.agg #[vL,vD,.int .i64 p.stock,.int .i64 p.kerf]].toArray w0 fun e w=>∃v,e= .returned v/\∃r n pv ln pt cnt e,v= .tuple #[r,.int .i64 e]/\Ze8 p (plL n ln pt cnt) e/\(∀k,0<=k->k<n->1<=cnt k/\cnt k<=1000000000)/\n<=1000000/\Slh r n/\Sat w0 w [.own r 2 100 n (Zd pv cnt),.sem (Frame.rows 3 n pv ln pt)]:=by
  have hm:=h.L.slh.n0;have hm1:=h.L.slh.n1;have hd:=h.D.slh.n0;have hd1:=h.D.slh.n1;have hs:=h.is;have hk:=h.ik
  refine Zm Tryz.func43 Tryz.ntmps43 fun w hS=> ?_
  refine zsr<|zla (xbx (cs:= [_,_,_,_]) hS) ?_;rintro _ w ⟨g1,rfl,hS⟩
  refine(zP)<|(zP)<|zlz<|(zV (xls 0 ZC hS))<|zlc (xc0 Zd5) (Ka (p:=p) w (h.below hS.below)) ?_;rintro _ w ⟨xi,qB,q8,qX,qZ,qS,xE,rfl,qC,ya,zF,qV,hS'⟩
  replace hS:=(hS.comp hS').n3;clear hS'
  have ym:=fun k (k0:0<=k) (k1:k<qB)=>hS.slhIn 2 rfl k0 k1
  refine zs5 ?_
  refine zx5<|(zP)<|(zP)<|zlt<|Ze ?_ ?_<;>intro hc
  ·
   refine zsr<|(zP)<|(zP)<|(zP)<|zx14<|zf2 ⟨_,rfl,?_⟩
   exact⟨_,0,fun _=>undef,fun _=>0,fun _ _=>0,fun _=>0,_,rfl,.inl ⟨by omega,(by rw [<-qC.2.2 (by omega)];exact qC),rfl⟩,fun k k0 k1=>by omega,by omega,slh_nil,((hS.sub (.cons _ (.cons _ (.cons _ .slnil)))).addnil 2 100 (Zd (fun _=>undef) (fun _=>0))).addrows 3 (fun _=>undef) (fun _=>0) (fun _ _=>0)⟩
  refine Z7<|(zV (xls 0 ZC hS))<|zlc (xc0 Zj6) (ZcL (p:=p) w (h.below hS.below)) ?_;rintro _ w ⟨yP,yO,zL,zK,yf,xX,xY,xU,gh,rfl,yq,xM,ai,ah,hS'⟩
  replace hS:=(hS.comp hS').n7;clear hS'
  have cT:=fun k (k0:0<=k) (k1:k<yf)=>hS.slhIn 4 rfl k0 k1
  refine(zP)<|(zP)<|(zP)<|zla (xal (cs:= [_,_,_,_,_]) ZgG hS) ?_;rintro _ w ⟨g2,rfl,hS⟩
  refine zle (xsw 7 XZ hS (hd:=(Za xM.one (Za ai.one (Za ah.one (Za rfl (Za rfl Zg))))))) ?_;clear hS;rintro w hS
  refine(zP)<|zx5<|(zP)<|(zP)<|zlt<|Ze ?_ ?_<;>intro hc
  ·
   refine zsr<|(zP)<|(zP)<|(zP)<|zx14<|zf2 ⟨_,rfl,?_⟩
   exact⟨_,_,_,_,_,_,0,rfl,.inr ⟨rfl,_,(by rw [show(0:Int)=xE by omega];exact qC),_,_,_,_,_,xM.n0,yq,.inl ⟨by omega,rfl⟩⟩,fun k k0 k1=>by have:=ya k k0 k1;omega,by omega,qV,hS.pk [1,2]⟩
  refine Xb<|(zP)<|zx6<|zlp (fun mm M w=>∃(nC:Int) (wv:Int->Value) (lC:Int->Int) (gC:Int->Int->Int) (cC:Int->Int) (i:Int) (wC:Value),mm=((2-i).toNat)/\(0<=i)/\(i<=2)/\(∀k,0<=k->k<nC->1<=cC k/\cC k<=1000000000)/\(nC<=1000000)/\(RBRun p yf xX xY xU (plL qB qX qZ qS) i (plL nC lC gC cC))/\(Slh wC nC)/\M= [(1,.pointer (some ⟨g1,0,none⟩)),(2,.slice none 0 0),(3,.int .i64 0),(4,wC),(6,.pointer (some ⟨g2,0,none⟩)),(7,.int .i64 i)]/\Sat w0 w [.blk g1 [vL,vD,.int .i64 p.stock,.int .i64 p.kerf],.own wC 2 100 nC (Zd wv cC),.sem (Frame.rows 3 nC wv lC gC),.own yP 1 22 yf yO,.sem (Frame.rows 3 yf yO xX xY),.own zL 1 3 xU.n (ints xU.X),.own zK 1 3 xU.m (ints xU.Y),.blk g2 [yP,zL,zK,.int .i64 xU.val,.int .i64 xU.den]]) ⟨qB,q8,qX,qZ,qS,0,xi,rfl,(by omega),(by omega),?_,(by omega),?_,?_,rfl,hS⟩ ?_
  ·
   intro k k0 k1;have:=ya k k0 k1;omega
  ·
   exact .inl ⟨rfl,rfl⟩
  ·
   exact qV
  clear hS w
  rintro mm M w ⟨nC,wv,lC,gC,cC,i,wC,rfl,i0,i1,hcB,hnB,hBR,hwC,rfl,hS⟩
  have qN:=fun k (k0:0<=k) (k1:k<nC)=>hS.slhIn 2 rfl k0 k1
  obtain⟨bL,dP⟩:=yq.n60 (by omega) xM.n0
  refine zx11<|(zP)<|(zP)<|zlt<|Ze ?_ ?_<;>intro hc
  ·
   refine zx3<|(zV (xls 0 ZC hS))<|(zV (xls 7 XZ hS))<|zlc (xc0 ZjT) (Zf6 (p:=p) (u:=yf) (ml:=xX) (mf:=xY) (s:=xU) w (h.below hS.below) (⟨(hS.rowN 3 rfl),fun k k0 k1=>hS.rowIn 4 rfl k0 k1,fun k k0 k1=>hS.roomIn 4 rfl k0 k1⟩:MAt _ yP yf yO xX xY) (hS.rowN 5 rfl) (hS.rowN 6 rfl) (by omega)) ?_;rintro _ w ⟨aQ,zy,aa,ae,ar,av,gd,rfl,zu,xr,fv,xJ,hS'⟩
   replace hS:=(hS.comp hS').n10;clear hS'
   have eP:=fun k (k0:0<=k) (k1:k<zy)=>hS.slhIn 9 rfl k0 k1
   refine zs5 ?_
   refine zx5<|(zP)<|(zP)<|zlt<|Ze ?_ ?_<;>intro hc
   ·
    refine zrg<|(zV (xls 0 ZC hS))<|(zV (xls 7 XZ hS))<|zlc (xc0 ZjS) (Zka (p:=p) (u:=yf) (ml:=xX) (mf:=xY) (s:=xU) w (h.below hS.below) (⟨(hS.rowN 3 rfl),fun k k0 k1=>hS.rowIn 4 rfl k0 k1,fun k k0 k1=>hS.roomIn 4 rfl k0 k1⟩:MAt _ yP yf yO xX xY) (hS.rowN 5 rfl) (hS.rowN 6 rfl) (by omega)) ?_;rintro _ w ⟨aP,zx,z8,ac,aq,au,ga,rfl,zt,xq,fu,xI,hS'⟩
    replace hS:=(hS.comp hS').n12;clear hS'
    have eO:=fun k (k0:0<=k) (k1:k<zx)=>hS.slhIn 11 rfl k0 k1
    refine zs5 ?_
    refine zlz<|(zP)<|(zP)<|(zP)<|zlb 46 ?_ ?_<;>intro hc
    ·
     refine(zP)<|zlc (xc0 ZbZ) (UE (u:=zx) (pv:=z8) (ln:=ac) (pt:=aq) (cnt:=au) w (⟨(hS.rowN 10 rfl),fun k k0 k1=>hS.rowIn 11 rfl k0 k1,fun k k0 k1=>hS.roomIn 11 rfl k0 k1⟩:VAt _ aP zx z8 ac aq au) (by omega) (fun k k0 k1=>by first|(have h8:=hcB k k0 k1;omega)|(have h8:=xq k k0 k1;omega)|(have h8:=xr k k0 k1;omega))) ?_;rintro _ w ⟨rfl,hS'⟩
     replace hS:=hS.cmp hS';clear hS'
     refine(zP)<|zlc (xc0 ZbZ) (UE (u:=nC) (pv:=wv) (ln:=lC) (pt:=gC) (cnt:=cC) w (⟨(hS.rowN 1 rfl),fun k k0 k1=>hS.rowIn 2 rfl k0 k1,fun k k0 k1=>hS.roomIn 2 rfl k0 k1⟩:VAt _ wC nC wv lC gC cC) (by omega) (fun k k0 k1=>by first|(have h8:=hcB k k0 k1;omega)|(have h8:=xq k k0 k1;omega)|(have h8:=xr k k0 k1;omega))) ?_;rintro _ w ⟨rfl,hS'⟩
     replace hS:=hS.cmp hS';clear hS'
     refine(zP)<|(zP)<|zlt<|Ze ?_ ?_<;>intro hc
     ·
      refine zrg<|(zP)<|(zP)<|zx10<|(zP)<|(zV (Zf (r:=i+1)))<|(zP)<|zln<|zlq ⟨zx,z8,ac,aq,au,i+1,aP,rfl,(by omega),(by omega),?_,(by omega),?_,?_,rfl,hS.pk [0,10,11,3,4,5,6,7]⟩
      ·
       first|exact hcB|exact xq|exact xr
      ·
       first
       | (have hnx:=hBR.s1 (by omega) zt
          unfold Yg at hnx
          rw [Zt _ xI.n0,Zt _ hwC.n0] at hnx
          first|(rw [if_pos ⟨by omega,by assumption⟩] at hnx;exact hnx)|(rw [if_neg (by first|(intro hh;exact absurd hh.1 (by omega))|(intro hh;exact absurd hh.2 (by assumption))|(rintro⟨q1,q2⟩;omega))] at hnx;exact hnx))
       | (have hnx:=hBR.s0 (by omega) zu
          unfold Yg at hnx
          rw [Zt _ xJ.n0,Zt _ hwC.n0] at hnx
          first|(rw [if_pos ⟨by omega,by assumption⟩] at hnx;exact hnx)|(rw [if_neg (by first|(intro hh;exact absurd hh.1 (by omega))|(intro hh;exact absurd hh.2 (by assumption))|(rintro⟨q1,q2⟩;omega))] at hnx;exact hnx))
      ·
       exact xI
     refine zx4<|(zP)<|(zV (Zf (r:=i+1)))<|(zP)<|zln<|zlq ⟨nC,wv,lC,gC,cC,i+1,wC,rfl,(by omega),(by omega),?_,(by omega),?_,?_,rfl,hS.pk [0,1,2,3,4,5,6,7]⟩
     ·
      first|exact hcB|exact xq|exact xr
     ·
      first
      | (have hnx:=hBR.s1 (by omega) zt
         unfold Yg at hnx
         rw [Zt _ xI.n0,Zt _ hwC.n0] at hnx
         first|(rw [if_pos ⟨by omega,by assumption⟩] at hnx;exact hnx)|(rw [if_neg (by first|(intro hh;exact absurd hh.1 (by omega))|(intro hh;exact absurd hh.2 (by assumption))|(rintro⟨q1,q2⟩;omega))] at hnx;exact hnx))
      | (have hnx:=hBR.s0 (by omega) zu
         unfold Yg at hnx
         rw [Zt _ xJ.n0,Zt _ hwC.n0] at hnx
         first|(rw [if_pos ⟨by omega,by assumption⟩] at hnx;exact hnx)|(rw [if_neg (by first|(intro hh;exact absurd hh.1 (by omega))|(intro hh;exact absurd hh.2 (by assumption))|(rintro⟨q1,q2⟩;omega))] at hnx;exact hnx))
     ·
      exact hwC
    iterate 5 refine zlo ?_
    refine(zP)<|zlt<|zcf<|zsk<|zbn<|ztn<|zrg ?_
    refine(zP)<|(zV (Zf (r:=i+1)))<|(zP)<|zln<|zlq ⟨nC,wv,lC,gC,cC,i+1,wC,rfl,(by omega),(by omega),?_,(by omega),?_,?_,rfl,hS.pk [0,1,2,3,4,5,6,7]⟩
    ·
     first|exact hcB|exact xq|exact xr
    ·
     first
     | (have hnx:=hBR.s1 (by omega) zt
        unfold Yg at hnx
        rw [Zt _ xI.n0,Zt _ hwC.n0] at hnx
        first|(rw [if_pos ⟨by omega,by assumption⟩] at hnx;exact hnx)|(rw [if_neg (by first|(intro hh;exact absurd hh.1 (by omega))|(intro hh;exact absurd hh.2 (by assumption))|(rintro⟨q1,q2⟩;omega))] at hnx;exact hnx))
     | (have hnx:=hBR.s0 (by omega) zu
        unfold Yg at hnx
        rw [Zt _ xJ.n0,Zt _ hwC.n0] at hnx
        first|(rw [if_pos ⟨by omega,by assumption⟩] at hnx;exact hnx)|(rw [if_neg (by first|(intro hh;exact absurd hh.1 (by omega))|(intro hh;exact absurd hh.2 (by assumption))|(rintro⟨q1,q2⟩;omega))] at hnx;exact hnx))
    ·
     exact hwC
   refine Z7<|(zP)<|(zP)<|(zP)<|zlb 46 ?_ ?_<;>intro hc
   ·
    refine(zP)<|zlc (xc0 ZbZ) (UE (u:=zy) (pv:=aa) (ln:=ae) (pt:=ar) (cnt:=av) w (⟨(hS.rowN 8 rfl),fun k k0 k1=>hS.rowIn 9 rfl k0 k1,fun k k0 k1=>hS.roomIn 9 rfl k0 k1⟩:VAt _ aQ zy aa ae ar av) (by omega) (fun k k0 k1=>by first|(have h8:=hcB k k0 k1;omega)|(have h8:=xq k k0 k1;omega)|(have h8:=xr k k0 k1;omega))) ?_;rintro _ w ⟨rfl,hS'⟩
    replace hS:=hS.cmp hS';clear hS'
    refine(zP)<|zlc (xc0 ZbZ) (UE (u:=nC) (pv:=wv) (ln:=lC) (pt:=gC) (cnt:=cC) w (⟨(hS.rowN 1 rfl),fun k k0 k1=>hS.rowIn 2 rfl k0 k1,fun k k0 k1=>hS.roomIn 2 rfl k0 k1⟩:VAt _ wC nC wv lC gC cC) (by omega) (fun k k0 k1=>by first|(have h8:=hcB k k0 k1;omega)|(have h8:=xq k k0 k1;omega)|(have h8:=xr k k0 k1;omega))) ?_;rintro _ w ⟨rfl,hS'⟩
    replace hS:=hS.cmp hS';clear hS'
    refine(zP)<|(zP)<|zlt<|Ze ?_ ?_<;>intro hc
    ·
     refine zrg<|(zP)<|(zP)<|zx10<|(zP)<|(zV (Zf (r:=i+1)))<|(zP)<|zln<|zlq ⟨zy,aa,ae,ar,av,i+1,aQ,rfl,(by omega),(by omega),?_,(by omega),?_,?_,rfl,hS.pk [0,8,9,3,4,5,6,7]⟩
     ·
      first|exact hcB|exact xq|exact xr
     ·
      first
      | (have hnx:=hBR.s1 (by omega) zt
         unfold Yg at hnx
         rw [Zt _ xI.n0,Zt _ hwC.n0] at hnx
         first|(rw [if_pos ⟨by omega,by assumption⟩] at hnx;exact hnx)|(rw [if_neg (by first|(intro hh;exact absurd hh.1 (by omega))|(intro hh;exact absurd hh.2 (by assumption))|(rintro⟨q1,q2⟩;omega))] at hnx;exact hnx))
      | (have hnx:=hBR.s0 (by omega) zu
         unfold Yg at hnx
         rw [Zt _ xJ.n0,Zt _ hwC.n0] at hnx
         first|(rw [if_pos ⟨by omega,by assumption⟩] at hnx;exact hnx)|(rw [if_neg (by first|(intro hh;exact absurd hh.1 (by omega))|(intro hh;exact absurd hh.2 (by assumption))|(rintro⟨q1,q2⟩;omega))] at hnx;exact hnx))
     ·
      exact xJ
    refine zx4<|(zP)<|(zV (Zf (r:=i+1)))<|(zP)<|zln<|zlq ⟨nC,wv,lC,gC,cC,i+1,wC,rfl,(by omega),(by omega),?_,(by omega),?_,?_,rfl,hS.pk [0,1,2,3,4,5,6,7]⟩
    ·
     first|exact hcB|exact xq|exact xr
    ·
     first
     | (have hnx:=hBR.s1 (by omega) zt
        unfold Yg at hnx
        rw [Zt _ xI.n0,Zt _ hwC.n0] at hnx
        first|(rw [if_pos ⟨by omega,by assumption⟩] at hnx;exact hnx)|(rw [if_neg (by first|(intro hh;exact absurd hh.1 (by omega))|(intro hh;exact absurd hh.2 (by assumption))|(rintro⟨q1,q2⟩;omega))] at hnx;exact hnx))
     | (have hnx:=hBR.s0 (by omega) zu
        unfold Yg at hnx
        rw [Zt _ xJ.n0,Zt _ hwC.n0] at hnx
        first|(rw [if_pos ⟨by omega,by assumption⟩] at hnx;exact hnx)|(rw [if_neg (by first|(intro hh;exact absurd hh.1 (by omega))|(intro hh;exact absurd hh.2 (by assumption))|(rintro⟨q1,q2⟩;omega))] at hnx;exact hnx))
    ·
     exact hwC
   iterate 5 refine zlo ?_
   refine(zP)<|zlt<|zcf<|zsk<|zbn<|ztn<|zrg ?_
   refine(zP)<|(zV (Zf (r:=i+1)))<|(zP)<|zln<|zlq ⟨nC,wv,lC,gC,cC,i+1,wC,rfl,(by omega),(by omega),?_,(by omega),?_,?_,rfl,hS.pk [0,1,2,3,4,5,6,7]⟩
   ·
    first|exact hcB|exact xq|exact xr
   ·
    first
    | (have hnx:=hBR.s1 (by omega) zt
       unfold Yg at hnx
       rw [Zt _ xI.n0,Zt _ hwC.n0] at hnx
       first|(rw [if_pos ⟨by omega,by assumption⟩] at hnx;exact hnx)|(rw [if_neg (by first|(intro hh;exact absurd hh.1 (by omega))|(intro hh;exact absurd hh.2 (by assumption))|(rintro⟨q1,q2⟩;omega))] at hnx;exact hnx))
    | (have hnx:=hBR.s0 (by omega) zu
       unfold Yg at hnx
       rw [Zt _ xJ.n0,Zt _ hwC.n0] at hnx
       first|(rw [if_pos ⟨by omega,by assumption⟩] at hnx;exact hnx)|(rw [if_neg (by first|(intro hh;exact absurd hh.1 (by omega))|(intro hh;exact absurd hh.2 (by assumption))|(rintro⟨q1,q2⟩;omega))] at hnx;exact hnx))
   ·
    exact hwC
  refine zx8<|(zP)<|(zP)<|(zP)<|zx1<|zf2 ⟨_,rfl,?_⟩
  exact⟨_,_,_,_,_,_,0,rfl,.inr ⟨rfl,_,(by rw [show(0:Int)=xE by omega];exact qC),_,_,_,_,_,xM.n0,yq,.inr ⟨by omega,by rw [show(2:Int)=i by omega];exact hBR⟩⟩,hcB,by omega,hwC,hS.pk [1,2]⟩
end Go.Proofs.YtopmifmfecfaaaaGreat
namespace Go.Proofs.YtopmifmfecfaaaaGreat
open Go Go.RowKit Go.Proofs.Gw
theorem ZeK{vV:Value}{n:Int}{pv:Int->Value}{ln:Int->Int}{pt:Int->Int->Int}{cnt:Int->Int}(w0:World)(hV:VAt w0 vV n pv ln pt cnt)(hn5:n<=100000):
    Calls Tryz.prog 41 [vV].toArray w0 fun e w=>∃v,e= .returned v/\∃r,v=r/\Slh r n/\Sat w0 w [.own r 2 111 n (Zd pv cnt)]:=by
  have hn:=hV.row.slh.n0;have hn1:=hV.row.slh.n1
  refine Zm Tryz.func41 Tryz.ntmps41 fun w hS=> ?_
  refine zsr<|(zP)<|zlz<|(zP)<|zx5<|(zP)<|(zV (xln Zv hV.row.slh))<|(zP)<|zx6 ?_
  replace hS:=hS.addnil 2 111 (Zd (fun _=>Value.slice none 0 0) (fun _=>0))
  refine zlp (fun mm M w=>∃(nC:Int) (wv:Int->Value) (cC:Int->Int) (i:Int) (wC:Value),mm=((n-i).toNat)/\(0<=i)/\(i<=n)/\(nC=i)/\(∀k,0<=k->k<i->wv k=pv k)/\(∀k,0<=k->k<i->cC k=cnt k)/\(Slh wC nC)/\M= [(2,.slice none 0 0),(3,wC),(6,vV),(7,.int .i64 n),(8,.int .i64 i)]/\Sat w0 w [.own wC 2 111 nC (Zd wv cC)]) ⟨0,(fun _=>Value.slice none 0 0),(fun _=>0),0,(.slice none 0 0),rfl,(by omega),(by omega),(by omega),?_,?_,?_,rfl,hS⟩ ?_
  ·
   intro k k0 k1;omega
  ·
   intro k k0 k1;omega
  ·
   exact slh_nil
  clear hS w
  rintro mm M w ⟨nC,wv,cC,i,wC,rfl,h0,h1,hnC,hwv,hcC,hwC,rfl,hS⟩
  refine zsr<|(zP)<|zx7<|Ze ?_ ?_<;>intro hc
  ·
   refine zx3<|(zV (xix (kk:=2*i) Zv hV.row.slh))<|(zV (xlw (cs:= [(pv i),.int .i64 (cnt i)]) UR (hV.row.below hS.below) (ZB (k:=2*i) (i:=i) pv cnt (by omega))))<|zla (xal (cs:= [_,_]) Yq hS) ?_;rintro _ w ⟨g1,rfl,hS⟩
   refine zle (xsw 1 UR hS (hd:=(Za (hV.p i (by omega) (by omega)).slh.one (Za rfl Zg)))) ?_;clear hS;rintro w hS
   refine zlt<|zrg<|(zP)<|(zV (xls 1 UR hS))<|zla (xli (n:=1) (len:=1) (pv:= [(0,.agg #[(pv i),.int .i64 (cnt i)])]) (cs:= [(pv i),.int .i64 (cnt i)]) (c:=Zd (fun _=>(pv i)) (fun _=>(cnt i))) ZV Yw hS (hf:=by have hz:=(hV.p i (by omega) (by omega)).slh;revert hz;generalize (pv i)=z;rintro⟨_,_,_,_,rfl,_⟩;show _=_;kernel_rfl)) ?_;rintro v1 w ⟨hS,hv1⟩
   refine zla (xap 0 (r:=nC+1) ZV Yw hS (hS.rowN 2 rfl) (Yb _ _ _ _ _) (h1:=fun k _ _=>ZG (fun _=>(hV.p i (by omega) (by omega)).slh.one) k)) ?_;rintro v2 w ⟨hS,hv2⟩
   refine(zP)<|zx10<|(zV (Zf (r:=i+1)))<|(zP)<|zln<|zlq ⟨nC+1,(gsn wv nC (pv i)),(snoc cC nC (cnt i)),i+1,v2,rfl,(by omega),(by omega),(by omega),?_,?_,?_,rfl,hS.pk [0]⟩
   ·
    intro k k0 k1;by_cases e:k<nC
    · rw [Zs e];exact hwv k k0 (by omega)
    · rw [Zr e,show k=i by omega]
   ·
    intro k k0 k1;by_cases e:k<nC
    · rw [Zl e];exact hcC k k0 (by omega)
    · rw [Zk e,show k=i by omega]
   ·
    exact hv2
  refine zx8<|(zP)<|(zP)<|zx1<|zf1 ⟨_,rfl,?_⟩
  obtain rfl:i=n:=by omega
  subst hnC
  replace hS:=hS.recont 0 rfl (d:=Zd pv cnt) (fun k k0 k1=>by unfold Zd;rw [hwv _ (by omega) (by omega),hcC _ (by omega) (by omega)])
  exact⟨_,rfl,hwC,hS⟩
end Go.Proofs.YtopmifmfecfaaaaGreat
namespace Go.Proofs.YtopmifmfecfaaaaGreat
open Go Go.RowKit Go.Proofs.Gw
variable {cnt ln:Int->Int} {pt:Int->Int->Int}
theorem Zj4:Zc Tryz.prog 38=true:=by kernel_rfl
theorem Zd4:Zc Tryz.prog 40=true:=by kernel_rfl
theorem ZgO:Zc Tryz.prog 41=true:=by kernel_rfl
theorem Zj3:Zc Tryz.prog 43=true:=by kernel_rfl
theorem FFitR.few{p:Prob}{n e:Int}{ln cnt:Int->Int}{pt:Int->Int->Int}(hf:XH p)(h:FFitR p (plL n ln pt cnt) e)(n0:0<=n):n<=100000:=by
  by_cases hok:p.Ok
  · have h1:=(T9 hok hf (h.ex hok (UD hok hf h.1)) n0).1.few
    omega
  · have h1:e≠0:=by
      rcases h.1 with⟨_,h2⟩|⟨h2,_⟩|⟨h2,_⟩
      · omega
      · exact absurd h2 hok
      · exact absurd h2 hok
    have:=ZbC (h.2.2 h1) n0;omega
theorem BestR.few{p:Prob}{n e:Int}{ln cnt:Int->Int}{pt:Int->Int->Int}(hf:XH p)(h:BestR p (plL n ln pt cnt) e)(n0:0<=n):n<=100000:=by
  by_cases hok:p.Ok
  · have h1:=(T9 hok hf (h.ok hok hf).2 n0).1.few
    omega
  · rcases h with⟨_,_,h3⟩|⟨_,l,h2,_⟩
    · have:=ZbC h3 n0;omega
    · rcases h2.1 with⟨_,h2⟩|⟨h2,_⟩|⟨h2,_⟩
      · omega
      · exact absurd h2 hok
      · exact absurd h2 hok
theorem KZ {vL vD:Value} {p:Prob}{vV:Value} {u:Int} {pv:Int->Value} (w0:World) (h:PAt w0 vL vD p) (hB:UAt w0 vV u pv ln pt cnt) (hR:∀k,0<=k->k<u->Gw.Y9 (pv k)):
    Calls Tryz.prog 8 [.agg #[vL,vD,.int .i64 p.stock,.int .i64 p.kerf],vV].toArray w0 fun e w=>∃v,e= .returned v/\v= .bool true/\Sat w0 w []:=by
  have hm:=h.L.slh.n0;have hm1:=h.L.slh.n1;have hd:=h.D.slh.n0;have hd1:=h.D.slh.n1;have hs:=h.is;have hk:=h.ik
  have hV:VAt w0 vV u pv ln pt cnt:=⟨hB.row,fun i i0 i1=>(hB.p i i0 i1).1,hR⟩
  have hu:=hV.row.slh.n0;have hu1:=hV.row.slh.n1
  refine Zm Tryz.func8 Tryz.ntmps8 fun w hS=> ?_
  refine zsr<|zla (xbx (cs:= [_,_,_,_]) hS) ?_;rintro _ w ⟨g1,rfl,hS⟩
  refine(zP)<|zx5<|zlc (xc0 Zd7) (V9 w) ?_;rintro _ w ⟨rfl,hS'⟩
  replace hS:=hS.cmp hS';clear hS'
  refine(zP)<|(zP)<|(zV (xls 0 ZC hS))<|zlc (xc0 Zj8) (Zgi (p:=p) w (h.below hS.below)) ?_;rintro _ w ⟨rfl,hS'⟩
  replace hS:=hS.cmp hS';clear hS'
  refine(zP)<|(zP)<|(zP)<|zlb 24 ?_ ?_<;>intro hc
  ·
   iterate 3 refine zlo ?_
   refine(zP)<|zlt<|zct<|zsr ?_
   refine zlc (xc0 Zd7) (V9 w) ?_;rintro _ w ⟨rfl,hS'⟩
   replace hS:=hS.cmp hS';clear hS'
   refine(zP)<|zx14<|zf1 ⟨_,rfl,?_⟩
   exact⟨rfl,hS.nl⟩
  refine(zP)<|zlc (xc0 Zj4) (Zf4 (u:=u) (pv:=pv) (len:=ln) (pt:=pt) (cnt:=cnt) w (hB.below hS.below)) ?_;rintro _ w ⟨rfl,hS'⟩
  replace hS:=hS.cmp hS';clear hS'
  refine(zP)<|(zP)<|zlt<|Ze ?_ ?_<;>intro hc
  ·
   refine zsr<|zlc (xc0 Zd7) (V9 w) ?_;rintro _ w ⟨rfl,hS'⟩
   replace hS:=hS.cmp hS';clear hS'
   refine(zP)<|zx14<|zf1 ⟨_,rfl,?_⟩
   exact⟨rfl,hS.nl⟩
  refine Z7<|zlv (xls 0 ZC hS) ?_
  have eD:XH p:=by first|assumption|exact Classical.not_not.1 ‹_›
  have hsh:ShortP u ln cnt:=by first|assumption|exact Classical.not_not.1 ‹_›
  have hsf:=hsh.few
  refine zlc (xc0 Zd6) (Zbj (p:=p) w (h.below hS.below)) ?_;rintro _ w ⟨xi,qB,q8,qX,qZ,qS,xE,rfl,qC,ya,zF,qV,hS'⟩
  replace hS:=(hS.comp hS').n3;clear hS'
  have ym:=fun k (k0:0<=k) (k1:k<qB)=>hS.slhIn 2 rfl k0 k1
  refine zs5 ?_
  refine zlz<|(zV (xls 0 ZC hS))<|zlc (xc0 Zd5) (Ka (p:=p) w (h.below hS.below)) ?_;rintro _ w ⟨zq,zN,aB,ba,bE,bJ,aI,rfl,dg,fK,fI,cH,hS'⟩
  replace hS:=(hS.comp hS').n5;clear hS'
  have cV:=fun k (k0:0<=k) (k1:k<zN)=>hS.slhIn 4 rfl k0 k1
  refine zs5 ?_
  refine zx7 ?_
  refine XX (fun M w=>∃(xh:Value) (xw:Value) (xt:Value) (qD:Prob) (yX:Int) (g2:Nat),(Slh xh u)/\(LeftR p u ln pt cnt qD yX)/\(Slh xw qD.m)/\(Slh xt qD.d)/\M= [(0,.agg #[vL,vD,.int .i64 p.stock,.int .i64 p.kerf]),(1,vV),(2,.pointer (some ⟨g1,0,none⟩)),(4,.bool false),(17,.bool true),(18,.bool false),(19,.bool false),(20,.agg #[vL,vD,.int .i64 p.stock,.int .i64 p.kerf]),(21,B (XH p)),(22,B (¬(XH p))),(23,B (¬(XH p))),(24,.bool false),(25,vV),(26,B (ShortP u ln cnt)),(27,B (¬(ShortP u ln cnt))),(28,B (¬(ShortP u ln cnt))),(31,.agg #[vL,vD,.int .i64 p.stock,.int .i64 p.kerf]),(32,.tuple #[xi,.int .i64 xE]),(30,.tuple #[xi,.int .i64 xE]),(33,xi),(34,.int .i64 xE),(5,xi),(6,.int .i64 xE),(36,.agg #[vL,vD,.int .i64 p.stock,.int .i64 p.kerf]),(37,.tuple #[zq,.int .i64 aI]),(35,.tuple #[zq,.int .i64 aI]),(38,zq),(39,.int .i64 aI),(7,zq),(8,.int .i64 aI),(41,.agg #[vL,vD,.int .i64 p.stock,.int .i64 p.kerf]),(42,vV),(43,xh),(44,.tuple #[.agg #[xw,xt,.int .i64 qD.stock,.int .i64 qD.kerf],.int .i64 yX]),(40,.tuple #[.agg #[xw,xt,.int .i64 qD.stock,.int .i64 qD.kerf],.int .i64 yX]),(45,.agg #[xw,xt,.int .i64 qD.stock,.int .i64 qD.kerf]),(46,.int .i64 yX),(9,.pointer (some ⟨g2,0,none⟩)),(10,.int .i64 yX)]/\Sat w0 w [.blk g1 [vL,vD,.int .i64 p.stock,.int .i64 p.kerf],.own xi 2 111 qB (Zd q8 qS),.sem (Frame.rows 3 qB q8 qX qZ),.own zq 2 100 zN (Zd aB bJ),.sem (Frame.rows 3 zN aB ba bE),.own xh 2 111 u (Zd pv cnt),.own xw 1 3 qD.m (ints qD.L),.own xt 1 3 qD.d (ints qD.D),.blk g2 [xw,xt,.int .i64 qD.stock,.int .i64 qD.kerf]]) ?_ ?_
  ·
   refine zdst [0,1,2,3,4] [0,1,2,3,4] 8 mx_ hS ?_;clear hS;intro w hS
   refine(zDl 0 (fun w hS=>(xls 0 ZC hS)))<|(zDw 1 xmv)<|YS (r:= [2,7]) ((ZO ?_ (ZO ?_ YR)))
   ·
    refine zkc (xc0 ZgO) (ZeK (n:=u) (pv:=pv) (ln:=ln) (pt:=pt) (cnt:=cnt) w (hV.below hS.below) (by omega)) ?_;rintro xh w ⟨_,rfl,yC,hS'⟩
    replace hS:=(hS.comp hS').n6;clear hS'
    refine⟨⟨fun _=>hS.pk [0,1,2,3,4],hS.pk [0,1,2,3,4]⟩,?_⟩
    refine YS (r:= [3,7]) ((ZO ?_ (ZO ?_ YR)))
    ·
     refine zkc (xc0 Zd4) (Kb (u:=u) (pv:=pv) (ln:=ln) (pt:=pt) (cnt:=cnt) (p:=p) w (⟨(hS.rowN 5 rfl),fun k k0 k1=>(hV.p k k0 k1).below hS.below,hV.room⟩:VAt _ xh u pv ln pt cnt) (h.below hS.below)) ?_;rintro _ w ⟨xw,xt,qD,yX,rfl,yp,xL,xH,hS'⟩
     replace hS:=(hS.comp hS').n8;clear hS'
     refine⟨⟨fun _=>hS.pk [0,1,2,3,4],hS.pk [0,1,2,3,4]⟩,?_⟩
     refine(zDw 4 xmv)<|(zDw 5 xex)<|(zDw 6 xex)<|zda 7 (xal (cs:= [_,_,_,_]) Zak hS) ?_;rintro _ w ⟨g2,rfl,hS⟩
     refine⟨⟨fun _=>hS.pk [0,1,2,3,4],hS.pk [0,1,2,3,4]⟩,?_⟩
     refine zde 8 (xsw 8 st_35 hS (hd:=(Za xL.one (Za xH.one (Za rfl (Za rfl Zg)))))) ?_;clear hS;rintro w hS
     refine⟨⟨fun h=>absurd h (by decide),hS.pk [0,1,2,3,4]⟩,?_⟩
     refine(zDw 9 xas)<|zdd<|zgj ⟨xh,xw,xt,qD,yX,g2,yC,yp,xL,xH,rfl,hS⟩
    refine zka (xal (cs:= [_,_,_,_]) Zak hS) ?_;rintro _ w ⟨g2,rfl,hS⟩
    refine⟨⟨fun _=>hS.pk [0,1,2,3,4],hS.pk [0,1,2,3,4]⟩,?_⟩
    refine zdc 3 (xc0 Zd4) (Kb (u:=u) (pv:=pv) (ln:=ln) (pt:=pt) (cnt:=cnt) (p:=p) w (⟨(hS.rowN 5 rfl),fun k k0 k1=>(hV.p k k0 k1).below hS.below,hV.room⟩:VAt _ xh u pv ln pt cnt) (h.below hS.below)) ?_;rintro _ w ⟨xw,xt,qD,yX,rfl,yp,xL,xH,hS'⟩
    replace hS:=(hS.comp hS').n9;clear hS'
    refine⟨⟨fun _=>hS.pk [0,1,2,3,4],hS.pk [0,1,2,3,4]⟩,?_⟩
    refine(zDw 4 xmv)<|(zDw 5 xex)<|(zDw 6 xex)<|zde 8 (xsw 6 st_35 hS (hd:=(Za xL.one (Za xH.one (Za rfl (Za rfl Zg)))))) ?_;clear hS;rintro w hS
    refine⟨⟨fun h=>absurd h (by decide),hS.pk [0,1,2,3,4]⟩,?_⟩
    refine(zDw 9 xas)<|zdd<|zgj ⟨xh,xw,xt,qD,yX,g2,yC,yp,xL,xH,rfl,hS.pk [0,1,2,3,4,5,7,8,6]⟩
   refine zka (xal (cs:= [_,_,_,_]) Zak hS) ?_;rintro _ w ⟨g2,rfl,hS⟩
   refine⟨⟨fun _=>hS.pk [0,1,2,3,4],hS.pk [0,1,2,3,4]⟩,?_⟩
   refine zdc 2 (xc0 ZgO) (ZeK (n:=u) (pv:=pv) (ln:=ln) (pt:=pt) (cnt:=cnt) w (hV.below hS.below) (by omega)) ?_;rintro xh w ⟨_,rfl,yC,hS'⟩
   replace hS:=(hS.comp hS').n7;clear hS'
   refine⟨⟨fun _=>hS.pk [0,1,2,3,4],hS.pk [0,1,2,3,4]⟩,?_⟩
   refine zdc 3 (xc0 Zd4) (Kb (u:=u) (pv:=pv) (ln:=ln) (pt:=pt) (cnt:=cnt) (p:=p) w (⟨(hS.rowN 6 rfl),fun k k0 k1=>(hV.p k k0 k1).below hS.below,hV.room⟩:VAt _ xh u pv ln pt cnt) (h.below hS.below)) ?_;rintro _ w ⟨xw,xt,qD,yX,rfl,yp,xL,xH,hS'⟩
   replace hS:=(hS.comp hS').n9;clear hS'
   refine⟨⟨fun _=>hS.pk [0,1,2,3,4],hS.pk [0,1,2,3,4]⟩,?_⟩
   refine(zDw 4 xmv)<|(zDw 5 xex)<|(zDw 6 xex)<|zde 8 (xsw 5 st_35 hS (hd:=(Za xL.one (Za xH.one (Za rfl (Za rfl Zg)))))) ?_;clear hS;rintro w hS
   refine⟨⟨fun h=>absurd h (by decide),hS.pk [0,1,2,3,4]⟩,?_⟩
   refine(zDw 9 xas)<|zdd<|zgj ⟨xh,xw,xt,qD,yX,g2,yC,yp,xL,xH,rfl,hS.pk [0,1,2,3,4,6,7,8,5]⟩
  clear hS w;rintro M w ⟨xh,xw,xt,qD,yX,g2,yC,yp,xL,xH,rfl,hS⟩
  refine ztn<|zsr<|(zV (xls 0 ZC hS))<|(zP)<|zlc (xc0 Zd3) (Zb7 (u:=u) (pv:=pv) (ln:=ln) (pt:=pt) (cnt:=cnt) (p:=p) w (hV.below hS.below) (h.below hS.below)) ?_;rintro _ w ⟨gm,gl,zl,jt,rfl,c8,cK,cG,hS'⟩
  replace hS:=(hS.comp hS').n11;clear hS'
  refine(zP)<|(zP)<|(zP)<|zla (xal (cs:= [_,_,_,_]) Tg hS) ?_;rintro _ w ⟨g3,rfl,hS⟩
  refine zle (xsw 11 ZC hS (hd:=(Za cK.one (Za cG.one (Za rfl (Za rfl Zg)))))) ?_;clear hS;rintro w hS
  refine(zP)<|zlz<|(zV (xls 0 ZC hS))<|zlc (xc0 Zj5) (Zi9 (p:=p) w (h.below hS.below)) ?_;rintro _ w ⟨dD,aW,bW,b9,cu,cx,gJ,rfl,bA,gF,gA,bc,hS'⟩
  replace hS:=(hS.comp hS').n14;clear hS'
  have cY:=fun k (k0:0<=k) (k1:k<aW)=>hS.slhIn 13 rfl k0 k1
  refine zs5 ?_
  refine zlz<|(zV (xls 0 ZC hS))<|zlc (xc0 Zj3) (Zf7 (p:=p) w (h.below hS.below)) ?_;rintro _ w ⟨dC,aV,bV,bZ,cr,cw,gI,rfl,dm,gE,gz,cI,hS'⟩
  replace hS:=(hS.comp hS').n16;clear hS'
  have cW:=fun k (k0:0<=k) (k1:k<aV)=>hS.slhIn 15 rfl k0 k1
  refine zs5 ?_
  refine zlz<|zlv xmv ?_
  have jg:=qC.few eD qV.n0
  have jf:=bA.few eD bc.n0
  obtain⟨fJ,jh⟩:=qC.same dg
  have hsA:=SameP.of_plL qV.n0 cH.n0 (fun k k0 k1=>(ym k k0 k1).n0) (fun k k0 k1=>(cV k k0 k1).n0) fJ
  obtain⟨hlq,hle⟩:=yp.same c8
  have hlL:qD.m=zl.m/\∀k,0<=k->k<qD.m->qD.L k=zl.L k:=by rw [hlq];exact⟨rfl,fun _ _ _=>rfl⟩
  have hlD:qD.d=zl.d/\∀k,0<=k->k<qD.d->qD.D k=zl.D k:=by rw [hlq];exact⟨rfl,fun _ _ _=>rfl⟩
  have hlS:qD.stock=zl.stock:=by rw [hlq]
  have hlK:qD.kerf=zl.kerf:=by rw [hlq]
  obtain⟨fW,jo⟩:=bA.same dm
  have hsB:=SameP.of_plL bc.n0 cI.n0 (fun k k0 k1=>(cY k k0 k1).n0) (fun k k0 k1=>(cW k k0 k1).n0) fW
  refine(zP)<|zlc (xc0 Zd2) (Tq (n:=qB) (pv:=q8) (ln:=qX) (pt:=qZ) (cnt:=qS) (n2:=zN) (pv2:=aB) (ln2:=ba) (pt2:=bE) (cnt2:=bJ) w (⟨(hS.rowN 1 rfl),fun k k0 k1=>hS.rowIn 2 rfl k0 k1,fun k k0 k1=>hS.roomIn 2 rfl k0 k1⟩:VAt _ xi qB q8 qX qZ qS) (⟨(hS.rowN 3 rfl),fun k k0 k1=>hS.rowIn 4 rfl k0 k1,fun k k0 k1=>hS.roomIn 4 rfl k0 k1⟩:VAt _ zq zN aB ba bE bJ) (by omega)) ?_;rintro _ w ⟨rfl,hS'⟩
  replace hS:=hS.cmp hS';clear hS'
  refine(zP)<|zlb 66 ?_ ?_<;>intro hc
  ·
   refine zs5 ?_
   refine zlb 71 ?_ ?_<;>intro hc
   ·
    refine(zV (xfb 0 fd_35_0))<|(zV (xlb 8 pl_22 hS))<|(zV (xfb 0 fd_24_0))<|(zV (xlb 11 pl_22 hS))<|zlc (xc0 Zb1) (VI (n:=qD.m) (m:=zl.m) (f:=qD.L) (g:=zl.L) w (hS.rowN 6 rfl) (hS.rowN 9 rfl)) ?_;rintro _ w ⟨rfl,hS'⟩
    replace hS:=hS.cmp hS';clear hS'
    refine(zP)<|(zP)<|zlb 78 ?_ ?_<;>intro hc
    ·
     refine(zV (xfb 1 fd_35_1))<|(zV (xlb 8 pl_22 hS))<|(zV (xfb 1 fd_24_1))<|(zV (xlb 11 pl_22 hS))<|zlc (xc0 Zb1) (VI (n:=qD.d) (m:=zl.d) (f:=qD.D) (g:=zl.D) w (hS.rowN 7 rfl) (hS.rowN 10 rfl)) ?_;rintro _ w ⟨rfl,hS'⟩
     replace hS:=hS.cmp hS';clear hS'
     refine(zP)<|(zP)<|zlb 85 ?_ ?_<;>intro hc
     ·
      refine(zV (xfb 2 fd_35_2))<|(zV (xlb 8 pl_3 hS))<|(zV (xfb 2 fd_24_2))<|(zV (xlb 11 pl_3 hS))<|(zP)<|(zP)<|(zP)<|zlb 92 ?_ ?_<;>intro hc
      ·
       refine(zV (xfb 3 fd_35_3))<|(zV (xlb 8 pl_3 hS))<|(zV (xfb 3 fd_24_3))<|(zV (xlb 11 pl_3 hS))<|(zP)<|(zP)<|(zP)<|zlb 99 ?_ ?_<;>intro hc
       ·
        refine zs5 ?_
        refine zlb 104 ?_ ?_<;>intro hc
        ·
         refine(zP)<|(zP)<|zlc (xc0 Zd2) (Tq (n:=aW) (pv:=bW) (ln:=b9) (pt:=cu) (cnt:=cx) (n2:=aV) (pv2:=bV) (ln2:=bZ) (pt2:=cr) (cnt2:=cw) w (⟨(hS.rowN 12 rfl),fun k k0 k1=>hS.rowIn 13 rfl k0 k1,fun k k0 k1=>hS.roomIn 13 rfl k0 k1⟩:VAt _ dD aW bW b9 cu cx) (⟨(hS.rowN 14 rfl),fun k k0 k1=>hS.rowIn 15 rfl k0 k1,fun k k0 k1=>hS.roomIn 15 rfl k0 k1⟩:VAt _ dC aV bV bZ cr cw) (by omega)) ?_;rintro _ w ⟨rfl,hS'⟩
         replace hS:=hS.cmp hS';clear hS'
         refine(zP)<|(zP)<|zlb 109 ?_ ?_<;>intro hc
         ·
          refine zs5 ?_
          refine zx1<|zf1 ⟨_,rfl,?_⟩
          exact⟨(ZU (by omega)).symm,hS.nl⟩
         iterate 3 refine zlo ?_
         refine(zP)<|(zP)<|zx1<|zf1 ⟨_,rfl,?_⟩
         exfalso
         first|omega|exact absurd hsA ‹_›|exact absurd hlL ‹_›|exact absurd hlD ‹_›|exact absurd hsB ‹_›
        iterate 3 refine zlo ?_
        refine zs2 ?_
        iterate 3 refine zlo ?_
        refine(zP)<|(zP)<|zx1<|zf1 ⟨_,rfl,?_⟩
        exfalso
        first|omega|exact absurd hsA ‹_›|exact absurd hlL ‹_›|exact absurd hlD ‹_›|exact absurd hsB ‹_›
       iterate 3 refine zlo ?_
       refine zs2 ?_
       iterate 3 refine zlo ?_
       refine zs2 ?_
       iterate 3 refine zlo ?_
       refine(zP)<|(zP)<|zx1<|zf1 ⟨_,rfl,?_⟩
       exfalso
       first|omega|exact absurd hsA ‹_›|exact absurd hlL ‹_›|exact absurd hlD ‹_›|exact absurd hsB ‹_›
      iterate 5 refine zlo ?_
      refine zs2 ?_
      iterate 3 refine zlo ?_
      refine zs2 ?_
      iterate 3 refine zlo ?_
      refine zs2 ?_
      iterate 3 refine zlo ?_
      refine(zP)<|(zP)<|zx1<|zf1 ⟨_,rfl,?_⟩
      exfalso
      first|omega|exact absurd hsA ‹_›|exact absurd hlL ‹_›|exact absurd hlD ‹_›|exact absurd hsB ‹_›
     iterate 5 refine zlo ?_
     refine zs2 ?_
     iterate 5 refine zlo ?_
     refine zs2 ?_
     iterate 3 refine zlo ?_
     refine zs2 ?_
     iterate 3 refine zlo ?_
     refine zs2 ?_
     iterate 3 refine zlo ?_
     refine(zP)<|(zP)<|zx1<|zf1 ⟨_,rfl,?_⟩
     exfalso
     first|omega|exact absurd hsA ‹_›|exact absurd hlL ‹_›|exact absurd hlD ‹_›|exact absurd hsB ‹_›
    iterate 5 refine zlo ?_
    refine zs2 ?_
    iterate 5 refine zlo ?_
    refine zs2 ?_
    iterate 5 refine zlo ?_
    refine zs2 ?_
    iterate 3 refine zlo ?_
    refine zs2 ?_
    iterate 3 refine zlo ?_
    refine zs2 ?_
    iterate 3 refine zlo ?_
    refine(zP)<|(zP)<|zx1<|zf1 ⟨_,rfl,?_⟩
    exfalso
    first|omega|exact absurd hsA ‹_›|exact absurd hlL ‹_›|exact absurd hlD ‹_›|exact absurd hsB ‹_›
   iterate 5 refine zlo ?_
   refine zs2 ?_
   iterate 5 refine zlo ?_
   refine zs2 ?_
   iterate 5 refine zlo ?_
   refine zs2 ?_
   iterate 5 refine zlo ?_
   refine zs2 ?_
   iterate 3 refine zlo ?_
   refine zs2 ?_
   iterate 3 refine zlo ?_
   refine zs2 ?_
   iterate 3 refine zlo ?_
   refine(zP)<|(zP)<|zx1<|zf1 ⟨_,rfl,?_⟩
   exfalso
   first|omega|exact absurd hsA ‹_›|exact absurd hlL ‹_›|exact absurd hlD ‹_›|exact absurd hsB ‹_›
  iterate 3 refine zlo ?_
  refine zs2 ?_
  iterate 5 refine zlo ?_
  refine zs2 ?_
  iterate 5 refine zlo ?_
  refine zs2 ?_
  iterate 5 refine zlo ?_
  refine zs2 ?_
  iterate 5 refine zlo ?_
  refine zs2 ?_
  iterate 3 refine zlo ?_
  refine zs2 ?_
  iterate 3 refine zlo ?_
  refine zs2 ?_
  iterate 3 refine zlo ?_
  refine(zP)<|(zP)<|zx1<|zf1 ⟨_,rfl,?_⟩
  exfalso
  first|omega|exact absurd hsA ‹_›|exact absurd hlL ‹_›|exact absurd hlD ‹_›|exact absurd hsB ‹_›
end Go.Proofs.YtopmifmfecfaaaaGreat
namespace Go.Proofs.Gw
open Go Go.RowKit Go.ChangeShapes Go.WideShapes Go.ChangeAt
section
variable {H:Type} {enc:TypeId×Value->H} {P:Program} {w:World} {held:Bool}
def Small{H:Type}(P:Program)(t:TypeId)(d:DataW H):Prop:=(d.weights P t).all (· <=reachBytes)=true
theorem W6{ts:List TypeId}{ds:List (DataW H)}(h:(DataW.weightsEach P ts ds).all (· <=reachBytes)=true){j:Nat}{t:TypeId}{d:DataW H}(ht:ts[j]? =some t)(hd:ds[j]? =some d):Small P t d:=
  List.all_eq_true.2 fun n hn=>List.all_eq_true.1 h n (DataW.weights_mem_each ht hd n hn)
theorem Rz{t:TypeId}{fs:Array Field}{parts:List (DataW H)}(h:Small P t (.agg parts))(hu:P.underlying t=some (.struct fs)){j:Nat}{u:TypeId}{d:DataW H}(ht:(fs.toList.map (·.type))[j]? =some u)(hd:parts[j]? =some d):Small P u d:=by
  unfold Small at h
  simp only [DataW.weights,hu] at h
  exact W6 h ht hd
theorem VS{e:TypeId}:∀{ds:List (DataW H)},(DataW.weightsAll P e ds).all (· <=reachBytes)=true->∀d∈ds,Small P e d
  | [],_,d,hd=>by cases hd
  | x::r,h,d,hd=>by
    simp only [DataW.weightsAll,List.all_append,Bool.and_eq_true] at h
    rcases List.mem_cons.1 hd with rfl|hd
    · exact h.1
    · exact VS h.2 d hd
theorem Kt{t e:TypeId}{elems spare:List (DataW H)}(h:Small P t (.slice elems spare))(hu:P.underlying t=some (.slice e)):(elems.length+spare.length)*P.bytesOf e<=reachBytes/\∀d∈elems,Small P e d:=by
  unfold Small at h
  simp only [DataW.weights,hu,List.all_cons,List.all_append,Bool.and_eq_true,decide_eq_true_eq] at h
  exact⟨h.1,VS h.2.1⟩
theorem Rs{n:Int}(h:(Lit.int .i64 n).wf=true): -9223372036854775808<=n/\n<=9223372036854775807:=by
  simp only [Lit.wf,Bool.and_eq_true,decide_eq_true_eq] at h
  have h1:IntKind.i64.min= -9223372036854775808:=by decide
  have h2:IntKind.i64.max=9223372036854775807:=by decide
  omega
theorem Zcm{a:Addr}{v:Value}(h:w.cell? a=some v):a.spot=none:=World.cell?_spot h
end
end Go.Proofs.Gw
namespace Go.Proofs.Gw
open Go Go.RowKit Go.ChangeShapes Go.WideShapes Go.ChangeAt
section
variable {H:Type} {enc:TypeId×Value->H} {P:Program} {w:World} {held:Bool}
def Rd{H:Type}(enc:TypeId×Value->H)(P:Program)(w:World)(held:Bool)(t:TypeId)(cs:List Value):Prop:=∃fuel y,DataW.trod enc P w 0 (fun _=>true) held fuel t cs=some y/\Small P t y.1
theorem Rd.int{k:IntKind}{t:TypeId}{cs:List Value}(h:Rd enc P w held t cs)(ht:P.underlying t=some (.int k)):∃n,cs= [.int k n]/\(Lit.int k n).wf=true:=by
  obtain⟨fuel,y,h,_⟩:=h
  obtain⟨n,h1,_,h2⟩:=DataW.trod_int ht h
  exact⟨n,h1,h2⟩
theorem Rd.intv{k:IntKind}{t:TypeId}{v:Value}(h:Rd enc P w held t [v])(ht:P.underlying t=some (.int k)):∃n,v= .int k n/\(Lit.int k n).wf=true:=by
  obtain⟨n,h1,h2⟩:=h.int ht
  exact⟨n,by simpa using h1,h2⟩
theorem Rd.struct{fs:Array Field}{t:TypeId}{cs:List Value}(h:Rd enc P w held t cs)(ht:P.underlying t=some (.struct fs)):∀(j:Nat) (f:Field),fs[j]? =some f->Rd enc P w held f.type ((cs.drop f.offset).take (P.cellsOf f.type)):=fun j f hf=>by
  obtain⟨fuel,y,h,hs⟩:=h
  obtain⟨xs,n,_,rfl,hl,yc,hx⟩:=DataW.trod_struct ht h
  have hj:j<xs.length:=by rw [yc];exact(Array.getElem?_eq_some_iff.1 hf).1
  have h1:=hx j f hf
  rw [List.getElem?_eq_getElem hj] at h1
  exact⟨n,_,h1,Rz (j:=j) hs ht (by simp [hf]) (by simp [hj])⟩
theorem Rd.len{fs:Array Field}{t:TypeId}{cs:List Value}(h:Rd enc P w held t cs)(ht:P.underlying t=some (.struct fs)):cs.length=P.cellsOf t:=by
  obtain⟨fuel,y,h,hs⟩:=h
  obtain⟨xs,n,_,rfl,hl,yc,hx⟩:=DataW.trod_struct ht h
  exact hl
theorem Rd.slice {t e:TypeId} {s b:Nat} {v:Value} (h:Rd enc P w held t [v]) (ht:P.underlying t=some (.slice e)) (ce:P.cellsOf e=s) (be:P.bytesOf e=b) (hs1:1<=s) (hsb:s<=b):
    ∃(n:Int) (c:Int->Value),Row w v s n c/\b*n<=140737488351232/\∀i:Int,0<=i->i<n->Rd enc P w held e ((List.range s).map fun j:Nat=>c (i*s+j)):=by
  obtain⟨fuel,y,h,hs⟩:=h
  rcases Go.Deep.open_slice ht h with⟨hcs,_⟩|⟨a,len,cap,m,n,D,Pl,hcs,_,hl,hm,hmm,hy,hx⟩
  · simp only [List.cons.injEq,and_true] at hcs
    subst hcs
    exact⟨0,fun _=>undef,⟨⟨by omega,by omega,none,0,rfl,.inl rfl⟩,fun k hk=>by rw [Int.zero_mul] at hk;omega⟩,by omega,fun i a0 a1=>by omega⟩
  · simp only [List.cons.injEq,and_true] at hcs
    subst hcs
    simp only [if_true] at hmm
    subst hmm
    rw [hy] at hs
    have hsm:=Kt hs ht
    have hb1:=hsm.1
    rw [be] at hb1
    simp only [List.length_map,List.length_range] at hb1
    have h2:len*b<=(len+(m-len))*b:=Nat.mul_le_mul_right _ (by omega)
    have h3:len*b<=140737488351232:=by unfold reachBytes at hb1;omega
    have h4:len*1<=len*b:=Nat.mul_le_mul_left _ (by omega)
    rw [ce] at hx
    have e0:∀i:Nat,∃cs':List Value,i<len->w.cells? 0 (a.add (i*s)) s=some cs'/\DataW.trod enc P w 0 (fun _=>true) held n e cs'=some (D i,Pl i):=fun i=>by
      by_cases hi:i<len
      · obtain⟨cs',h5,h6⟩:=hx i (by omega)
        exact⟨cs',fun _=>⟨h5,h6⟩⟩
      · exact⟨[],fun h=>absurd h hi⟩
    obtain⟨C,hC⟩:=Classical.axiomOfChoice e0
    have dO:0<len->a.spot=none:=fun h0=>by
      obtain⟨_,h7,h8⟩:=World.cells?_some (hC 0 h0).1
      have h9:=h8 0 (by omega)
      rw [List.getElem?_eq_getElem (by omega)] at h9
      have h10:=Zcm h9
      simpa [Addr.add] using h10
    refine⟨len,fun k=>(C (k/s).toNat).getD (k%s).toNat undef,⟨⟨by omega,by omega,some a,m,by simp,?_⟩,fun j hj=> ?_⟩,?_,fun i i0 i1=> ?_⟩
    · by_cases hl0:len=0
      · left;omega
      · right
        have hsp:=dO (by omega)
        exact⟨a.block,a.off,by cases a;simp at hsp;simp [hsp]⟩
    · have hjs:j<len*s:=by rw [<-Int.natCast_mul] at hj;omega
      have hi:j/s<len:=(Nat.div_lt_iff_lt_mul (by omega)).2 hjs
      have eh:0<len:=Nat.lt_of_le_of_lt (Nat.zero_le _) hi
      have hsp:=dO eh
      obtain⟨_,h7,h8⟩:=World.cells?_some (hC (j/s) hi).1
      have hr:j%s<s:=Nat.mod_lt _ (by omega)
      have h9:=h8 (j%s) hr
      rw [Addr.add_eq a hsp,Addr.add_eq _ rfl] at h9
      have e1:((j:Int)/(s:Int)).toNat=j/s:=by rw [<-Int.natCast_ediv,Int.toNat_natCast]
      have e2:((j:Int)%(s:Int)).toNat=j%s:=by rw [<-Int.natCast_emod,Int.toNat_natCast]
      have e3:a.off+j/s*s+j%s=a.off+j:=by rw [Nat.add_assoc,Nat.mul_comm,Nat.div_add_mod]
      rw [List.getElem?_eq_getElem (by omega)] at h9
      simp only [e1,e2,List.getD_eq_getElem?_getD]
      rw [List.getElem?_eq_getElem (by omega)]
      simp only [cad,Int.toNat_natCast,Option.getD_some]
      simp only [e3] at h9
      exact h9
    · have:((len*b:Nat):Int)=b*len:=by rw [Int.natCast_mul,Int.mul_comm]
      omega
    · obtain⟨k,rfl⟩:=Int.eq_ofNat_of_zero_le i0
      have hk:k<len:=by omega
      obtain⟨h5,h6⟩:=hC k hk
      obtain⟨_,h7,h8⟩:=World.cells?_some h5
      have e:((List.range s).map fun j:Nat=>(C (((k:Int)*(s:Int)+(j:Int))/(s:Int)).toNat).getD (((k:Int)*(s:Int)+(j:Int))%(s:Int)).toNat undef)=C k:=by
        apply List.ext_getElem
        · simp [h7]
        · intro j hj1 hj2
          rw [List.getElem_map,List.getElem_range]
          have hjs:j<s:=by simpa using hj1
          have e0:((k:Int)*(s:Int)+(j:Int))=((k*s+j:Nat):Int):=by rw [Int.natCast_add,Int.natCast_mul]
          have e1:(((k*s+j:Nat):Int)/(s:Int)).toNat=k:=by
            rw [<-Int.natCast_ediv,Int.toNat_natCast,Nat.mul_comm,Nat.mul_add_div (by omega),Nat.div_eq_of_lt hjs,Nat.add_zero]
          have e2:(((k*s+j:Nat):Int)%(s:Int)).toNat=j:=by
            rw [<-Int.natCast_emod,Int.toNat_natCast,Nat.mul_comm,Nat.mul_add_mod,Nat.mod_eq_of_lt hjs]
          rw [e0,e1,e2,List.getD_eq_getElem?_getD,List.getElem?_eq_getElem hj2,Option.getD_some]
      rw [e]
      exact⟨n,_,h6,hsm.2 (D k) (List.mem_map.2 ⟨k,List.mem_range.2 hk,rfl⟩)⟩
theorem Rd.array{n:Nat}{t e:TypeId}{cs:List Value}(h:Rd enc P w held t cs)(ht:P.underlying t=some (.array n e)):∀i,i<n->Rd enc P w held e ((cs.drop (i*P.cellsOf e)).take (P.cellsOf e)):=fun i hi=>by
  obtain⟨fuel,y,h,hs⟩:=h
  obtain⟨xs,m,_,rfl,_,hl,hel⟩:=DataW.trod_array ht h
  have h1:=hel i hi
  rw [List.getElem?_eq_getElem (by omega)] at h1
  refine⟨m,_,h1,?_⟩
  unfold Small at hs
  simp only [DataW.weights,ht] at hs
  exact VS hs _ (List.mem_map.2 ⟨xs[i],List.getElem_mem _,rfl⟩)
theorem Rd.field{fs:Array Field}{t u:TypeId}{cs ds:List Value}(h:Rd enc P w held t cs)(ht:P.underlying t=some (.struct fs))(j:Nat){f:Field}(hf:fs[j]? =some f){k:Nat}(hu:f.type=u)(hk:P.cellsOf u=k)(hd:(cs.drop f.offset).take k=ds):Rd enc P w held u ds:=by
  subst hu;subst hd;rw [<-hk];exact h.struct ht j f hf
theorem ZaL{cs:Array Value}{l:List Value}(h:cs.toList=l):cs=l.toArray:=by subst h;simp
theorem Rd.arg{t:TypeId}{v:Value}{d:DataW H}{p:List MemPlace}(h:DataW.Trod enc P w 0 (fun _=>true) held t v d p)(hs:Small P t d):Rd enc P w held t v.cells.toList:=by
  obtain⟨fuel,hf⟩:=h
  exact⟨fuel,_,hf,hs⟩
theorem Zjt{cs:List Value}(h:cs.length=4):∃a b c d,cs= [a,b,c,d]:=by match cs,h with| [a,b,c,d],_=>exact⟨_,_,_,_,rfl⟩
theorem Rd.nums{k:IntKind}{t e:TypeId}{b:Nat}{v:Value}(h:Rd enc P w held t [v])(ht:P.underlying t=some (.slice e))(he:P.underlying e=some (.int k))(hc:P.cellsOf e=1)(hb:P.bytesOf e=b)(hb1:1<=b):
    ∃(n:Int) (f:Int->Int),Row w v 1 n (fun j=> .int k (f j))/\b*n<=140737488351232/\∀j,(Lit.int k (f j)).wf=true:=by
  obtain⟨n,c,h1,h2,h3⟩:=h.slice ht hc hb (by omega) hb1
  have h0:(Lit.int k 0).wf=true:=by cases k<;>decide
  have e0:∀i:Int,∃x:Int,(Lit.int k x).wf=true/\(0<=i->i<n->c i= .int k x):=fun i=>by
    by_cases hi:0<=i/\i<n
    · have h4:=h3 i hi.1 hi.2
      simp only [List.range_one,List.map_cons,List.map_nil] at h4
      obtain⟨x,hx,hw⟩:=h4.intv he
      refine⟨x,hw,fun _ _=> ?_⟩
      rw [<-hx];congr 1;omega
    · exact⟨0,h0,fun a0 a1=>absurd ⟨a0,a1⟩ hi⟩
  obtain⟨f,hf⟩:=Classical.axiomOfChoice e0
  exact⟨n,f,h1.congr fun i i0 i1=>(hf i).2 i0 (by omega),h2,fun j=>(hf j).1⟩
theorem Rd.ints{t e:TypeId}{v:Value}(h:Rd enc P w held t [v])(ht:P.underlying t=some (.slice e))(he:P.underlying e=some (.int .i64))(hc:P.cellsOf e=1)(hb:P.bytesOf e=8):∃(n:Int) (f:Int->Int),IAt w v n f:=by
  obtain⟨n,f,h1,_,h2⟩:=h.nums ht he hc hb (by omega)
  exact⟨n,f,h1,fun k=>Rs (h2 k)⟩
end
end Go.Proofs.Gw
namespace Go.Proofs.Gw
open Go Go.RowKit
section
variable {H:Type} {enc:TypeId×Value->H} {P:Program} {w:World} {held:Bool}
theorem Rd.roomy{t e:TypeId}{v:Value}(h:Rd enc P w true t [v])(ht:P.underlying t=some (.slice e)):Y9 v:=by
  obtain⟨fuel,y,h,hs⟩:=h
  rcases Go.Deep.open_slice ht h with⟨hcs,_⟩|⟨a,len,cap,m,n,D,Pl,hcs,_,hl,hm,hmm,hy,hx⟩
  · simp only [List.cons.injEq,and_true] at hcs
    subst hcs
    intro a len cap e
    cases e
    omega
  · simp only [List.cons.injEq,and_true] at hcs
    subst hcs
    simp only [if_true] at hmm
    subst hmm
    intro a len cap e
    cases e
    omega
end
end Go.Proofs.Gw
namespace Go.Proofs.Gw
open Go Go.RowKit
section
variable {H:Type} {enc:TypeId×Value->H} {P:Program} {w:World} {held:Bool}
theorem Rd.uses {t e i:TypeId} {f0 f1:Field} {b:Nat} {v:Value} (h:Rd enc P w true t [v]) (ht:P.underlying t=some (.slice e)) (he:P.underlying e=some (.struct #[f0,f1])) (ce:P.cellsOf e=2) (be:P.bytesOf e=b) (hb:2<=b)
    (o0:f0.offset=0) (o1:f1.offset=1) (c0:P.cellsOf f0.type=1) (c1:P.cellsOf f1.type=1) (u0:P.underlying f0.type=some (.slice i)) (u1:P.underlying f1.type=some (.int .i64)) (hi:P.underlying i=some (.int .i64)) (ci:P.cellsOf i=1) (bi:P.bytesOf i=8):
    ∃(n:Int) (pv:Int->Value) (ln:Int->Int) (pt:Int->Int->Int) (cnt:Int->Int),UAt w v n pv ln pt cnt/\∀k,0<=k->k<n->Y9 (pv k):=by
  obtain⟨n,c,h1,h2,h3⟩:=h.slice ht ce be (by omega) hb
  have e0:∀k:Int,∃x:Value×Int×(Int->Int)×Int,(0<=k->k<n->c (2*k)=x.1/\c (2*k+1)= .int .i64 x.2.2.2/\IAt w x.1 x.2.1 x.2.2.1/\Y9 x.1)/\(-9223372036854775808<=x.2.2.2/\x.2.2.2<=9223372036854775807):=fun k=>by
    by_cases hk:0<=k/\k<n
    · have h4:=h3 k hk.1 hk.2
      have e:((List.range 2).map fun j:Nat=>c (k*(2:Nat)+j))= [c (2*k),c (2*k+1)]:=by
        simp [List.range_succ]
        exact⟨by congr 1;omega,by congr 1;omega⟩
      rw [e] at h4
      have h5:=h4.field he 0 rfl rfl c0 (ds:= [c (2*k)]) (by show List.take 1 (List.drop f0.offset _)=_;rw [o0];rfl)
      obtain⟨m,f,hf⟩:=h5.ints u0 hi ci bi
      obtain⟨y,hy,wy⟩:=(h4.field he 1 rfl rfl c1 (ds:= [c (2*k+1)]) (by show List.take 1 (List.drop f1.offset _)=_;rw [o1];rfl)).intv u1
      exact⟨(c (2*k),m,f,y),fun _ _=>⟨rfl,hy,hf,h5.roomy u0⟩,Rs wy⟩
    · exact⟨(undef,0,fun _=>0,0),fun a0 a1=>absurd ⟨a0,a1⟩ hk,by dsimp only;omega⟩
  obtain⟨f,hf⟩:=Classical.axiomOfChoice e0
  refine⟨n,fun k=>(f k).1,fun k=>(f k).2.1,fun k=>(f k).2.2.1,fun k=>(f k).2.2.2,⟨h1.congr fun k k0 k1=> ?_,fun k k0 k1=>((hf k).1 k0 k1).2.2.1,fun k=>(hf k).2⟩,fun k k0 k1=>((hf k).1 k0 k1).2.2.2⟩
  unfold Zd
  by_cases e:k%2=0
  · rw [if_pos e];show c k=(f (k/2)).1;rw [<-((hf (k/2)).1 (by omega) (by omega)).1];congr 1;omega
  · rw [if_neg e];show c k= .int .i64 (f (k/2)).2.2.2;rw [<-((hf (k/2)).1 (by omega) (by omega)).2.1];congr 1;omega
end
end Go.Proofs.Gw
