import Derived.Test.YtkichmnjjblodaaGreatPeG
import Derived.ProofKit
import Derived.OpenShut
import Derived.ChangeOld
import Derived.SizedLaws
import Derived.Lib.SmallJoins
import Derived.Deep.Slices
set_option linter.unusedVariables false
set_option linter.unusedSimpArgs false
set_option maxRecDepth 20000
set_option maxHeartbeats 4000000
namespace Go.Proofs.YtkichmnjjblodaaGreat
open Go Go.RowKit Go.Proofs.Gw
theorem Zeu{vI:Value}{t:Its}{cap:Int}(w0:World)(hI:Row w0 vI 3 t.n (ZW t.S t.V t.M))(hk:t.Ok cap):
   Calls Oj 147 [vI,.int Oh cap].toArray w0 fun e w=>∃v,e= .returned v/\∃r vv,v=r/\Slh r (t.n+1)/\Sat w0 w [.own r 1 22 (t.n+1) vv,.sem (Frame.rows 3 (t.n+1) vv (fun _=>cap+1) (KI t))]:=by
 have hn:=hI.cf.n0
 have ao:=hk.n;have an:=hk.c0;have am:=hk.c1
 refine zenG Tryz.func147 Tryz.ntmps147 fun w D=> ?_
 refine zsr<|(zP)<|zlz<|(zP)<|(zV (xln XT hI.cf))<|(zV (Zg (r:=t.n+1)))<|zla (xmk Zi Z9 D) ?_;rintro v1 w ⟨D,I⟩
 refine(zP)<|zlz<|(Om)<|(zV (xln XT hI.cf))<|(zP)<|(zV (Zg (r:=cap+1)))<|zla (xmk Zb Zm D) ?_;rintro v2 w ⟨D,af⟩
 refine(zV (xix (kk:=t.n) Zi I))<|zle (xso 0 pl_22 D rfl (hv:=af.one)) ?_;clear D;rintro w D
 refine zx5<|(zP)<|(zV (xln XT hI.cf))<|(zV (Zw (r:=t.n-1)))<|(zP)<|zx6 ?_
 replace D:=D.fa 3 (fun _=>Og) (fun _=>cap+1) (fun j=>KI t (t.n-j))
 have yz:=fun k (G:0<=k) (F:k<0)=>D.db 2 rfl G F
 replace D:=Sat.iz (l1:= [_]) (l2:= []) (l3:= []) D Oa
 have qG:=fun k (G:0<=k) (F:k<1)=>D.db 1 rfl G F
 replace D:=D.gj (vv':=gsn (fun _=>Og) 0 v2) (ln':=fun _=>cap+1) (f':=fun j=>KI t (t.n-j)) 1 rfl (fun k G F=>by
   by_cases e:k<0
   · exact⟨rfl,Zp e,fun j _ _=>by rw [Zp e]⟩
   · have ab:k=0:=Oa
     refine⟨rfl,Zq e,fun j j0 j1=> ?_⟩
     rw [Zq e,ab];rw [show t.n-(0:Int)=t.n by omega,ZcK])
 have fN:=fun k (G:0<=k) (F:k<1)=>D.db 1 rfl G F
 refine zlp (fun V M w=>∃(nC:Int) (W:Int->Value) (U:Int->Value) (i:Int),V=((i+1).toNat)/\(-1<=i)/\(i<=t.n-1)/\(nC=t.n-i)/\(∀j,0<=j->j<nC->W (t.n-j)=U j)/\M= [(0,vI),(1,.int Oh cap),(4,Og),(5,v1),(6,.int Oh i)]/\Sat w0 w [.own v1 1 22 (t.n+1) W,.sem (Frame.rows 3 nC U (fun _=>cap+1) (fun j=>KI t (t.n-j)))]) ⟨1,upd (fun _=> Og) t.n (v2),gsn (fun _=>Og) 0 v2,(t.n-1),rfl,Oa,Oa,Oa,?_,rfl,D⟩ ?_
 ·
  intro j j0 j1;obtain rfl:j=0:=Oa
  rw [show t.n-(0:Int)=t.n by omega,gu_self,Zq Oa]
 clear D w
 rintro V M w ⟨nC,W,U,i,rfl,i0,i1,ae,Z,rfl,D⟩
 have xd:=fun k (G:0<=k) (F:k<nC)=>D.db 1 rfl G F
 refine zx11<|(Om)<|zlt<|Ze ?_ ?_<;>intro hc
 ·
  refine zx3<|(Om)<|(zV (xix (kk:=3*i) XT hI.cf))<|zlv (xlw (cs:= [.int Oh (t.S i),.int Oh (t.V i),.int Oh (t.M i)]) UE (hI.below D.below) (XO (k:=3*i) (i:=i) t.S t.V t.M Oa)) ?_
  have ah:=hk.all i Oa Oa;unfold Its.each Yy at ah
  refine zla (xal (cs:= [_,_,_]) TY D) ?_;rintro _ w ⟨g1,rfl,D⟩
  refine zle (xsw 2 UE D) ?_;clear D;rintro w D
  refine zlz<|(On)<|(zV (Zg (r:=cap+1)))<|zla (xmk Zb Zm D) ?_;rintro O w ⟨D,aa⟩
  refine(zV (xix (kk:=i) Zi I))<|zle (xso 0 pl_22 D rfl (hv:=aa.one)) ?_;clear D;rintro w D
  refine zlz<|(zP)<|zx6<|zlp (fun V M w=>∃(c:Int) (g:Oe),V=((cap+1-c).toNat)/\(0<=c)/\(c<=cap+1)/\(∀q,0<=q->q<c->g q=R (KI t (i+1)) (t.S i) (t.V i) (t.M i).toNat q)/\(∀q,c<=q->q<=cap->g q=0)/\M= [(0,vI),(1,.int Oh cap),(4,Og),(5,v1),(6,.int Oh i),(7,Oq g1),(8,.int Oh c)]/\Sat w0 w [.own v1 1 22 (t.n+1) (upd W i (O)),.sem (Frame.rows 3 nC U (fun _=>cap+1) (fun j=>KI t (t.n-j))),.blk g1 [.int Oh (t.S i),.int Oh (t.V i),.int Oh (t.M i)],.own O 1 3 (cap+1) (ints g)]) ⟨0,(fun _=>0),rfl,Oa,Oa,?_,?_,rfl,D⟩ ?_
  ·
   intro q Y X;omega
  ·
   intro q Y X;rfl
  clear D w
  rintro V M w ⟨c,g,rfl,c0,c1,hg,ac,rfl,D⟩
  refine zx11<|(On)<|zlt<|Ze ?_ ?_<;>intro hc
  ·
   refine zx3<|(zP)<|zx6<|zlp (fun V M w=>∃(k:Int) (g3:Oe),V=((t.M i+1-k).toNat)/\(0<=k)/\(k<=t.M i+1)/\(∀q,q≠c->g3 q=g q)/\((k=0/\g3 c=0)\/(1<=k/\g3 c=R (KI t (i+1)) (t.S i) (t.V i) (k-1).toNat c))/\M= [(0,vI),(1,.int Oh cap),(4,Og),(5,v1),(6,.int Oh i),(7,Oq g1),(8,.int Oh c),(9,.int Oh k)]/\Sat w0 w [.own v1 1 22 (t.n+1) (upd W i (O)),.sem (Frame.rows 3 nC U (fun _=>cap+1) (fun j=>KI t (t.n-j))),.blk g1 [.int Oh (t.S i),.int Oh (t.V i),.int Oh (t.M i)],.own O 1 3 (cap+1) (ints g3)]) ⟨0,g,rfl,Oa,Oa,?_,?_,rfl,D⟩ ?_
   ·
    intro q _;rfl
   ·
    exact .inl ⟨rfl,ac c Oa Oa⟩
   clear D w
   rintro V M w ⟨k,g3,rfl,G,F,J,ad,rfl,D⟩
   refine zx11<|(zP)<|(zV (xfb 2 fd_170_2))<|zlv (xlb 2 pl_3 D) ?_
   have al:=XI (a:=k) (b:=t.S i) (A:=1001) (B:=4000) Oa Oa Oa Oa
   refine(Om)<|zlb 47 ?_ ?_<;>intro hc
   ·
    refine(zP)<|(zV (xfb 0 fd_170_0))<|(zV (xlb 2 pl_3 D))<|(zV (Z2 (r:=(k*(t.S i))) (e:=rfl)))<|(On)<|zlt<|Ze ?_ ?_<;>intro hc
    ·
     refine zx38<|zdst [0,1,2,3] [0,1,2] 32 mx_ D ?_;clear D;intro w D
     refine zDrv 0 xmv ?_
     have ak:=XI (a:=k) (b:=t.V i) (A:=1001) (B:=1073741824) Oa Oa Oa Oa
     have aj:=Xs hk (i:=i+1) Oa Oa (c:=c-k*t.S i) Oa
     have ai:=Xs hk (i:=i+1) Oa Oa (c:=c) Oa
     have ag:(fun j=>KI t (t.n-j)) (t.n-i-1) (c-k*t.S i)=KI t (i+1) (c-k*t.S i):=by show KI t (t.n-(t.n-i-1)) _=_;congr 1;omega
     refine(zDw 1 xmv)<|(zDw 2 (xix (kk:=i) Zi I))<|(zDl 3 (fun w D=>(xlr (u:=O) pl_22 (D.c7 0 rfl) (e:=(gu_self _ _ _)))))<|(zDw 4 xmv)<|(zDw 5 xmv)<|(zDw 6 xmv)<|(zDw 7 (xix (kk:=i) Zi I))<|(zDl 8 (fun w D=>(xlr (u:=O) pl_22 (D.c7 0 rfl) (e:=(gu_self _ _ _)))))<|(zDw 9 xmv)<|(zDw 10 (xix (kk:=c) Zb aa))<|zdl 11 (fun w D=>(xlr (u:= .int Oh (g3 c)) pl_3 (D.c7 3 rfl))) ?_
     refine(zDw 12 xmv)<|(zDw 13 (xfb 1 fd_170_1))<|(zDl 14 (fun w D=>(xlb 2 pl_3 D)))<|(zDw 15 (Z2 (r:=(k*(t.V i))) (e:=rfl)))<|(zDw 16 xmv)<|(zDw 17 xmv)<|(zDw 18 (Zg (r:=i+1)))<|(zDw 19 (xix (kk:=i+1) Zi I))<|zdla 20 (fun w D=>(xlr (u:=(U (t.n-i-1))) pl_22 (D.c7 0 rfl) (e:=(by rw [gu_ne Oa];have:=Z (t.n-i-1) Oa Oa;rwa [show t.n-(t.n-i-1)=i+1 by omega] at this)))) ?_
     refine(zDw 21 xmv)<|(zDw 22 xmv)<|(zDw 23 (xfb 0 fd_170_0))<|(zDl 24 (fun w D=>(xlb 2 pl_3 D)))<|(zDw 25 (Z2 (r:=(k*(t.S i))) (e:=rfl)))<|(zDw 26 (Zw (r:=c-(k*(t.S i)))))<|(zDw 27 (xix (kk:=c-(k*(t.S i))) Zb (xd (t.n-i-1) Oa Oa)))<|(zDl 28 (fun w D=>(xlr (u:= .int Oh ((fun j=>KI t (t.n-j)) (t.n-i-1) (c-(k*(t.S i))))) pl_3 (D.fq (k:=t.n-i-1) 1 rfl Oa Oa))))<|(zDw 29 (Zg (r:=(k*(t.V i))+((fun j=>KI t (t.n-j)) (t.n-i-1) (c-(k*(t.S i)))))))<|(zDw 30 (KE (r:=(max (g3 c) ((k*(t.V i))+((fun j=>KI t (t.n-j)) (t.n-i-1) (c-(k*(t.S i)))))))))<|(zDw 31 (xix (kk:=c) Zb aa))<|zde 32 (xso 3 pl_3 D (Zy _ _ _)) ?_;clear D;rintro w D
     refine⟨⟨fun h=>absurd h (by decide),D.pk [0,1,2]⟩,?_⟩
     refine zdd<|zbn<|ztn<|zrg ?_
     refine(zP)<|(zV (Zg (r:=k+1)))<|(zP)<|zln<|zlq ⟨k+1,(upd g3 c (max (g3 c) ((k*(t.V i))+((fun j=>KI t (t.n-j)) (t.n-i-1) (c-(k*(t.S i))))))),rfl,Oa,Oa,?_,?_,rfl,D⟩
     ·
      intro q hq;rw [upd_ne _ _ hq];exact J q hq
     ·
      refine .inr ⟨by omega,?_⟩
      rw [ZA,show k+1-1=k by omega,ag];exact Ze2 Oa Oa ad
    refine zx21<|(zP)<|(zV (Zg (r:=c+1)))<|(zP)<|zln<|zlq ⟨c+1,g3,rfl,Oa,Oa,?_,?_,rfl,D⟩
    ·
     intro q Y X;by_cases e:q=c
     · rw [e];exact Ze3 Oa c0 Oa Oa Oa ad
     · rw [J q e];exact hg q Y Oa
    ·
     intro q Y X;rw [J q Oa];exact ac q Oa X
   iterate 6 refine zlo ?_
   refine(zP)<|zlt<|zcf<|zxt<|ztx<|ztx<|zbh<|zbn<|ztn<|zrg ?_
   refine(zP)<|(zV (Zg (r:=c+1)))<|(zP)<|zln<|zlq ⟨c+1,g3,rfl,Oa,Oa,?_,?_,rfl,D⟩
   ·
    intro q Y X;by_cases e:q=c
    · rw [e];exact Ze3 Oa c0 Oa Oa Oa ad
    · rw [J q e];exact hg q Y Oa
   ·
    intro q Y X;rw [J q Oa];exact ac q Oa X
  refine zx21<|(zP)<|(zV (Zw (r:=i-1)))<|(zP)<|zln ?_
  replace D:=Sat.merge (l1:= [_]) (l2:= [_]) (l3:= []) D Oa
  have dY:=fun k (G:0<=k) (F:k<nC+1)=>D.db 1 rfl G F
  replace D:=D.gj (vv':=gsn U nC O) (ln':=fun _=>cap+1) (f':=fun j=>KI t (t.n-j)) 1 rfl (fun k G F=>by
    by_cases e:k<nC
    · exact⟨rfl,Zp e,fun j _ _=>by rw [Zp e]⟩
    · have ab:k=nC:=Oa
      refine⟨rfl,Zq e,fun j j0 j1=> ?_⟩
      rw [Zq e,ab];rw [ae,show t.n-(t.n-i)=i by omega,ZaG t (i:=i) Oa Oa];exact hg j j0 (by rw [Zq e] at j1;omega))
  have fL:=fun k (G:0<=k) (F:k<nC+1)=>D.db 1 rfl G F
  refine zlq ⟨nC+1,upd W i (O),gsn U nC O,i-1,rfl,Oa,Oa,Oa,?_,rfl,D.pk [0,1]⟩
  ·
   intro j j0 j1;by_cases e:j=nC
   · rw [e,ae,show t.n-(t.n-i)=i by omega,gu_self,Zq Oa]
   · rw [gu_ne Oa,Zp Oa];exact Z j j0 Oa
 refine zx8<|(Om)<|zx1<|Oi ?_
 obtain rfl:i= -1:=Oa
 obtain rfl:nC=t.n+1:=Oa
 replace D:=Sat.j9 1 D rfl
 replace D:=D.gj (vv':=W) (ln':=fun _=>cap+1) (f':=KI t) 1 rfl (fun k G F=>⟨by rw [<-Z _ Oa Oa];congr 1;omega,rfl,fun j _ _=>by show KI t (t.n-(t.n+1-1-k)) j=_;congr 1;omega⟩)
 exact⟨_,_,rfl,I,D.pk [0,1]⟩
theorem ZlO:Zc Oj 146=true:=Ob
theorem ZlN:Zc Oj 147=true:=Ob
theorem Zet{vI:Value}{t:Its}{cap:Int}(w0:World)(Z:Row w0 vI 3 t.n (ZW t.S t.V t.M)):
   Calls Oj 113 [vI,.int Oh cap].toArray w0 fun e w=>∃v,e= .returned v/\∃r n x val e,v= .tuple #[r,.int Oh val,.int Oh e]/\ZjO t cap n x val e/\Slh r n/\Sat w0 w [.own r 1 3 n (ints x)]:=by
 have hn:=Z.cf.n0
 refine zenG Tryz.func113 Tryz.ntmps113 fun w D=> ?_
 refine zsr<|(On)<|zx5<|(Om)<|zlc (xc0 ZlO) (Zes (t:=t) (cap:=cap) w (Z.below D.below)) ?_;rintro _ w ⟨rfl,J⟩
 replace D:=D.cmp J;clear J
 refine(zP)<|zlt<|Ze ?_ ?_<;>intro hc
 ·
  refine zsr<|(On)<|zx14<|zf3 ⟨_,rfl,?_⟩
  exact⟨_,0,fun _=>0,0,1,rfl,.inl ⟨‹¬t.Ok cap›,rfl,rfl,rfl⟩,slh_nil,(D.cg 1 3 (ints fun _=>0)).pk [0]⟩
 refine ZM<|zlv xmv ?_
 have O:t.Ok cap:=by first|assumption|exact Oc ‹_›
 refine(zP)<|zlc (xc0 ZlN) (Zeu (t:=t) (cap:=cap) w (Z.below D.below) O) ?_;rintro xG w ⟨_,V,rfl,xL,J⟩
 replace D:=(D.comp J).n2;clear J
 have yt:=fun k (k0:0<=k) (k1:k<(t.n+1))=>D.db 1 rfl k0 k1
 refine(zP)<|zlz<|(zP)<|zlz<|(Om)<|zx5<|(zP)<|zx6 ?_
 replace D:=D.cg 1 3 (ints (fun _=>0))
 have an:=O.n;have am:=O.c0;have al:=O.c1
 refine zlp (fun mm M w=>∃(G:Int) (c:Int) (i:Int) (Y:Value) (U:Oe),mm=((t.n-i).toNat)/\(0<=i)/\(i<=t.n)/\(G=i)/\(0<=c)/\(c<=cap)/\(c=cap-KU t U i.toNat)/\(KX t cap U i)/\(Slh Y G)/\M= [(0,vI),(1,.int Oh cap),(4,Og),(5,.int Oh 0),(6,.int Oh 0),(7,xG),(8,Y),(9,.int Oh c),(10,.int Oh i)]/\Sat w0 w [.own xG 1 22 (t.n+1) V,.sem (Frame.rows 3 (t.n+1) V (fun _=>cap+1) (KI t)),.own Y 1 3 G (ints U)]) ⟨0,cap,0,Og,(fun _=>0),rfl,Oa,Oa,Oa,Oa,Oa,?_,?_,?_,rfl,D⟩ ?_
 ·
  show cap=cap-0;omega
 ·
  intro k k0 k1;omega
 ·
  exact slh_nil
 clear D w
 rintro mm M w ⟨G,c,i,Y,U,rfl,W,i1,I,c0,c1,aa,X,ab,rfl,D⟩
 refine zx11<|(Om)<|(zV (xln XT Z.cf))<|(zP)<|zlt<|Ze ?_ ?_<;>intro hc
 ·
  refine zx3<|(Om)<|(zV (xix (kk:=3*i) XT Z.cf))<|zlv (xlw (cs:= [.int Oh (t.S i),.int Oh (t.V i),.int Oh (t.M i)]) UE (Z.below D.below) (XO (k:=3*i) (i:=i) t.S t.V t.M Oa)) ?_
  have af:=O.all i W Oa;unfold Its.each Yy at af
  refine zla (xal (cs:= [_,_,_]) TY D) ?_;rintro _ w ⟨g1,rfl,D⟩
  refine zle (xsw 3 UE D) ?_;clear D;rintro w D
  refine zlz<|(zP)<|zx5<|(zP)<|zx6<|zlp (fun mm M w=>∃(n:Int) (k:Int),mm=((t.M i+1-k).toNat)/\(0<=k)/\(k<=t.M i+1)/\(SkI t i c k n)/\M= [(0,vI),(1,.int Oh cap),(4,Og),(5,.int Oh 0),(6,.int Oh 0),(7,xG),(8,Y),(9,.int Oh c),(10,.int Oh i),(11,Oq g1),(12,.int Oh n),(13,.int Oh k)]/\Sat w0 w [.own xG 1 22 (t.n+1) V,.sem (Frame.rows 3 (t.n+1) V (fun _=>cap+1) (KI t)),.own Y 1 3 G (ints U),.blk g1 [.int Oh (t.S i),.int Oh (t.V i),.int Oh (t.M i)]]) ⟨0,0,rfl,Oa,Oa,?_,rfl,D⟩ ?_
  ·
   exact SkI.start t i c
  clear D w
  rintro mm M w ⟨n,k,rfl,k0,k1,hsk,rfl,D⟩
  refine zx11<|(zP)<|(zV (xfb 2 fd_170_2))<|(zV (xlb 3 pl_3 D))<|(Om)<|zlb 36 ?_ ?_<;>intro hc
  ·
   refine zlv xmv ?_
   have ak:=XI (a:=k) (b:=t.S i) (A:=1001) (B:=4000) Oa Oa Oa Oa
   refine(zV (xfb 0 fd_170_0))<|(zV (xlb 3 pl_3 D))<|(zV (Z2 (r:=(k*(t.S i))) (e:=rfl)))<|(On)<|zlt<|Ze ?_ ?_<;>intro hc
   ·
    refine zx27<|zdst [0,1,2,3] [0,1,2,3] 1000 mx_ D ?_;clear D;intro w D
    refine zDrv 0 xmv ?_
    have aj:=XI (a:=k) (b:=t.V i) (A:=1001) (B:=1073741824) Oa Oa Oa Oa
    have ai:=Xs O (i:=i+1) Oa Oa (c:=c-k*t.S i) Oa
    refine(zDw 1 (xfb 1 fd_170_1))<|(zDl 2 (fun w D=>(xlb 3 pl_3 D)))<|(zDw 3 (Z2 (r:=(k*(t.V i))) (e:=rfl)))<|(zDw 4 xmv)<|(zDw 5 xmv)<|(zDw 6 (Zg (r:=i+1)))<|(zDw 7 (xix (kk:=i+1) Zi xL))<|(zDl 8 (fun w D=>(xlr (u:=(V (i+1))) pl_22 (D.c7 0 rfl))))<|(zDw 9 xmv)<|(zDw 10 xmv)<|(zDw 11 (xfb 0 fd_170_0))<|(zDl 12 (fun w D=>(xlb 3 pl_3 D)))<|(zDw 13 (Z2 (r:=(k*(t.S i))) (e:=rfl)))<|(zDw 14 (Zw (r:=c-(k*(t.S i)))))<|zDrv 15 (xix (kk:=c-(k*(t.S i))) Zb (yt (i+1) Oa Oa)) ?_
    refine(zDl 16 (fun w D=>(xlr (u:= .int Oh ((KI t) (i+1) (c-(k*(t.S i))))) pl_3 (D.fq (k:=i+1) 1 rfl Oa Oa))))<|(zDw 17 (Zg (r:=(k*(t.V i))+((KI t) (i+1) (c-(k*(t.S i)))))))<|(zDw 18 xmv)<|(zDw 19 xmv)<|(zDw 20 (xix (kk:=i) Zi xL))<|(zDl 21 (fun w D=>(xlr (u:=(V i)) pl_22 (D.c7 0 rfl))))<|(zDw 22 xmv)<|(zDw 23 (xix (kk:=c) Zb (yt i Oa Oa)))<|(zDl 24 (fun w D=>(xlr (u:= .int Oh ((KI t) i c)) pl_3 (D.fq (k:=i) 1 rfl Oa Oa))))<|(zDw 25 YT)<|zdd<|ztn ?_
    refine Ze ?_ ?_<;>intro hc
    ·
     refine zrg<|(Om)<|zx10<|(zP)<|(zV (Zg (r:=k+1)))<|(zP)<|zln<|zlq ⟨k,k+1,rfl,Oa,Oa,?_,rfl,D⟩
     ·
      first|exact SkI.yes k0 Oa Oa Oa|exact hsk.no Oa
    refine zx4<|(zP)<|(zV (Zg (r:=k+1)))<|(zP)<|zln<|zlq ⟨n,k+1,rfl,Oa,Oa,?_,rfl,D⟩
    ·
     first|exact SkI.yes k0 Oa Oa Oa|exact hsk.no Oa
   refine zx8<|zlv xmv ?_
   have F:=hsk.fin O W Oa Oa Oa
   have ae:=XI (a:=n) (b:=t.S i) (A:=1000) (B:=4000) Oa Oa Oa Oa
   refine(zP)<|zla (xli (n:=1) (len:=1) (pv:= [(0,.int Oh n)]) (cs:= [.int Oh n]) (c:=ints (fun _=>n)) Zb Zm D) ?_;rintro v1 w ⟨D,ah⟩
   refine zla (xap 2 (r:=G+1) Zb Zm D (D.c7 4 rfl) (Ya _ _ _)) ?_;rintro v2 w ⟨D,ad⟩
   refine(zP)<|zlt<|zrg<|(Om)<|(zV (xfb 0 fd_170_0))<|(zV (xlb 3 pl_3 D))<|(zV (Z2 (r:=(n*(t.S i))) (e:=rfl)))<|(zV (Zw (r:=c-(n*(t.S i)))))<|(zP)<|zx10<|(zP)<|(zV (Zg (r:=i+1)))<|(zP)<|zln<|zlq ⟨G+1,c-(n*(t.S i)),i+1,v2,(snoc U G n),rfl,Oa,Oa,Oa,Oa,Oa,?_,?_,?_,rfl,D.pk [0,1,2]⟩
   ·
    rw [I,ZaF t U n W];omega
   ·
    rw [I];rw [aa] at F;exact KX.snoc X W F.1 F.2.1 F.2.2.1 F.2.2.2.1 F.2.2.2.2
   ·
    exact ad
  iterate 6 refine zlo ?_
  refine(zP)<|zlt<|zcf<|zxt<|ztx<|ztx<|zbh<|ztn<|zsr ?_
  refine zlv xmv ?_
  have F:=hsk.fin O W Oa Oa Oa
  have ae:=XI (a:=n) (b:=t.S i) (A:=1000) (B:=4000) Oa Oa Oa Oa
  refine(zP)<|zla (xli (n:=1) (len:=1) (pv:= [(0,.int Oh n)]) (cs:= [.int Oh n]) (c:=ints (fun _=>n)) Zb Zm D) ?_;rintro v3 w ⟨D,ag⟩
  refine zla (xap 2 (r:=G+1) Zb Zm D (D.c7 4 rfl) (Ya _ _ _)) ?_;rintro v4 w ⟨D,ac⟩
  refine(zP)<|zlt<|zrg<|(Om)<|(zV (xfb 0 fd_170_0))<|(zV (xlb 3 pl_3 D))<|(zV (Z2 (r:=(n*(t.S i))) (e:=rfl)))<|(zV (Zw (r:=c-(n*(t.S i)))))<|(zP)<|zx10<|(zP)<|(zV (Zg (r:=i+1)))<|(zP)<|zln<|zlq ⟨G+1,c-(n*(t.S i)),i+1,v4,(snoc U G n),rfl,Oa,Oa,Oa,Oa,Oa,?_,?_,?_,rfl,D.pk [0,1,2]⟩
  ·
   rw [I,ZaF t U n W];omega
  ·
   rw [I];rw [aa] at F;exact KX.snoc X W F.1 F.2.1 F.2.2.1 F.2.2.2.1 F.2.2.2.2
  ·
   exact ac
 refine zxt<|ztx<|ztx<|zbh<|ztn<|zsq<|zdst [0,1,2] [0,1,2] 1000 mx_ D ?_;clear D;intro w D
 refine(zDw 0 xmv)<|(zDw 1 xmv)<|(zDw 2 (xix (kk:=0) Zi xL))<|(zDl 3 (fun w D=>(xlr (u:=(V 0)) pl_22 (D.c7 0 rfl))))<|(zDw 4 xmv)<|(zDw 5 (xix (kk:=cap) Zb (yt 0 Oa Oa)))<|(zDl 6 (fun w D=>(xlr (u:= .int Oh ((KI t) 0 cap)) pl_3 (D.fq (k:=0) 1 rfl Oa Oa))))<|(zDw 7 xas)<|(zDw 8 xas)<|(zDw 9 xas)<|zdd<|ztn<|zrt<|zf3 ⟨_,rfl,?_⟩
 obtain rfl:i=t.n:=Oa
 subst I
 exact⟨_,_,_,_,0,rfl,.inr ⟨O,rfl,X,rfl,rfl⟩,ab,D.pk [2]⟩
theorem Zma:Zc Oj 112=true:=Ob
theorem Zl9:Zc Oj 113=true:=Ob
theorem ZgI{vL vD:Value}{p:Prob}{vY:Value}{n:Int}{y:Oe}(w0:World)(h:PAt w0 vL vD p)(J:Row w0 vY 1 n (ints y)):
   Calls Oj 76 [.agg #[vL,vD,.int Oh p.b8,.int Oh p.bo],vY].toArray w0 fun e w=>∃v,e= .returned v/\∃r na a worth e,v= .tuple #[r,.int Oh worth,.int Oh e]/\US p n y na a worth e/\Slh r na/\Sat w0 w [.own r 1 3 na (ints a)]:=by
 obtain⟨hm,ao,hd,hd1,hs,hk⟩:=h.Oo
 have al:=J.cf.n0;have ak:=J.cf.n1
 refine zenG Tryz.func76 Tryz.ntmps76 fun w D=> ?_
 refine zsr<|zla (xbx (cs:= [_,_,_,_]) D) ?_;rintro _ w ⟨g1,rfl,D⟩
 refine(On)<|zx5<|(zV (xls 0 ZE D))<|(zP)<|zlc (xc0 Zma) (Zep (p:=p) (n:=n) (y:=y) w (h.below D.below) (J.below D.below)) ?_;rintro _ w ⟨rfl,G⟩
 replace D:=D.cmp G;clear G
 refine(zP)<|zlt<|Ze ?_ ?_<;>intro hc
 ·
  refine zsr<|(On)<|zx14<|zf3 ⟨_,rfl,?_⟩
  exact⟨_,0,fun _=>0,0,1,rfl,.inl ⟨‹¬ZaC p n y›,rfl,rfl,rfl⟩,slh_nil,(D.cg 1 3 (ints fun _=>0)).pk [1]⟩
 refine ZM<|(zP)<|zx5<|(zP)<|zx6 ?_
 have O:ZaC p n y:=by first|assumption|exact Oc ‹_›
 obtain⟨F,aj,aa⟩:=id O
 have ai:=F.s1;have ah:=F.s2;have aq:=F.k1;have ap:=F.k2;have an:=F.m2;have am:=F.d
 replace D:=D.cg 3 170 (ZW (fun _=>0) (fun _=>0) (fun _=>0))
 refine zlp (fun mm M w=>∃(I:Int) (Y:Oe) (X:Oe) (Z:Oe) (i:Int) (V:Value),mm=((n-i).toNat)/\(0<=i)/\(i<=n)/\(I=i)/\(∀k,0<=k->k<i->Y k=(YY p y).S k/\X k=(YY p y).V k/\Z k=(YY p y).M k)/\(Slh V I)/\M= [(1,vY),(2,Oq g1),(4,Og),(5,.int Oh 0),(6,.int Oh 0),(7,V),(8,.int Oh i)]/\Sat w0 w [.blk g1 [vL,vD,.int Oh p.b8,.int Oh p.bo],.own V 3 170 I (ZW Y X Z)]) ⟨0,(fun _=>0),(fun _=>0),(fun _=>0),0,Og,rfl,Oa,Oa,Oa,?_,?_,rfl,D⟩ ?_
 ·
  intro k W k1;omega
 ·
  exact slh_nil
 clear D w
 rintro mm M w ⟨I,Y,X,Z,i,V,rfl,h0,h1,ac,U,af,rfl,D⟩
 refine zx11<|(Om)<|(zV (xln Zb J.cf))<|(zP)<|zlt<|Ze ?_ ?_<;>intro hc
 ·
  refine zx38<|zdst [0] [0] 1000 mx_ D ?_;clear D;intro w D
  refine zDrv 0 xmv ?_
  have he:=F.all i h0 Oa;unfold Prob.each at he
  refine(zDw 1 (xfb 0 fd_24_0))<|(zDl 2 (fun w D=>(xlb 0 pl_22 D)))<|(zDw 3 xmv)<|(zDw 4 (xix (kk:=i) Zb h.L.cf))<|zdla 5 (fun w D=>(xlr (u:= .int Oh (p.L i)) pl_3 (h.L.below D.below))) ?_
  have ae:=h.iL i
  refine(zDw 6 (xfb 3 fd_24_3))<|(zDl 7 (fun w D=>(xlb 0 pl_3 D)))<|(zDw 8 (Zg (r:=p.L i+p.bo)))<|(zDw 9 xmv)<|(zDw 10 xmv)<|(zDw 11 (xix (kk:=i) Zb J.cf))<|(zDl 12 (fun w D=>(xlr (u:= .int Oh (y i)) pl_3 (J.below D.below))))<|(zDw 13 (xfb 1 fd_24_1))<|(zDl 14 (fun w D=>(xlb 0 pl_22 D)))<|(zDw 15 xmv)<|(zDw 16 (xix (kk:=i) Zb h.D.cf))<|zdla 17 (fun w D=>(xlr (u:= .int Oh (p.D i)) pl_3 (h.D.below D.below))) ?_
  have ae:=h.iD i
  refine(zDw 18 (xany (v:= .agg #[.int Oh (p.L i+p.bo),.int Oh (y i),.int Oh (p.D i)])))<|zda 19 (xli (n:=1) (len:=1) (pv:= [(0,.agg #[.int Oh (p.L i+p.bo),.int Oh (y i),.int Oh (p.D i)])]) (cs:= [.int Oh (p.L i+p.bo),.int Oh (y i),.int Oh (p.D i)]) (c:=ZW (fun _=>p.L i+p.bo) (fun _=>(y i)) (fun _=>p.D i)) XT TY D) ?_;rintro v1 w ⟨D,ag⟩
  refine⟨⟨fun _=>D.pk [0],D.pk [0]⟩,?_⟩
  refine zda 20 (xap 1 (r:=I+1) XT TY D (D.c7 2 rfl) (T7 ..) (h1:=(fun k _ _=>T3 _ _ _ k))) ?_;rintro v2 w ⟨D,ab⟩
  refine⟨⟨fun _=>D.pk [0],D.pk [0]⟩,?_⟩
  refine(zDw 21 xas)<|zdd<|zbn<|ztn<|zrg ?_
  refine(zP)<|(zV (Zg (r:=i+1)))<|(zP)<|zln<|zlq ⟨I+1,(snoc Y I (p.L i+p.bo)),(snoc X I (y i)),(snoc Z I (p.D i)),i+1,v2,rfl,Oa,Oa,Oa,?_,?_,rfl,D.pk [0,1]⟩
  ·
   intro k W k1;by_cases e:k<i
   · rw [Zl Oa,Zl Oa,Zl Oa];exact U k W e
   · obtain rfl:k=i:=Oa
     rw [Zk Oa,Zk Oa,Zk Oa];exact⟨rfl,rfl,rfl⟩
  ·
   exact ab
 refine zx8<|zlv xmv ?_
 obtain rfl:i=p.m:=Oa
 subst ac
 replace D:=D.gi 1 rfl (d:=ZW (YY p y).S (YY p y).V (YY p y).M) (Ur U)
 refine(zV (xfb 2 fd_24_2))<|(zV (xlb 0 pl_3 D))<|(zV (xfb 3 fd_24_3))<|(zV (xlb 0 pl_3 D))<|(zV (Zg (r:=p.b8+p.bo)))<|zlc (xc0 Zl9) (Zet (t:=(YY p y)) (cap:=(p.b8+p.bo)) w (D.c7 1 rfl)) ?_;rintro _ w ⟨eO,bU,eK,eL,gZ,rfl,aQ,aF,G⟩
 replace D:=(D.comp G).n3;clear G
 refine zs6 ?_
 refine zx1<|zf3 ⟨_,rfl,?_⟩
 have ad:=Zfj F aa
 obtain⟨_,q2,q3,q4,q5⟩:=aQ.resolve_left (fun hh=>hh.1 ad)
 replace q2:bU=p.m:=q2
 subst q2
 replace D:=D.gi 2 rfl (d:=ints (aC p y)) (fun k W k1=>by unfold ints;rw [Zhj Oa q3 k W Oa])
 exact⟨_,_,_,_,_,rfl,.inr ⟨O,rfl,rfl,⟨_,q3⟩,q4,q5⟩,aF,D.pk [2]⟩
variable {e:Int} {ml:Oe} {mf:Of}
theorem ZnH:Zc Oj 74=true:=Ob
theorem ZnG:Zc Oj 75=true:=Ob
theorem ZnF:Zc Oj 76=true:=Ob
theorem ZfN:ZV Oj 87=some (.agg #[Og,Og,Og,.int Oh 0,.int Oh 0],5,88):=Ob
theorem X9:ZC Oj 87=some 5:=Ob
theorem Zdt{p:Prob}(D:¬p.Ok){u:Int}(h:CRn p u ml mf e):e=1/\u=0:=by
 cases h with
 | start h=>
   rcases h with⟨_,h1,h2⟩|⟨h,_⟩
   · exact⟨h2,h1⟩
   · exact absurd h D
 |go _ hs _ _=>exact absurd hs.lj.1 D
theorem ColR.jb{p:Prob}{u:Int}{D:Oe}{F:Of}(h:CRn p u ml mf e)(G:e≠0):ColR p 0 D F So.zero e:=by
 by_cases hok:p.Ok
 · exact absurd (Zdu hok h).1 G
 · exact .inl ⟨hok,rfl,rfl,(Zdt hok h).1⟩
theorem ColR.jk{p:Prob}{u:Int}{D:Oe}{F:Of}{s:So}(h:CRn p u ml mf 0)(G:MSolveR p u ml mf s e)(I:e≠0):ColR p 0 D F So.zero e:=by
 by_cases hok:p.Ok
 · exact .inr (.inl ⟨hok,I,rfl,rfl,u,ml,mf,0,h,.inr ⟨rfl,s,G⟩⟩)
 · have:=(Zdt hok h).1;omega
theorem ColR.jm{p:Prob}{u G worth f:Int}{a:Oe}{s:So}(h:CRn p u ml mf 0)(F:MSolveR p u ml mf s 0)(I:US p s.m s.Y G a worth f)(hc:f≠0\/worth<=s.den):ColR p u ml mf s f:=by
 have D:=F.lj.1
 by_cases hf:f=0
 · subst hf
   exact .inr (.inr ⟨D,rfl,h,F,G,a,worth,I,Oa⟩)
 · exact absurd (Zdu D (.go h F I fun J=>hf J.1)).1 hf
theorem Ko{vL vD:Value}{p:Prob}(w0:World)(h:PAt w0 vL vD p):
   Calls Oj 42 [.agg #[vL,vD,.int Oh p.b8,.int Oh p.bo]].toArray w0 fun e w=>∃v,e= .returned v/\∃vP vv vX vY u ml mf s e,v= .tuple #[.agg #[vP,vX,vY,.int Oh s.val,.int Oh s.den],.int Oh e]/\ColR p u ml mf s e/\Slh vP u/\Slh vX s.n/\Slh vY s.m/\Sat w0 w [.own vP 1 22 u vv,.sem (Frame.rows 3 u vv ml mf),.own vX 1 3 s.n (ints s.X),.own vY 1 3 s.m (ints s.Y)]:=by
 obtain⟨hm,aj,hd,hd1,hs,hk⟩:=h.Oo
 refine zenG Tryz.func42 Tryz.ntmps42 fun w D=> ?_
 refine zsr<|zla (xbx (cs:= [_,_,_,_]) D) ?_;rintro _ w ⟨g1,rfl,D⟩
 refine zla (xal (cs:= [_,_,_,_,_]) ZfN D) ?_;rintro _ w ⟨g2,rfl,D⟩
 refine(zP)<|zlz<|(zV (xls 0 ZE D))<|zlc (xc0 ZnH) (Zeq (p:=p) w (h.below D.below)) ?_;rintro _ w ⟨bd,zd,ah,bf,bg,eF,rfl,zu,aI,F⟩
 replace D:=(D.comp F).n4;clear F
 have dU:=fun k (U:0<=k) (O:k<zd)=>D.db 3 rfl U O
 refine zs5 ?_
 refine zlt<|zsq<|zbk<|zlp (fun mm M w=>∃(u:Int) (X:Value) (vv:Int->Value) (ml:Oe) (mf:Of) (e:Int),mm=((62-u).toNat)/\(CRn p u ml mf e)/\(Slh X u)/\(u<=61)/\M= [(1,Oq g1),(2,Oq g2),(4,X),(5,.int Oh e)]/\Sat w0 w [.blk g1 [vL,vD,.int Oh p.b8,.int Oh p.bo],.blk g2 [Og,Og,Og,.int Oh 0,.int Oh 0],.own X 1 22 u vv,.sem (Frame.rows 3 u vv ml mf)]) ⟨zd,bd,ah,bf,bg,eF,rfl,?_,?_,?_,rfl,D⟩ ?_
 ·
  exact .start zu
 ·
  exact aI
 ·
  rcases zu with⟨_,h9,_⟩|⟨h9,h8,_⟩
  · omega
  · have:=Wy p p.m.toNat;have:=h9.m2;have:=h9.m1;omega
 clear D w
 rintro mm M w ⟨u,X,vv,ml,mf,e,rfl,I,G,jx,rfl,D⟩
 have af:=fun k (U:0<=k) (O:k<u)=>D.db 3 rfl U O
 have ac:=G.n0
 refine zx11<|(Om)<|zlt<|Ze ?_ ?_<;>intro hc
 ·
  refine zsk<|ztn<|zbk<|zsr<|zla (xal (cs:= [_,_,_,_]) Va D) ?_;rintro _ w ⟨g3,rfl,D⟩
  refine zlz<|(zV (xls 0 ZE D))<|(zP)<|zlc (xc0 ZnG) (Zer (p:=p) (u:=u) (ml:=ml) (mf:=mf) w (h.below D.below) (⟨(D.c7 2 rfl),fun k U O=>D.fq 3 rfl U O,fun k U O=>D.gb 3 rfl U O⟩:MAt _ X u vv ml mf)) ?_;rintro _ w ⟨yy,yx,Y,zI,rfl,yI,V,W,F⟩
  replace D:=(D.comp F).n7;clear F
  refine(On)<|zle (xsw 4 st_85 D (hd:=(Za V.one (Za W.one (Za rfl (Za rfl Zh)))))) ?_;clear D;rintro w D
  refine(zP)<|zx5<|(Om)<|zlt<|Ze ?_ ?_<;>intro hc
  ·
   refine zxt<|ztx<|zbm<|ztx<|zbh<|ztn<|zsr ?_
   refine(zV (xany (v:= .agg #[Og,Og,Og,.int Oh 0,.int Oh 0])))<|(zP)<|zle (xsw 1 X9 D) ?_;clear D;rintro w D
   refine(zP)<|zx1<|ZS 1 X9 D ⟨_,rfl,?_⟩
   exact⟨_,fun _=>undef,_,_,0,fun _=>0,fun _ _=>0,So.zero,_,rfl,(by first|exact ColR.jk (by rw [show(0:Int)=e by omega];exact I) yI Oa|exact ColR.jb I Oa),slh_nil,slh_nil,slh_nil,((((D.sub (.cons _ (.cons _ (.cons _ (.cons _ (.cons _ (.cons _ (.cons _ .slnil)))))))).cg 1 22 (fun _=>undef)).fa 3 (fun _=>undef) (fun _=>0) (fun _ _=>0)).cg 1 3 (ints So.zero.X)).cg 1 3 (ints So.zero.Y)⟩
  refine ZM<|(zV (xls 0 ZE D))<|(zV (xfb 1 fd_85_1))<|zlv (xlb 4 pl_22 D) ?_
  have J:=yI;rw [show zI=0 by omega] at J
  obtain⟨ag,c5,ad⟩:=J.lj
  refine zlc (xc0 ZnF) (ZgI (p:=p) (n:=Y.m) (y:=Y.Y) w (h.below D.below) (D.c7 6 rfl)) ?_;rintro _ w ⟨Z,ai,ae,ba,zD,rfl,x8,yn,F⟩
  replace D:=(D.comp F).n8;clear F
  refine zs6 ?_
  refine(zP)<|zx5<|(On)<|zlb 35 ?_ ?_<;>intro hc
  ·
   iterate 4 refine zlo ?_
   refine(zP)<|zlt<|zct<|zsr ?_
   refine(zP)<|(zV (xls 4 st_85 D))<|zlv (xany (v:= .agg #[X,yy,yx,.int Oh Y.val,.int Oh Y.den]) (hr:=by obtain⟨_,_,_,_,rfl,_⟩:=G;obtain⟨_,_,_,_,rfl,_⟩:=V;obtain⟨_,_,_,_,rfl,_⟩:=W;kernel_rfl)) ?_
   refine(zP)<|zle (xsw 1 X9 D (hd:=(Za G.one (Za V.one (Za W.one (Za rfl (Za rfl Zh))))))) ?_;clear D;rintro w D
   refine(zP)<|zlt<|zrt<|ztr<|zbr<|ztr<|zbr<|ztr<|ZS 1 X9 D ⟨_,rfl,?_⟩
   exact⟨_,_,_,_,_,_,_,_,_,rfl,ColR.jm (by rw [show(0:Int)=e by omega];exact I) J x8 Oa,G,V,W,D.pk [2,3,5,6]⟩
  refine(zP)<|(zV (xfb 3 fd_85_3))<|(zV (xlb 4 pl_3 D))<|(Om)<|zlt<|Ze ?_ ?_<;>intro hc
  ·
   refine zsr<|(zP)<|(zV (xls 4 st_85 D))<|zlv (xany (v:= .agg #[X,yy,yx,.int Oh Y.val,.int Oh Y.den]) (hr:=by obtain⟨_,_,_,_,rfl,_⟩:=G;obtain⟨_,_,_,_,rfl,_⟩:=V;obtain⟨_,_,_,_,rfl,_⟩:=W;kernel_rfl)) ?_
   refine(zP)<|zle (xsw 1 X9 D (hd:=(Za G.one (Za V.one (Za W.one (Za rfl (Za rfl Zh))))))) ?_;clear D;rintro w D
   refine(zP)<|zlt<|zrt<|ztr<|zbr<|ztr<|zbr<|ztr<|ZS 1 X9 D ⟨_,rfl,?_⟩
   exact⟨_,_,_,_,_,_,_,_,_,rfl,ColR.jm (by rw [show(0:Int)=e by omega];exact I) J x8 Oa,G,V,W,D.pk [2,3,5,6]⟩
  refine zsk<|ztn<|zrg<|(Om)<|zla (xli (n:=1) (len:=1) (pv:= [(0,Z)]) (cs:= [Z]) (c:=(fun _=>Z)) Zi Z9 D (hf:=by obtain⟨_,_,_,_,rfl,_⟩:=yn;kernel_rfl)) ?_;rintro v1 w ⟨D,ab⟩
  refine zla (xap 2 (r:=u+1) Zi Z9 D (D.c7 8 rfl) (Xa _ _ _) (h1:=fun _ _ _=>yn.one)) ?_;rintro v2 w ⟨D,aa⟩
  replace D:=Sat.merge (l1:= [_,_,_]) (l2:= [_,_,_]) (l3:= [_]) D Oa
  have qG:=fun k (U:0<=k) (O:k<u+1)=>D.db 3 rfl U O
  refine(zP)<|zln<|zbn<|zlq ⟨u+1,v2,gsn vv u Z,gsn ml u ai,gsn mf u ae,zI,rfl,?_,?_,?_,rfl,D.pk [0,1,2,3]⟩
  ·
   rw [show zI=zD by omega];exact .go (by rw [show(0:Int)=e by omega];exact I) J x8 Oa
  ·
   exact aa
  ·
   omega
 refine zx8<|(zV (xany (v:= .agg #[Og,Og,Og,.int Oh 0,.int Oh 0])))<|(zP)<|zle (xsw 1 X9 D) ?_;clear D;rintro w D
 refine(zP)<|zx1<|ZS 1 X9 D ⟨_,rfl,?_⟩
 exact⟨_,fun _=>undef,_,_,0,fun _=>0,fun _ _=>0,So.zero,_,rfl,(by first|exact ColR.jk (by rw [show(0:Int)=e by omega];exact I) yI Oa|exact ColR.jb I Oa),slh_nil,slh_nil,slh_nil,((((D.sub (.cons _ (.cons _ (.cons _ (.cons _ .slnil))))).cg 1 22 (fun _=>undef)).fa 3 (fun _=>undef) (fun _=>0) (fun _ _=>0)).cg 1 3 (ints So.zero.X)).cg 1 3 (ints So.zero.Y)⟩
end Go.Proofs.YtkichmnjjblodaaGreat
namespace Go.Proofs.Gw
open Go Go.RowKit
def Zm4(v:Value):Prop:=∀a l c,v= .slice a l c->a=none\/∃b off,a=some ⟨b,off,none⟩
def T8(v:Value)(q:Nat):Value:=match v with
  | .slice a _ _=> .slice a q q
  |u=>u
def KM(v:Value)(q s:Nat):Value:=match v with
  | .slice a len cap=> .slice (if cap=q then a else a.map fun x=>⟨x.block,x.off+q*s,none⟩) (len-q) (cap-q)
  |u=>u
section
variable {P:Program} {L:List (Nat×Value)} {w w0:World} {o:Oper} {x y z:Operand} {T T':TypeId} {l:List Ent} {E:TypeId}
theorem Ent.holds.flat{v:Value}{s:Nat}{n:Int}{c:Int->Value}(h:(Ent.own v s E n c).holds w):Zm4 v:=fun a len cap e=>by
 obtain⟨_,_,⟨rfl,_⟩|⟨g,D,cur,rfl,_,F,_⟩⟩:=h
 · cases e;exact .inl rfl
 · cases e;exact .inr ⟨_,_,rfl⟩
theorem ZiC{v:Value}{n i:Int}{q:Nat}(h:Slh v n)(F:(q:Int)=i)(hi:i<=n):Slh (T8 v q) i:=by
 subst F
 obtain⟨G,h1,a,cap,rfl,D⟩:=h
 refine⟨by omega,Oa,a,q,by simp [T8],?_⟩
 rcases D with D|D
 · left;omega
 · exact .inr D
theorem ZdB{v:Value}{s:Nat}{n i:Int}{q:Nat}{c:Int->Value}(h:Row w v s n c)(D:(q:Int)=i)(hi:i<=n):Row w (T8 v q) s i c:=by
 refine⟨ZiC h.cf D hi,fun k F=> ?_⟩
 have G:=h.2 k (Int.lt_of_lt_of_le F (Int.mul_le_mul_of_nonneg_right hi Oa))
 obtain⟨_,_,a,cap,rfl,_⟩:=h.cf
 cases a<;>exact G
theorem ZeR{v:Value}{n i m:Int}{q s:Nat}(h:Slh v n)(hr:X2 v)(F:(q:Int)=i)(hi:i<=n)(G:m=n-i):Slh (KM v q s) m:=by
 subst F G
 obtain⟨I,h1,a,cap,rfl,D⟩:=h
 have hc:=hr _ _ _ rfl
 refine⟨by omega,Oa,(if cap=q then a else a.map fun x=>⟨x.block,x.off+q*s,none⟩),cap-q,?_,?_⟩
 · unfold KM;dsimp only;congr 1;omega
 · rcases D with D|⟨b,off,rfl⟩
   · left;omega
   · right;by_cases hcq:cap=q
     · exact⟨b,off,by rw [if_pos hcq]⟩
     · exact⟨b,off+q*s,by rw [if_neg hcq];rfl⟩
theorem ZaO{v:Value}{s:Nat}{n i m:Int}{q:Nat}{c d:Int->Value}(h:Row w v s n c)(hr:X2 v)(G:(q:Int)=i)(hi:i<=n)(I:m=n-i)(hd:∀k,0<=k->d k=c (k+i*s)):Row w (KM v q s) s m d:=by
 refine⟨ZeR h.cf hr G hi I,fun k O=> ?_⟩
 subst G I
 have h1:(k:Int)+(q:Int)*s<n*s:=by have:=Int.sub_mul n q s;omega
 have e:(k:Int)+(q:Int)*s=((k+q*s:Nat):Int):=by push_cast;rfl
 have J:=h.2 (k+q*s) (by rw [<-e];exact h1)
 rw [hd k Oa,e,<-J]
 obtain⟨U,_,a,cap,rfl,D⟩:=h.cf
 have hc:=hr _ _ _ rfl
 rcases D with D|⟨b,off,rfl⟩
 · subst D;rw [Int.zero_mul] at h1;have:(0:Int)<=(q:Int)*s:=Int.mul_nonneg Oa Oa;omega
 · have F:cap≠q:=by
     intro V
     have:n-(q:Int)<=0:=Oa
     have:=Int.mul_le_mul_of_nonneg_right this (show(0:Int)<=s by omega)
     rw [Int.zero_mul] at this
     omega
   unfold KM cad;dsimp only
   rw [if_neg F]
   congr 1
   show(⟨b,off+q*s+(k:Int).toNat,none⟩:Addr)=⟨b,off+((k+q*s:Nat):Int).toNat,none⟩
   congr 1
   omega
theorem ZcN{v:Value}{n i:Int}{s:Nat}(q:Nat)(W:ZJ P T=some (E,s))(hv:Slh v n)(hr:X2 v)(hf:Zm4 v)(X:(q:Int)=i:=by omega)(h1:i<=n:=by omega)(Y:o.op= .slice T x none (some y) (some z):=by exact rfl)(U:evL L x=some v:=by exact rfl)(O:evL L y=some (.int Oh i):=by exact rfl)(J:evL L z=some (.int Oh i):=by exact rfl):
   Runs P L w o (.value (T8 v q)) w:=fun ρ h=>by
 obtain⟨V,I,F,D⟩:=Z8 W
 obtain⟨_,_,a,cap,rfl,_⟩:=hv
 have hc:=hr _ _ _ rfl
 have ha:=hf _ _ _ rfl
 subst X
 have Z:(Instr.sliceBounds true n.toNat cap none (some (.int Oh (q:Int))) (some (.int Oh (q:Int)))).run P w= .ok (0,q,q) w:=by
   have G:(q:Int)<=(cap:Int):=Oa
   simp [Instr.sliceBounds,Instr.sliceBound,asIntOf,G]
 have e:(Instr.sliceAt T (.slice a n.toNat cap) none (some (.int Oh (q:Int))) (some (.int Oh (q:Int)))).run P w= .ok (T8 (.slice a n.toNat cap) q) w:=by
   unfold Instr.sliceAt
   simp only [Sem.run_bind,run_underlying V,Result.andThen_ok,Instr.slice,Z]
   rcases ha with rfl|⟨b,off,rfl⟩
   · simp [sizeOf,typeInfo,F,D,T8]
   · simp [sizeOf,typeInfo,F,D,T8,Addr.add]
 simp [execOp,Y,h _ _ U,h _ _ O,h _ _ J,e]
theorem ZcM{v:Value}{n i:Int}{s:Nat}(q:Nat)(U:ZJ P T=some (E,s))(hv:Slh v n)(hf:Zm4 v)(V:(q:Int)=i:=by omega)(h1:i<=n:=by omega)(W:o.op= .slice T x (some y) none none:=by exact rfl)(J:evL L x=some v:=by exact rfl)(I:evL L y=some (.int Oh i):=by exact rfl):
   Runs P L w o (.value (KM v q s)) w:=fun ρ h=>by
 obtain⟨O,G,F,D⟩:=Z8 U
 obtain⟨_,_,a,cap,rfl,_⟩:=hv
 have Y:=hf _ _ _ rfl
 subst V
 have X:(Instr.sliceBounds true n.toNat cap (some (.int Oh (q:Int))) none none).run P w= .ok (q,n.toNat,cap) w:=by
   simp [Instr.sliceBounds,Instr.sliceBound,asIntOf]
   omega
 have e:(Instr.sliceAt T (.slice a n.toNat cap) (some (.int Oh (q:Int))) none none).run P w= .ok (KM (.slice a n.toNat cap) q s) w:=by
   unfold Instr.sliceAt
   simp only [Sem.run_bind,run_underlying O,Result.andThen_ok,Instr.slice,X]
   rcases Y with rfl|⟨b,off,rfl⟩
   · simp [sizeOf,typeInfo,F,D,KM]
   · by_cases hc:cap=q
     · simp [sizeOf,typeInfo,F,D,KM,hc]
     · simp [sizeOf,typeInfo,F,D,KM,hc,Addr.add_eq]
 simp [execOp,W,h _ _ J,h _ _ I,e]
theorem Zcl {v u:Value} {s b:Nat} {n m:Int} {c d f:Int->Value} {J:Value} (ho:o.op= .call {callee:= .builtin .append,args:= #[x,y],argTypes:= #[T,T]}) (ht:ZJ P T=some (E,s)) (he:ZV P E=some (J,s,b)) (W:J.cells.size=s) (hs:0<s)
   (hS:Sat w0 w l) (hx:evL L x=some v) (hy:evL L y=some u) (hv:Row w v s n c) (cM:∀a len cp,v= .slice a len cp->cp=len) (hu:Row w u s m d) (hm:0<m) (ak:∀k,0<=k->k<n*s->(c k).oneCell'=true) (h1:∀k,0<=k->k<m*s->(d k).oneCell'=true)
   (hb:b*(n+m)<=140737488355328) (V:n+m<=140737488355328) (e:∀k,0<=k->k<(n+m)*s->cat (n*s) c d k=f k):
   ∃r w',Runs P L w o (.value r) w'/\Sat w0 w' (l++ [.own r s E (n+m) f])/\Slh r (n+m):=by
 obtain⟨G,ah,a,cap,rfl,O⟩:=hv.cf
 have ae:=cM _ _ _ rfl
 subst ae
 cases a with
 | none=>
   have hn:n=0:=by rcases O with h|⟨_,_,h⟩;exact h;cases h
   subst hn
   have ag:=hS.cg s E c
   obtain⟨r,w',h2,h3,h4⟩:=Kd (l1:=l) (l2:= []) ho ht he W hs (v:=Og) ag (by simpa using hx) hy hu h1 hb V
   refine⟨r,w',h2,?_,h4⟩
   have hi:(l++Ent.own r s E (0+m) (cat (0*s) c d):: [])[l.length]? =some (.own r s E (0+m) (cat (0*s) c d)):=by rw [List.getElem?_append_right (Nat.le_refl _),Nat.sub_self];rfl
   have:=h3.gi l.length hi e
   have e2:(l++ [Ent.own r s E (0+m) (cat (0*s) c d)]).set l.length (Ent.own r s E (0+m) f)=l++ [.own r s E (0+m) f]:=by
     apply List.ext_getElem?
     intro k
     rw [List.getElem?_set,List.getElem?_append,List.getElem?_append]
     by_cases h5:l.length=k
     · subst h5;simp
     · rw [if_neg h5]
       by_cases h6:k<l.length
       · rw [if_pos h6,if_pos h6]
       · rw [if_neg h6,if_neg h6,List.getElem?_eq_none (by simp;omega),List.getElem?_eq_none (by simp;omega)]
   rw [e2] at this
   exact this
 | some F=>
   obtain⟨aa,_⟩:=Z8 ht
   obtain⟨i,hi,Y,U,af⟩:=XJ he
   obtain⟨I,ai,a2,eJ,rfl,Z⟩:=hu.cf
   obtain⟨b2,dI,rfl⟩:∃b off,a2=some ⟨b,off,none⟩:=by rcases Z with h|h;omega;exact h
   have eb:(n.toNat+m.toNat)*b<=140737488355328:=by
     have:(((n.toNat+m.toNat)*b:Nat):Int)=b*(n+m):=by rw [Int.natCast_mul,Int.natCast_add,Int.toNat_of_nonneg G,Int.toNat_of_nonneg I,Int.mul_comm]
     omega
   have en:n.toNat+m.toNat=(n+m).toNat:=Oa
   have D:∀{v:Value} {n:Int} {c:Int->Value} {F:Addr} {cap:Nat},v= .slice (some F) n.toNat cap->(n=0\/∃b off,some F=some (⟨b,off,none⟩:Addr))->0<=n->Row w v s n c->∀j t,(cellsOf c (n.toNat*s))[j]? =some t->w.cell? (F.add j)=some t:=fun {v n c F cap} hv W h0 hR j t X=>by
     rw [cellsOf_get] at X
     split at X
     · rename_i hlt
       have e':((n.toNat*s:Nat):Int)=n*s:=by rw [Int.natCast_mul,Int.toNat_of_nonneg h0]
       have:=hR.2 j Oa
       cases X
       rw [<-this,hv]
       rcases W with h|⟨b',off,h⟩
       · subst h;simp at hlt
       · cases h;rw [Addr.add_eq _ rfl];simp [cad]
     · cases X
   have hr:=run_append_grow (P:=P) w T 0 E i J aa hi Y F n.toNat n.toNat (cellsOf c (n.toNat*s)) (by rw [ZY,U]) (D rfl O G hv)
     ⟨b2,dI,none⟩ m.toNat eJ (cellsOf d (m.toNat*s)) (by rw [ZY,U]) (D rfl (.inr ⟨_,_,rfl⟩) I hu) Oa Oa (by rw [af];exact growslice_fits Oa eb)
   have ab:∀ty,(Builtin.append_ #[T,T] ty #[.slice (some F) n.toNat n.toNat,.slice (some ⟨b2,dI,none⟩) m.toNat eJ])=Builtin.append_ #[T,T] 0 #[.slice (some F) n.toNat n.toNat,.slice (some ⟨b2,dI,none⟩) m.toNat eJ]:=fun _=>rfl
   have aj:=grownCap_ge w (n.toNat+m.toNat) n.toNat E
   have ac:=grownCap_le_maxLen w (n.toNat+m.toNat) n.toNat E (by unfold maxLen;omega)
   have hE:(Ent.own (.slice (some ⟨w.heap.size,0,none⟩) (n.toNat+m.toNat) (grownCap w (n.toNat+m.toNat) n.toNat E)) s E (n+m) f).holds (w.drew.alloc (.cells ((cellsOf c (n.toNat*s)).toArray++(cellsOf d (m.toNat*s)).toArray++Builtin.zeroCells J.cells (grownCap w (n.toNat+m.toNat) n.toNat E-(n.toNat+m.toNat))) E)):=by
     have hh:=heap_alloc_new w.drew (.cells ((cellsOf c (n.toNat*s)).toArray++(cellsOf d (m.toNat*s)).toArray++Builtin.zeroCells J.cells (grownCap w (n.toNat+m.toNat) n.toNat E-(n.toNat+m.toNat))) E)
     refine⟨by omega,V,.inr ⟨w.heap.size,_,_,by rw [en],hh,Oa,ac,?_,fun k hk=> ?_⟩⟩
     · simp only [Array.size_append,List.size_toArray,ZY]
       rw [size_zeroCells,W,<-Nat.add_mul,<-Nat.add_mul];congr 1;omega
     · have e1:((n.toNat*s:Nat):Int)=n*s:=by rw [Int.natCast_mul,Int.toNat_of_nonneg G]
       have e2:((m.toNat*s:Nat):Int)=m*s:=by rw [Int.natCast_mul,Int.toNat_of_nonneg I]
       have e3:=Int.add_mul n m s
       rw [<-e k Oa hk]
       have hlt:k<n.toNat*s+m.toNat*s:=Oa
       rw [Array.getElem?_append_left (by simp only [Array.size_append,List.size_toArray,ZY];exact hlt),Array.getElem?_append,List.size_toArray,ZY,List.getElem?_toArray,List.getElem?_toArray]
       unfold cat
       by_cases hk2:k<n.toNat*s
       · rw [if_pos hk2,cellsOf_get,if_pos hk2,if_pos Oa]
       · rw [if_neg hk2,cellsOf_get,if_pos Oa,if_neg Oa];congr 2;omega
   refine⟨_,_,fun ρ h=> ?_,hS.draw.alloc _ hE (fun g hg=> ?_),hE.row.cf⟩
   · simp [execOp,ho,resolve,invoke,builtin,h _ _ hx,h _ _ hy,ab,hr]
   · simp [Ent.has,Value.ownBlock] at hg;rw [<-hg];rfl
theorem Zel(v:Value)(q:Nat):∀a len D,T8 v q= .slice a len D->D=len:=fun a len D e=>by
 unfold T8 at e
 split at e
 · cases e;rfl
 · rename_i h;exact absurd e (h _ _ _)
theorem Zna{v u:Value}{s b:Nat}{n m r:Int}{c d f:Int->Value}{G:Value}{q:Nat}(V:ZJ P T=some (E,s))(Z:ZV P E=some (G,s,b))(hS:Sat w0 w l)(hv:Row w (T8 v q) s n c)(U:Row w u s m d)(F:∀k,0<=k->k<n*s->(c k).oneCell'=true)(h1:∀k,0<=k->k<m*s->(d k).oneCell'=true)
   (e:∀k,0<=k->k<(n+m)*s->cat (n*s) c d k=f k) (hr:r=n+m) (Y:0<m:=by omega) (hb:b*(n+m)<=140737488355328:=by omega) (D:n+m<=140737488355328:=by omega)
   (X:o.op= .call {callee:= .builtin .append,args:= #[x,y],argTypes:= #[T,T]}:=by exact rfl) (I:G.cells.size=s:=by exact rfl) (W:0<s:=by decide) (O:evL L x=some (T8 v q):=by exact rfl) (J:evL L y=some u:=by exact rfl):
   ∃q w',Runs P L w o (.value q) w'/\Sat w0 w' (l++ [.own q s E r f])/\Slh q r:=by
 subst hr;exact Zcl X V Z I W hS O J hv (Zel v q) U Y F h1 hb D e
theorem Sat.li(h:Sat w0 w l)(i:Nat){n m:Int}{vv:Int->Value}{ln:Oe}{f:Of}{t:Oe}(D:∀k,0<=k->k<m->0<=t k/\t k<n)(Y:∀j k,0<=j->j<m->0<=k->k<m->t j=t k->j=k)(hi:l[i]? =some (.sem (Frame.rows E n vv ln f)):=by exact rfl):
   Sat w0 w (l.set i (.sem (Frame.rows E m (fun k=>vv (t k)) (fun k=>ln (t k)) (fun k=>f (t k))))):=
 h.iw i hi (fun⟨h1,Z⟩=>⟨fun k X W=>h1 (t k) (D k X W).1 (D k X W).2,fun a b G F V U O g J I=>Z (t a) (t b) (D a G F).1 (D a G F).2 (D b V U).1 (D b V U).2 (fun e=>O (Y a b G F V U e)) g J I⟩)
   (fun g ⟨a,G,F,J⟩=>⟨t a,(D a G F).1,(D a G F).2,J⟩)
end
end Go.Proofs.Gw
namespace Go.Proofs.YtkichmnjjblodaaGreat
open Go Go.RowKit Go.Proofs.Gw
variable {a i:Int} {cnt ln:Oe} {pt:Of}
theorem Zjf{vA vB:Value}{n m:Int}{f g:Oe}(w0:World)(I:Row w0 vA 1 n (ints f))(G:Row w0 vB 1 m (ints g)):
   Calls Oj 141 [vA,vB].toArray w0 fun e w=>∃v,e= .returned v/\v=B (ahd (lst n f) (lst m g))/\Sat w0 w []:=by
 have hn:=I.cf.n0;have Z:=I.cf.n1;have hm:=G.cf.n0;have aa:=G.cf.n1
 refine zenG Tryz.func141 Tryz.ntmps141 fun w D=> ?_
 refine zsr<|(zP)<|zx5<|(zP)<|zx6<|zlp (fun Y M w=>∃(i:Int),Y=((n-i).toNat)/\(0<=i)/\(i<=n)/\(i<=m)/\(∀k,0<=k->k<i->f k=g k)/\M= [(0,vA),(1,vB),(5,.int Oh i)]/\Sat w0 w []) ⟨0,rfl,Oa,Oa,Oa,?_,rfl,D⟩ ?_
 ·
  intro k X h1;omega
 clear D w
 rintro Y M w ⟨i,rfl,X,h1,h2,O,rfl,D⟩
 refine zx11<|(Om)<|(zV (xln Zb I.cf))<|(Om)<|zlb 10 ?_ ?_<;>intro hc
 ·
  refine(Om)<|(zV (xln Zb G.cf))<|(Om)<|zlt<|Ze ?_ ?_<;>intro hc
  ·
   refine zx27<|zdst [] [] 1000 mx_ D ?_;clear D;intro w D
   refine(zDw 0 xmv)<|(zDw 1 xmv)<|(zDw 2 (xix (kk:=i) Zb I.cf))<|(zDl 3 (fun w D=>(xlr (u:= .int Oh (f i)) pl_3 (I.below D.below))))<|(zDw 4 xmv)<|(zDw 5 xmv)<|(zDw 6 (xix (kk:=i) Zb G.cf))<|(zDl 7 (fun w D=>(xlr (u:= .int Oh (g i)) pl_3 (G.below D.below))))<|(zDw 8 YM)<|zdd<|ztn ?_
   refine Ze ?_ ?_<;>intro hc
   ·
    refine zsq<|zdst [] [] 1000 mx_ D ?_;clear D;intro w D
    refine(zDw 0 xmv)<|(zDw 1 xmv)<|(zDw 2 (xix (kk:=i) Zb I.cf))<|(zDl 3 (fun w D=>(xlr (u:= .int Oh (f i)) pl_3 (I.below D.below))))<|(zDw 4 xmv)<|(zDw 5 xmv)<|(zDw 6 (xix (kk:=i) Zb G.cf))<|(zDl 7 (fun w D=>(xlr (u:= .int Oh (g i)) pl_3 (G.below D.below))))<|(zDw 8 Yu)<|(zDw 9 xas)<|zdd<|ztn<|zrt<|zbr<|ztr<|ztr<|zbr<|ztr<|Oi ?_
    exact⟨Zn ⟨fun J=>ahd_gt X Oa Oa O J,fun J=>by
        apply Classical.byContradiction;intro h9
        exact ahd_asym J (ahd_gt (n:=m) (m:=n) (f:=g) (g:=f) X Oa Oa (fun k F U=>(O k F U).symm) Oa)⟩,D⟩
   refine zx4<|(zP)<|(zV (Zg (r:=i+1)))<|(zP)<|zln<|zlq ⟨i+1,rfl,Oa,Oa,Oa,?_,rfl,D⟩
   ·
    intro k W ab;rcases Int.lt_or_eq_of_le (show k<=i by omega) with V|V;exact O k W V;rw [V];omega
  refine zx8<|(zP)<|(zV (xln Zb I.cf))<|(zP)<|(zV (xln Zb G.cf))<|(zV (xkt Yu))<|(zP)<|zx1<|Oi ?_
  exact⟨ZT (Vf Oa Oa (fun k F U=>O k F Oa)),D⟩
 iterate 4 refine zlo ?_
 refine(zP)<|zlt<|zcf<|zxt<|ztx<|ztx<|zbh<|ztn<|zsr ?_
 refine(zP)<|(zV (xln Zb I.cf))<|(zP)<|(zV (xln Zb G.cf))<|(Om)<|zx1<|Oi ?_
 exact⟨Zn ⟨fun J=>Vf Oa J (fun k F U=>O k F Oa),fun J=>by
     apply Classical.byContradiction;intro h9
     by_cases e:n=m
     · subst e;exact ZbK (fun k F U=>O k F Oa) J
     · exact ahd_asym J (Vf (n:=m) (m:=n) (f:=g) (g:=f) Oa Oa (fun k F U=>(O k F Oa).symm))⟩,D⟩
def Xu(s:Oe)(a i:Int):Oe:=fun k=>if k<a then s k else if k=a then i else s (k-1)
theorem Zc8{s:Oe}{k:Int}(h:k<a):Xu s a i k=s k:=if_pos h
theorem Zda(s:Oe)(a i:Int):Xu s a i a=i:=by unfold Xu;rw [if_neg Oa,if_pos rfl]
theorem Zc9{s:Oe}{k:Int}(h:a<k):Xu s a i k=s (k-1):=by unfold Xu;rw [if_neg Oa,if_neg Oa]
theorem XA(s:Oe)(a i k:Int):(k<a/\Xu s a i k=s k)\/(k=a/\Xu s a i k=i)\/(a<k/\Xu s a i k=s (k-1)):=by
 rcases Int.lt_trichotomy k a with h|h|h
 · exact .inl ⟨h,Zc8 h⟩
 · exact .inr (.inl ⟨h,by rw [h];exact Zda s a i⟩)
 · exact .inr (.inr ⟨h,Zc9 h⟩)
theorem Zbk{s:Oe}(I:0<=a)(G:a<=i)(h:∀k,0<=k->k<i->0<=s k/\s k<i):∀k,0<=k->k<i+1->0<=Xu s a i k/\Xu s a i k<i+1:=fun k D F=>by
 rcases XA s a i k with⟨h1,e⟩|⟨h1,e⟩|⟨h1,e⟩<;>rw [e]
 · have:=h k D Oa;omega
 · omega
 · have:=h (k-1) Oa Oa;omega
theorem Zbl{s:Oe}(U:0<=a)(O:a<=i)(h:∀k,0<=k->k<i->0<=s k/\s k<i)(D:∀j k,0<=j->j<i->0<=k->k<i->s j=s k->j=k):∀j k,0<=j->j<i+1->0<=k->k<i+1->Xu s a i j=Xu s a i k->j=k:=fun j k G J F I e=>by
 rcases XA s a i j with⟨h1,e1⟩|⟨h1,e1⟩|⟨h1,e1⟩<;>rcases XA s a i k with⟨h2,e2⟩|⟨h2,e2⟩|⟨h2,e2⟩<;>rw [e1,e2] at e
 · exact D j k G Oa F Oa e
 · have:=h j G Oa;omega
 · have:=D j (k-1) G Oa Oa Oa e;omega
 · have:=h k F Oa;omega
 · omega
 · have:=h (k-1) Oa Oa;omega
 · have:=D (j-1) k Oa Oa F Oa e;omega
 · have:=h (j-1) Oa Oa;omega
 · have:=D (j-1) (k-1) Oa Oa Oa Oa e;omega
theorem Zfm{R:Int->Int->Prop}{s:Oe}(V:0<=a)(U:a<=i)(F:Srt R 0 i s)(I:∀k,0<=k->k<a->R (s k) i)(J:∀k,a<=k->k<i->R i (s k)):Srt R 0 (i+1) (Xu s a i):=fun j k D G O=>by
 rcases XA s a i j with⟨h1,e1⟩|⟨h1,e1⟩|⟨h1,e1⟩<;>rcases XA s a i k with⟨h2,e2⟩|⟨h2,e2⟩|⟨h2,e2⟩<;>rw [e1,e2]
 · exact F j k D G Oa
 · exact I j D h1
 · exact F j (k-1) D Oa Oa
 · omega
 · omega
 · exact J (k-1) Oa Oa
 · omega
 · omega
 · exact F (j-1) (k-1) Oa Oa Oa
theorem ZhS{s:Oe}(I:0<=a)(G:a<=i):plL (i+1) (fun k=>ln (Xu s a i k)) (fun k=>pt (Xu s a i k)) (fun k=>cnt (Xu s a i k))=
   (plL i (fun k=>ln (s k)) (fun k=>pt (s k)) (fun k=>cnt (s k))).take a.toNat++(lst (ln i) (pt i),cnt i)::(plL i (fun k=>ln (s k)) (fun k=>pt (s k)) (fun k=>cnt (s k))).drop a.toNat:=by
 have D:((plL i (fun k=>ln (s k)) (fun k=>pt (s k)) (fun k=>cnt (s k))).take a.toNat).length=a.toNat:=by rw [List.length_take,plL_len];omega
 apply List.ext_getElem?
 intro k
 rw [plL_get,List.getElem?_append,D]
 rcases XA s a i k with⟨h,e⟩|⟨h,e⟩|⟨h,e⟩
 · rw [if_pos Oa,if_pos Oa,List.getElem?_take,if_pos Oa,plL_get,if_pos Oa,e]
 · rw [if_pos Oa,if_neg Oa,show k-a.toNat=0 by omega,List.getElem?_cons_zero,e]
 · rw [if_neg (show¬k<a.toNat by omega)]
   obtain⟨q,F⟩:∃q,k-a.toNat=q+1:=⟨k-a.toNat-1,Oa⟩
   rw [F,List.getElem?_cons_succ,List.getElem?_drop,plL_get,e,show((a.toNat+q:Nat):Int)=(k:Int)-1 by omega]
   by_cases hk:(k:Int)<i+1
   · rw [if_pos hk,if_pos Oa]
   · rw [if_neg hk,if_neg Oa]
theorem Za0{s:Oe}(F:0<=a)(D:a<=i)(h:(plL i (fun k=>ln (s k)) (fun k=>pt (s k)) (fun k=>cnt (s k))).Perm (plL i ln pt cnt)):
   (plL (i+1) (fun k=>ln (Xu s a i k)) (fun k=>pt (Xu s a i k)) (fun k=>cnt (Xu s a i k))).Perm (plL (i+1) ln pt cnt):=by
 rw [ZhS F D,XV Oa]
 refine List.perm_middle.trans ?_
 rw [List.take_append_drop]
 exact(List.Perm.cons _ h).trans (List.perm_append_singleton _ _).symm
theorem ZcT{l:Us}{n:Int}(Y:plL n ln pt cnt=Wh l){x y:Int}(X:0<=x)(W:x<n)(y0:0<=y)(y1:y<n)(h:x≠y):lst (ln x) (pt x)≠lst (ln y) (pt y):=by
 have hd:=Rz l
 rw [<-Y,List.pairwise_iff_getElem] at hd
 have O:∀(k:Int) (F:0<=k) (G:k<n),∃h:k.toNat<(plL n ln pt cnt).length,(plL n ln pt cnt)[k.toNat]=(lst (ln k) (pt k),cnt k):=fun k F G=>by
   have h1:=plL_get n ln pt cnt k.toNat
   have D:k.toNat<(plL n ln pt cnt).length:=by rw [plL_len];omega
   rw [Int.toNat_of_nonneg F,if_pos G,List.getElem?_eq_getElem D] at h1
   exact⟨D,by injection h1⟩
 obtain⟨J,V⟩:=O x X W
 obtain⟨I,U⟩:=O y y0 y1
 rcases Int.lt_or_gt_of_ne h with D|D
 · have:=hd x.toNat y.toNat J I Oa;rw [V,U] at this;exact this
 · have:=hd y.toNat x.toNat I J Oa;rw [V,U] at this;exact fun e=>this e.symm
abbrev ZbS(ln:Oe)(pt:Of):Int->Int->Prop:=fun x y=>ahd (lst (ln x) (pt x)) (lst (ln y) (pt y))
theorem Zbj{l:Us}{n:Int}{s:Oe}(O:plL n ln pt cnt=Wh l)(J:i<n)(W:0<=a)(V:a<=i)(hr:∀k,0<=k->k<i->0<=s k/\s k<i)(F:Srt (ZbS ln pt) 0 i s)
   (h1:a=0\/¬ZbS ln pt i (s (a-1))) (U:∀k,a<=k->k<i->ZbS ln pt i (s k)):Srt (ZbS ln pt) 0 (i+1) (Xu s a i):=by
 refine Zfm W V F (fun k I X=> ?_) U
 have D:=hr (a-1) Oa Oa
 have G:ZbS ln pt (s (a-1)) i:=by
   rcases h1 with h1|h1
   · omega
   · rcases Zaz (ZcT O (x:=i) (y:=s (a-1)) Oa J D.1 Oa Oa) with h|h
     · exact absurd h h1
     · exact h
 by_cases e:k=a-1
 · rw [e];exact G
 · exact UP (F k (a-1) I Oa Oa) G
theorem NormR.l7{l:Us}{n:Int}{s:Oe}(F:plL n ln pt cnt=Wh l)(G:(plL n (fun k=>ln (s k)) (fun k=>pt (s k)) (fun k=>cnt (s k))).Perm (plL n ln pt cnt))(I:Srt (ZbS ln pt) 0 n s):
   NormR l (plL n (fun k=>ln (s k)) (fun k=>pt (s k)) (fun k=>cnt (s k))):=by
 refine⟨by rw [<-F];exact G,?_⟩
 rw [List.pairwise_iff_getElem]
 intro i j hi J O
 rw [plL_len] at hi J
 have g:∀(k:Nat) (D:k<(plL n (fun k=>ln (s k)) (fun k=>pt (s k)) (fun k=>cnt (s k))).length),(plL n (fun k=>ln (s k)) (fun k=>pt (s k)) (fun k=>cnt (s k)))[k]=(lst (ln (s k)) (pt (s k)),cnt (s k)):=fun k D=>by
   have h1:=plL_get n (fun k=>ln (s k)) (fun k=>pt (s k)) (fun k=>cnt (s k)) k
   rw [plL_len] at D
   rw [if_pos Oa,List.getElem?_eq_getElem (by rw [plL_len];exact D)] at h1
   injection h1
 rw [g,g]
 exact I i j Oa Oa Oa
theorem R3{pv:Int->Value}{s:Oe}(I:0<=a)(G:a<=i):∀k,0<=k->k<(i+1)*2->cat (a*2) (Zd (fun q=>pv (s q)) (fun q=>cnt (s q))) (cat (1*2) (Zd (fun _=>pv i) (fun _=>cnt i)) (fun k=>Zd (fun q=>pv (s q)) (fun q=>cnt (s q)) (k+a*2))) k=Zd (fun q=>pv (Xu s a i q)) (fun q=>cnt (Xu s a i q)) k:=fun k F D=>by
 unfold cat Zd
 dsimp only
 by_cases h1:k<a*2
 · rw [if_pos h1,Zc8 (show k/2<a by omega)]
 · rw [if_neg h1]
   by_cases h2:k-a*2<1*2
   · rw [if_pos h2,show k/2=a by omega,Zda]
     by_cases h3:k%2=0
     · rw [if_pos h3,if_pos (show(k-a*2)%2=0 by omega)]
     · rw [if_neg h3,if_neg (show¬(k-a*2)%2=0 by omega)]
   · rw [if_neg h2,Zc9 (show a<k/2 by omega),show(k-a*2-1*2+a*2)/2=k/2-1 by omega,show(k-a*2-1*2+a*2)%2=k%2 by omega]
theorem Za6{l:Us}{n r:Int}{D:Oe}{F:Of}{U:Oe}(O:plL n D F U=Wh l)(I:0<=r)(G:r<n)(e:lst (ln i) (pt i)=lst (D r) (F r)):∀k,0<=k->k<r->¬(lst (ln i) (pt i)=lst (D k) (F k)):=fun k J V h=>
 ZcT O J Oa I G Oa (h.symm.trans e)
theorem ZdA{n:Int}{f g:Int->Value}(hf:∀k,(f k).oneCell'=true)(D:∀k,(g k).oneCell'=true):∀k,(cat n f g k).oneCell'=true:=fun k=>by
 unfold cat;split
 · exact hf k
 · exact D _
end Go.Proofs.YtkichmnjjblodaaGreat
namespace Go.Proofs.YtkichmnjjblodaaGreat
open Go Go.RowKit Go.Proofs.Gw
theorem ZlS:Zc Oj 141=true:=Ob
theorem Uf{n m:Int}{f g:Oe}(n0:0<=n)(D:0<=m):(n=m/\∀k,0<=k->k<n->f k=g k)↔lst m g=lst n f:=by
 rw [eq_comm (a:=lst m g)];exact(VP n0 D).symm
theorem RR{D i q:Int}{F ln J cnt:Oe}{I pt:Of}(n0:0<=D)(O:0<=i)(U:plL D F I J=Wh (plL i ln pt cnt))(V:q=D)(G:∀k,0<=k->k<D->¬(lst (ln i) (pt i)=lst (F k) (I k))):
   plL (D+1) (gsn F D (ln i)) (gsn I D (pt i)) (upd (snoc J D 0) q (snoc J D 0 q+cnt i))=Wh (plL (i+1) ln pt cnt):=by
 subst V
 rw [<-TM n0 O U G]
 refine Vr fun k X W=>⟨rfl,?_,fun _ _ _=>rfl⟩
 unfold upd
 by_cases e:k=q
 · rw [if_pos e,Zk Oa,e,Zk Oa];omega
 · rw [if_neg e,Zl Oa,Zl Oa]
theorem Zc2{F:Oe}{D B C x q:Int}(h:∀k,0<=k->k<D->1<=F k/\F k<=B)(I:q=D)(V:B<=C)(O:1<=x)(J:x<=C):∀k,0<=k->k<D+1->1<=upd (snoc F D 0) q (snoc F D 0 q+x) k/\upd (snoc F D 0) q (snoc F D 0 q+x) k<=C:=fun k G U=>by
 subst I
 unfold upd
 by_cases e:k=q
 · rw [if_pos e,Zk Oa];omega
 · rw [if_neg e,Zl Oa];have:=h k G Oa;omega
theorem Zat {vV:Value} {u:Int} {pv:Int->Value} {ln:Oe} {pt:Of} {cnt:Oe} (w0:World) (Z:VAt w0 vV u pv ln pt cnt) (a2:u<=1000000) (hlc:∀k,0<=k->k<u->ln k<=100000) (ao:∀k,0<=k->k<u->1<=cnt k/\cnt k<=1000):
   Calls Oj 103 [vV].toArray w0 fun e w=>∃v,e= .returned v/\∃r n2 ak ln2 pt2 qg,v=r/\NormR (plL u ln pt cnt) (plL n2 ln2 pt2 qg)/\0<=n2/\n2<=u/\(∀k,0<=k->k<n2->1<=qg k/\qg k<=1000*u)/\Slh r n2/\Sat w0 w [.own r 2 103 n2 (Zd ak qg),.sem (Frame.rows 3 n2 ak ln2 pt2)]:=by
 have hn:=Z.row.cf.n0;have a3:=Z.row.cf.n1
 refine zenG Tryz.func103 Tryz.ntmps103 fun w D=> ?_
 refine zsr<|(zP)<|zlz<|(Om)<|zx5<|(zP)<|zx6 ?_
 replace D:=D.cg 2 103 (Zd (fun _=>Og) (fun _=>0))
 replace D:=D.fa 3 (fun _=>Og) (fun _=>0) (fun _ _=>0)
 have yz:=fun k (k0:0<=k) (k1:k<0)=>D.db 1 rfl k0 k1
 refine zlp (fun mm M w=>∃(nC:Int) (O:Int->Value) (lC:Oe) (gC:Of) (J:Oe) (i:Int) (W:Value),mm=((u-i).toNat)/\(0<=i)/\(i<=u)/\(0<=nC/\nC<=i)/\(plL nC lC gC J=Wh (plL i ln pt cnt))/\(∀k,0<=k->k<nC->1<=J k/\J k<=1000*i)/\(∀x,(O x).oneCell'=true)/\(Slh W nC)/\M= [(0,vV),(2,Og),(3,W),(4,Og),(5,.int Oh i)]/\Sat w0 w [.own W 2 103 nC (Zd O J),.sem (Frame.rows 3 nC O lC gC)]) ⟨0,(fun _=>Og),(fun _=>0),(fun _ _=>0),(fun _=>0),0,Og,rfl,Oa,Oa,Oa,?_,?_,?_,?_,rfl,D⟩ ?_
 ·
  rfl
 ·
  intro k k0 k1;omega
 ·
  intro x;rfl
 ·
  exact slh_nil
 clear D w
 rintro mm M w ⟨nC,O,lC,gC,J,i,W,rfl,h0,h1,ap,hs,Y,qm,xX,rfl,D⟩
 have qG:=fun k (k0:0<=k) (k1:k<nC)=>D.db 1 rfl k0 k1
 have zG:=ap.1
 refine zx11<|(Om)<|(zV (xln ZF Z.row.cf))<|(zP)<|zlt<|Ze ?_ ?_<;>intro hc
 ·
  refine zx3<|(zP)<|zlv (xln ZF xX) ?_
  have a6:=ao i h0 Oa
  have a5:=hlc i h0 Oa
  have da:=(Z.p i h0 Oa).cf.n0
  refine(zP)<|zx5<|(zP)<|zx6<|zlp (fun mm M w=>∃(G:Int) (k:Int),mm=((nC-k).toNat)/\(0<=k)/\(k<=nC)/\((G=nC/\∀j,0<=j->j<k->¬(lst (ln i) (pt i)=lst (lC j) (gC j)))\/(0<=G/\G<nC/\lst (ln i) (pt i)=lst (lC G) (gC G)))/\M= [(0,vV),(2,Og),(3,W),(4,Og),(5,.int Oh i),(6,.int Oh G),(7,.int Oh k)]/\Sat w0 w [.own W 2 103 nC (Zd O J),.sem (Frame.rows 3 nC O lC gC)]) ⟨nC,0,rfl,Oa,Oa,?_,rfl,D⟩ ?_
  ·
   exact .inl ⟨rfl,fun j j0 j1=>Oa⟩
  clear D w
  rintro mm M w ⟨G,k,rfl,k0,k1,ab,rfl,D⟩
  refine zx11<|(Om)<|(zV (xln ZF xX))<|(zP)<|zlt<|Ze ?_ ?_<;>intro hc
  ·
   refine zx27<|zdst [0,1] [0,1] 1000 mx_ D ?_;clear D;intro w D
   refine(zDw 0 xmv)<|(zDw 1 xmv)<|zDrv 2 (xix (kk:=2*k) ZF xX) ?_
   have hsk:=(qG k k0 Oa).n0
   refine(zDw 3 (xfc (kk:=2*k) YQ xX))<|(zDl 4 (fun w D=>(xlr (u:=(O k)) pl_22 (D.c7 0 rfl) (e:=(Y9 O J Oa)))))<|(zDw 5 xmv)<|(zDw 6 xmv)<|(zDw 7 (xix (kk:=2*i) ZF Z.row.cf))<|(zDw 8 (xfc (kk:=2*i) YQ Z.row.cf))<|(zDl 9 (fun w D=>(xlr (u:=(pv i)) pl_22 (Z.row.below D.below) (e:=(Y9 pv cnt Oa)))))<|zdc 10 (xc0 ZnY) (ZgE (n:=(lC k)) (m:=(ln i)) (f:=(gC k)) (g:=(pt i)) w (D.fq (k:=k) 1 rfl Oa Oa) ((Z.p i Oa Oa).below D.below)) ?_;rintro _ w ⟨rfl,ad⟩
   replace D:=D.cmp ad;clear ad
   refine⟨⟨fun _=>D,D⟩,?_⟩
   refine zdd<|ztn ?_
   refine Ze ?_ ?_<;>intro hc
   ·
    refine zrg<|(Om)<|zx10<|(zP)<|(zV (Zg (r:=k+1)))<|(zP)<|zln<|zlq ⟨k,k+1,rfl,Oa,Oa,?_,rfl,D⟩
    ·
     first|exact .inr ⟨k0,Oa,(Uf hsk da).1 ‹_›⟩|(rcases ab with⟨q1,q2⟩|q;exact .inl ⟨q1,fun j j0 j1=>by
       rcases Int.lt_or_eq_of_le (show j<=k by omega) with h9|h9
       · exact q2 j j0 h9
       · rw [h9];exact fun hh=>absurd ((Uf hsk da).2 hh) ‹_›⟩;exact .inr q)
   refine zx4<|(zP)<|(zV (Zg (r:=k+1)))<|(zP)<|zln<|zlq ⟨G,k+1,rfl,Oa,Oa,?_,rfl,D⟩
   ·
    first|exact .inr ⟨k0,Oa,(Uf hsk da).1 ‹_›⟩|(rcases ab with⟨q1,q2⟩|q;exact .inl ⟨q1,fun j j0 j1=>by
      rcases Int.lt_or_eq_of_le (show j<=k by omega) with h9|h9
      · exact q2 j j0 h9
      · rw [h9];exact fun hh=>absurd ((Uf hsk da).2 hh) ‹_›⟩;exact .inr q)
  refine zx18<|(Om)<|(zV (xln ZF xX))<|(zP)<|zlt<|Ze ?_ ?_<;>intro hc
  ·
   refine zrg<|(zP)<|zla (xl0 (c:=ints (pt i)) Zb D) ?_;rintro v1 w ⟨D,a0⟩
   refine(Om)<|(zV (xix (kk:=2*i) ZF Z.row.cf))<|(zV (xfc (kk:=2*i) YQ Z.row.cf))<|(zV (xlr (u:=(pv i)) pl_22 (Z.row.below D.below) (e:=(Y9 pv cnt Oa))))<|zla (xap 2 (r:=(ln i)) (f:=ints (pt i)) Zb Zm D ((Z.p i Oa Oa).below D.below) (by exact XE _ _)) ?_;rintro v2 w ⟨D,ah⟩
   refine zlv (xany (v:= .agg #[v2,.int Oh 0]) (hr:=by obtain⟨_,_,_,_,rfl,_⟩:=ah;kernel_rfl)) ?_
   refine zla (xli (n:=1) (len:=1) (pv:= [(0,.agg #[v2,.int Oh 0])]) (cs:= [v2,.int Oh 0]) (c:=Zd (fun _=>v2) (fun _=>0)) ZF YS D (hf:=by obtain⟨_,_,_,_,rfl,_⟩:=ah;kernel_rfl)) ?_;rintro v3 w ⟨D,az⟩
   refine zla (xap 0 (r:=nC+1) ZF YS D (D.c7 3 rfl) (Ym _ _ _ _ _) (h1:=fun k _ _=>ZK (fun _=>ah.one) k)) ?_;rintro v4 w ⟨D,ac⟩
   replace D:=Sat.merge (l1:= [_]) (l2:= []) (l3:= [_]) D Oa
   have xd:=fun k (k0:0<=k) (k1:k<nC+1)=>D.db 1 rfl k0 k1
   refine(zP)<|zlt<|zdst [0,1,2] [1,2] 13 mx_ D ?_;clear D;intro w D
   refine(zDw 0 xmv)<|(zDw 1 xmv)<|zDrv 2 (xix (kk:=2*G) ZF ac) ?_
   have ar:G<nC->1<=J G/\J G<=1000*i:=fun h=>Y G Oa h
   have kb:G=nC->snoc J nC 0 G=0:=fun h=>Zk Oa
   refine(zDw 3 (xfc (kk:=2*G+1) YF ac))<|zdl 4 (fun w D=>(xlr (u:= .int Oh ((snoc J nC 0) G)) pl_3 (D.c7 0 rfl) (e:=(Y8 (gsn O nC v2) (snoc J nC 0) Oa)))) ?_
   refine(zDw 5 xmv)<|(zDw 6 xmv)<|(zDw 7 (xix (kk:=2*i) ZF Z.row.cf))<|(zDw 8 (xfc (kk:=2*i+1) YF Z.row.cf))<|(zDl 9 (fun w D=>(xlr (u:= .int Oh (cnt i)) pl_3 (Z.row.below D.below) (e:=(Y8 pv cnt Oa)))))<|(zDw 10 (Zg (r:=((snoc J nC 0) G)+(cnt i))))<|(zDw 11 (xix (kk:=2*G) ZF ac))<|(zDw 12 (xfc (kk:=2*G+1) YF ac))<|zde 13 (xso 0 pl_3 D (WZ (k:=2*G+1) (i:=G) _ _ Oa)) ?_;clear D;rintro w D
   refine⟨⟨fun h=>absurd h (by decide),D.pk [1,2]⟩,?_⟩
   refine zdd<|zbn<|ztn<|zrg ?_
   refine(zP)<|(zV (Zg (r:=i+1)))<|(zP)<|zln<|zlq ⟨nC+1,gsn O nC v2,gsn lC nC (ln i),gsn gC nC (pt i),(upd (snoc J nC 0) G (((snoc J nC 0) G)+(cnt i))),i+1,v4,rfl,Oa,Oa,Oa,?_,?_,?_,?_,rfl,D.pk [0,1]⟩
   ·
    first|exact RR zG h0 hs Oa (fun j j0 j1=>(ab.resolve_right (fun h=>absurd h.2.1 Oa)).2 j j0 Oa)|(have V:=ab.resolve_left (fun h=>absurd h.1 Oa);exact Tg h0 hs V.1 V.2.1 V.2.2 (Za6 hs V.1 V.2.1 V.2.2))
   ·
    first|exact Zc2 Y Oa Oa Oa Oa|exact Zc3 Y Oa Oa Oa
   ·
    first|exact qm|exact Wf qm ‹Slh _ _›.one
   ·
    exact ac
  refine zsk<|ztn<|zdst [0,1] [1] 13 mx_ D ?_;clear D;intro w D
  refine(zDw 0 xmv)<|(zDw 1 xmv)<|zDrv 2 (xix (kk:=2*G) ZF xX) ?_
  have ar:G<nC->1<=J G/\J G<=1000*i:=fun h=>Y G Oa h
  have kb:G=nC->snoc J nC 0 G=0:=fun h=>Zk Oa
  refine(zDw 3 (xfc (kk:=2*G+1) YF xX))<|zdl 4 (fun w D=>(xlr (u:= .int Oh (J G)) pl_3 (D.c7 0 rfl) (e:=(Y8 O J Oa)))) ?_
  refine(zDw 5 xmv)<|(zDw 6 xmv)<|(zDw 7 (xix (kk:=2*i) ZF Z.row.cf))<|(zDw 8 (xfc (kk:=2*i+1) YF Z.row.cf))<|(zDl 9 (fun w D=>(xlr (u:= .int Oh (cnt i)) pl_3 (Z.row.below D.below) (e:=(Y8 pv cnt Oa)))))<|(zDw 10 (Zg (r:=(J G)+(cnt i))))<|(zDw 11 (xix (kk:=2*G) ZF xX))<|(zDw 12 (xfc (kk:=2*G+1) YF xX))<|zde 13 (xso 0 pl_3 D (WZ (k:=2*G+1) (i:=G) _ _ Oa)) ?_;clear D;rintro w D
  refine⟨⟨fun h=>absurd h (by decide),D.pk [1]⟩,?_⟩
  refine zdd<|zbn<|ztn<|zrg ?_
  refine(zP)<|(zV (Zg (r:=i+1)))<|(zP)<|zln<|zlq ⟨nC,O,lC,gC,(upd J G ((J G)+(cnt i))),i+1,W,rfl,Oa,Oa,Oa,?_,?_,?_,?_,rfl,D⟩
  ·
   first|exact RR zG h0 hs Oa (fun j j0 j1=>(ab.resolve_right (fun h=>absurd h.2.1 Oa)).2 j j0 Oa)|(have V:=ab.resolve_left (fun h=>absurd h.1 Oa);exact Tg h0 hs V.1 V.2.1 V.2.2 (Za6 hs V.1 V.2.1 V.2.2))
  ·
   first|exact Zc2 Y Oa Oa Oa Oa|exact Zc3 Y Oa Oa Oa
  ·
   first|exact qm|exact Wf qm ‹Slh _ _›.one
  ·
   exact xX
 refine zx18<|(zP)<|zx6 ?_
 have aq:i=u:=Oa
 rw [aq] at hs Y
 replace D:=D.cg 2 103 (Zd (fun q=>O ((fun _=>(0:Int)) q)) (fun q=>J ((fun _=>(0:Int)) q)))
 refine zlp (fun mm M w=>∃(U:Oe) (F:Int) (wO:Value),mm=((nC-F).toNat)/\(0<=F)/\(F<=nC)/\(∀k,0<=k->k<F->0<=U k/\U k<F)/\(∀j k,0<=j->j<F->0<=k->k<F->U j=U k->j=k)/\(Srt (ZbS lC gC) 0 F U)/\((plL F (fun k=>lC (U k)) (fun k=>gC (U k)) (fun k=>J (U k))).Perm (plL F lC gC J))/\(Slh wO F)/\M= [(2,Og),(3,W),(4,wO),(8,.int Oh F)]/\Sat w0 w [.own W 2 103 nC (Zd O J),.sem (Frame.rows 3 nC O lC gC),.own wO 2 103 F (Zd (fun q=>O (U q)) (fun q=>J (U q)))]) ⟨(fun _=>(0:Int)),0,Og,rfl,Oa,Oa,?_,?_,?_,?_,?_,rfl,D⟩ ?_
 ·
  intro k k0 k1;omega
 ·
  intro j k j0 j1;omega
 ·
  intro i j i0 ij j1;omega
 ·
  exact List.Perm.refl _
 ·
  exact slh_nil
 clear D w
 rintro mm M w ⟨U,F,wO,rfl,am,au,X,ag,af,ae,aa,rfl,D⟩
 refine zx11<|(Om)<|(zV (xln ZF xX))<|(zP)<|zlt<|Ze ?_ ?_<;>intro hc
 ·
  refine zsk<|ztn<|zsq<|zbk<|zsq<|zsr<|(Om)<|zlv (xix (kk:=2*F) ZF xX) ?_
  have a7:=Y F am Oa
  refine(zV (xfc (kk:=2*F+1) YF xX))<|(zV (xlr (u:= .int Oh (J F)) pl_3 (D.c7 0 rfl) (e:=(Y8 O J Oa))))<|(zV (xkf Z7))<|zlt<|zcf<|zsk<|ztn<|zsr ?_
  refine(zP)<|(zV (xln ZF aa))<|(zP)<|zlt<|zsq<|zbk<|zlp (fun mm M w=>∃(I:Int),mm=((I).toNat)/\(0<=I)/\(I<=F)/\(∀k,I<=k->k<F->ZbS lC gC F (U k))/\M= [(2,Og),(3,W),(4,wO),(8,.int Oh F),(9,.int Oh I)]/\Sat w0 w [.own W 2 103 nC (Zd O J),.sem (Frame.rows 3 nC O lC gC),.own wO 2 103 F (Zd (fun q=>O (U q)) (fun q=>J (U q)))]) ⟨F,rfl,Oa,Oa,?_,rfl,D⟩ ?_
  ·
   intro k k0 k1;omega
  clear D w
  rintro mm M w ⟨I,rfl,a9,a8,aj,rfl,D⟩
  refine zsq<|zsq<|zdst [0,1,2] [0,1,2] 1000 mx_ D ?_;clear D;intro w D
  refine(zDw 0 xmv)<|(zDw 1 Yu)<|(zDw 2 xmv)<|zdb 80 ?_ ?_<;>intro hc
  ·
   refine(zDw 3 xmv)<|(zDw 4 xmv)<|(zDw 5 (xix (kk:=2*F) ZF xX))<|(zDw 6 (xfc (kk:=2*F) YQ xX))<|(zDl 7 (fun w D=>(xlr (u:=(O F)) pl_22 (D.c7 0 rfl) (e:=(Y9 O J Oa)))))<|(zDw 8 xmv)<|(zDw 9 xmv)<|zDrv 10 (Zw (r:=I-1)) ?_
   have a1:=X (I-1) Oa Oa
   refine(zDw 11 (xix (kk:=2*I-2) ZF aa))<|(zDw 12 (xfc (kk:=2*I-2) YQ aa))<|(zDl 13 (fun w D=>(xlr (u:=(O (U (I-1)))) pl_22 (D.c7 2 rfl) (e:=(Y9 (fun q=>O (U q)) (fun q=>J (U q)) Oa)))))<|zdc 14 (xc0 ZlS) (Zjf (n:=(lC F)) (f:=(gC F)) (m:=(lC (U (I-1)))) (g:=(gC (U (I-1)))) w (D.fq (k:=F) 1 rfl Oa Oa) (D.fq (k:=(U (I-1))) 1 rfl Oa Oa)) ?_;rintro _ w ⟨rfl,ad⟩
   replace D:=D.cmp ad;clear ad
   refine⟨⟨fun _=>D,D⟩,?_⟩
   refine(zDw 15 xpt)<|zdd<|ztn ?_
   refine Ze ?_ ?_<;>intro hc
   ·
    refine zsk<|ztn<|zbk<|zrg<|(zP)<|(zV (Zw (r:=I-1)))<|(zP)<|zln<|zbn<|zlq ⟨I-1,rfl,Oa,Oa,?_,rfl,D⟩
    ·
     intro k k0 k1;rcases Int.lt_or_eq_of_le (show I-1<=k by omega) with h9|h9
     · exact aj k Oa k1
     · rw [<-h9];assumption
   refine zxt<|ztx<|ztx<|zbh<|ztn<|zdst [0,1,2] [0,1,2] 1000 mx_ D ?_;clear D;intro w D
   refine(zDw 0 xmv)<|(zDw 1 xmv)<|(zDw 2 xmv)<|(zDw 3 (ZcN (i:=I) (I).toNat ZF aa (D.holds _ (List.mem_of_getElem? (i:=2) rfl)).roomy (D.holds _ (List.mem_of_getElem? (i:=2) rfl)).flat))<|(zDw 4 xmv)<|(zDw 5 xmv)<|(zDw 6 (xix (kk:=2*F) ZF xX))<|(zDl 7 (fun w D=>(xlw (cs:= [(O F),.int Oh (J F)]) ZeU (D.c7 0 rfl) (ZG (k:=2*F) (i:=F) O J Oa))))<|(zDw 9 xmv)<|(zDw 10 xmv)<|(zDw 11 (ZcM (i:=I) (I).toNat ZF aa (D.holds _ (List.mem_of_getElem? (i:=2) rfl)).flat))<|zda 8 (xli (n:=1) (len:=1) (pv:= [(0,.agg #[(O F),.int Oh (J F)])]) (cs:= [(O F),.int Oh (J F)]) (c:=Zd (fun _=>(O F)) (fun _=>(J F))) ZF YS D (hf:=by have hz:=(qG F Oa Oa);revert hz;generalize (O F)=z;rintro⟨_,_,_,_,rfl,_⟩;show _=_;kernel_rfl)) ?_;rintro v5 w ⟨D,ay⟩
   refine⟨⟨fun _=>D.pk [0,1,2],D.pk [0,1,2]⟩,?_⟩
   refine zda 12 (xap 3 (r:=F-I+1) (f:=cat (1*2) (Zd (fun _=>(O F)) (fun _=>(J F))) (fun k=>(Zd (fun q=>O (U q)) (fun q=>J (U q))) (k+I*2))) ZF YS D (ZaO (q:=(I).toNat) (i:=I) (m:=F-I) (D.c7 2 rfl) (D.holds _ (List.mem_of_getElem? (i:=2) rfl)).roomy Oa Oa Oa (fun _ _=>rfl)) rfl (h1:=(fun k _ _=>ZK (fun q=>qm (U q)) _))) ?_;rintro v6 w ⟨D,ax⟩
   refine⟨⟨fun _=>D.pk [0,1,2],D.pk [0,1,2]⟩,?_⟩
   refine zda 13 (Zna (q:=(I).toNat) (r:=F+1) (f:=Zd (fun q=>O (Xu U I F q)) (fun q=>J (Xu U I F q))) ZF YS D (ZdB (q:=(I).toNat) (i:=I) (D.c7 2 rfl) Oa Oa) (D.c7 3 rfl) (fun k _ _=>ZK (fun q=>qm (U q)) k) (fun k _ _=>ZdA (fun k=>ZK (fun _=>qm F) k) (fun k=>ZK (fun q=>qm (U q)) _) k) (by rw [show I+(F-I+1)=F+1 by omega];exact R3 Oa Oa) Oa) ?_;rintro v7 w ⟨D,an⟩
   refine⟨⟨fun _=>D.pk [0,1,2],D.pk [0,1,2]⟩,?_⟩
   refine(zDw 14 xas)<|zdd<|zbn<|ztn<|zrg ?_
   refine(zP)<|(zV (Zg (r:=F+1)))<|(zP)<|zln<|zlq ⟨(Xu U I F),F+1,v7,rfl,Oa,Oa,?_,?_,?_,?_,?_,rfl,D.pk [0,1,4]⟩
   ·
    exact Zbk Oa Oa X
   ·
    exact Zbl Oa Oa X ag
   ·
    exact Zbj hs Oa Oa Oa X af (by first|exact .inl Oa|exact .inr ‹_›) aj
   ·
    exact Za0 Oa Oa ae
   ·
    exact an
  refine(zDo 3)<|(zDo 4)<|(zDo 5)<|(zDo 6)<|(zDo 7)<|(zDo 8)<|(zDo 9)<|(zDo 10)<|(zDo 11)<|(zDo 12)<|(zDo 13)<|(zDo 14)<|(zDw 15 xpf)<|zdd<|ztn<|zcf<|zxt<|ztx<|ztx<|zbh<|ztn ?_
  refine zdst [0,1,2] [0,1,2] 1000 mx_ D ?_;clear D;intro w D
  refine(zDw 0 xmv)<|(zDw 1 xmv)<|(zDw 2 xmv)<|(zDw 3 (ZcN (i:=I) (I).toNat ZF aa (D.holds _ (List.mem_of_getElem? (i:=2) rfl)).roomy (D.holds _ (List.mem_of_getElem? (i:=2) rfl)).flat))<|(zDw 4 xmv)<|(zDw 5 xmv)<|(zDw 6 (xix (kk:=2*F) ZF xX))<|(zDl 7 (fun w D=>(xlw (cs:= [(O F),.int Oh (J F)]) ZeU (D.c7 0 rfl) (ZG (k:=2*F) (i:=F) O J Oa))))<|(zDw 9 xmv)<|(zDw 10 xmv)<|(zDw 11 (ZcM (i:=I) (I).toNat ZF aa (D.holds _ (List.mem_of_getElem? (i:=2) rfl)).flat))<|zda 8 (xli (n:=1) (len:=1) (pv:= [(0,.agg #[(O F),.int Oh (J F)])]) (cs:= [(O F),.int Oh (J F)]) (c:=Zd (fun _=>(O F)) (fun _=>(J F))) ZF YS D (hf:=by have hz:=(qG F Oa Oa);revert hz;generalize (O F)=z;rintro⟨_,_,_,_,rfl,_⟩;show _=_;kernel_rfl)) ?_;rintro v8 w ⟨D,aw⟩
  refine⟨⟨fun _=>D.pk [0,1,2],D.pk [0,1,2]⟩,?_⟩
  refine zda 12 (xap 3 (r:=F-I+1) (f:=cat (1*2) (Zd (fun _=>(O F)) (fun _=>(J F))) (fun k=>(Zd (fun q=>O (U q)) (fun q=>J (U q))) (k+I*2))) ZF YS D (ZaO (q:=(I).toNat) (i:=I) (m:=F-I) (D.c7 2 rfl) (D.holds _ (List.mem_of_getElem? (i:=2) rfl)).roomy Oa Oa Oa (fun _ _=>rfl)) rfl (h1:=(fun k _ _=>ZK (fun q=>qm (U q)) _))) ?_;rintro v9 w ⟨D,av⟩
  refine⟨⟨fun _=>D.pk [0,1,2],D.pk [0,1,2]⟩,?_⟩
  refine zda 13 (Zna (q:=(I).toNat) (r:=F+1) (f:=Zd (fun q=>O (Xu U I F q)) (fun q=>J (Xu U I F q))) ZF YS D (ZdB (q:=(I).toNat) (i:=I) (D.c7 2 rfl) Oa Oa) (D.c7 3 rfl) (fun k _ _=>ZK (fun q=>qm (U q)) k) (fun k _ _=>ZdA (fun k=>ZK (fun _=>qm F) k) (fun k=>ZK (fun q=>qm (U q)) _) k) (by rw [show I+(F-I+1)=F+1 by omega];exact R3 Oa Oa) Oa) ?_;rintro al w ⟨D,ci⟩
  refine⟨⟨fun _=>D.pk [0,1,2],D.pk [0,1,2]⟩,?_⟩
  refine(zDw 14 xas)<|zdd<|zbn<|ztn<|zrg ?_
  refine(zP)<|(zV (Zg (r:=F+1)))<|(zP)<|zln<|zlq ⟨(Xu U I F),F+1,al,rfl,Oa,Oa,?_,?_,?_,?_,?_,rfl,D.pk [0,1,4]⟩
  ·
   exact Zbk Oa Oa X
  ·
   exact Zbl Oa Oa X ag
  ·
   exact Zbj hs Oa Oa Oa X af (by first|exact .inl Oa|exact .inr ‹_›) aj
  ·
   exact Za0 Oa Oa ae
  ·
   exact ci
 refine zx8<|(Om)<|zx1<|Oi ?_
 have ai:F=nC:=Oa
 rw [ai] at X ag af ae
 replace D:=D.li 1 X ag
 exact⟨_,nC,_,_,_,_,rfl,NormR.l7 hs ae af,Oa,Oa,fun k k0 k1=>Y (U k) (X k k0 k1).1 (X k k0 k1).2,(by rw [<-ai];exact aa),(by rw [<-ai] at D⊢;exact D.pk [2,1])⟩
theorem Zcy:Zc Oj 103=true:=Ob
theorem ZeO{m F l:Int}{J:List Int}{h:List (List Int)}{M I a a2 O V:Oe}{U:Of}(X:(lst m M,plL F O U V)=Wn J h)(n0:0<=F)(Y:l=m)(Z:∀k,0<=k->k<m->a2 k=a k-min (a k) (M k))(hM:∀k,0<=k->k<m->I k=M k-min (a k) (M k))(W:∃k,0<=k/\k<l/\0<a2 k):
   (lst m I,plL (F+1) (gsn O F l) (gsn U F a2) (snoc V F 1))=Wn J (h++ [lst l a]):=by
 subst Y
 rw [Vl,<-X]
 unfold Wm tM tA
 dsimp only
 rw [Y0,Y0,Z5 (f:=fun k=>a k-min (a k) (M k)) (g:=a2) fun k G D=>(Z k G D).symm,if_pos (WQ.2 W),Z5 (f:=fun k=>M k-min (a k) (M k)) (g:=I) fun k G D=>(hM k G D).symm,
   V8 n0 (fun k G D=>⟨Zp D,Zl D,Zp D⟩) (Zq Oa) (Zk Oa) (Zq Oa)]
theorem Zjr{m I l:Int}{J:List Int}{h:List (List Int)}{M G a a2 O V:Oe}{U:Of}(X:(lst m M,plL I O U V)=Wn J h)(Y:l=m)(ha:∀k,0<=k->k<m->a2 k=a k-min (a k) (M k))(hM:∀k,0<=k->k<m->G k=M k-min (a k) (M k))(W:¬∃k,0<=k/\k<l/\0<a2 k):
   (lst m G,plL I O U V)=Wn J (h++ [lst l a]):=by
 subst Y
 rw [Vl,<-X]
 unfold Wm tM tA
 dsimp only
 rw [Y0,Y0,Z5 (f:=fun k=>a k-min (a k) (M k)) (g:=a2) fun k F D=>(ha k F D).symm,if_neg (fun Z=>W (WQ.1 Z)),Z5 (f:=fun k=>M k-min (a k) (M k)) (g:=G) fun k F D=>(hM k F D).symm]
theorem ZbJ{U D:Oe}{j:Int}{p J:Prop}(V:0<=j)(h:p↔∃q,0<=q/\q<j/\0<U q)(O:∀q,q<j->D q=U q)(W:J↔(p\/0<D j)):J↔∃q,0<=q/\q<j+1/\0<D q:=by
 rw [W,h]
 constructor
 · rintro(⟨q,G,I,F⟩|h)
   · exact⟨q,G,Oa,by rw [O q I];exact F⟩
   · exact⟨j,V,Oa,h⟩
 · rintro⟨q,G,I,F⟩
   by_cases e:q=j
   · rw [e] at F;exact .inr F
   · rw [O q Oa] at F;exact .inl ⟨q,G,Oa,F⟩
theorem V4{α:Type}(l:List α)(x:α){n:Int}(n0:0<=n):l++List.replicate (n+1).toNat x=(l++List.replicate n.toNat x)++ [x]:=by
 rw [show(n+1).toNat=n.toNat+1 by omega,List.replicate_succ',List.append_assoc]
theorem ZdF {vV:Value} {u:Int} {pv:Int->Value} {ln:Oe} {pt:Of} {cnt:Oe} {vL vD:Value} {p:Prob} (w0:World) (hV:VAt w0 vV u pv ln pt cnt) (h:PAt w0 vL vD p):
   Calls Oj 107 [.agg #[vL,vD,.int Oh p.b8,.int Oh p.bo],vV].toArray w0 fun e w=>∃v,e= .returned v/\∃r n2 ai ln2 pt2 qg e,v= .tuple #[r,.int Oh e]/\TrimR p u ln pt cnt (plL n2 ln2 pt2 qg) e/\(∀k,0<=k->k<n2->1<=qg k/\qg k<=1000000000)/\n2<=1000000/\Slh r n2/\Sat w0 w [.own r 2 103 n2 (Zd ai qg),.sem (Frame.rows 3 n2 ai ln2 pt2)]:=by
 obtain⟨hm,ay,hd,hd1,hs,hk⟩:=h.Oo
 have hu:=hV.row.cf.n0;have aw:=hV.row.cf.n1
 refine zenG Tryz.func107 Tryz.ntmps107 fun w G=> ?_
 refine zsr<|zla (xbx (cs:= [_,_,_,_]) G) ?_;rintro _ w ⟨g1,rfl,G⟩
 refine(Om)<|zlz<|(zV (xls 0 ZE G))<|(zP)<|zlc (xc0 Zf1) (Zas (u:=u) (pv:=pv) (ln:=ln) (pt:=pt) (cnt:=cnt) (p:=p) w (hV.below G.below) (h.below G.below)) ?_;rintro _ w ⟨ql,qd,qc,yg,rfl,qt,qf,X⟩
 replace G:=(G.comp X).n2;clear X
 refine zs5 ?_
 refine zlt<|zsq<|zbk<|zsr<|(On)<|zlt<|Ze ?_ ?_<;>intro hc
 ·
  refine zsr<|(On)<|Xt<|zf2 ⟨_,rfl,?_⟩
  have am:¬PlanOk p u ln pt cnt/\yg=1:=by rcases qt with⟨g1,_,g3⟩|⟨_,_,_,g4⟩;exact⟨g1,g3⟩;omega
  exact⟨_,0,fun _=>undef,fun _=>0,fun _ _=>0,fun _=>0,_,rfl,.inl ⟨am.1,rfl,Oa⟩,fun k D F=>Oa,Oa,slh_nil,((G.sub (.cons _ (.cons _ .slnil))).cg 2 103 (Zd (fun _=>undef) (fun _=>0))).fa 3 (fun _=>undef) (fun _=>0) (fun _ _=>0)⟩
 refine zsr<|(zV (xls 0 ZE G))<|(zP)<|zlc (xc0 ZnV) (Zgv (u:=u) (pv:=pv) (ln:=ln) (pt:=pt) (cnt:=cnt) (p:=p) w (hV.below G.below) (h.below G.below)) ?_;rintro _ w ⟨rfl,X⟩
 replace G:=G.cmp X;clear X
 refine(Om)<|zlt<|Ze ?_ ?_<;>intro hc
 ·
  refine zsr<|(Om)<|Xt<|zf2 ⟨_,rfl,?_⟩
  have qh:PlanOk p u ln pt cnt:=by rcases qt with⟨_,_,g3⟩|⟨g1,_⟩;omega;exact g1
  exact⟨_,0,fun _=>undef,fun _=>0,fun _ _=>0,fun _=>0,_,rfl,.inr (.inl ⟨qh,fun hh=>‹¬(_/\_)› ⟨qh,hh⟩,rfl,rfl⟩),fun k D F=>Oa,Oa,slh_nil,((G.sub (.cons _ (.cons _ .slnil))).cg 2 103 (Zd (fun _=>undef) (fun _=>0))).fa 3 (fun _=>undef) (fun _=>0) (fun _ _=>0)⟩
 refine zsk<|zbn<|ztn<|zsr<|zlv xmv ?_
 obtain⟨qh,bC,yu⟩:PlanOk p u ln pt cnt/\qd=p.m/\qc=Zo u pt cnt:=by rcases qt with⟨_,_,g3⟩|⟨g1,g2,g3,_⟩;omega;exact⟨g1,g2,g3⟩
 have yH:=qh.1.m1;have qH:=qh.1.m2;have ax:=qh.1.d;have au:=qh.2.1
 have ar:∀j,0<=j->j<p.m->p.D j<=Zo u pt cnt j:=(Oc ‹¬¬(_/\_)›).2
 refine zlc (xc0 Zcy) (Zat (u:=u) (pv:=pv) (ln:=ln) (pt:=pt) (cnt:=cnt) w (hV.below G.below) Oa (fun k D F=>by have U:=(qh.2.2 k D F).2.2.eq;omega) (fun k D F=>by have U:=qh.2.2 k D F;exact⟨U.1,U.2.1⟩)) ?_;rintro xi w ⟨_,Z,qV,qI,qF,qB,rfl,qQ,xg,yY,xf,qW,X⟩
 replace G:=(G.comp X).n4;clear X
 have yf:=fun k (D:0<=k) (F:k<Z)=>G.db 3 rfl D F
 have ed:=fun k D F=>(yf k D F).n0
 have q9:=RS qh qQ ed
 have ka:=RT hu xg qh qQ
 refine(zP)<|zlz<|(zP)<|zx5<|(zP)<|(zV (xln ZF qW))<|(zV (Zw (r:=Z-1)))<|(zP)<|zx6 ?_
 replace G:=G.cg 2 103 (Zd (fun _=>Og) (fun _=>0))
 replace G:=G.fa 3 (fun _=>Og) (fun _=>0) (fun _ _=>0)
 have yz:=fun k (D:0<=k) (F:k<0)=>G.db 5 rfl D F
 refine zlp (fun mm M w=>∃(nO:Int) (wO:Int->Value) (lO:Oe) (gO:Of) (cO:Oe) (fM:Oe) (i:Int) (xO:Value),mm=((i+1).toNat)/\(-1<=i)/\(i<Z)/\(0<=nO/\nO<=((XG qI qF qB (dwn Z i)).length:Int))/\((lst p.m (fun k=>fM k-p.D k),plL nO lO gO cO)=Wn (lst p.m fun j=>Zo u pt cnt j-p.D j) (XG qI qF qB (dwn Z i)))/\(∀k,0<=k->k<p.m->p.D k<=fM k/\fM k<=2000000000)/\(∀k,0<=k->k<nO->lO k=p.m/\cO k=1)/\(∀x,(wO x).oneCell'=true)/\(Slh xO nO)/\M= [(2,Oq g1),(4,Og),(5,.int Oh 0),(6,ql),(8,xi),(9,xO),(10,.int Oh i)]/\Sat w0 w [.blk g1 [vL,vD,.int Oh p.b8,.int Oh p.bo],.own ql 1 3 qd (ints fM),.own xi 2 103 Z (Zd qV qB),.sem (Frame.rows 3 Z qV qI qF),.own xO 2 103 nO (Zd wO cO),.sem (Frame.rows 3 nO wO lO gO)]) ⟨0,(fun _=>Og),(fun _=>0),(fun _ _=>0),(fun _=>0),qc,Z-1,Og,rfl,Oa,Oa,?_,?_,?_,?_,?_,?_,rfl,G⟩ ?_
 ·
  rw [UL];exact⟨Int.le_refl _,by simp [XG]⟩
 ·
  rw [UL,yu];rfl
 ·
  intro k D F;rw [yu];have U:=ar k D F;have h7:=Yv qh.2.2 hu (Int.le_refl _) D F;omega
 ·
  intro k D F;omega
 ·
  intro x;rfl
 ·
  exact slh_nil
 clear G w
 rintro mm M w ⟨nO,wO,lO,gO,cO,fM,i,xO,rfl,i0,i1,aj,hT,ao,ah,qm,ak,rfl,G⟩
 have qG:=fun k (D:0<=k) (F:k<nO)=>G.db 5 rfl D F
 refine zx11<|(Om)<|zlt<|Ze ?_ ?_<;>intro hc
 ·
  refine zx3<|(zP)<|zx6 ?_
  have mg:=xf i Oa Oa
  have bD:=q9 i Oa Oa
  have kC:=bD.1
  refine zlp (fun mm M w=>∃(J:Int) (aa:Int->Value) (ac:Oe) (af:Of) (ae:Oe) (Y:Oe) (n:Int) (ab:Value),mm=((qB i-n).toNat)/\(0<=n)/\(n<=qB i)/\(0<=J/\J<=((XG qI qF qB (dwn Z i)++List.replicate n.toNat (lst (qI i) (qF i))).length:Int))/\((lst p.m (fun k=>Y k-p.D k),plL J ac af ae)=Wn (lst p.m fun j=>Zo u pt cnt j-p.D j) (XG qI qF qB (dwn Z i)++List.replicate n.toNat (lst (qI i) (qF i))))/\(∀k,0<=k->k<p.m->p.D k<=Y k/\Y k<=2000000000)/\(∀k,0<=k->k<J->ac k=p.m/\ae k=1)/\(∀x,(aa x).oneCell'=true)/\(Slh ab J)/\M= [(2,Oq g1),(4,Og),(5,.int Oh 0),(6,ql),(8,xi),(9,ab),(10,.int Oh i),(11,.int Oh n)]/\Sat w0 w [.blk g1 [vL,vD,.int Oh p.b8,.int Oh p.bo],.own ql 1 3 qd (ints Y),.own xi 2 103 Z (Zd qV qB),.sem (Frame.rows 3 Z qV qI qF),.own ab 2 103 J (Zd aa ae),.sem (Frame.rows 3 J aa ac af)]) ⟨nO,wO,lO,gO,cO,fM,0,xO,rfl,Oa,Oa,?_,?_,?_,?_,?_,?_,rfl,G⟩ ?_
  ·
   simpa using aj
  ·
   simpa using hT
  ·
   exact ao
  ·
   exact ah
  ·
   exact qm
  ·
   exact ak
  clear G w
  rintro mm M w ⟨J,aa,ac,af,ae,Y,n,ab,rfl,n0,n1,d9,ag,y9,cz,x9,fp,rfl,G⟩
  have xd:=fun k (D:0<=k) (F:k<J)=>G.db 5 rfl D F
  refine zx11<|(On)<|(zV (xix (kk:=2*i) ZF qW))<|(zV (xfc (kk:=2*i+1) YF qW))<|(zV (xlr (u:= .int Oh (qB i)) pl_3 (G.c7 2 rfl) (e:=(Y8 qV qB Oa))))<|(zP)<|zlt<|Ze ?_ ?_<;>intro hc
  ·
   refine zx3<|zla (xl0 (c:=ints (qF i)) Zb G) ?_;rintro v1 w ⟨G,aq⟩
   refine(Om)<|(zV (xix (kk:=2*i) ZF qW))<|(zV (xfc (kk:=2*i) YQ qW))<|zlv (xlr (u:=(qV i)) pl_22 (G.c7 2 rfl) (e:=(Y9 qV qB Oa))) ?_
   have a1:=Uz (ln:=qI) (pt:=qF) (cnt:=qB) (u:=Z) (x:=i) (c:=n) (fun k D F=>by have:=xf k D F;omega) Oa Oa n0 Oa
   refine zla (xap 6 (r:=(qI i)) (f:=ints (qF i)) Zb Zm G (G.fq (k:=i) 3 rfl Oa Oa) (by exact XE _ _)) ?_;rintro v2 w ⟨G,ad⟩
   refine(zP)<|zlz<|(zP)<|zx5<|(zP)<|zx6<|zlp (fun mm M w=>∃(V:Prop) (I:Oe) (O:Oe) (j:Int),mm=((qI i-j).toNat)/\(0<=j)/\(j<=qI i)/\(∀k,0<=k->k<p.m->I k=(if k<j then qF i k-min (qF i k) (Y k-p.D k) else qF i k))/\(∀k,0<=k->k<p.m->O k=(if k<j then Y k-min (qF i k) (Y k-p.D k) else Y k))/\(V↔∃q,0<=q/\q<j/\0<I q)/\M= [(2,Oq g1),(4,Og),(5,.int Oh 0),(6,ql),(8,xi),(9,ab),(10,.int Oh i),(11,.int Oh n),(12,v2),(13,B (V)),(14,.int Oh j)]/\Sat w0 w [.blk g1 [vL,vD,.int Oh p.b8,.int Oh p.bo],.own ql 1 3 qd (ints O),.own xi 2 103 Z (Zd qV qB),.sem (Frame.rows 3 Z qV qI qF),.own ab 2 103 J (Zd aa ae),.sem (Frame.rows 3 J aa ac af),.own v2 1 3 (qI i) (ints I)]) ⟨False,qF i,Y,0,rfl,Oa,Oa,?_,?_,?_,rfl,G⟩ ?_ (hM:=by repeat' first|exact Tq|refine zpk rfl ?_|refine zpk (congrArg some (B_false not_false).symm) ?_|refine zpk (congrArg some (ZP trivial).symm) ?_)
   ·
    intro k D F;rw [if_neg Oa]
   ·
    intro k D F;rw [if_neg Oa]
   ·
    exact⟨fun h=>h.elim,fun⟨q,q0,q1,_⟩=>Oa⟩
   clear G w
   rintro mm M w ⟨V,I,O,j,rfl,j0,j1,yN,yK,av,rfl,G⟩
   refine zx11<|(Om)<|(zV (xln Zb ad))<|(zP)<|zlt<|Ze ?_ ?_<;>intro hc
   ·
    refine zx27<|zdst [0,1,2,3,4,5,6] [0,1,2,3,4,5,6] 1000 mx_ G ?_;clear G;intro w G
    refine(zDw 0 xmv)<|zDrv 1 xmv ?_
    have a2:=bD.2 j j0 Oa
    have eu:=yN j j0 Oa
    have et:=yK j j0 Oa
    have a3:=y9 j j0 Oa
    have az:=Wt qh.1 j0 (by omega:j<p.m)
    rw [if_neg Oa] at eu et
    refine(zDw 2 (xix (kk:=j) Zb ad))<|(zDl 3 (fun w G=>(xlr (u:= .int Oh (I j)) pl_3 (G.c7 6 rfl))))<|(zDw 4 xmv)<|(zDw 5 xmv)<|(zDw 6 (xix (kk:=j) Zb qf))<|(zDl 7 (fun w G=>(xlr (u:= .int Oh (O j)) pl_3 (G.c7 1 rfl))))<|(zDw 8 (xfb 1 fd_24_1))<|(zDl 9 (fun w G=>(xlb 0 pl_22 G)))<|(zDw 10 xmv)<|(zDw 11 (xix (kk:=j) Zb h.D.cf))<|zdla 12 (fun w G=>(xlr (u:= .int Oh (p.D j)) pl_3 (h.D.below G.below))) ?_
    have a0:=h.iD j
    refine(zDw 13 (Zw (r:=O j-p.D j)))<|(zDw 14 (U9 (r:=(min (I j) (O j-p.D j)))))<|(zDw 15 xas)<|zdd<|ztn<|zsr ?_
    refine(Om)<|(zV (xix (kk:=j) Zb ad))<|(zV (xlr (u:= .int Oh (I j)) pl_3 (G.c7 6 rfl)))<|(zP)<|(zV (Zw (r:=I j-(min (I j) (O j-p.D j)))))<|(zV (xix (kk:=j) Zb ad))<|zle (xso 6 pl_3 G (Zy _ _ _)) ?_;clear G;rintro w G
    refine zlz<|(Om)<|(zV (xix (kk:=j) Zb qf))<|(zV (xlr (u:= .int Oh (O j)) pl_3 (G.c7 1 rfl)))<|(zP)<|(zV (Zw (r:=O j-(min (I j) (O j-p.D j)))))<|(zV (xix (kk:=j) Zb qf))<|zle (xso 1 pl_3 G (Zy _ _ _)) ?_;clear G;rintro w G
    refine zlt<|zrg<|(Om)<|zlb 92 ?_ ?_<;>intro hc
    ·
     iterate 5 refine zlo ?_
     refine(Om)<|zx10<|(zP)<|(zV (Zg (r:=j+1)))<|(zP)<|zln<|zlq ⟨True,(upd I j (I j-(min (I j) (O j-p.D j)))),(upd O j (O j-(min (I j) (O j-p.D j)))),j+1,rfl,Oa,Oa,?_,?_,?_,rfl,G⟩ (hM:=by repeat' first|exact Tq|refine zpk rfl ?_|refine zpk (congrArg some (B_false not_false).symm) ?_|refine zpk (congrArg some (ZP trivial).symm) ?_)
     ·
      intro k D F;unfold upd;by_cases e:k=j
      · rw [if_pos e,if_pos Oa,e];omega
      · rw [if_neg e,yN k D F];by_cases e2:k<j
        · rw [if_pos e2,if_pos Oa]
        · rw [if_neg e2,if_neg Oa]
     ·
      intro k D F;unfold upd;by_cases e:k=j
      · rw [if_pos e,if_pos Oa,e];omega
      · rw [if_neg e,yK k D F];by_cases e2:k<j
        · rw [if_pos e2,if_pos Oa]
        · rw [if_neg e2,if_neg Oa]
     ·
      refine ZbJ j0 av (fun q hq=>by unfold upd;rw [if_neg Oa]) ?_
      first
      |exact⟨fun _=> .inl ‹V›,fun _=>trivial⟩
      |exact⟨fun U=> .inr U,fun U=>U.elim (fun W=>absurd W ‹¬V›) id⟩
    refine(Om)<|(zV (xix (kk:=j) Zb ad))<|(zV (xlr (u:= .int Oh ((upd I j (I j-(min (I j) (O j-p.D j)))) j)) pl_3 (G.c7 6 rfl)))<|(On)<|zx10<|(zP)<|(zV (Zg (r:=j+1)))<|(zP)<|zln<|zlq ⟨0<(upd I j (I j-(min (I j) (O j-p.D j)))) j,(upd I j (I j-(min (I j) (O j-p.D j)))),(upd O j (O j-(min (I j) (O j-p.D j)))),j+1,rfl,Oa,Oa,?_,?_,?_,rfl,G⟩
    ·
     intro k D F;unfold upd;by_cases e:k=j
     · rw [if_pos e,if_pos Oa,e];omega
     · rw [if_neg e,yN k D F];by_cases e2:k<j
       · rw [if_pos e2,if_pos Oa]
       · rw [if_neg e2,if_neg Oa]
    ·
     intro k D F;unfold upd;by_cases e:k=j
     · rw [if_pos e,if_pos Oa,e];omega
     · rw [if_neg e,yK k D F];by_cases e2:k<j
       · rw [if_pos e2,if_pos Oa]
       · rw [if_neg e2,if_neg Oa]
    ·
     refine ZbJ j0 av (fun q hq=>by unfold upd;rw [if_neg Oa]) ?_
     first
     |exact⟨fun _=> .inl ‹V›,fun _=>trivial⟩
     |exact⟨fun U=> .inr U,fun U=>U.elim (fun W=>absurd W ‹¬V›) id⟩
   refine zx8<|(zP)<|zlt<|Ze ?_ ?_<;>intro hc
   ·
    refine zrg<|(Om)<|zlv (xany (v:= .agg #[v2,.int Oh 1]) (hr:=by obtain⟨_,_,_,_,rfl,_⟩:=ad;kernel_rfl)) ?_
    refine zla (xli (n:=1) (len:=1) (pv:= [(0,.agg #[v2,.int Oh 1])]) (cs:= [v2,.int Oh 1]) (c:=Zd (fun _=>v2) (fun _=>1)) ZF YS G (hf:=by obtain⟨_,_,_,_,rfl,_⟩:=ad;kernel_rfl)) ?_;rintro v3 w ⟨G,ap⟩
    refine zla (xap 4 (r:=J+1) ZF YS G (G.c7 7 rfl) (Ym _ _ _ _ _) (h1:=fun k _ _=>ZK (fun _=>ad.one) k)) ?_;rintro v4 w ⟨G,al⟩
    replace G:=Sat.merge (l1:= [_,_,_,_,_]) (l2:= []) (l3:= [_]) G Oa
    have dY:=fun k (D:0<=k) (F:k<J+1)=>G.db 5 rfl D F
    refine(zP)<|zx10<|(zP)<|(zV (Zg (r:=n+1)))<|(zP)<|zln<|zlq ⟨J+1,gsn aa J v2,gsn ac J (qI i),gsn af J I,(snoc ae J 1),O,n+1,v4,rfl,Oa,Oa,?_,?_,?_,?_,?_,?_,rfl,G.pk [0,1,2,3,4,5]⟩
    ·
     rw [V4 _ _ n0,List.length_append];simp only [List.length_singleton];push_cast;omega
    ·
     rw [V4 _ _ n0]
     first
     |exact ZeO ag d9.1 bD.1 (fun k D F=>by have U:=yK k D F;have W:=yN k D F;have h7:=(q9 i Oa Oa).2 k D F;have h6:=y9 k D F;rw [if_pos Oa] at U W;omega) (fun k D F=>by have U:=yK k D F;have W:=yN k D F;have h7:=(q9 i Oa Oa).2 k D F;have h6:=y9 k D F;rw [if_pos Oa] at U W;omega) (by first|exact av.1 ‹V›|(obtain⟨q,q0,q1,q2⟩:=av.1 ‹V›;exact⟨q,q0,Oa,q2⟩))
     |exact Zjr ag bD.1 (fun k D F=>by have U:=yK k D F;have W:=yN k D F;have h7:=(q9 i Oa Oa).2 k D F;have h6:=y9 k D F;rw [if_pos Oa] at U W;omega) (fun k D F=>by have U:=yK k D F;have W:=yN k D F;have h7:=(q9 i Oa Oa).2 k D F;have h6:=y9 k D F;rw [if_pos Oa] at U W;omega) (fun⟨q,q0,q1,q2⟩=>absurd (av.2 ⟨q,q0,Oa,q2⟩) ‹¬V›)
    ·
     exact fun k D F=>by have U:=yK k D F;have W:=yN k D F;have h7:=(q9 i Oa Oa).2 k D F;have h6:=y9 k D F;rw [if_pos Oa] at U W;omega
    ·
     first|exact cz|(intro k D F;by_cases e:k<J;(rw [Zp e,Zl e];exact cz k D e);(rw [Zq e,Zk e];exact⟨by omega,rfl⟩))
    ·
     first|exact x9|exact Wf x9 ‹Slh _ _›.one
    ·
     exact al
   refine zx4<|(zP)<|(zV (Zg (r:=n+1)))<|(zP)<|zln<|zlq ⟨J,aa,ac,af,ae,O,n+1,ab,rfl,Oa,Oa,?_,?_,?_,?_,?_,?_,rfl,G.pk [0,1,2,3,4,5]⟩
   ·
    rw [V4 _ _ n0,List.length_append];simp only [List.length_singleton];push_cast;omega
   ·
    rw [V4 _ _ n0]
    first
    |exact ZeO ag d9.1 bD.1 (fun k D F=>by have U:=yK k D F;have W:=yN k D F;have h7:=(q9 i Oa Oa).2 k D F;have h6:=y9 k D F;rw [if_pos Oa] at U W;omega) (fun k D F=>by have U:=yK k D F;have W:=yN k D F;have h7:=(q9 i Oa Oa).2 k D F;have h6:=y9 k D F;rw [if_pos Oa] at U W;omega) (by first|exact av.1 ‹V›|(obtain⟨q,q0,q1,q2⟩:=av.1 ‹V›;exact⟨q,q0,Oa,q2⟩))
    |exact Zjr ag bD.1 (fun k D F=>by have U:=yK k D F;have W:=yN k D F;have h7:=(q9 i Oa Oa).2 k D F;have h6:=y9 k D F;rw [if_pos Oa] at U W;omega) (fun k D F=>by have U:=yK k D F;have W:=yN k D F;have h7:=(q9 i Oa Oa).2 k D F;have h6:=y9 k D F;rw [if_pos Oa] at U W;omega) (fun⟨q,q0,q1,q2⟩=>absurd (av.2 ⟨q,q0,Oa,q2⟩) ‹¬V›)
   ·
    exact fun k D F=>by have U:=yK k D F;have W:=yN k D F;have h7:=(q9 i Oa Oa).2 k D F;have h6:=y9 k D F;rw [if_pos Oa] at U W;omega
   ·
    first|exact cz|(intro k D F;by_cases e:k<J;(rw [Zp e,Zl e];exact cz k D e);(rw [Zq e,Zk e];exact⟨by omega,rfl⟩))
   ·
    first|exact x9|exact Wf x9 ‹Slh _ _›.one
   ·
    exact fp
  refine zx21<|(zP)<|(zV (Zw (r:=i-1)))<|(zP)<|zln<|zlq ⟨J,aa,ac,af,ae,Y,i-1,ab,rfl,Oa,Oa,?_,?_,?_,?_,?_,?_,rfl,G⟩
  ·
   rw [TZ Oa,WP,show qB i=n by omega];exact d9
  ·
   rw [TZ Oa,WP,show qB i=n by omega];exact ag
  ·
   exact y9
  ·
   exact cz
  ·
   exact x9
  ·
   exact fp
 refine zx8<|zlv xmv ?_
 have gz:nO<=1000000:=by
   have U:=Tn (ln:=qI) (pt:=qF) (u:=Z) (cnt:=qB) xg (fun k D F=>by have:=xf k D F;omega) (Z-1-i).toNat Oa
   unfold dwn at aj
   have W:=Wo (d:=qB) (f:=fun _=>1) (i:=0) (n:=(Z-((Z-1-i).toNat:Int)).toNat) Oa (fun k hk=>by have:=xf k Oa Oa;omega)
   simp only [psum] at W
   omega
 refine zlc (xc0 Zcy) (Zat (u:=nO) (pv:=wO) (ln:=lO) (pt:=gO) (cnt:=cO) w (⟨(G.c7 4 rfl),fun k D F=>G.fq 5 rfl D F,fun k D F=>G.gb 5 rfl D F⟩:VAt _ xO nO wO lO gO cO) Oa (fun k D F=>by have U:=(ah k D F).1;omega) (fun k D F=>by have U:=(ah k D F).2;omega)) ?_;rintro jg w ⟨_,bT,jq,dJ,eD,eI,rfl,cr,gh,gd,cu,b9,X⟩
 replace G:=(G.comp X).n8;clear X
 have fQ:=fun k (D:0<=k) (F:k<bT)=>G.db 7 rfl D F
 refine(Om)<|zx1<|zf2 ⟨_,rfl,?_⟩
 rw [show i= -1 by omega,Kq _ _ _ xg] at hT
 have an:NormR (Wn (lst p.m fun j=>Zo u pt cnt j-p.D j) (UA (plL Z qI qF qB))).2 (plL bT dJ eD eI):=by
   rw [<-hT];exact cr
 exact⟨_,_,_,_,_,_,0,rfl,.inr (.inr ⟨qh,ar,rfl,_,qQ,an⟩),fun k D F=>by have:=cu k D F;omega,Oa,b9,G.pk [6,7]⟩
variable {r x:Int} {f:Oe} {g g3:Of}
theorem Zcz:Zc Oj 102=true:=Ob
theorem ZeM{p:Prob}(D:p.Ok)(J:∀j,0<=j->j<p.m->0<=f j)(V:ZI p f p.m.toNat<=p.b8+p.bo):∀j,0<=j->j<p.m->0<=f j/\f j<=2000:=fun j F G=>by
 have h1:=Xx (f:=fun i=>f i*(p.L i+p.bo)) (n:=p.m.toNat) F Oa fun i O W=>by
   have I:=D.all i O Oa
   unfold Prob.each at I
   have U:=D.k1
   exact Int.mul_nonneg (J i O Oa) Oa
 have h2:f j*(p.L j+p.bo)<=p.b8+p.bo:=Int.le_trans h1 V
 have I:=D.all j F G
 unfold Prob.each at I
 have U:=D.k1;have X:=D.s2
 refine⟨J j F G,?_⟩
 by_cases hx:f j<=2000
 · exact hx
 · exfalso
   have h3:=Int.mul_le_mul_of_nonneg_left (show 1+p.bo<=p.L j+p.bo by omega) (J j F G)
   have Z:=Int.mul_le_mul_of_nonneg_right (show 1<=f j by omega) U
   have Y:f j*(1+p.bo)=f j+f j*p.bo:=by rw [Int.mul_add,Int.mul_one]
   omega
theorem fits_of_used{p:Prob}(D:p.Ok)(G:∀j,0<=j->j<p.m->0<=f j)(F:ZI p f p.m.toNat<=p.b8+p.bo):FitsP p p.m f:=⟨D,rfl,ZeM D G F,F⟩
theorem Vk{p:Prob}{f g:Oe}{x:Int}(D:0<=x):∀n:Nat,(∀b,0<=b->b<(n:Int)->g b=if b=x then f b+1 else f b)->ZI p g n=ZI p f n+if x<(n:Int) then szP p x else 0
 |0,_=>by rw [if_neg Oa];rfl
 | n +1,h=>by
   have F:=Vk (p:=p) (f:=f) (g:=g) D n fun b I J=>h b I Oa
   have h1:ZI p g (n+1)=ZI p g n+g n*(p.L n+p.bo):=by
     have:=ZH (fun i=>g i*(p.L i+p.bo)) (i:=(n:Int)) Oa
     rw [show((n:Int)+1).toNat=n+1 by omega,Int.toNat_natCast] at this;exact this
   have G:ZI p f (n+1)=ZI p f n+f n*(p.L n+p.bo):=by
     have:=ZH (fun i=>f i*(p.L i+p.bo)) (i:=(n:Int)) Oa
     rw [show((n:Int)+1).toNat=n+1 by omega,Int.toNat_natCast] at this;exact this
   rw [h1,G,F,h n Oa Oa]
   by_cases e:(n:Int)=x
   · rw [if_pos e,if_neg Oa,if_pos Oa,Int.add_mul,Int.one_mul,e];unfold szP;omega
   · rw [if_neg e]
     by_cases e2:x<(n:Int)
     · rw [if_pos e2,if_pos Oa];omega
     · rw [if_neg e2,if_neg Oa];omega
theorem Ru{p:Prob}{g:Oe}{n:Nat}(h:∀b,0<=b->b<(n:Int)->g b=f b):ZI p g n=ZI p f n:=Zj fun b F D=>by rw [h b F D]
abbrev Vh(p:Prob)(g:Of):Oe:=fun k=>p.b8+p.bo-ZI p (g k) p.m.toNat
theorem Zou{n m:Int}(D:∀k,0<=k->k<n->∀j,0<=j->j<m->g3 k j=g k j)(W:0<=r)(V:r<n)(U:0<=x)(O:x<m):∀a,0<=a->a<n->∀b,0<=b->b<m->upd g3 r (upd (g3 r) x (g3 r x+1)) a b=if a=r/\b=x then g a b+1 else g a b:=fun a J I b G F=>by
 unfold upd
 by_cases e:a=r
 · subst e
   rw [if_pos rfl]
   by_cases e2:b=x
   · subst e2;rw [if_pos rfl,if_pos ⟨rfl,rfl⟩,D a J I b G F]
   · rw [if_neg e2,if_neg (fun h=>e2 h.2),D a J I b G F]
 · rw [if_neg e,if_neg (fun h=>e h.1),D a J I b G F]
theorem Zot{n m y:Int}(O:∀k,0<=k->k<n->∀j,0<=j->j<m->g3 k j=g k j)(J:y=g3 r x):∀k,0<=k->k<n->∀j,0<=j->j<m->upd (upd g3 r (upd (g3 r) x (g3 r x+1))) r (upd (upd g3 r (upd (g3 r) x (g3 r x+1)) r) x y) k j=g k j:=fun k F D j I G=>by
 subst J
 rw [<-O k F D j I G]
 unfold upd
 by_cases e:k=r
 · subst e
   rw [if_pos rfl,if_pos rfl]
   by_cases e2:j=x
   · subst e2;rw [if_pos rfl]
   · rw [if_neg e2,if_neg e2]
 · rw [if_neg e,if_neg e]
theorem TU{p:Prob}(D:p.Ok){I:Of}{n l:Int}(X:l=p.m)(Y:∀k,0<=k->k<n->∀j,0<=j->j<p.m->0<=g k j)(G:0<=r)(F:r<n)(V:0<=x)(x1:x<p.m)(U:∀a,0<=a->a<n->∀b,0<=b->b<p.m->I a b=if a=r/\b=x then g a b+1 else g a b):FitsP p l (I r)↔szP p x<=Vh p g r:=by
 subst X
 have hm:=D.m1
 have W:=Vk (p:=p) (f:=g r) (g:=I r) V p.m.toNat fun b Z b1=>by
   rw [U r G F b Z Oa]
   by_cases e:b=x
   · rw [if_pos ⟨rfl,e⟩,if_pos e]
   · rw [if_neg (fun h=>e h.2),if_neg e]
 rw [if_pos Oa] at W
 unfold Vh
 constructor
 · intro h;have:=h.used;omega
 · intro h
   refine fits_of_used D (fun j O J=> ?_) Oa
   rw [U r G F j O J]
   have:=Y r G F j O J
   split<;>omega
theorem ZfB{p:Prob}(F:p.Ok){D:Of}{n:Int}{U:List Int}(hF:plL n (fun _=>p.m) g (Vh p g)=Yt p.m (p.b8+p.bo) (szP p) U)(n0:0<=n)(Z:0<=r)(Y:r<n)(O:0<=x)(x1:x<p.m)(I:∀a,0<=a->a<n->∀b,0<=b->b<p.m->D a b=if a=r/\b=x then g a b+1 else g a b)(hs:szP p x<=Vh p g r)(G:∀k,0<=k->k<r->¬szP p x<=Vh p g k):
   plL n (fun _=>p.m) D (Vh p D)=Yt p.m (p.b8+p.bo) (szP p) (U++ [x]):=by
 have hm:=F.m1
 rw [WI,<-hF]
 refine Zjw n0 O Z Y hs (fun j j0 j1=>by have:=G j j0 j1;omega) I fun a X W=> ?_
 unfold Vh
 by_cases e:a=r
 · subst e
   have V:=Vk (p:=p) (f:=g a) (g:=D a) O p.m.toNat fun b J b1=>by
     rw [I a X W b J Oa]
     by_cases e:b=x
     · rw [if_pos ⟨rfl,e⟩,if_pos e]
     · rw [if_neg (fun h=>e h.2),if_neg e]
   rw [if_pos Oa] at V
   rw [if_pos rfl,V];omega
 · rw [if_neg e,Ru (p:=p) (f:=g a) (g:=D a) fun b J b1=>by rw [I a X W b J Oa,if_neg fun h=>e h.1]]
theorem Zdh {p:Prob} (I:p.Ok) {n:Int} {V:List Int} (hF:plL n (fun _=>p.m) g (Vh p g)=Yt p.m (p.b8+p.bo) (szP p) V) (n0:0<=n) (U:0<=x) (x1:x<p.m) (X:∀k,0<=k->k<n->∀j,0<=j->j<p.m->g3 k j=g k j) (J:∀k,0<=k->k<n->¬szP p x<=Vh p g k):
   plL (n+1) (fun _=>p.m) (gsn g3 n (upd (fun _=>0) x 1)) (Vh p (gsn g3 n (upd (fun _=>0) x 1)))=Yt p.m (p.b8+p.bo) (szP p) (V++ [x]):=by
 have hm:=I.m1
 rw [WI,<-hF]
 refine ZfD n0 U (fun j Z Y=>by have:=J j Z Y;omega) (fun a O F b D G=>by rw [Zp F];exact X a O F b D G) (fun b D G=>by rw [Zq Oa];rfl) (fun a O F=> ?_) ?_
 · unfold Vh
   rw [Zp F,Ru (p:=p) (f:=g a) (g:=g3 a) fun b D G=>X a O F b D Oa]
 · unfold Vh
   have W:=Vk (p:=p) (f:=fun _=>0) (g:=upd (fun _=>(0:Int)) x 1) U p.m.toNat fun b D G=>by
     unfold upd
     by_cases e:b=x
     · rw [if_pos e,if_pos e];rfl
     · rw [if_neg e,if_neg e]
   have hz:ZI p (fun _=>0) p.m.toNat=0:=by
     unfold ZI
     have:∀n:Nat,Zf (fun i=>0*(p.L i+p.bo)) n=0:=fun n=>by
       induction n with
       |zero=>rfl
       |succ n ih=>simp only [Zf] at ih⊢;rw [ih];omega
     exact this _
   rw [if_pos Oa] at W
   rw [Zq Oa,W,hz];omega
theorem Zdg{p:Prob}(D:p.Ok){v:Value}{n i c:Int}(hv:Slh v n)(V:plL n (fun _=>p.m) g (Vh p g)=Yt p.m (p.b8+p.bo) (szP p) (pcsTo p.D i c))(U:0<=i)(O:i<=p.m)(c0:0<=c)(c1:i<p.m->c<=p.D i)(Z:i=p.m->c=0)(ht:psum (fun _=>1) p.D p.m.toNat<=1000):
   n<=1000/\∀k,0<=k->k<n->∀j,0<=j->j<p.m->0<=g k j/\g k j<=2100:=by
 obtain⟨h1,h2⟩:=Ua (d:=p.D) (fun k G F=>(Wt D G F).1) U O c0 c1 Z
 have Y:FInv p ⟨pcsTo p.D i c,v,n,fun _=>undef,g,v,Vh p g⟩:=⟨V,hv,hv⟩
 obtain⟨X,W⟩:=Y.ia D h1 (by show((pcsTo p.D i c).length:Int)<=1000;omega)
 have hs:=D.s2;have hk:=D.k2
 exact⟨X,fun k G F j J I=>by have:=(W k G F).2 j J I;dsimp only at this;omega⟩
theorem ZcH{vL vD:Value}{p:Prob}(w0:World)(h:PAt w0 vL vD p)(G:p.Ok):
   Calls Oj 102 [.agg #[vL,vD,.int Oh p.b8,.int Oh p.bo]].toArray w0 fun e w=>∃v,e= .returned v/\v=B (1000<psum (fun _=>1) p.D p.m.toNat)/\Sat w0 w []:=by
 obtain⟨hm,X,hd,hd1,hs,hk⟩:=h.Oo
 have W:=G.d;have qH:=G.m2
 refine zenG Tryz.func102 Tryz.ntmps102 fun w D=> ?_
 refine zsr<|zla (xbx (cs:= [_,_,_,_]) D) ?_;rintro _ w ⟨U,rfl,D⟩
 refine(zP)<|zlz<|(zP)<|zx5<|(zP)<|zx6<|zlp (fun J M w=>∃(s:Int) (i:Int),J=((p.d-i).toNat)/\(0<=i)/\(i<=p.d)/\(s=psum (fun _=>1) p.D i.toNat)/\(0<=s/\s<=1000000*i)/\M= [(1,Oq U),(2,.bool false),(3,.int Oh s),(4,.int Oh i)]/\Sat w0 w [.blk U [vL,vD,.int Oh p.b8,.int Oh p.bo]]) ⟨0,0,rfl,Oa,Oa,?_,Oa,rfl,D⟩ ?_
 ·
  rfl
 clear D w
 rintro J M w ⟨s,i,rfl,O,h1,F,V,rfl,D⟩
 refine zx11<|(zP)<|(zV (xfb 1 fd_24_1))<|(zV (xlb 0 pl_22 D))<|(zV (xln Zb h.D.cf))<|(zP)<|zlt<|Ze ?_ ?_<;>intro hc
 ·
  refine zsk<|ztn<|zsq<|zbk<|zrg<|(zP)<|(zV (xfb 1 fd_24_1))<|(zV (xlb 0 pl_22 D))<|(zP)<|(zV (xix (kk:=i) Zb h.D.cf))<|zlv (xlr (u:= .int Oh (p.D i)) pl_3 (h.D.below D.below)) ?_
  have Z:=h.iD i
  have Y:=G.all i O Oa;unfold Prob.each at Y
  refine(zV (Zg (r:=s+p.D i)))<|(zP)<|zx10<|(zP)<|(zV (Zg (r:=i+1)))<|(zP)<|zln<|zlq ⟨s+p.D i,i+1,rfl,Oa,Oa,?_,Oa,rfl,D⟩
  ·
   rw [YG _ _ O,<-F];omega
 refine zx8<|(On)<|zx1<|Oi ?_
 have I:i=p.m:=Oa
 rw [I] at F
 rw [<-F]
 exact⟨rfl,D.nl⟩
theorem ZdG{vL vD:Value}{p:Prob}(w0:World)(h:PAt w0 vL vD p):
   Calls Oj 71 [.agg #[vL,vD,.int Oh p.b8,.int Oh p.bo]].toArray w0 fun e w=>∃v,e= .returned v/\∃r n pv ln pt cnt e,v= .tuple #[r,.int Oh e]/\FFitR p (plL n ln pt cnt) e/\(∀k,0<=k->k<n->1<=cnt k/\cnt k<=1000000)/\n<=1000/\Slh r n/\Sat w0 w [.own r 2 103 n (Zd pv cnt),.sem (Frame.rows 3 n pv ln pt)]:=by
 obtain⟨hm,ar,hd,hd1,hs,hk⟩:=h.Oo
 refine zenG Tryz.func71 Tryz.ntmps71 fun w F=> ?_
 refine zsr<|zla (xbx (cs:= [_,_,_,_]) F) ?_;rintro _ w ⟨g1,rfl,F⟩
 refine(Om)<|zlt<|zsq<|zbk<|zsr<|(zV (xls 0 ZE F))<|zlc (xc0 Ut) (YB (p:=p) w (h.below F.below)) ?_;rintro _ w ⟨rfl,V⟩
 replace F:=F.cmp V;clear V
 refine(Om)<|zlt<|Ze ?_ ?_<;>intro hc
 ·
  refine zsr<|(Om)<|Xt<|zf2 ⟨_,rfl,?_⟩
  exact⟨_,0,fun _=>undef,fun _=>0,fun _ _=>0,fun _=>0,_,rfl,⟨.inl ⟨‹¬p.Ok›,rfl⟩,fun h=>Oa,fun _=>rfl⟩,fun k I J=>Oa,Oa,slh_nil,((F.sub (.cons _ .slnil)).cg 2 103 (Zd (fun _=>undef) (fun _=>0))).fa 3 (fun _=>undef) (fun _=>0) (fun _ _=>0)⟩
 refine zsr<|zlv (xls 0 ZE F) ?_
 have W:p.Ok:=by first|assumption|exact Oc ‹_›
 refine zlc (xc0 Zcz) (ZcH (p:=p) w (h.below F.below) W) ?_;rintro _ w ⟨rfl,V⟩
 replace F:=F.cmp V;clear V
 refine(zP)<|zlt<|Ze ?_ ?_<;>intro hc
 ·
  refine zsr<|(Om)<|Xt<|zf2 ⟨_,rfl,?_⟩
  exact⟨_,0,fun _=>undef,fun _=>0,fun _ _=>0,fun _=>0,_,rfl,⟨.inr (.inl ⟨W,Oa,rfl⟩),fun h=>Oa,fun _=>rfl⟩,fun k I J=>Oa,Oa,slh_nil,((F.sub (.cons _ .slnil)).cg 2 103 (Zd (fun _=>undef) (fun _=>0))).fa 3 (fun _=>undef) (fun _=>0) (fun _ _=>0)⟩
 refine zsk<|zbn<|ztn<|zsr<|(zP)<|zx5<|(zP)<|zx6 ?_
 have yH:=W.m1;have qH:=W.m2;have aq:=W.d;have ao:=W.s1;have an:=W.s2;have aw:=W.k1;have av:=W.k2
 have zl:psum (fun _=>1) p.D p.m.toNat<=1000:=Oa
 replace F:=F.cg 2 103 (Zd (fun _=>Og) (fun _=>0))
 replace F:=F.fa 3 (fun _=>Og) (fun _=>0) (fun _ _=>0)
 have yz:=fun k (I:0<=k) (J:k<0)=>F.db 2 rfl I J
 refine zlp (fun mm M w=>∃(nB:Int) (wB:Int->Value) (lB:Oe) (gB:Of) (cB:Oe) (i:Int) (xB:Value),mm=((p.m-i).toNat)/\(0<=i)/\(i<=p.m)/\(0<=nB)/\(plL nB (fun _=>p.m) gB (Vh p gB)=Yt p.m (p.b8+p.bo) (szP p) (pcsTo p.D i 0))/\(∀k,0<=k->k<nB->lB k=p.m/\cB k=1)/\(∀x,(wB x).oneCell'=true)/\(Slh xB nB)/\M= [(1,Oq g1),(2,Og),(3,.int Oh 0),(4,xB),(5,.int Oh i)]/\Sat w0 w [.blk g1 [vL,vD,.int Oh p.b8,.int Oh p.bo],.own xB 2 103 nB (Zd wB cB),.sem (Frame.rows 3 nB wB lB gB)]) ⟨0,(fun _=>Og),(fun _=>0),(fun _ _=>0),(fun _=>0),0,Og,rfl,Oa,Oa,?_,?_,?_,?_,?_,rfl,F⟩ ?_
 ·
  omega
 ·
  rfl
 ·
  intro k I J;omega
 ·
  intro x;rfl
 ·
  exact slh_nil
 clear F w
 rintro mm M w ⟨nB,wB,lB,gB,cB,i,xB,rfl,h0,h1,aj,hF,ae,qm,ah,rfl,F⟩
 have qG:=fun k (I:0<=k) (J:k<nB)=>F.db 2 rfl I J
 refine zx11<|(zP)<|(zV (xfb 0 fd_24_0))<|(zV (xlb 0 pl_22 F))<|(zV (xln Zb h.L.cf))<|(zP)<|zlt<|Ze ?_ ?_<;>intro hc
 ·
  refine zx3<|(zP)<|zx6 ?_
  have az:=Wt W h0 (by omega:i<p.m)
  refine zlp (fun mm M w=>∃(G:Int) (O:Int->Value) (aa:Oe) (Z:Of) (X:Oe) (n:Int) (Y:Value),mm=((p.D i-n).toNat)/\(0<=n)/\(n<=p.D i)/\(0<=G)/\(plL G (fun _=>p.m) Z (Vh p Z)=Yt p.m (p.b8+p.bo) (szP p) (pcsTo p.D i n))/\(∀k,0<=k->k<G->aa k=p.m/\X k=1)/\(∀x,(O x).oneCell'=true)/\(Slh Y G)/\M= [(1,Oq g1),(2,Og),(3,.int Oh 0),(4,Y),(5,.int Oh i),(6,.int Oh n)]/\Sat w0 w [.blk g1 [vL,vD,.int Oh p.b8,.int Oh p.bo],.own Y 2 103 G (Zd O X),.sem (Frame.rows 3 G O aa Z)]) ⟨nB,wB,lB,gB,cB,0,xB,rfl,Oa,Oa,?_,?_,?_,?_,?_,rfl,F⟩ ?_
  ·
   exact aj
  ·
   exact hF
  ·
   exact ae
  ·
   exact qm
  ·
   exact ah
  clear F w
  rintro mm M w ⟨G,O,aa,Z,X,n,Y,rfl,n0,n1,cv,ac,zY,x9,y7,rfl,F⟩
  have xd:=fun k (I:0<=k) (J:k<G)=>F.db 2 rfl I J
  refine zx11<|(zP)<|(zV (xfb 1 fd_24_1))<|(zV (xlb 0 pl_22 F))<|(zP)<|(zV (xix (kk:=i) Zb h.D.cf))<|zlv (xlr (u:= .int Oh (p.D i)) pl_3 (h.D.below F.below)) ?_
  have a0:=h.iD i
  refine(zP)<|zlt<|Ze ?_ ?_<;>intro hc
  ·
   refine zx3<|(zP)<|zlt<|zsq<|zbk ?_
   obtain⟨kZ,hrg⟩:=Zdg W y7 ac h0 Oa n0 (fun _=>Oa) (fun _=>Oa) zl
   refine zlp (fun mm M w=>∃(g3:Of) (D:Int),mm=((G-D).toNat)/\(0<=D)/\(D<=G)/\(∀k,0<=k->k<G->∀j,0<=j->j<p.m->g3 k j=Z k j)/\(∀k,0<=k->k<D->¬szP p i<=Vh p Z k)/\M= [(1,Oq g1),(2,Og),(3,.int Oh 0),(4,Y),(5,.int Oh i),(6,.int Oh n),(7,.int Oh D)]/\Sat w0 w [.blk g1 [vL,vD,.int Oh p.b8,.int Oh p.bo],.own Y 2 103 G (Zd O X),.sem (Frame.rows 3 G O aa g3)]) ⟨Z,0,rfl,Oa,Oa,?_,?_,rfl,F⟩ ?_
   ·
    exact fun _ _ _ _ _ _=>rfl
   ·
    intro k I J;omega
   clear F w
   rintro mm M w ⟨g3,D,rfl,U,a1,af,ad,rfl,F⟩
   refine zx11<|(Om)<|(zV (xln ZF y7))<|(zP)<|zlt<|Ze ?_ ?_<;>intro hc
   ·
    refine zx3<|(Om)<|(zV (xix (kk:=2*D) ZF y7))<|(zV (xfc (kk:=2*D) YQ y7))<|zlv (xlr (u:=(O D)) pl_22 (F.c7 1 rfl) (e:=(Y9 O X Oa))) ?_
    have au:=(zY D U Oa).1
    have ax:=af D U Oa i h0 Oa
    have ap:=hrg D U Oa i h0 Oa
    have ab:=Zou af U Oa h0 Oa
    have ay:=(ab D U Oa i h0 Oa).trans (if_pos ⟨rfl,rfl⟩)
    refine(zP)<|(zV (xix (kk:=i) Zb (xd D Oa Oa)))<|(zV (xlr (u:= .int Oh (g3 D i)) pl_3 (F.fq (k:=D) 2 rfl Oa Oa)))<|(zV (Zg (r:=(g3 D i)+1)))<|(zV (xix (kk:=i) Zb (xd D Oa Oa)))<|zle (xsr 2 pl_3 F rfl) ?_;clear F;rintro w F
    refine zlt<|zsq<|zsq<|zdst [0,1,2] [0,1,2] 1000 mx_ F ?_;clear F;intro w F
    refine(zDl 0 (fun w F=>(xls 0 ZE F)))<|(zDw 1 xmv)<|(zDw 2 xmv)<|(zDw 3 (xix (kk:=2*D) ZF y7))<|(zDw 4 (xfc (kk:=2*D) YQ y7))<|(zDl 5 (fun w F=>(xlr (u:=(O D)) pl_22 (F.c7 1 rfl) (e:=(Y9 O X Oa)))))<|zdc 6 (xc0 Zf0) (ZcI (p:=p) w (h.below F.below) (F.fq (k:=D) 2 rfl Oa Oa)) ?_;rintro _ w ⟨rfl,V⟩
    replace F:=F.cmp V;clear V
    refine⟨⟨fun _=>F,F⟩,?_⟩
    refine zdd<|ztn ?_
    refine Ze ?_ ?_<;>intro hc
    ·
     refine zxt<|ztx<|zbm<|ztx<|ztx<|zbh<|ztn<|zsr ?_
     refine(Om)<|(zV (xln ZF y7))<|(zV (xkf YT))<|zlt<|zcf<|zsk<|zbn<|ztn<|zrg ?_
     refine(zP)<|(zV (Zg (r:=n+1)))<|(zP)<|zln<|zlq ⟨G,O,aa,upd g3 D (upd (g3 D) i ((g3 D i)+1)),X,n+1,Y,rfl,Oa,Oa,?_,?_,?_,?_,?_,rfl,F⟩
     ·
      omega
     ·
      rw [VL _ n0]
      first
      |exact ZfB W ac cv U Oa h0 Oa ab ((TU W (zY D U Oa).1 (fun k I J j j0 j1=>(hrg k I J j j0 j1).1) U Oa h0 Oa ab).1 ‹FitsP p _ _›) ad
      |exact Zdh W ac cv h0 Oa af (fun k I J=>ad k I Oa)
     ·
      first|exact zY|(intro k I J;by_cases e:k<G;(rw [Zp e,Zl e];exact zY k I e);(rw [Zq e,Zk e];exact⟨rfl,rfl⟩))
     ·
      first|exact x9|exact Wf x9 ‹Slh _ _›.one
     ·
      exact y7
    refine zsk<|ztn<|zrg<|(Om)<|(zV (xix (kk:=2*D) ZF y7))<|(zV (xfc (kk:=2*D) YQ y7))<|(zV (xlr (u:=(O D)) pl_22 (F.c7 1 rfl) (e:=(Y9 O X Oa))))<|(zP)<|(zV (xix (kk:=i) Zb (xd D Oa Oa)))<|(zV (xlr (u:= .int Oh ((upd g3 D (upd (g3 D) i ((g3 D i)+1))) D i)) pl_3 (F.fq (k:=D) 2 rfl Oa Oa)))<|(zV (Zw (r:=((upd g3 D (upd (g3 D) i ((g3 D i)+1))) D i)-1)))<|(zV (xix (kk:=i) Zb (xd D Oa Oa)))<|zle (xsr 2 pl_3 F rfl) ?_;clear F;rintro w F
    refine zx10<|(zP)<|(zV (Zg (r:=D+1)))<|(zP)<|zln<|zlq ⟨upd (upd g3 D (upd (g3 D) i ((g3 D i)+1))) D (upd ((upd g3 D (upd (g3 D) i ((g3 D i)+1))) D) i (((upd g3 D (upd (g3 D) i ((g3 D i)+1))) D i)-1)),D+1,rfl,Oa,Oa,?_,?_,rfl,F⟩
    ·
     exact Zot af Oa
    ·
     intro k I J;rcases Int.lt_or_eq_of_le (show k<=D by omega) with h9|h9
     · exact ad k I h9
     · rw [h9];exact fun hh=>absurd ((TU W (zY D U Oa).1 (fun k I J j j0 j1=>(hrg k I J j j0 j1).1) U Oa h0 Oa ab).2 hh) ‹_›
   refine zx8<|(Om)<|(zV (xln ZF y7))<|(zV (xkt YT))<|zlt<|zct<|zsr ?_
   refine(zV (xfb 0 fd_24_0))<|(zV (xlb 0 pl_22 F))<|(zV (xln Zb h.L.cf))<|zla (xmk Zb Zm F) ?_;rintro v1 w ⟨F,ag⟩
   refine(zP)<|zlz<|(Om)<|(zV (xix (kk:=i) Zb ag))<|zle (xso 3 pl_3 F (Zy _ _ _)) ?_;clear F;rintro w F
   refine zlt<|zrg<|(Om)<|zlv (xany (v:= .agg #[v1,.int Oh 1]) (hr:=by obtain⟨_,_,_,_,rfl,_⟩:=ag;kernel_rfl)) ?_
   refine zla (xli (n:=1) (len:=1) (pv:= [(0,.agg #[v1,.int Oh 1])]) (cs:= [v1,.int Oh 1]) (c:=Zd (fun _=>v1) (fun _=>1)) ZF YS F (hf:=by obtain⟨_,_,_,_,rfl,_⟩:=ag;kernel_rfl)) ?_;rintro v2 w ⟨F,am⟩
   refine zla (xap 1 (r:=G+1) ZF YS F (F.c7 4 rfl) (Ym _ _ _ _ _) (h1:=fun k _ _=>ZK (fun _=>ag.one) k)) ?_;rintro v3 w ⟨F,ai⟩
   replace F:=Sat.merge (l1:= [_,_]) (l2:= []) (l3:= [_]) F Oa
   have dY:=fun k (I:0<=k) (J:k<G+1)=>F.db 2 rfl I J
   refine(zP)<|zx10<|(zP)<|(zV (Zg (r:=n+1)))<|(zP)<|zln<|zlq ⟨G+1,gsn O G v1,gsn aa G p.m,gsn g3 G (upd (fun _=>0) i 1),(snoc X G 1),n+1,v3,rfl,Oa,Oa,?_,?_,?_,?_,?_,rfl,F.pk [0,1,2]⟩
   ·
    omega
   ·
    rw [VL _ n0]
    first
    |exact ZfB W ac cv U Oa h0 Oa ab ((TU W (zY D U Oa).1 (fun k I J j j0 j1=>(hrg k I J j j0 j1).1) U Oa h0 Oa ab).1 ‹FitsP p _ _›) ad
    |exact Zdh W ac cv h0 Oa af (fun k I J=>ad k I Oa)
   ·
    first|exact zY|(intro k I J;by_cases e:k<G;(rw [Zp e,Zl e];exact zY k I e);(rw [Zq e,Zk e];exact⟨rfl,rfl⟩))
   ·
    first|exact x9|exact Wf x9 ‹Slh _ _›.one
   ·
    exact ai
  refine zx21<|(zP)<|(zV (Zg (r:=i+1)))<|(zP)<|zln<|zlq ⟨G,O,aa,Z,X,i+1,Y,rfl,Oa,Oa,?_,?_,?_,?_,?_,rfl,F⟩
  ·
   exact cv
  ·
   rw [TI p.D h0 (by rw [show p.D i=n by omega])];exact ac
  ·
   exact zY
  ·
   exact x9
  ·
   exact y7
 refine zx8<|zlv xmv ?_
 have k5:=(Zdg W ah hF h0 Oa Oa (fun _=>by have:=Wt W h0 (by omega:i<p.m);omega) (fun _=>rfl) zl).1
 refine zlc (xc0 Zcy) (Zat (u:=nB) (pv:=wB) (ln:=lB) (pt:=gB) (cnt:=cB) w (⟨(F.c7 1 rfl),fun k I J=>F.fq 2 rfl I J,fun k I J=>F.gb 2 rfl I J⟩:VAt _ xB nB wB lB gB cB) Oa (fun k I J=>by have h9:=(ae k I J).1;omega) (fun k I J=>by have h9:=(ae k I J).2;omega)) ?_;rintro xi w ⟨_,qo,qV,qI,qF,qB,rfl,qQ,xg,yY,xf,qW,V⟩
 replace F:=(F.comp V).n5;clear V
 have yf:=fun k (I:0<=k) (J:k<qo)=>F.db 4 rfl I J
 refine(Om)<|zx1<|zf2 ⟨_,rfl,?_⟩
 have ak:i=p.m:=Oa
 rw [ak] at hF
 have al:plL nB lB gB cB=TL (Yt p.m (p.b8+p.bo) (szP p) (pcsTo p.D p.m 0)):=by
   rw [<-hF,Za7];exact Vr fun k I J=>⟨(ae k I J).1,(ae k I J).2,fun _ _ _=>rfl⟩
 rw [al] at qQ
 exact⟨_,_,_,_,_,_,0,rfl,⟨.inr (.inr ⟨W,zl,rfl⟩),fun _=>qQ,fun h=>absurd rfl h⟩,fun k I J=>by have:=xf k I J;omega,Oa,qW,F.pk [3,4]⟩
end Go.Proofs.YtkichmnjjblodaaGreat
namespace Go.Proofs.YtkichmnjjblodaaGreat
open Go Go.RowKit Go.Proofs.Gw
def Zon(p:Prob)(u:Int)(ln:Oe)(pt:Of)(cnt:Oe)(q:Prob)(e:Int):Prop:=
  (¬PlanOk p u ln pt cnt/\q=⟨0,fun _=>0,0,fun _=>0,0,0⟩/\e=1)\/(PlanOk p u ln pt cnt/\q=⟨p.m,p.L,p.d,ZL p (Zo u pt cnt),p.b8,p.bo⟩/\e=0)
theorem ZiM{vV:Value}{u:Int}{pv:Int->Value}{ln:Oe}{pt:Of}{cnt:Oe}{vL vD:Value}{p:Prob}(w0:World)(hV:VAt w0 vV u pv ln pt cnt)(h:PAt w0 vL vD p):
   Calls Oj 106 [.agg #[vL,vD,.int Oh p.b8,.int Oh p.bo],vV].toArray w0 fun e w=>∃v,e= .returned v/\∃vl vd q e,v= .tuple #[.agg #[vl,vd,.int Oh (Prob.b8 q),.int Oh (Prob.bo q)],.int Oh e]/\Zon p u ln pt cnt q e/\Slh vl q.m/\Slh vd q.d/\Sat w0 w [.own vl 1 3 q.m (ints q.L),.own vd 1 3 q.d (ints q.D)]:=by
 obtain⟨hm,al,hd,hd1,hs,hk⟩:=h.Oo
 have hu:=hV.row.cf.n0;have aj:=hV.row.cf.n1
 refine zenG Tryz.func106 Tryz.ntmps106 fun w D=> ?_
 refine zsr<|zla (xbx (cs:= [_,_,_,_]) D) ?_;rintro _ w ⟨g1,rfl,D⟩
 refine zla (xal (cs:= [_,_,_,_]) Ke D) ?_;rintro _ w ⟨g2,rfl,D⟩
 refine(zP)<|zlz<|(zV (xls 0 ZE D))<|(zP)<|zlc (xc0 Zf1) (Zas (u:=u) (pv:=pv) (ln:=ln) (pt:=pt) (cnt:=cnt) (p:=p) w (hV.below D.below) (h.below D.below)) ?_;rintro _ w ⟨ql,qd,I,yg,rfl,qt,qf,af⟩
 replace D:=(D.comp af).n3;clear af
 refine zs5 ?_
 refine zx5<|(Om)<|zlt<|Ze ?_ ?_<;>intro hc
 ·
  refine zsr<|(zV (xany (v:= .agg #[Og,Og,.int Oh 0,.int Oh 0])))<|(zP)<|zle (xsw 1 ZE D) ?_;clear D;rintro w D
  refine(zP)<|zx14<|ZS 1 ZE D ⟨_,rfl,?_⟩
  have ah:¬PlanOk p u ln pt cnt/\yg=1:=by rcases qt with⟨q1,_,q3⟩|⟨_,_,_,q4⟩;exact⟨q1,q3⟩;omega
  exact⟨_,_,⟨0,fun _=>0,0,fun _=>0,0,0⟩,_,rfl,.inl ⟨ah.1,rfl,Oa⟩,slh_nil,slh_nil,((D.sub (.cons _ (.cons _ (.cons _ .slnil)))).cg 1 3 (ints fun _=>0)).cg 1 3 (ints fun _=>0)⟩
 refine zsk<|ztn<|zsq<|zdst [0,1,2] [0,1,2] 10 mx_ D ?_;clear D;intro w D
 refine(zDw 1 (xfb 0 fd_24_0))<|zdla 2 (fun w D=>(xlb 0 pl_22 D)) ?_
 obtain⟨qh,bC,yu⟩:PlanOk p u ln pt cnt/\qd=p.m/\I=Zo u pt cnt:=by rcases qt with⟨_,_,q3⟩|⟨q1,q2,q3,_⟩;omega;exact⟨q1,q2,q3⟩
 have qk:=qh.1
 have yH:=qk.m1;have qH:=qk.m2;have ak:=qk.d;have ai:=qh.2.1
 have zH:∀k,0<=k->k<p.m->0<=I k/\I k<=2000000000:=fun k V Y=>by rw [yu];have h9:=Yv qh.2.2 hu (Int.le_refl _) V Y;omega
 have yM:=fun k (V:0<=k) (Y:k<p.m)=>(zH k V Y).1
 refine(zDw 4 (xfb 2 fd_24_2))<|(zDl 5 (fun w D=>(xlb 0 pl_3 D)))<|(zDw 6 (xfb 3 fd_24_3))<|(zDl 7 (fun w D=>(xlb 0 pl_3 D)))<|Xk (r:= [0,9]) ((Z1 ?_ (Z1 ?_ Xj)))
 ·
  refine zka (xl0 (c:=ints p.L) Zb D) ?_;rintro v1 w ⟨D,ag⟩
  refine⟨⟨fun _=>D.pk [0,1,2],D.pk [0,1,2]⟩,?_⟩
  refine Xk (r:= [3,9]) ((Z1 ?_ (Z1 ?_ Xj)))
  ·
   refine zka (xap 3 (r:=p.m) (f:=ints p.L) Zb Zm D (h.L.below D.below) (by exact XE _ _)) ?_;rintro W w ⟨D,G⟩
   refine⟨⟨fun _=>D.pk [0,1,2],D.pk [0,1,2]⟩,?_⟩
   refine zDrv 8 (xany (v:= .agg #[W,Og,.int Oh p.b8,.int Oh p.bo]) (hr:=by obtain⟨_,_,_,_,rfl,_⟩:=G;kernel_rfl)) ?_
   refine zda 9 (xal (cs:= [_,_,_,_]) Ke D) ?_;rintro _ w ⟨g3,rfl,D⟩
   refine⟨⟨fun _=>D.pk [0,1,2],D.pk [0,1,2]⟩,?_⟩
   refine zde 10 (xsw 4 ZE D (hd:=(Za G.one (Za rfl (Za rfl (Za rfl Zh)))))) ?_;clear D;rintro w D
   refine⟨⟨fun h=>absurd h (by decide),D.pk [0,1,2]⟩,?_⟩
   refine zdd<|ztn<|zsq<|zsr ?_
   refine(zP)<|zx6 ?_
   replace D:=D.cg 1 3 (ints (fun _=>0))
   refine zlp (fun Z M w=>∃(i:Int) (F:Value) (U:Oe),Z=((p.m-i).toNat)/\(0<=i)/\(i<=p.m)/\(∀k,0<=k->k<i->U k=ZL p (Zo u pt cnt) k)/\(Slh F i)/\M= [(2,Oq g1),(4,Oq g2),(5,.int Oh 0),(6,ql),(8,Oq g3),(9,.int Oh i)]/\Sat w0 w [.blk g1 [vL,vD,.int Oh p.b8,.int Oh p.bo],.blk g2 [Og,Og,.int Oh 0,.int Oh 0],.own ql 1 3 qd (ints I),.own W 1 3 p.m (ints p.L),.blk g3 [W,F,.int Oh p.b8,.int Oh p.bo],.own F 1 3 i (ints U)]) ⟨0,Og,(fun _=>0),rfl,Oa,Oa,?_,?_,rfl,D⟩ ?_
   ·
    intro k V Y;omega
   ·
    exact slh_nil
   clear D w
   rintro Z M w ⟨i,F,U,rfl,X,h1,O,an,rfl,D⟩
   refine zx11<|(Om)<|(zV (xln Zb qf))<|(zP)<|zlt<|Ze ?_ ?_<;>intro hc
   ·
    refine zx38<|zdst [0,1,2,4] [0,1,2] 16 mx_ D ?_;clear D;intro w D
    refine(zDw 0 (xfb 1 fd_24_1))<|zdl 1 (fun w D=>(xlb 3 pl_22 D)) ?_
    refine(zDw 2 (xfb 1 fd_24_1))<|zdla 3 (fun w D=>(xlb 0 pl_22 D)) ?_
    have ac:=zH i X Oa
    have ad:=Wt qk X (by omega:i<p.m)
    refine(zDw 4 xmv)<|(zDw 5 (xix (kk:=i) Zb h.D.cf))<|zdla 6 (fun w D=>(xlr (u:= .int Oh (p.D i)) pl_3 (h.D.below D.below))) ?_
    have ae:=h.iD i
    refine(zDw 7 xmv)<|(zDw 8 xmv)<|(zDw 9 (xix (kk:=i) Zb qf))<|(zDl 10 (fun w D=>(xlr (u:= .int Oh (I i)) pl_3 (D.c7 2 rfl))))<|(zDw 11 (Zw (r:=p.D i-(I i))))<|(zDw 12 (KE (r:=(max 0 (p.D i-(I i))))))<|zda 13 (xli (n:=1) (len:=1) (pv:= [(0,.int Oh (max 0 (p.D i-(I i))))]) (cs:= [.int Oh (max 0 (p.D i-(I i)))]) (c:=ints (fun _=>(max 0 (p.D i-(I i))))) Zb Zm D) ?_;rintro v3 w ⟨D,aa⟩
    refine⟨⟨fun _=>D.pk [0,1,2,4],D.pk [0,1,2]⟩,?_⟩
    refine zda 14 (xap 5 (r:=i+1) Zb Zm D (D.c7 6 rfl) (Ya _ _ _)) ?_;rintro v4 w ⟨D,J⟩
    refine⟨⟨fun _=>D.pk [0,1,2,4],D.pk [0,1,2]⟩,?_⟩
    refine(zDw 15 (xfb 1 fd_24_1))<|zde 16 (xsb 4 pl_22 D (hv:=J.one)) ?_;clear D;rintro w D
    refine⟨⟨fun h=>absurd h (by decide),D.pk [0,1,2]⟩,?_⟩
    refine zdd<|zbn<|ztn<|zrg ?_
    refine(zP)<|(zV (Zg (r:=i+1)))<|(zP)<|zln<|zlq ⟨i+1,v4,(snoc U i (max 0 (p.D i-(I i)))),rfl,Oa,Oa,?_,?_,rfl,D.pk [0,1,2,3,4,5]⟩
    ·
     exact VX O (by unfold ZL;rw [if_pos ⟨X,Oa⟩,<-yu])
    ·
     exact J
   refine zx8<|(zV (xls 4 ZE D))<|zle (xsw 1 ZE D (hd:=(Za G.one (Za an.one (Za rfl (Za rfl Zh)))))) ?_;clear D;rintro w D
   refine(zP)<|zx1<|ZS 1 ZE D ⟨_,rfl,?_⟩
   have ab:i=p.m:=Oa
   replace D:=D.gi 5 rfl (d:=ints (ZL p (Zo u pt cnt))) (fun k V Y=>congrArg (Value.int .i64) (O k V Oa))
   have aq:=an
   rw [show i=p.d by omega] at aq D
   exact⟨_,_,⟨p.m,p.L,p.d,ZL p (Zo u pt cnt),p.b8,p.bo⟩,0,rfl,.inr ⟨qh,rfl,rfl⟩,G,aq,D.pk [3,5]⟩
  refine zka (xal (cs:= [_,_,_,_]) Ke D) ?_;rintro _ w ⟨g3,rfl,D⟩
  refine⟨⟨fun _=>D.pk [0,1,2],D.pk [0,1,2]⟩,?_⟩
  refine zda 3 (xap 3 (r:=p.m) (f:=ints p.L) Zb Zm D (h.L.below D.below) (by exact XE _ _)) ?_;rintro W w ⟨D,G⟩
  refine⟨⟨fun _=>D.pk [0,1,2],D.pk [0,1,2]⟩,?_⟩
  refine zDrv 8 (xany (v:= .agg #[W,Og,.int Oh p.b8,.int Oh p.bo]) (hr:=by obtain⟨_,_,_,_,rfl,_⟩:=G;kernel_rfl)) ?_
  refine zde 10 (xsw 4 ZE D (hd:=(Za G.one (Za rfl (Za rfl (Za rfl Zh)))))) ?_;clear D;rintro w D
  refine⟨⟨fun h=>absurd h (by decide),D.pk [0,1,2]⟩,?_⟩
  refine zdd<|ztn<|zsq<|zsr ?_
  refine(zP)<|zx6 ?_
  replace D:=D.cg 1 3 (ints (fun _=>0))
  refine zlp (fun Z M w=>∃(i:Int) (F:Value) (U:Oe),Z=((p.m-i).toNat)/\(0<=i)/\(i<=p.m)/\(∀k,0<=k->k<i->U k=ZL p (Zo u pt cnt) k)/\(Slh F i)/\M= [(2,Oq g1),(4,Oq g2),(5,.int Oh 0),(6,ql),(8,Oq g3),(9,.int Oh i)]/\Sat w0 w [.blk g1 [vL,vD,.int Oh p.b8,.int Oh p.bo],.blk g2 [Og,Og,.int Oh 0,.int Oh 0],.own ql 1 3 qd (ints I),.own W 1 3 p.m (ints p.L),.blk g3 [W,F,.int Oh p.b8,.int Oh p.bo],.own F 1 3 i (ints U)]) ⟨0,Og,(fun _=>0),rfl,Oa,Oa,?_,?_,rfl,D⟩ ?_
  ·
   intro k V Y;omega
  ·
   exact slh_nil
  clear D w
  rintro Z M w ⟨i,F,U,rfl,X,h1,O,an,rfl,D⟩
  refine zx11<|(Om)<|(zV (xln Zb qf))<|(zP)<|zlt<|Ze ?_ ?_<;>intro hc
  ·
   refine zx38<|zdst [0,1,2,4] [0,1,2] 16 mx_ D ?_;clear D;intro w D
   refine(zDw 0 (xfb 1 fd_24_1))<|zdl 1 (fun w D=>(xlb 3 pl_22 D)) ?_
   refine(zDw 2 (xfb 1 fd_24_1))<|zdla 3 (fun w D=>(xlb 0 pl_22 D)) ?_
   have ac:=zH i X Oa
   have ad:=Wt qk X (by omega:i<p.m)
   refine(zDw 4 xmv)<|(zDw 5 (xix (kk:=i) Zb h.D.cf))<|zdla 6 (fun w D=>(xlr (u:= .int Oh (p.D i)) pl_3 (h.D.below D.below))) ?_
   have ae:=h.iD i
   refine(zDw 7 xmv)<|(zDw 8 xmv)<|(zDw 9 (xix (kk:=i) Zb qf))<|(zDl 10 (fun w D=>(xlr (u:= .int Oh (I i)) pl_3 (D.c7 2 rfl))))<|(zDw 11 (Zw (r:=p.D i-(I i))))<|(zDw 12 (KE (r:=(max 0 (p.D i-(I i))))))<|zda 13 (xli (n:=1) (len:=1) (pv:= [(0,.int Oh (max 0 (p.D i-(I i))))]) (cs:= [.int Oh (max 0 (p.D i-(I i)))]) (c:=ints (fun _=>(max 0 (p.D i-(I i))))) Zb Zm D) ?_;rintro v3 w ⟨D,aa⟩
   refine⟨⟨fun _=>D.pk [0,1,2,4],D.pk [0,1,2]⟩,?_⟩
   refine zda 14 (xap 5 (r:=i+1) Zb Zm D (D.c7 6 rfl) (Ya _ _ _)) ?_;rintro v4 w ⟨D,J⟩
   refine⟨⟨fun _=>D.pk [0,1,2,4],D.pk [0,1,2]⟩,?_⟩
   refine(zDw 15 (xfb 1 fd_24_1))<|zde 16 (xsb 4 pl_22 D (hv:=J.one)) ?_;clear D;rintro w D
   refine⟨⟨fun h=>absurd h (by decide),D.pk [0,1,2]⟩,?_⟩
   refine zdd<|zbn<|ztn<|zrg ?_
   refine(zP)<|(zV (Zg (r:=i+1)))<|(zP)<|zln<|zlq ⟨i+1,v4,(snoc U i (max 0 (p.D i-(I i)))),rfl,Oa,Oa,?_,?_,rfl,D.pk [0,1,2,3,4,5]⟩
   ·
    exact VX O (by unfold ZL;rw [if_pos ⟨X,Oa⟩,<-yu])
   ·
    exact J
  refine zx8<|(zV (xls 4 ZE D))<|zle (xsw 1 ZE D (hd:=(Za G.one (Za an.one (Za rfl (Za rfl Zh)))))) ?_;clear D;rintro w D
  refine(zP)<|zx1<|ZS 1 ZE D ⟨_,rfl,?_⟩
  have ab:i=p.m:=Oa
  replace D:=D.gi 5 rfl (d:=ints (ZL p (Zo u pt cnt))) (fun k V Y=>congrArg (Value.int .i64) (O k V Oa))
  have aq:=an
  rw [show i=p.d by omega] at aq D
  exact⟨_,_,⟨p.m,p.L,p.d,ZL p (Zo u pt cnt),p.b8,p.bo⟩,0,rfl,.inr ⟨qh,rfl,rfl⟩,G,aq,D.pk [3,5]⟩
 refine zka (xal (cs:= [_,_,_,_]) Ke D) ?_;rintro _ w ⟨g3,rfl,D⟩
 refine⟨⟨fun _=>D.pk [0,1,2],D.pk [0,1,2]⟩,?_⟩
 refine zda 0 (xl0 (c:=ints p.L) Zb D) ?_;rintro v1 w ⟨D,ag⟩
 refine⟨⟨fun _=>D.pk [0,1,2],D.pk [0,1,2]⟩,?_⟩
 refine zda 3 (xap 4 (r:=p.m) (f:=ints p.L) Zb Zm D (h.L.below D.below) (by exact XE _ _)) ?_;rintro W w ⟨D,G⟩
 refine⟨⟨fun _=>D.pk [0,1,2],D.pk [0,1,2]⟩,?_⟩
 refine zDrv 8 (xany (v:= .agg #[W,Og,.int Oh p.b8,.int Oh p.bo]) (hr:=by obtain⟨_,_,_,_,rfl,_⟩:=G;kernel_rfl)) ?_
 refine zde 10 (xsw 3 ZE D (hd:=(Za G.one (Za rfl (Za rfl (Za rfl Zh)))))) ?_;clear D;rintro w D
 refine⟨⟨fun h=>absurd h (by decide),D.pk [0,1,2]⟩,?_⟩
 refine zdd<|ztn<|zsq<|zsr ?_
 refine(zP)<|zx6 ?_
 replace D:=D.cg 1 3 (ints (fun _=>0))
 refine zlp (fun Z M w=>∃(i:Int) (F:Value) (U:Oe),Z=((p.m-i).toNat)/\(0<=i)/\(i<=p.m)/\(∀k,0<=k->k<i->U k=ZL p (Zo u pt cnt) k)/\(Slh F i)/\M= [(2,Oq g1),(4,Oq g2),(5,.int Oh 0),(6,ql),(8,Oq g3),(9,.int Oh i)]/\Sat w0 w [.blk g1 [vL,vD,.int Oh p.b8,.int Oh p.bo],.blk g2 [Og,Og,.int Oh 0,.int Oh 0],.own ql 1 3 qd (ints I),.blk g3 [W,F,.int Oh p.b8,.int Oh p.bo],.own W 1 3 p.m (ints p.L),.own F 1 3 i (ints U)]) ⟨0,Og,(fun _=>0),rfl,Oa,Oa,?_,?_,rfl,D⟩ ?_
 ·
  intro k V Y;omega
 ·
  exact slh_nil
 clear D w
 rintro Z M w ⟨i,F,U,rfl,X,h1,O,an,rfl,D⟩
 refine zx11<|(Om)<|(zV (xln Zb qf))<|(zP)<|zlt<|Ze ?_ ?_<;>intro hc
 ·
  refine zx38<|zdst [0,1,2,3] [0,1,2] 16 mx_ D ?_;clear D;intro w D
  refine(zDw 0 (xfb 1 fd_24_1))<|zdl 1 (fun w D=>(xlb 3 pl_22 D)) ?_
  refine(zDw 2 (xfb 1 fd_24_1))<|zdla 3 (fun w D=>(xlb 0 pl_22 D)) ?_
  have ac:=zH i X Oa
  have ad:=Wt qk X (by omega:i<p.m)
  refine(zDw 4 xmv)<|(zDw 5 (xix (kk:=i) Zb h.D.cf))<|zdla 6 (fun w D=>(xlr (u:= .int Oh (p.D i)) pl_3 (h.D.below D.below))) ?_
  have ae:=h.iD i
  refine(zDw 7 xmv)<|(zDw 8 xmv)<|(zDw 9 (xix (kk:=i) Zb qf))<|(zDl 10 (fun w D=>(xlr (u:= .int Oh (I i)) pl_3 (D.c7 2 rfl))))<|(zDw 11 (Zw (r:=p.D i-(I i))))<|(zDw 12 (KE (r:=(max 0 (p.D i-(I i))))))<|zda 13 (xli (n:=1) (len:=1) (pv:= [(0,.int Oh (max 0 (p.D i-(I i))))]) (cs:= [.int Oh (max 0 (p.D i-(I i)))]) (c:=ints (fun _=>(max 0 (p.D i-(I i))))) Zb Zm D) ?_;rintro v3 w ⟨D,aa⟩
  refine⟨⟨fun _=>D.pk [0,1,2,3],D.pk [0,1,2]⟩,?_⟩
  refine zda 14 (xap 5 (r:=i+1) Zb Zm D (D.c7 6 rfl) (Ya _ _ _)) ?_;rintro v4 w ⟨D,J⟩
  refine⟨⟨fun _=>D.pk [0,1,2,3],D.pk [0,1,2]⟩,?_⟩
  refine(zDw 15 (xfb 1 fd_24_1))<|zde 16 (xsb 3 pl_22 D (hv:=J.one)) ?_;clear D;rintro w D
  refine⟨⟨fun h=>absurd h (by decide),D.pk [0,1,2]⟩,?_⟩
  refine zdd<|zbn<|ztn<|zrg ?_
  refine(zP)<|(zV (Zg (r:=i+1)))<|(zP)<|zln<|zlq ⟨i+1,v4,(snoc U i (max 0 (p.D i-(I i)))),rfl,Oa,Oa,?_,?_,rfl,D.pk [0,1,2,3,4,5]⟩
  ·
   exact VX O (by unfold ZL;rw [if_pos ⟨X,Oa⟩,<-yu])
  ·
   exact J
 refine zx8<|(zV (xls 3 ZE D))<|zle (xsw 1 ZE D (hd:=(Za G.one (Za an.one (Za rfl (Za rfl Zh)))))) ?_;clear D;rintro w D
 refine(zP)<|zx1<|ZS 1 ZE D ⟨_,rfl,?_⟩
 have ab:i=p.m:=Oa
 replace D:=D.gi 5 rfl (d:=ints (ZL p (Zo u pt cnt))) (fun k V Y=>congrArg (Value.int .i64) (O k V Oa))
 have aq:=an
 rw [show i=p.d by omega] at aq D
 exact⟨_,_,⟨p.m,p.L,p.d,ZL p (Zo u pt cnt),p.b8,p.bo⟩,0,rfl,.inr ⟨qh,rfl,rfl⟩,G,aq,D.pk [4,5]⟩
theorem Ra{vV:Value}{u:Int}{pv:Int->Value}{ln:Oe}{pt:Of}{cnt:Oe}{vL vD:Value}{p:Prob}(w0:World)(G:VAt w0 vV u pv ln pt cnt)(h:PAt w0 vL vD p)(F:PlanOk p u ln pt cnt):
   Calls Oj 106 [.agg #[vL,vD,.int Oh p.b8,.int Oh p.bo],vV].toArray w0 fun e w=>∃v,e= .returned v/\∃D vd,v= .tuple #[.agg #[D,vd,.int Oh p.b8,.int Oh p.bo],.int Oh 0]/\Slh D p.m/\Slh vd p.d/\Sat w0 w [.own D 1 3 p.m (ints p.L),.own vd 1 3 p.d (ints (ZL p (Zo u pt cnt)))]:=
 (ZiM w0 G h).mono fun e w ⟨v,he,D,vd,q,e2,hv,hl,h1,h2,h3⟩=>by
   rcases hl with⟨hn,_⟩|⟨_,rfl,rfl⟩
   · exact absurd F hn
   · exact⟨v,he,D,vd,hv,h1,h2,h3⟩
theorem Zgn:Zc Oj 104=true:=Ob
theorem Zgm:Zc Oj 105=true:=Ob
theorem Zgl:Zc Oj 106=true:=Ob
theorem Zgk:Zc Oj 107=true:=Ob
theorem ZjB:Zc Oj 71=true:=Ob
theorem ZeK{w:World}{v X:Value}{n1 n2:Int}{D F:Int->Value}{I ln2 W U:Oe}{G pt2:Of}(hr:Row w v 2 (n1+n2) (Zd (cat n1 D F) (cat n1 W U)))(h1:∀i,0<=i->i<n1->Row w (D i) 1 (I i) (ints (G i)))(O:∀i,0<=i->i<n1->Gw.X2 (D i))(V:VAt w X n2 F ln2 pt2 U)(n10:0<=n1):VAt w v (n1+n2) (cat n1 D F) (cat n1 I ln2) (cat n1 G pt2) (cat n1 W U):=by
 refine⟨hr,fun i J Y=> ?_,fun i J Y=> ?_⟩
 · unfold Gw.cat
   by_cases h:i<n1
   · rw [if_pos h,if_pos h,if_pos h];exact h1 i J h
   · rw [if_neg h,if_neg h,if_neg h];exact V.p (i-n1) Oa Oa
 · unfold Gw.cat
   by_cases h:i<n1
   · rw [if_pos h];exact O i J h
   · rw [if_neg h];exact V.room (i-n1) Oa Oa
theorem ZiO{vL vD:Value}{p:Prob}{vM:Value}{u:Int}{mv:Int->Value}{ml:Oe}{mf:Of}{vX vY:Value}{s:So}(w0:World)(h:PAt w0 vL vD p)(hM:MAt w0 vM u mv ml mf)(hX:Row w0 vX 1 s.n (ints s.X))(hY:Row w0 vY 1 s.m (ints s.Y))(ya:s.n<=1000):
   Calls Oj 72 [.agg #[vL,vD,.int Oh p.b8,.int Oh p.bo],.agg #[vM,vX,vY,.int Oh s.val,.int Oh s.den]].toArray w0 fun e w=>∃v,e= .returned v/\∃r n pv ln pt cnt e,v= .tuple #[r,.int Oh e]/\DownR p u ml mf s (plL n ln pt cnt) e/\(∀k,0<=k->k<n->1<=cnt k/\cnt k<=1000000000)/\n<=1000000/\Slh r n/\Sat w0 w [.own r 2 103 n (Zd pv cnt),.sem (Frame.rows 3 n pv ln pt)]:=by
 obtain⟨hm,ak,hd,hd1,hs,hk⟩:=h.Oo
 have hu:=hM.row.cf.n0;have ag:=hM.row.cf.n1;have hn:=hX.cf.n0;have aj:=hX.cf.n1
 refine zenG Tryz.func72 Tryz.ntmps72 fun w D=> ?_
 refine zsr<|zla (xbx (cs:= [_,_,_,_]) D) ?_;rintro _ w ⟨g1,rfl,D⟩
 refine zla (xbx (cs:= [_,_,_,_,_]) D) ?_;rintro _ w ⟨g2,rfl,D⟩
 refine(Om)<|zlt<|zsq<|zbk<|zsr<|(zV (xls 0 ZE D))<|(zV (xls 1 X9 D))<|zlc (xc0 Zgn) (ZbC (p:=p) (u:=u) (ml:=ml) (mf:=mf) (s:=s) w (h.below D.below) (hM.below D.below) (hX.below D.below) (hY.below D.below) ya) ?_;rintro _ w ⟨rfl,F⟩
 replace D:=D.cmp F;clear F
 refine(Om)<|zlt<|Ze ?_ ?_<;>intro hc
 ·
  refine zsr<|(Om)<|Xt<|zf2 ⟨_,rfl,?_⟩
  exact⟨_,0,fun _=>undef,fun _=>0,fun _ _=>0,fun _=>0,_,rfl,.inl ⟨by omega,rfl,0,fun _=>0,fun _ _=>0,fun _=>0,.inl ⟨‹¬(p.Ok/\_)›,rfl,rfl⟩⟩,fun k I G=>Oa,Oa,slh_nil,((D.sub (.cons _ (.cons _ .slnil))).cg 2 103 (Zd (fun _=>undef) (fun _=>0))).fa 3 (fun _=>undef) (fun _=>0) (fun _ _=>0)⟩
 refine zsr<|zlv (xls 0 ZE D) ?_
 obtain⟨O,W⟩:p.Ok/\ZaI p u ml mf s:=by first|assumption|exact Oc ‹_›
 have qu:=O
 have yH:=O.m1;have qH:=O.m2;have ai:=O.d
 refine zlc (xc0 Zcz) (ZcH (p:=p) w (h.below D.below) qu) ?_;rintro _ w ⟨rfl,F⟩
 replace D:=D.cmp F;clear F
 refine(zP)<|zlt<|Ze ?_ ?_<;>intro hc
 ·
  refine zsr<|(Om)<|Xt<|zf2 ⟨_,rfl,?_⟩
  exact⟨_,0,fun _=>undef,fun _=>0,fun _ _=>0,fun _=>0,_,rfl,.inl ⟨by omega,rfl,0,fun _=>0,fun _ _=>0,fun _=>0,.inr (.inl ⟨O,W,.inr (.inl ⟨O,Oa,rfl⟩),Oa,rfl⟩)⟩,fun k I G=>Oa,Oa,slh_nil,((D.sub (.cons _ (.cons _ .slnil))).cg 2 103 (Zd (fun _=>undef) (fun _=>0))).fa 3 (fun _=>undef) (fun _=>0) (fun _ _=>0)⟩
 refine zsk<|zbn<|ztn<|zsr<|(zV (xfb 0 fd_87_0))<|(zV (xlb 1 Zs D))<|(zV (xfb 1 WJ))<|zlv (xlp 1 (ds:= [vX,vY,.int Oh s.val,.int Oh s.den]) st_85 D) ?_
 have aa:=fun k I G=>(show ml k<=100000 by have:=(YW (W.2.2.2.1 k I G).1).1;omega)
 have ad:=W.2.1
 have ae:=W.2.2.1
 refine zlc (xc0 Zgm) (Rb (u:=u) (ml:=ml) (mf:=mf) (s:=s) w (hM.below D.below) (hX.below D.below) (hY.below D.below) Oa (fun k I G=>by have:=aa k I G;omega)) ?_;rintro _ w ⟨bc,J,Z,yB,X,V,dA,rfl,zx,zS,F⟩
 replace D:=(D.comp F).n4;clear F
 have cE:=fun k (I:0<=k) (G:k<J)=>D.db 3 rfl I G
 have U:=zx.resolve_left fun hh=>hh.1 ⟨W.1,W.2.1.symm⟩
 have Y:WholeR p u ml mf s J yB X V 0:= .inr (.inr ⟨O,W,.inr (.inr ⟨O,Oa,rfl⟩),rfl,U.2.2.1,U.2.2.2.1,U.2.2.2.2.1,U.2.2.2.2.2.1⟩)
 obtain⟨_,_,zl,cw,zr,zt⟩:=Y.ok rfl hu
 have yM:=fun k (I:0<=k) (G:k<p.m)=>(Yv zr.2.2 zt (Int.le_refl _) I G).1
 refine zs5 ?_
 refine zlz<|(zV (xls 0 ZE D))<|(zP)<|zlc (xc0 Zgl) (Ra (u:=J) (pv:=Z) (ln:=yB) (pt:=X) (cnt:=V) (p:=p) w (⟨(D.c7 2 rfl),fun k I G=>D.fq 3 rfl I G,fun k I G=>D.gb 3 rfl I G⟩:VAt _ bc J Z yB X V) (h.below D.below) zr) ?_;rintro _ w ⟨xk,qZ,rfl,xM,xI,F⟩
 replace D:=(D.comp F).n6;clear F
 refine(On)<|zla (xal (cs:= [_,_,_,_]) Ke D) ?_;rintro _ w ⟨g3,rfl,D⟩
 refine zle (xsw 6 ZE D (hd:=(Za xM.one (Za xI.one (Za rfl (Za rfl Zh)))))) ?_;clear D;rintro w D
 refine(zP)<|zlz<|(zV (xls 6 ZE D))<|zlc (xc0 ZjB) (ZdG (p:=(⟨p.m,p.L,p.d,(ZL p (Zo J X V)),p.b8,p.bo⟩:Prob)) w (⟨(D.c7 4 rfl),(D.c7 5 rfl),h.iL,(R1 O yM),(by(try dsimp only);omega),(by(try dsimp only);omega)⟩:PAt _ _ _ (⟨p.m,p.L,p.d,(ZL p (Zo J X V)),p.b8,p.bo⟩:Prob))) ?_;rintro _ w ⟨af,xS,zf,yT,y5,yC,zC,rfl,qY,yL,cF,ym,F⟩
 replace D:=(D.comp F).n9;clear F
 have aM:=fun k (I:0<=k) (G:k<xS)=>D.db 8 rfl I G
 have jG:=Zbf O yM
 have ah:=Vv O yM p.m.toNat Oa
 have ab:zC=0:=by
   rcases qY.1 with⟨q1,_⟩|⟨_,q2,_⟩|⟨_,_,q3⟩
   · exact absurd jG q1
   · (dsimp only at q2;omega)
   · exact q3
 have f8:=ym.n0
 refine zs5 ?_
 refine zx7<|zdst [0,1,6] [0,1,6] 1000 mx_ D ?_;clear D;intro w D
 refine(zDl 0 (fun w D=>(xls 0 ZE D)))<|(zDw 1 xmv)<|(zDw 2 xmv)<|zda 3 (xap 2 (r:=J+xS) (f:=Zd (cat J Z zf) (cat J V yC)) ZF YS D (D.c7 7 rfl) (by exact U6 _ _ _ _ _) (h1:=(UW (fun k I G=>(aM k I G).one)))) ?_;rintro v1 w ⟨D,ac⟩
 refine⟨⟨fun _=>D.pk [0,1,6],D.pk [0,1,6]⟩,?_⟩
 refine zdc 4 (xc0 Zgk) (ZdF (u:=(J+xS)) (pv:=(cat J Z zf)) (ln:=(cat J yB yT)) (pt:=(cat J X y5)) (cnt:=(cat J V yC)) (p:=p) w (ZeK (D.c7 2 rfl) (fun k I G=>D.fq 3 rfl I G) (fun k I G=>D.gb 3 rfl I G) (⟨(D.c7 7 rfl),fun k I G=>D.fq 8 rfl I G,fun k I G=>D.gb 8 rfl I G⟩:VAt _ af xS zf yT y5 yC) Oa) (h.below D.below)) ?_;rintro _ w ⟨bG,zi,bR,bV,cP,cU,cT,rfl,yp,yr,yq,yl,F⟩
 replace D:=(D.comp F).n11;clear F
 have aL:=fun k (I:0<=k) (G:k<zi)=>D.db 10 rfl I G
 refine⟨⟨fun _=>D.pk [0,1,6],D.pk [0,1,6]⟩,?_⟩
 refine(zDw 5 xex)<|(zDw 6 xex)<|(zDw 7 xas)<|(zDw 8 xas)<|zdd<|ztn<|zrt<|zf2 ⟨_,rfl,?_⟩
 exact⟨_,_,_,_,_,_,_,rfl,.inr ⟨_,_,_,_,_,_,_,_,Y,zt,f8,qY.2.1 ab,yp⟩,yr,yq,yl,D.pk [9,10]⟩
variable {N b i:Int} {cnt h ln:Oe} {mf pt:Of}
theorem Zmd:Zc Oj 108=true:=Ob
theorem ZgT{vV:Value}{u:Int}{pv:Int->Value}{vL vD:Value}{p:Prob}{vA:Value}{f:Oe}(w0:World)(X:VAt w0 vV u pv ln pt cnt)(h:PAt w0 vL vD p)(Z:PlanOk p u ln pt cnt)(Y:Row w0 vA 1 p.m (ints f)):
   Calls Oj 108 [.agg #[vL,vD,.int Oh p.b8,.int Oh p.bo],vV,vA].toArray w0 fun e w=>∃v,e= .returned v/\v=B (∃q,0<=q/\q<p.m/\0<f q/\0<ZL p (Zo u pt cnt) q)/\Sat w0 w []:=by
 obtain⟨hm,ac,hd,hd1,hs,hk⟩:=h.Oo
 have hu:=X.row.cf.n0;have aa:=X.row.cf.n1
 have W:=Z.1
 have ab:=W.d;have yH:=W.m1;have qH:=W.m2
 have yM:=fun k (O:0<=k) (V:k<p.m)=>(Yv Z.2.2 hu (Int.le_refl _) O V).1
 refine zenG Tryz.func108 Tryz.ntmps108 fun w D=> ?_
 refine zsr<|zla (xbx (cs:= [_,_,_,_]) D) ?_;rintro _ w ⟨g1,rfl,D⟩
 refine(zP)<|zlz<|(zV (xls 0 ZE D))<|(zP)<|zlc (xc0 Zgl) (Ra (u:=u) (pv:=pv) (ln:=ln) (pt:=pt) (cnt:=cnt) (p:=p) w (X.below D.below) (h.below D.below) Z) ?_;rintro _ w ⟨xk,qZ,rfl,xM,xI,U⟩
 replace D:=(D.comp U).n3;clear U
 refine(On)<|zla (xal (cs:= [_,_,_,_]) Ke D) ?_;rintro _ w ⟨g2,rfl,D⟩
 refine zle (xsw 3 ZE D (hd:=(Za xM.one (Za xI.one (Za rfl (Za rfl Zh)))))) ?_;clear D;rintro w D
 refine(zP)<|zx5<|(zP)<|zx6<|zlp (fun mm M w=>∃(i:Int),mm=((p.m-i).toNat)/\(0<=i)/\(i<=p.m)/\(∀k,0<=k->k<i->¬(0<f k/\0<ZL p (Zo u pt cnt) k))/\M= [(2,vA),(7,Oq g2),(9,.int Oh i)]/\Sat w0 w [.blk g1 [vL,vD,.int Oh p.b8,.int Oh p.bo],.own xk 1 3 p.m (ints p.L),.own qZ 1 3 p.d (ints (ZL p (Zo u pt cnt))),.blk g2 [xk,qZ,.int Oh p.b8,.int Oh p.bo]]) ⟨0,rfl,Oa,Oa,?_,rfl,D⟩ ?_
 ·
  intro k O V;omega
 clear D w
 rintro mm M w ⟨i,rfl,h0,h1,F,rfl,D⟩
 refine zx11<|(Om)<|(zV (xln Zb Y.cf))<|(zP)<|zlt<|Ze ?_ ?_<;>intro hc
 ·
  refine zx3<|(Om)<|(zV (xix (kk:=i) Zb Y.cf))<|(zV (xlr (u:= .int Oh (f i)) pl_3 (Y.below D.below)))<|(Om)<|zlb 27 ?_ ?_<;>intro hc
  ·
   refine(zV (xfb 1 fd_24_1))<|(zV (xlb 3 pl_22 D))<|(zP)<|(zV (xix (kk:=i) Zb xI))<|(zV (xlr (u:= .int Oh ((ZL p (Zo u pt cnt)) i)) pl_3 (D.c7 2 rfl)))<|(Om)<|zlt<|Ze ?_ ?_<;>intro hc
   ·
    refine zsr<|(zP)<|zx2<|Oi ?_
    exact⟨ZT ⟨i,h0,Oa,by assumption,by assumption⟩,D.nl⟩
   refine zx4<|(zP)<|(zV (Zg (r:=i+1)))<|(zP)<|zln<|zlq ⟨i+1,rfl,Oa,Oa,?_,rfl,D⟩
   ·
    intro k O V;rcases Int.lt_or_eq_of_le (show k<=i by omega) with J|J
    · exact F k O J
    · rw [J];rintro⟨I,G⟩;first|omega|exact absurd G ‹_›|exact absurd I ‹_›
  iterate 6 refine zlo ?_
  refine(zP)<|zlt<|zcf<|zsk<|zbn<|ztn<|zrg ?_
  refine(zP)<|(zV (Zg (r:=i+1)))<|(zP)<|zln<|zlq ⟨i+1,rfl,Oa,Oa,?_,rfl,D⟩
  ·
   intro k O V;rcases Int.lt_or_eq_of_le (show k<=i by omega) with J|J
   · exact F k O J
   · rw [J];rintro⟨I,G⟩;first|omega|exact absurd G ‹_›|exact absurd I ‹_›
 refine zx8<|(zP)<|zx1<|Oi ?_
 exact⟨false_B (fun⟨q,q0,q1,q2,q3⟩=>F q q0 Oa ⟨q2,q3⟩),D.nl⟩
def Zjk(s:So)(u N:Int)(h:Oe):Prop:=∀j,0<=j->j<N->(0<=h j/\h j<u/\(s.X (h j)).tmod s.den≠0)/\(∀q,0<=q->q<j->h q≠h j)/\
  ∀i,0<=i->i<u->(s.X i).tmod s.den≠0->(∀q,0<=q->q<j->h q≠i)->(s.X i).tmod s.den<(s.X (h j)).tmod s.den\/((s.X i).tmod s.den=(s.X (h j)).tmod s.den/\h j<=i)
def Zm1 (p:Prob) (u:Int) (ml:Oe) (mf:Of) (s:So) (out:Us) (e:Int):Prop:=
  (e≠0/\out= []/\∃n ln pt cnt,WholeR p u ml mf s n ln pt cnt e)\/(∃n1 ln1 pt1 yR N h n ln pt cnt,WholeR p u ml mf s n1 ln1 pt1 yR 0/\0<=n1/\0<=n/\0<=N/\Zjk s u N h/\(∀i,0<=i->i<u->(s.X i).tmod s.den≠0->∃j,0<=j/\j<N/\h j=i)/\
    plL n ln pt cnt=(VH p.m mf (lst p.m (ZL p (Zo n1 pt1 yR))) (plL n1 ln1 pt1 yR) (lst N h)).2/\TrimR p n ln pt cnt out e)
def dnP(h:Oe)(N k:Int):Prop:=∃q,0<=q/\q<N/\h q=k
open Classical in
noncomputable def nd(P:Int->Prop):Nat->Nat
  |0=>0
  |n+1=>nd P n+if P n then 0 else 1
theorem Zju(P:Int->Prop):∀n:Nat,nd P n<=n
 |0=>Nat.le_refl _
 |n+1=>by have:=Zju P n;simp only [nd];split<;>omega
theorem Zc1{P Q:Int->Prop}(h:∀k,P k->Q k):∀n:Nat,nd Q n<=nd P n
 |0=>Nat.le_refl _
 | n+1=>by
   have:=Zc1 h n
   simp only [nd]
   by_cases hp:P n
   · rw [if_pos hp,if_pos (h _ hp)];omega
   · rw [if_neg hp];split<;>omega
theorem Zjt{P Q:Int->Prop}(h:∀k,P k->Q k){b:Int}(G:0<=b)(F:Q b)(D:¬P b):∀n:Nat,b<(n:Int)->nd Q n<nd P n
 |0,hn=>Oa
 | n +1,hn=>by
   simp only [nd]
   by_cases e:b=(n:Int)
   · rw [<-e,if_pos F,if_neg D];have:=Zc1 h n;omega
   · have:=Zjt h G F D n Oa
     by_cases D:P n
     · rw [if_pos D,if_pos (h _ D)];omega
     · rw [if_neg D];split<;>omega
theorem XD(I:0<=N)(k:Int):dnP (snoc h N b) (N+1) k↔(dnP h N k\/b=k):=by
 constructor
 · rintro⟨q,F,G,D⟩
   by_cases e:q<N
   · rw [Zl e] at D;exact .inl ⟨q,F,e,D⟩
   · rw [Zk e] at D;exact .inr D
 · rintro(⟨q,F,G,D⟩|rfl)
   · exact⟨q,F,Oa,by rw [Zl G];exact D⟩
   · exact⟨N,I,Oa,Zk Oa⟩
theorem Zdr{n:Int}(D:0<=N)(I:0<=b)(J:b<n)(G:¬dnP h N b):nd (dnP (snoc h N b) (N+1)) n.toNat<nd (dnP h N) n.toNat:=
 Zjt (fun k F=>(XD D k).2 (.inl F)) I ((XD D b).2 (.inr rfl)) G n.toNat Oa
def Bst(s:So)(dn:Int->Prop)(b i:Int):Prop:=(b= -1/\∀k,0<=k->k<i->dn k\/(s.X k).tmod s.den=0)\/(0<=b/\b<i/\¬dn b/\(s.X b).tmod s.den≠0/\∀k,0<=k->k<i->¬dn k->(s.X k).tmod s.den≠0->(s.X k).tmod s.den<(s.X b).tmod s.den\/((s.X k).tmod s.den=(s.X b).tmod s.den/\b<=k))
theorem Bst.ia{s:So}{dn:Int->Prop}(h:Bst s dn b i):b= -1\/(0<=b/\b<i):=by
 rcases h with⟨h,_⟩|⟨h1,h2,_⟩
 · exact .inl h
 · exact .inr ⟨h1,h2⟩
theorem Bst.keep{s:So}{dn:Int->Prop}(h:Bst s dn b i)(D:dn i\/(s.X i).tmod s.den=0\/(0<=b/\(s.X i).tmod s.den<=(s.X b).tmod s.den)):Bst s dn b (i+1):=by
 rcases h with⟨h1,h2⟩|⟨h1,h2,h3,h4,h5⟩
 · refine .inl ⟨h1,fun k F J=> ?_⟩
   by_cases e:k=i
   · rw [e];rcases D with D|D|⟨D,_⟩
     · exact .inl D
     · exact .inr D
     · omega
   · exact h2 k F Oa
 · refine .inr ⟨h1,Oa,h3,h4,fun k F J I G=> ?_⟩
   by_cases e:k=i
   · rw [e] at I G⊢
     rcases D with D|D|⟨_,D⟩
     · exact absurd D I
     · exact absurd D G
     · omega
   · exact h5 k F Oa I G
theorem Bst.new{s:So}{dn:Int->Prop}(h:Bst s dn b i)(J:0<=i)(h1:¬dn i)(O:(s.X i).tmod s.den≠0)(V:b<0\/(s.X b).tmod s.den<(s.X i).tmod s.den):Bst s dn i (i+1):=by
 refine .inr ⟨J,Oa,h1,O,fun k F U I G=> ?_⟩
 by_cases e:k=i
 · right;rw [e];exact⟨rfl,Int.le_refl _⟩
 · rcases h with⟨_,h5⟩|⟨h4,_,_,_,h5⟩
   · rcases h5 k F Oa with D|D
     · exact absurd D I
     · exact absurd D G
   · have:=h5 k F Oa I G;omega
theorem ZaW{s:So}{u:Int}(N0:0<=N)(W:Zjk s u N h)(Z:Bst s (dnP h N) b u)(b0:0<=b):Zjk s u (N+1) (snoc h N b):=by
 have I:∀q,q<N->snoc h N b q=h q:=fun q G=>Zl G
 intro j V j1
 by_cases e:j<N
 · obtain⟨Y,X,hc⟩:=W j V e
   rw [I j e]
   exact⟨Y,fun q F D=>by rw [I q Oa];exact X q F D,fun i O J hi G=>hc i O J hi fun q F D=>by have:=G q F D;rw [I q Oa] at this;exact this⟩
 · obtain rfl:j=N:=Oa
   rw [Zk e]
   rcases Z with⟨h1,_⟩|⟨_,h2,h3,h4,h5⟩
   · omega
   · exact⟨⟨b0,h2,h4⟩,fun q F D=>by rw [I q D];exact fun U=>h3 ⟨q,F,D,U⟩,fun i O J hi G=>h5 i O J (fun⟨q,F,D,U⟩=>G q F D (by rw [I q D];exact U)) hi⟩
theorem Znc{m:Int}{D:List Int}{F:Us}{t g:Oe}{n:Int}(I:0<=N)(h:(lst m g,plL n ln pt cnt)=VH m mf D F (lst N t))(hn:¬∃i,0<=i/\i<m/\0<mf b i/\0<g i):(lst m g,plL n ln pt cnt)=VH m mf D F (lst (N+1) (snoc t N b)):=by
 refine uNo I ?_ (by rw [Zk Oa];exact hn)
 rw [Z5 (f:=snoc t N b) (g:=t) fun k _ G=>Zl G];exact h
theorem Zjq{p:Prob}{n l:Int}{G:List Int}{I:Us}{t:Oe}(V:0<=N)(n0:0<=n)(h:(lst p.m (ZL p (Zo n pt cnt)),plL n ln pt cnt)=VH p.m mf G I (lst N t))(J:l=p.m)(O:∀j,0<=j->j<p.m->0<=mf b j)(hn:∃q,0<=q/\q<p.m/\0<mf b q/\0<ZL p (Zo n pt cnt) q):
   (lst p.m (ZL p (Zo (n+1) (gsn pt n (mf b)) (snoc cnt n 1))),plL (n+1) (gsn ln n l) (gsn pt n (mf b)) (snoc cnt n 1))=VH p.m mf G I (lst (N+1) (snoc t N b)):=by
 have e:snoc t N b N=b:=Zk Oa
 refine ZjV (g:=ZL p (Zo n pt cnt)) (ln:=ln) (cnt:=cnt) (pt:=pt) V n0 ?_ (by rw [e];exact hn) (fun k F D=> ?_) (fun k F D=>⟨Zp D,Zl D,Zp D⟩) ((Zq Oa).trans J) (Zk Oa) ((Zq Oa).trans (by rw [e]))
 · rw [Z5 (f:=snoc t N b) (g:=t) fun k _ D=>Zl D];exact h
 · have U:Zo n (gsn pt n (mf b)) (snoc cnt n 1) k=Zo n pt cnt k:=WD fun q W=>⟨by rw [Zp Oa],by rw [Zl Oa]⟩
   have X:=O k F D
   rw [e]
   unfold ZL
   rw [if_pos ⟨F,D⟩,if_pos ⟨F,D⟩,YP n0,U,Zq Oa,Zk Oa]
   omega
theorem UY{p:Prob}{n l:Int}{f:Oe}(h:PlanOk p n ln pt cnt)(hn:n+1<=1000)(hf:FitsP p l f):PlanOk p (n+1) (gsn ln n l) (gsn pt n f) (snoc cnt n 1):=
 ⟨h.1,hn,fun k D F=>by
   by_cases e:k<n
   · rw [Zp e,Zp e,Zl e];exact h.2.2 k D e
   · rw [Zq e,Zq e,Zk e];exact⟨by omega,Oa,hf⟩⟩
theorem Zn1{vL vD:Value}{p:Prob}{vM:Value}{u:Int}{mv:Int->Value}{ml:Oe}{vX vY:Value}{s:So}(w0:World)(h:PAt w0 vL vD p)(hM:MAt w0 vM u mv ml mf)(Z:Row w0 vX 1 s.n (ints s.X))(hY:Row w0 vY 1 s.m (ints s.Y))(ya:s.n<=1000):
   Calls Oj 73 [.agg #[vL,vD,.int Oh p.b8,.int Oh p.bo],.agg #[vM,vX,vY,.int Oh s.val,.int Oh s.den]].toArray w0 fun e w=>∃v,e= .returned v/\∃r n pv ln pt cnt e,v= .tuple #[r,.int Oh e]/\Zm1 p u ml mf s (plL n ln pt cnt) e/\(∀k,0<=k->k<n->1<=cnt k/\cnt k<=1000000000)/\n<=1000000/\Slh r n/\Sat w0 w [.own r 2 103 n (Zd pv cnt),.sem (Frame.rows 3 n pv ln pt)]:=by
 obtain⟨hm,ax,hd,hd1,hs,hk⟩:=h.Oo
 have hu:=hM.row.cf.n0;have ar:=hM.row.cf.n1;have hn:=Z.cf.n0;have aw:=Z.cf.n1
 refine zenG Tryz.func73 Tryz.ntmps73 fun w D=> ?_
 refine zsr<|zla (xbx (cs:= [_,_,_,_]) D) ?_;rintro _ w ⟨g1,rfl,D⟩
 refine zla (xbx (cs:= [_,_,_,_,_]) D) ?_;rintro _ w ⟨g2,rfl,D⟩
 refine(Om)<|zlt<|zsq<|zbk<|zsr<|(zV (xls 0 ZE D))<|(zV (xls 1 X9 D))<|zlc (xc0 Zgn) (ZbC (p:=p) (u:=u) (ml:=ml) (mf:=mf) (s:=s) w (h.below D.below) (hM.below D.below) (Z.below D.below) (hY.below D.below) ya) ?_;rintro _ w ⟨rfl,U⟩
 replace D:=D.cmp U;clear U
 refine(Om)<|zlt<|Ze ?_ ?_<;>intro hc
 ·
  refine zsr<|(Om)<|Xt<|zf2 ⟨_,rfl,?_⟩
  exact⟨_,0,fun _=>undef,fun _=>0,fun _ _=>0,fun _=>0,_,rfl,.inl ⟨by omega,rfl,0,fun _=>0,fun _ _=>0,fun _=>0,.inl ⟨‹¬(p.Ok/\_)›,rfl,rfl⟩⟩,fun k O J=>Oa,Oa,slh_nil,((D.sub (.cons _ (.cons _ .slnil))).cg 2 103 (Zd (fun _=>undef) (fun _=>0))).fa 3 (fun _=>undef) (fun _=>0) (fun _ _=>0)⟩
 refine zsr<|zlv (xls 0 ZE D) ?_
 obtain⟨qk,qr⟩:p.Ok/\ZaI p u ml mf s:=by first|assumption|exact Oc ‹_›
 have qu:=qk
 have yH:=qk.m1;have qH:=qk.m2;have au:=qk.d
 refine zlc (xc0 Zcz) (ZcH (p:=p) w (h.below D.below) qu) ?_;rintro _ w ⟨rfl,U⟩
 replace D:=D.cmp U;clear U
 refine(zP)<|zlt<|Ze ?_ ?_<;>intro hc
 ·
  refine zsr<|(Om)<|Xt<|zf2 ⟨_,rfl,?_⟩
  exact⟨_,0,fun _=>undef,fun _=>0,fun _ _=>0,fun _=>0,_,rfl,.inl ⟨by omega,rfl,0,fun _=>0,fun _ _=>0,fun _=>0,.inr (.inl ⟨qk,qr,.inr (.inl ⟨qk,Oa,rfl⟩),Oa,rfl⟩)⟩,fun k O J=>Oa,Oa,slh_nil,((D.sub (.cons _ (.cons _ .slnil))).cg 2 103 (Zd (fun _=>undef) (fun _=>0))).fa 3 (fun _=>undef) (fun _=>0) (fun _ _=>0)⟩
 refine zsk<|zbn<|ztn<|zsr<|(zV (xfb 1 WJ))<|(zV (xlp 1 (ds:= [vX,vY,.int Oh s.val,.int Oh s.den]) st_85 D))<|zla (xal (cs:= [_,_,_,_]) Va D) ?_;rintro _ w ⟨g3,rfl,D⟩
 refine zle (xsw 2 st_85 D (hd:=(Za Z.cf.one (Za hY.cf.one (Za rfl (Za rfl Zh)))))) ?_;clear D;rintro w D
 refine zlz<|(zV (xfb 0 fd_87_0))<|zlv (xlb 1 Zs D) ?_
 have ak:=fun k O J=>(show ml k<=100000 by have:=(YW (qr.2.2.2.1 k O J).1).1;omega)
 have ap:=qr.2.1
 have aq:=qr.2.2.1
 refine(zV (xls 2 st_85 D))<|zlc (xc0 Zgm) (Rb (u:=u) (ml:=ml) (mf:=mf) (s:=s) w (hM.below D.below) (Z.below D.below) (hY.below D.below) Oa (fun k O J=>by have:=ak k O J;omega)) ?_;rintro _ w ⟨bc,qC,zB,yB,xU,xE,dA,rfl,zx,zS,U⟩
 replace D:=(D.comp U).n5;clear U
 have cE:=fun k (O:0<=k) (J:k<qC)=>D.db 4 rfl O J
 have ac:=zx.resolve_left fun hh=>hh.1 ⟨qr.1,qr.2.1.symm⟩
 have af:WholeR p u ml mf s qC yB xU xE 0:= .inr (.inr ⟨qk,qr,.inr (.inr ⟨qk,Oa,rfl⟩),rfl,ac.2.2.1,ac.2.2.2.1,ac.2.2.2.2.1,ac.2.2.2.2.2.1⟩)
 obtain⟨_,_,zl,cw,zr,zt⟩:=af.ok rfl hu
 have yM:=fun k (O:0<=k) (J:k<p.m)=>(Yv zr.2.2 zt (Int.le_refl _) O J).1
 obtain⟨⟨d1,d2⟩,⟨d3,d4⟩,d5⟩:=id qr.1
 refine zs5 ?_
 refine zlz<|(zV (xfb 0 fd_85_0))<|(zV (xlb 2 pl_22 D))<|(zV (xln Zb Z.cf))<|zla (xmk UF Znt D) ?_;rintro v1 w ⟨D,ag⟩
 refine(zP)<|zx6<|zlp (fun mm M w=>∃(X:Int) (wC:Int->Value) (lC:Oe) (gC:Of) (cC:Oe) (cS:Int->Value) (W:Oe) (I:Int) (xC:Value),mm=(nd (dnP W I) s.n.toNat)/\(0<=I)/\(Zjk s u I W)/\(I+(nd (dnP W I) s.n.toNat:Int)<=s.n)/\(∀k,0<=k->k<s.n->cS k=B (dnP W I k))/\((lst p.m (ZL p (Zo X gC cC)),plL X lC gC cC)=VH p.m mf (lst p.m (ZL p (Zo qC xU xE))) (plL qC yB xU xE) (lst I W))/\(PlanOk p X lC gC cC)/\(0<=X/\X<=60+I)/\(Slh xC X)/\M= [(2,Oq g1),(3,Oq g2),(6,Oq g3),(7,xC),(9,v1)]/\Sat w0 w [.blk g1 [vL,vD,.int Oh p.b8,.int Oh p.bo],.blk g2 [vM,vX,vY,.int Oh s.val,.int Oh s.den],.blk g3 [vX,vY,.int Oh s.val,.int Oh s.den],.own xC 2 103 X (Zd wC cC),.sem (Frame.rows 3 X wC lC gC),.own v1 1 4 s.n cS]) ⟨qC,zB,yB,xU,xE,fun _=> .bool false,(fun _=>0),0,bc,rfl,Oa,?_,?_,?_,?_,?_,Oa,?_,rfl,D⟩ ?_
 ·
  intro j j0 j1;omega
 ·
  have h9:=Zju (dnP (fun _=>0) 0) s.n.toNat;omega
 ·
  intro k O J;exact false_B (fun⟨q,q0,q1,_⟩=>Oa)
 ·
  rfl
 ·
  exact zr
 ·
  exact zS
 clear D w
 rintro mm M w ⟨X,wC,lC,gC,cC,cS,W,I,xC,rfl,G,eC,av,ae,hU,ab,aj,ah,rfl,D⟩
 have qG:=fun k (O:0<=k) (J:k<X)=>D.db 4 rfl O J
 have zG:=aj.1
 refine zbk<|zsr<|(zP)<|zx5<|(zP)<|zx6<|zlp (fun mm M w=>∃(b6:Int) (F:Int),mm=((s.n-F).toNat)/\(0<=F)/\(F<=s.n)/\(Bst s (dnP W I) b6 F)/\M= [(2,Oq g1),(3,Oq g2),(6,Oq g3),(7,xC),(9,v1),(10,.int Oh b6),(11,.int Oh F)]/\Sat w0 w [.blk g1 [vL,vD,.int Oh p.b8,.int Oh p.bo],.blk g2 [vM,vX,vY,.int Oh s.val,.int Oh s.den],.blk g3 [vX,vY,.int Oh s.val,.int Oh s.den],.own xC 2 103 X (Zd wC cC),.sem (Frame.rows 3 X wC lC gC),.own v1 1 4 s.n cS]) ⟨(-1),0,rfl,Oa,Oa,?_,rfl,D⟩ ?_
 ·
  exact .inl ⟨rfl,fun k O J=>Oa⟩
 clear D w
 rintro mm M w ⟨b6,F,rfl,Y,am,V,rfl,D⟩
 have al:=V.ia
 refine zx11<|(zP)<|(zV (xfb 0 fd_85_0))<|(zV (xlb 2 pl_22 D))<|(zV (xln Zb Z.cf))<|(zP)<|zlt<|Ze ?_ ?_<;>intro hc
 ·
  refine zx27<|zdst [0,1,2,3,4,5] [0,1,2,3,4,5] 1000 mx_ D ?_;clear D;intro w D
  refine(zDw 0 xmv)<|(zDw 1 xmv)<|(zDw 2 (xix (kk:=F) UF ag))<|(zDl 3 (fun w D=>(xlr (u:=B (dnP W I F)) ZhR (D.c7 5 rfl) (e:=(ae F Y Oa)))))<|(zDw 4 YH)<|(zDw 5 xmv)<|zdb 45 ?_ ?_<;>intro hc
  ·
   refine(zDw 6 (xfb 0 fd_85_0))<|(zDl 7 (fun w D=>(xlb 2 pl_22 D)))<|(zDw 8 xmv)<|(zDw 9 (xix (kk:=F) Zb Z.cf))<|(zDl 10 (fun w D=>(xlr (u:= .int Oh (s.X F)) pl_3 (Z.below D.below))))<|(zDw 11 (xfb 3 fd_85_3))<|(zDl 12 (fun w D=>(xlb 2 pl_3 D)))<|(zDw 13 (KD (r:=(Int.tmod (s.X F) s.den))))<|(zDw 14 YM)<|(zDw 15 xpt)<|(zDw 16 xmv)<|zdb 56 ?_ ?_<;>intro hc
   ·
    refine(zDw 17 xmv)<|(zDw 18 Z7)<|(zDw 19 xmv)<|zdb 59 ?_ ?_<;>intro hc
    ·
     refine(zDo 20)<|(zDo 21)<|(zDo 22)<|(zDo 23)<|(zDo 24)<|(zDo 25)<|(zDo 26)<|(zDo 27)<|(zDo 28)<|(zDo 29)<|(zDo 30)<|(zDo 31)<|(zDo 32)<|(zDo 33)<|U8 34 ?_
     refine(zDo 35)<|(zDo 36)<|(zDw 37 xpt)<|(zDw 38 xpt)<|zdd<|ztn<|zct<|zrg ?_
     refine(Om)<|zx10<|(zP)<|(zV (Zg (r:=F+1)))<|(zP)<|zln<|zlq ⟨F,F+1,rfl,Oa,Oa,?_,rfl,D⟩
     ·
      first
      |exact V.new Y ‹¬(dnP W I F)› Oa Oa
      |exact V.keep (.inl (Oc ‹¬¬(dnP W I F)›))
      |exact V.keep (.inr (.inl Oa))
      |exact V.keep (.inr (.inr ⟨by omega,Oa⟩))
    refine(zDw 20 (xfb 0 fd_85_0))<|(zDl 21 (fun w D=>(xlb 2 pl_22 D)))<|(zDw 22 xmv)<|(zDw 23 (xix (kk:=F) Zb Z.cf))<|(zDl 24 (fun w D=>(xlr (u:= .int Oh (s.X F)) pl_3 (Z.below D.below))))<|(zDw 25 (xfb 3 fd_85_3))<|(zDl 26 (fun w D=>(xlb 2 pl_3 D)))<|(zDw 27 (KD (r:=(Int.tmod (s.X F) s.den))))<|(zDw 28 (xfb 0 fd_85_0))<|(zDl 29 (fun w D=>(xlb 2 pl_22 D)))<|(zDw 30 xmv)<|(zDw 31 (xix (kk:=b6) Zb Z.cf))<|(zDl 32 (fun w D=>(xlr (u:= .int Oh (s.X b6)) pl_3 (Z.below D.below))))<|(zDw 33 (xfb 3 fd_85_3))<|zdla 34 (fun w D=>(xlb 2 pl_3 D)) ?_
    refine(zDw 35 (KD (r:=(Int.tmod (s.X b6) s.den))))<|(zDw 36 Yu)<|(zDw 37 xpf)<|(zDw 38 xpt)<|zdd<|ztn ?_
    refine Ze ?_ ?_<;>intro hc
    ·
     refine zrg<|(Om)<|zx10<|(zP)<|(zV (Zg (r:=F+1)))<|(zP)<|zln<|zlq ⟨F,F+1,rfl,Oa,Oa,?_,rfl,D⟩
     ·
      first
      |exact V.new Y ‹¬(dnP W I F)› Oa Oa
      |exact V.keep (.inl (Oc ‹¬¬(dnP W I F)›))
      |exact V.keep (.inr (.inl Oa))
      |exact V.keep (.inr (.inr ⟨by omega,Oa⟩))
    refine zx4<|(zP)<|(zV (Zg (r:=F+1)))<|(zP)<|zln<|zlq ⟨b6,F+1,rfl,Oa,Oa,?_,rfl,D⟩
    ·
     first
     |exact V.new Y ‹¬(dnP W I F)› Oa Oa
     |exact V.keep (.inl (Oc ‹¬¬(dnP W I F)›))
     |exact V.keep (.inr (.inl Oa))
     |exact V.keep (.inr (.inr ⟨by omega,Oa⟩))
   refine(zDo 17)<|(zDo 18)<|(zDo 19)<|(zDo 20)<|(zDo 21)<|(zDo 22)<|(zDo 23)<|(zDo 24)<|(zDo 25)<|(zDo 26)<|(zDo 27)<|(zDo 28)<|(zDo 29)<|(zDo 30)<|U8 31 ?_
   refine(zDo 32)<|(zDo 33)<|(zDo 34)<|(zDo 35)<|(zDo 36)<|(zDo 37)<|(zDw 38 xpf)<|zdd<|ztn<|zcf<|zsk<|zbn<|ztn<|zrg ?_
   refine(zP)<|(zV (Zg (r:=F+1)))<|(zP)<|zln<|zlq ⟨b6,F+1,rfl,Oa,Oa,?_,rfl,D⟩
   ·
    first
    |exact V.new Y ‹¬(dnP W I F)› Oa Oa
    |exact V.keep (.inl (Oc ‹¬¬(dnP W I F)›))
    |exact V.keep (.inr (.inl Oa))
    |exact V.keep (.inr (.inr ⟨by omega,Oa⟩))
  refine(zDo 6)<|(zDo 7)<|(zDo 8)<|(zDo 9)<|(zDo 10)<|(zDo 11)<|(zDo 12)<|(zDo 13)<|(zDo 14)<|(zDw 15 xpf)<|(zDw 16 xmv)<|(zDo 17)<|(zDo 18)<|(zDo 19)<|U8 20 ?_
  refine(zDo 21)<|(zDo 22)<|(zDo 23)<|(zDo 24)<|(zDo 25)<|(zDo 26)<|(zDo 27)<|(zDo 28)<|(zDo 29)<|(zDo 30)<|(zDo 31)<|(zDo 32)<|(zDo 33)<|(zDo 34)<|U8 35 ?_
  refine(zDo 36)<|(zDo 37)<|(zDw 38 xpf)<|zdd<|ztn<|zcf<|zsk<|zbn<|ztn<|zrg ?_
  refine(zP)<|(zV (Zg (r:=F+1)))<|(zP)<|zln<|zlq ⟨b6,F+1,rfl,Oa,Oa,?_,rfl,D⟩
  ·
   first
   |exact V.new Y ‹¬(dnP W I F)› Oa Oa
   |exact V.keep (.inl (Oc ‹¬¬(dnP W I F)›))
   |exact V.keep (.inr (.inl Oa))
   |exact V.keep (.inr (.inr ⟨by omega,Oa⟩))
 refine zx18<|zlv xmv ?_
 have al:=V.ia
 refine(zP)<|zlt<|Ze ?_ ?_<;>intro hc
 ·
  refine zsr<|(zV (xls 0 ZE D))<|(zP)<|zlc (xc0 Zgk) (ZdF (u:=X) (pv:=wC) (ln:=lC) (pt:=gC) (cnt:=cC) (p:=p) w (⟨(D.c7 3 rfl),fun k O J=>D.fq 4 rfl O J,fun k O J=>D.gb 4 rfl O J⟩:VAt _ xC X wC lC gC cC) (h.below D.below)) ?_;rintro _ w ⟨bG,zi,bR,bV,cP,cU,cT,rfl,yp,yr,yq,yl,U⟩
  replace D:=(D.comp U).n8;clear U
  have aL:=fun k (O:0<=k) (J:k<zi)=>D.db 7 rfl O J
  refine zs4 ?_
  refine zlt<|zrt<|ztr<|zbr<|ztr<|zbr<|zf2 ⟨_,rfl,?_⟩
  have gM:∀i,0<=i->i<u->(s.X i).tmod s.den≠0->∃j,0<=j/\j<I/\W j=i:=fun i i0 i1 hi=>by
    rcases V with⟨_,q⟩|⟨q,_⟩
    · exact(q i i0 Oa).resolve_right hi
    · omega
  exact⟨_,_,_,_,_,_,_,rfl,.inr ⟨_,_,_,_,I,W,_,_,_,_,af,zt,zG,G,eC,gM,(by rw [<-hU]),yp⟩,yr,yq,yl,D.pk [6,7]⟩
 refine ZM<|zlv xmv ?_
 have c8:¬dnP W I b6:=by rcases V with⟨q,_⟩|⟨_,_,q,_⟩;omega;exact q
 have fT:=(qr.2.2.2.1 b6 Oa Oa).1
 have fU:=fT.1
 have aa:=YW fT
 refine(zP)<|(zV (xix (kk:=b6) UF ag))<|zle (xso 5 ZhR D rfl) ?_;clear D;rintro w D
 refine zx7<|zdst [0,1,2,3,4,5] [0,1,2,3,4,5] 1000 mx_ D ?_;clear D;intro w D
 refine(zDl 0 (fun w D=>(xls 0 ZE D)))<|(zDw 1 xmv)<|(zDw 2 (xfb 0 fd_87_0))<|(zDl 3 (fun w D=>(xlb 1 Zs D)))<|(zDw 4 xmv)<|(zDw 5 (xix (kk:=b6) Zi hM.row.cf))<|(zDl 6 (fun w D=>(xlr (u:=(mv b6)) pl_22 (hM.row.below D.below))))<|zdc 7 (xc0 Zmd) (ZgT (u:=X) (pv:=wC) (ln:=lC) (pt:=gC) (cnt:=cC) (p:=p) (f:=(mf b6)) w (⟨(D.c7 3 rfl),fun k O J=>D.fq 4 rfl O J,fun k O J=>D.gb 4 rfl O J⟩:VAt _ xC X wC lC gC cC) (h.below D.below) ab (aa.1▸((hM.p b6 Oa Oa).below D.below))) ?_;rintro _ w ⟨rfl,U⟩
 replace D:=D.cmp U;clear U
 refine⟨⟨fun _=>D,D⟩,?_⟩
 refine zdd<|ztn ?_
 refine Ze ?_ ?_<;>intro hc
 ·
  refine zrg<|(zP)<|zla (xl0 (c:=ints (mf b6)) Zb D) ?_;rintro v2 w ⟨D,ao⟩
  refine(zV (xfb 0 fd_87_0))<|(zV (xlb 1 Zs D))<|(zP)<|(zV (xix (kk:=b6) Zi hM.row.cf))<|(zV (xlr (u:=(mv b6)) pl_22 (hM.row.below D.below)))<|zla (xap 6 (r:=(ml b6)) (f:=ints (mf b6)) Zb Zm D ((hM.p b6 Oa Oa).below D.below) (by exact XE _ _)) ?_;rintro v3 w ⟨D,ad⟩
  refine zlv (xany (v:= .agg #[v3,.int Oh 1]) (hr:=by obtain⟨_,_,_,_,rfl,_⟩:=ad;kernel_rfl)) ?_
  refine zla (xli (n:=1) (len:=1) (pv:= [(0,.agg #[v3,.int Oh 1])]) (cs:= [v3,.int Oh 1]) (c:=Zd (fun _=>v3) (fun _=>1)) ZF YS D (hf:=by obtain⟨_,_,_,_,rfl,_⟩:=ad;kernel_rfl)) ?_;rintro v4 w ⟨D,an⟩
  refine zla (xap 3 (r:=X+1) ZF YS D (D.c7 7 rfl) (Ym _ _ _ _ _) (h1:=fun k _ _=>ZK (fun _=>ad.one) k)) ?_;rintro v5 w ⟨D,ai⟩
  replace D:=Sat.merge (l1:= [_,_,_,_]) (l2:= [_]) (l3:= [_]) D Oa
  have xd:=fun k (O:0<=k) (J:k<X+1)=>D.db 4 rfl O J
  refine(zP)<|zln<|zbn<|zlq ⟨X+1,gsn wC X v3,gsn lC X (ml b6),gsn gC X (mf b6),(snoc cC X 1),upd cS b6 (.bool true),(snoc W I b6),I+1,v5,rfl,Oa,?_,?_,?_,?_,?_,Oa,?_,rfl,D.pk [0,1,2,3,4,5]⟩ (hlt:=(Zdr G Oa Oa c8))
  ·
   exact ZaW G eC (show Bst s (dnP W I) b6 u by rw [show u=F by omega];exact V) Oa
  ·
   have h9:=Zdr (n:=s.n) G Oa Oa c8;omega
  ·
   intro k O J;unfold upd;by_cases e:k=b6
   · rw [if_pos e];exact ZT ((XD G k).2 (.inr e.symm))
   · rw [if_neg e,ae k O J];exact Zn ⟨fun hh=>(XD G k).2 (.inl hh),fun hh=>((XD G k).1 hh).resolve_right (fun e2=>e e2.symm)⟩
  ·
   first|exact Znc G hU ‹_›|exact Zjq G zG hU aa.1 (fun j j0 j1=>(aa.2 j j0 j1).1) ‹_›
  ·
   first|exact ab|exact UY ab Oa fU
  ·
   exact ai
 refine zsk<|zbn<|zlq ⟨X,wC,lC,gC,cC,upd cS b6 (.bool true),(snoc W I b6),I+1,xC,rfl,Oa,?_,?_,?_,?_,?_,Oa,?_,rfl,D⟩ (hlt:=(Zdr G Oa Oa c8))
 ·
  exact ZaW G eC (show Bst s (dnP W I) b6 u by rw [show u=F by omega];exact V) Oa
 ·
  have h9:=Zdr (n:=s.n) G Oa Oa c8;omega
 ·
  intro k O J;unfold upd;by_cases e:k=b6
  · rw [if_pos e];exact ZT ((XD G k).2 (.inr e.symm))
  · rw [if_neg e,ae k O J];exact Zn ⟨fun hh=>(XD G k).2 (.inl hh),fun hh=>((XD G k).1 hh).resolve_right (fun e2=>e e2.symm)⟩
 ·
  first|exact Znc G hU ‹_›|exact Zjq G zG hU aa.1 (fun j j0 j1=>(aa.2 j j0 j1).1) ‹_›
 ·
  first|exact ab|exact UY ab Oa fU
 ·
  exact ah
end Go.Proofs.YtkichmnjjblodaaGreat
namespace Go.Proofs.YtkichmnjjblodaaGreat
open Go Go.RowKit Go.Proofs.Gw
theorem ZjI:Zc Oj 42=true:=Ob
theorem ZnJ:Zc Oj 72=true:=Ob
theorem ZnI:Zc Oj 73=true:=Ob
def RBRun(p:Prob)(u:Int)(ml:Oe)(mf:Of)(s:So)(l:Us)(i:Int)(cur:Us):Prop:=
  (i=0/\cur=l)\/(i=1/\∃x e,DownR p u ml mf s x e/\cur=Yx l x e)\/(i=2/\∃x e y f,DownR p u ml mf s x e/\Zm1 p u ml mf s y f/\cur=Yx (Yx l x e) y f)
theorem RBRun.s0{p:Prob}{u:Int}{ml:Oe}{mf:Of}{s:So}{l cur x:Us}{i e:Int}(h:RBRun p u ml mf s l i cur)(hi:i=0)(D:DownR p u ml mf s x e):RBRun p u ml mf s l (i+1) (Yx cur x e):=by
 rcases h with⟨_,rfl⟩|⟨h,_⟩|⟨h,_⟩
 · exact .inr (.inl ⟨by omega,x,e,D,rfl⟩)
 · omega
 · omega
theorem RBRun.s1{p:Prob}{u:Int}{ml:Oe}{mf:Of}{s:So}{l cur x:Us}{i e:Int}(h:RBRun p u ml mf s l i cur)(hi:i=1)(D:Zm1 p u ml mf s x e):RBRun p u ml mf s l (i+1) (Yx cur x e):=by
 rcases h with⟨h,_⟩|⟨_,y,f,h1,rfl⟩|⟨h,_⟩
 · omega
 · exact .inr (.inr ⟨by omega,y,f,x,e,h1,D,rfl⟩)
 · omega
def RBestR(p:Prob)(out:Us)(e:Int):Prop:=
  (e≠0/\FFitR p [] e/\out= [])\/(e=0/\∃l,FFitR p l 0/\∃u ml mf s ec,0<=u/\ColR p u ml mf s ec/\((ec≠0/\out=l)\/(ec=0/\RBRun p u ml mf s l 2 out)))
theorem ZiP {vL vD:Value} {p:Prob} (w0:World) (h:PAt w0 vL vD p):
   Calls Oj 41 [.agg #[vL,vD,.int Oh p.b8,.int Oh p.bo]].toArray w0 fun e w=>∃v,e= .returned v/\∃r n pv ln pt cnt e,v= .tuple #[r,.int Oh e]/\RBestR p (plL n ln pt cnt) e/\(∀k,0<=k->k<n->1<=cnt k/\cnt k<=1000000000)/\n<=1000000/\Slh r n/\Sat w0 w [.own r 2 103 n (Zd pv cnt),.sem (Frame.rows 3 n pv ln pt)]:=by
 obtain⟨hm,ab,hd,hd1,hs,hk⟩:=h.Oo
 refine zenG Tryz.func41 Tryz.ntmps41 fun w F=> ?_
 refine zsr<|zla (xbx (cs:= [_,_,_,_]) F) ?_;rintro _ w ⟨g1,rfl,F⟩
 refine(Om)<|zlz<|(zV (xls 0 ZE F))<|zlc (xc0 ZjB) (ZdG (p:=p) w (h.below F.below)) ?_;rintro _ w ⟨af,xS,zf,yT,y5,yC,zC,rfl,qY,yL,cF,ym,O⟩
 replace F:=(F.comp O).n3;clear O
 have aM:=fun k (I:0<=k) (G:k<xS)=>F.db 2 rfl I G
 refine zs5 ?_
 refine zx5<|(Om)<|zlt<|Ze ?_ ?_<;>intro hc
 ·
  refine zsr<|(On)<|zx14<|zf2 ⟨_,rfl,?_⟩
  exact⟨_,0,fun _=>undef,fun _=>0,fun _ _=>0,fun _=>0,_,rfl,.inl ⟨by omega,(by rw [<-qY.2.2 Oa];exact qY),rfl⟩,fun k I G=>Oa,Oa,slh_nil,((F.sub (.cons _ (.cons _ (.cons _ .slnil)))).cg 2 103 (Zd (fun _=>undef) (fun _=>0))).fa 3 (fun _=>undef) (fun _=>0) (fun _ _=>0)⟩
 refine ZM<|(zV (xls 0 ZE F))<|zlc (xc0 ZjI) (Ko (p:=p) w (h.below F.below)) ?_;rintro _ w ⟨yd,yc,zc,yS,xH,xA,xD,qT,aW,rfl,qR,qA,yo,xp,O⟩
 replace F:=(F.comp O).n7;clear O
 have aJ:=fun k (I:0<=k) (G:k<xH)=>F.db 4 rfl I G
 refine(On)<|zla (xal (cs:= [_,_,_,_,_]) ZfN F) ?_;rintro _ w ⟨g2,rfl,F⟩
 refine zle (xsw 7 X9 F (hd:=(Za qA.one (Za yo.one (Za xp.one (Za rfl (Za rfl Zh))))))) ?_;clear F;rintro w F
 refine(zP)<|zx5<|(Om)<|zlt<|Ze ?_ ?_<;>intro hc
 ·
  refine zsr<|(On)<|zx14<|zf2 ⟨_,rfl,?_⟩
  exact⟨_,_,_,_,_,_,0,rfl,.inr ⟨rfl,_,(by rw [show(0:Int)=zC by omega];exact qY),_,_,_,_,_,qA.n0,qR,.inl ⟨by omega,rfl⟩⟩,fun k I G=>by have:=yL k I G;omega,Oa,ym,F.pk [1,2]⟩
 refine YL<|(zP)<|zx6<|zlp (fun mm M w=>∃(X:Int) (Z:Int->Value) (lC:Oe) (gC:Of) (Y:Oe) (i:Int) (wC:Value),mm=((2-i).toNat)/\(0<=i)/\(i<=2)/\(∀k,0<=k->k<X->1<=Y k/\Y k<=1000000000)/\(X<=1000000)/\(RBRun p xH xA xD qT (plL xS yT y5 yC) i (plL X lC gC Y))/\(Slh wC X)/\M= [(1,Oq g1),(2,Og),(3,.int Oh 0),(4,wC),(6,Oq g2),(7,.int Oh i)]/\Sat w0 w [.blk g1 [vL,vD,.int Oh p.b8,.int Oh p.bo],.own wC 2 103 X (Zd Z Y),.sem (Frame.rows 3 X Z lC gC),.own yd 1 22 xH yc,.sem (Frame.rows 3 xH yc xA xD),.own zc 1 3 qT.n (ints qT.X),.own yS 1 3 qT.m (ints qT.Y),.blk g2 [yd,zc,yS,.int Oh qT.val,.int Oh qT.den]]) ⟨xS,zf,yT,y5,yC,0,af,rfl,Oa,Oa,?_,Oa,?_,?_,rfl,F⟩ ?_
 ·
  intro k I G;have:=yL k I G;omega
 ·
  exact .inl ⟨rfl,rfl⟩
 ·
  exact ym
 clear F w
 rintro mm M w ⟨X,Z,lC,gC,Y,i,wC,rfl,i0,i1,W,aa,V,U,rfl,F⟩
 have qG:=fun k (I:0<=k) (G:k<X)=>F.db 2 rfl I G
 obtain⟨c5,fH⟩:=qR.n60 Oa qA.n0
 refine zx11<|(Om)<|zlt<|Ze ?_ ?_<;>intro hc
 ·
  refine zx3<|(zV (xls 0 ZE F))<|(zV (xls 7 X9 F))<|zlc (xc0 ZnJ) (ZiO (p:=p) (u:=xH) (ml:=xA) (mf:=xD) (s:=qT) w (h.below F.below) (⟨(F.c7 3 rfl),fun k I G=>F.fq 4 rfl I G,fun k I G=>F.gb 4 rfl I G⟩:MAt _ yd xH yc xA xD) (F.c7 5 rfl) (F.c7 6 rfl) Oa) ?_;rintro _ w ⟨bI,zN,az,aB,aV,aZ,kg,rfl,zL,xu,jO,xK,O⟩
  replace F:=(F.comp O).n10;clear O
  have jf:=fun k (I:0<=k) (G:k<zN)=>F.db 9 rfl I G
  refine zs5 ?_
  refine zx5<|(Om)<|zlt<|Ze ?_ ?_<;>intro hc
  ·
   refine zrg<|(zV (xls 0 ZE F))<|(zV (xls 7 X9 F))<|zlc (xc0 ZnI) (Zn1 (p:=p) (u:=xH) (ml:=xA) (mf:=xD) (s:=qT) w (h.below F.below) (⟨(F.c7 3 rfl),fun k I G=>F.fq 4 rfl I G,fun k I G=>F.gb 4 rfl I G⟩:MAt _ yd xH yc xA xD) (F.c7 5 rfl) (F.c7 6 rfl) Oa) ?_;rintro _ w ⟨bH,zM,ay,aA,aU,aY,kf,rfl,zK,xt,jN,xJ,O⟩
   replace F:=(F.comp O).n12;clear O
   have je:=fun k (I:0<=k) (G:k<zM)=>F.db 11 rfl I G
   refine zs5 ?_
   refine zlz<|(On)<|zlb 46 ?_ ?_<;>intro hc
   ·
    refine(zP)<|zlc (xc0 Zbz) (Uu (u:=zM) (pv:=ay) (ln:=aA) (pt:=aU) (cnt:=aY) w (⟨(F.c7 10 rfl),fun k I G=>F.fq 11 rfl I G,fun k I G=>F.gb 11 rfl I G⟩:VAt _ bH zM ay aA aU aY) Oa (fun k I G=>by first|(have h8:=W k I G;omega)|(have h8:=xt k I G;omega)|(have h8:=xu k I G;omega))) ?_;rintro _ w ⟨rfl,O⟩
    replace F:=F.cmp O;clear O
    refine(zP)<|zlc (xc0 Zbz) (Uu (u:=X) (pv:=Z) (ln:=lC) (pt:=gC) (cnt:=Y) w (⟨(F.c7 1 rfl),fun k I G=>F.fq 2 rfl I G,fun k I G=>F.gb 2 rfl I G⟩:VAt _ wC X Z lC gC Y) Oa (fun k I G=>by first|(have h8:=W k I G;omega)|(have h8:=xt k I G;omega)|(have h8:=xu k I G;omega))) ?_;rintro _ w ⟨rfl,O⟩
    replace F:=F.cmp O;clear O
    refine(Om)<|zlt<|Ze ?_ ?_<;>intro hc
    ·
     refine zrg<|(Om)<|zx10<|(zP)<|(zV (Zg (r:=i+1)))<|(zP)<|zln<|zlq ⟨zM,ay,aA,aU,aY,i+1,bH,rfl,Oa,Oa,?_,Oa,?_,?_,rfl,F.pk [0,10,11,3,4,5,6,7]⟩
     ·
      first|exact W|exact xt|exact xu
     ·
      first
      | (have D:=V.s1 Oa zK
         unfold Yx at D
         rw [Zt _ xJ.n0,Zt _ U.n0] at D
         first|(rw [if_pos ⟨by omega,by assumption⟩] at D;exact D)|(rw [if_neg (by first|(intro J;exact absurd J.1 Oa)|(intro J;exact absurd J.2 (by assumption))|(rintro⟨q1,q2⟩;omega))] at D;exact D))
      | (have D:=V.s0 Oa zL
         unfold Yx at D
         rw [Zt _ xK.n0,Zt _ U.n0] at D
         first|(rw [if_pos ⟨by omega,by assumption⟩] at D;exact D)|(rw [if_neg (by first|(intro J;exact absurd J.1 Oa)|(intro J;exact absurd J.2 (by assumption))|(rintro⟨q1,q2⟩;omega))] at D;exact D))
     ·
      exact xJ
    refine zx4<|(zP)<|(zV (Zg (r:=i+1)))<|(zP)<|zln<|zlq ⟨X,Z,lC,gC,Y,i+1,wC,rfl,Oa,Oa,?_,Oa,?_,?_,rfl,F.pk [0,1,2,3,4,5,6,7]⟩
    ·
     first|exact W|exact xt|exact xu
    ·
     first
     | (have D:=V.s1 Oa zK
        unfold Yx at D
        rw [Zt _ xJ.n0,Zt _ U.n0] at D
        first|(rw [if_pos ⟨by omega,by assumption⟩] at D;exact D)|(rw [if_neg (by first|(intro J;exact absurd J.1 Oa)|(intro J;exact absurd J.2 (by assumption))|(rintro⟨q1,q2⟩;omega))] at D;exact D))
     | (have D:=V.s0 Oa zL
        unfold Yx at D
        rw [Zt _ xK.n0,Zt _ U.n0] at D
        first|(rw [if_pos ⟨by omega,by assumption⟩] at D;exact D)|(rw [if_neg (by first|(intro J;exact absurd J.1 Oa)|(intro J;exact absurd J.2 (by assumption))|(rintro⟨q1,q2⟩;omega))] at D;exact D))
    ·
     exact U
   iterate 5 refine zlo ?_
   refine(zP)<|zlt<|zcf<|zsk<|zbn<|ztn<|zrg ?_
   refine(zP)<|(zV (Zg (r:=i+1)))<|(zP)<|zln<|zlq ⟨X,Z,lC,gC,Y,i+1,wC,rfl,Oa,Oa,?_,Oa,?_,?_,rfl,F.pk [0,1,2,3,4,5,6,7]⟩
   ·
    first|exact W|exact xt|exact xu
   ·
    first
    | (have D:=V.s1 Oa zK
       unfold Yx at D
       rw [Zt _ xJ.n0,Zt _ U.n0] at D
       first|(rw [if_pos ⟨by omega,by assumption⟩] at D;exact D)|(rw [if_neg (by first|(intro J;exact absurd J.1 Oa)|(intro J;exact absurd J.2 (by assumption))|(rintro⟨q1,q2⟩;omega))] at D;exact D))
    | (have D:=V.s0 Oa zL
       unfold Yx at D
       rw [Zt _ xK.n0,Zt _ U.n0] at D
       first|(rw [if_pos ⟨by omega,by assumption⟩] at D;exact D)|(rw [if_neg (by first|(intro J;exact absurd J.1 Oa)|(intro J;exact absurd J.2 (by assumption))|(rintro⟨q1,q2⟩;omega))] at D;exact D))
   ·
    exact U
  refine ZM<|(On)<|zlb 46 ?_ ?_<;>intro hc
  ·
   refine(zP)<|zlc (xc0 Zbz) (Uu (u:=zN) (pv:=az) (ln:=aB) (pt:=aV) (cnt:=aZ) w (⟨(F.c7 8 rfl),fun k I G=>F.fq 9 rfl I G,fun k I G=>F.gb 9 rfl I G⟩:VAt _ bI zN az aB aV aZ) Oa (fun k I G=>by first|(have h8:=W k I G;omega)|(have h8:=xt k I G;omega)|(have h8:=xu k I G;omega))) ?_;rintro _ w ⟨rfl,O⟩
   replace F:=F.cmp O;clear O
   refine(zP)<|zlc (xc0 Zbz) (Uu (u:=X) (pv:=Z) (ln:=lC) (pt:=gC) (cnt:=Y) w (⟨(F.c7 1 rfl),fun k I G=>F.fq 2 rfl I G,fun k I G=>F.gb 2 rfl I G⟩:VAt _ wC X Z lC gC Y) Oa (fun k I G=>by first|(have h8:=W k I G;omega)|(have h8:=xt k I G;omega)|(have h8:=xu k I G;omega))) ?_;rintro _ w ⟨rfl,O⟩
   replace F:=F.cmp O;clear O
   refine(Om)<|zlt<|Ze ?_ ?_<;>intro hc
   ·
    refine zrg<|(Om)<|zx10<|(zP)<|(zV (Zg (r:=i+1)))<|(zP)<|zln<|zlq ⟨zN,az,aB,aV,aZ,i+1,bI,rfl,Oa,Oa,?_,Oa,?_,?_,rfl,F.pk [0,8,9,3,4,5,6,7]⟩
    ·
     first|exact W|exact xt|exact xu
    ·
     first
     | (have D:=V.s1 Oa zK
        unfold Yx at D
        rw [Zt _ xJ.n0,Zt _ U.n0] at D
        first|(rw [if_pos ⟨by omega,by assumption⟩] at D;exact D)|(rw [if_neg (by first|(intro J;exact absurd J.1 Oa)|(intro J;exact absurd J.2 (by assumption))|(rintro⟨q1,q2⟩;omega))] at D;exact D))
     | (have D:=V.s0 Oa zL
        unfold Yx at D
        rw [Zt _ xK.n0,Zt _ U.n0] at D
        first|(rw [if_pos ⟨by omega,by assumption⟩] at D;exact D)|(rw [if_neg (by first|(intro J;exact absurd J.1 Oa)|(intro J;exact absurd J.2 (by assumption))|(rintro⟨q1,q2⟩;omega))] at D;exact D))
    ·
     exact xK
   refine zx4<|(zP)<|(zV (Zg (r:=i+1)))<|(zP)<|zln<|zlq ⟨X,Z,lC,gC,Y,i+1,wC,rfl,Oa,Oa,?_,Oa,?_,?_,rfl,F.pk [0,1,2,3,4,5,6,7]⟩
   ·
    first|exact W|exact xt|exact xu
   ·
    first
    | (have D:=V.s1 Oa zK
       unfold Yx at D
       rw [Zt _ xJ.n0,Zt _ U.n0] at D
       first|(rw [if_pos ⟨by omega,by assumption⟩] at D;exact D)|(rw [if_neg (by first|(intro J;exact absurd J.1 Oa)|(intro J;exact absurd J.2 (by assumption))|(rintro⟨q1,q2⟩;omega))] at D;exact D))
    | (have D:=V.s0 Oa zL
       unfold Yx at D
       rw [Zt _ xK.n0,Zt _ U.n0] at D
       first|(rw [if_pos ⟨by omega,by assumption⟩] at D;exact D)|(rw [if_neg (by first|(intro J;exact absurd J.1 Oa)|(intro J;exact absurd J.2 (by assumption))|(rintro⟨q1,q2⟩;omega))] at D;exact D))
   ·
    exact U
  iterate 5 refine zlo ?_
  refine(zP)<|zlt<|zcf<|zsk<|zbn<|ztn<|zrg ?_
  refine(zP)<|(zV (Zg (r:=i+1)))<|(zP)<|zln<|zlq ⟨X,Z,lC,gC,Y,i+1,wC,rfl,Oa,Oa,?_,Oa,?_,?_,rfl,F.pk [0,1,2,3,4,5,6,7]⟩
  ·
   first|exact W|exact xt|exact xu
  ·
   first
   | (have D:=V.s1 Oa zK
      unfold Yx at D
      rw [Zt _ xJ.n0,Zt _ U.n0] at D
      first|(rw [if_pos ⟨by omega,by assumption⟩] at D;exact D)|(rw [if_neg (by first|(intro J;exact absurd J.1 Oa)|(intro J;exact absurd J.2 (by assumption))|(rintro⟨q1,q2⟩;omega))] at D;exact D))
   | (have D:=V.s0 Oa zL
      unfold Yx at D
      rw [Zt _ xK.n0,Zt _ U.n0] at D
      first|(rw [if_pos ⟨by omega,by assumption⟩] at D;exact D)|(rw [if_neg (by first|(intro J;exact absurd J.1 Oa)|(intro J;exact absurd J.2 (by assumption))|(rintro⟨q1,q2⟩;omega))] at D;exact D))
  ·
   exact U
 refine zx8<|(On)<|zx1<|zf2 ⟨_,rfl,?_⟩
 exact⟨_,_,_,_,_,_,0,rfl,.inr ⟨rfl,_,(by rw [show(0:Int)=zC by omega];exact qY),_,_,_,_,_,qA.n0,qR,.inr ⟨by omega,by rw [show(2:Int)=i by omega];exact V⟩⟩,W,Oa,U,F.pk [1,2]⟩
theorem Zhn {p:Prob} (I:p.Ok) (y:Oe):∀(j:Nat),(j:Int)<=p.m->∀c,0<=c->∃x:Oe,(∀k,0<=k->k<(j:Int)->0<=x k/\x k<=p.D k)/\Zf (fun k=>x k*(p.L k+p.bo)) j<=c/\Tab p y j c=Zf (fun k=>x k*y k) j
 |0,_,c,hc=>⟨fun _=>0,fun k G D=>Oa,by simp [Zf];exact hc,rfl⟩
 | j + 1,hj,c,hc=>by
   have h1:=I.all j Oa Oa
   unfold Prob.each at h1
   have V:=I.k1
   obtain⟨n,n1,n2,n3⟩:=ZbO (Tab p y j) (p.L j+p.bo) (y j) (p.D j).toNat c hc
   obtain⟨x,O,U,J⟩:=Zhn I y j Oa (c-n*(p.L j+p.bo)) Oa
   refine⟨snoc x j n,fun k G D=> ?_,?_,?_⟩
   · by_cases e:k<(j:Int)
     · rw [Zl e];exact O k G e
     · rw [Zk e,show k=(j:Int) by omega];omega
   · have e:Zf (fun k=>snoc x j n k*(p.L k+p.bo)) (j+1)=Zf (fun k=>x k*(p.L k+p.bo)) j+n*(p.L j+p.bo):=by
       have F:=ZH (fun k=>snoc x j n k*(p.L k+p.bo)) (i:=(j:Int)) Oa
       rw [show((j:Int)+1).toNat=j+1 by omega,Int.toNat_natCast] at F
       rw [F,Zk Oa]
       congr 1
       exact Zj fun k G D=>by rw [Zl D]
     rw [e];omega
   · have e:Zf (fun k=>snoc x j n k*y k) (j+1)=Zf (fun k=>x k*y k) j+n*y j:=by
       have F:=ZH (fun k=>snoc x j n k*y k) (i:=(j:Int)) Oa
       rw [show((j:Int)+1).toNat=j+1 by omega,Int.toNat_natCast] at F
       rw [F,Zk Oa]
       congr 1
       exact Zj fun k G D=>by rw [Zl D]
     rw [e,<-J,<-n3];rfl
theorem Zhl{p:Prob}(D:p.Ok)(y:Oe):∃x:Oe,(∀k,0<=k->k<p.m->0<=x k/\x k<=p.D k)/\ZI p x p.m.toNat<=p.b8+p.bo/\WV p y=Zf (fun k=>x k*y k) p.m.toNat:=by
 have U:=D.m1;have O:=D.s1;have V:=D.k1
 obtain⟨x,h1,I,G⟩:=Zhn D y p.m.toNat Oa (p.b8+p.bo) Oa
 exact⟨x,fun k F J=>h1 k F Oa,I,G⟩
theorem Zhk{p:Prob}(D:p.Ok)(y:Oe):WV p y<=WC p y:=by
 obtain⟨x,h1,G,F⟩:=Zhl D y
 rw [F];exact wc_top D h1 G
theorem RBestR.meets {p:Prob} {n e:Int} {ln cnt:Oe} {pt:Of} (h:RBestR p (plL n ln pt cnt) e) (D:p.Ok) (Z:e=0) (n0:0<=n):PMt p n ln pt cnt:=by
 rcases h with⟨h1,_⟩|⟨_,l,h2,u,ml,mf,s,ec,u0,hc,h3⟩
 · exact absurd Z h1
 · have I:ExU p (plL n ln pt cnt):=by
     have U:=h2.ex D rfl
     rcases h3 with⟨_,h4⟩|⟨_,h3⟩
     · rw [h4];exact U
     · rcases h3 with⟨h4,_⟩|⟨h4,_⟩|⟨_,x,f,y,g,I,hy,h5⟩
       · omega
       · omega
       · rw [h5];refine V9 (V9 U I.ex) fun V=> ?_
         rcases hy with⟨h,_⟩|⟨_,_,_,_,_,_,_,_,_,_,_,_,n0,_,_,_,_,hT⟩
         · exact absurd V h
         · exact hT.ex V n0
   have Y:ZO p<=1000:=by
     have h1:=h2.1
     unfold ZeH at h1
     rw [XQ] at h1
     rcases h1 with⟨g,_⟩|⟨_,O,J⟩|⟨_,O,J⟩<;>omega
   obtain⟨⟨O,J,g3⟩,g4⟩:=I.sound D (by rw [XQ];exact Y) n0
   exact⟨⟨O,J,fun k G F=>⟨(g3 k G F).2.1,(g3 k G F).2.2,(g3 k G F).1⟩⟩,fun j X W=>by
     have:=g4 j X W
     rw [Th] at this
     unfold Zo;omega⟩
theorem SolR6.val{p:Prob}{nb u e v:Int}{t:Tr}{ln cnt ml:Oe}{pt mf:Of}{s:So}(h:SolR6 p nb t u ln pt cnt e)(D:p.Ok)(J:e=0)(hv:0<=v)(hc:ColR p v ml mf s 0):(0<=nb*s.den/\nb*s.den<=1000*1073741824)/\s.val<=nb*s.den:=by
 obtain⟨hM,Y⟩:=hc.nt hv rfl
 have F:Chk p s.m s.Y s.den=0:=Zgr D ⟨hM.d1,hM.d2,fun k G W=>hM.Y k G (by have:=hM.m;omega)⟩ hM.m (by have:=Zhk D s.Y;omega)
 have O:YZ p s.m s.Y s.den=(s.val+s.den-1).tdiv s.den:=by
   rw [Gw.VQ F];unfold Bnd;rw [VB,hM.bY]
 have hn:=SolR6.nb h;have hd:=hM.d1;have hd2:=hM.d2;have I:=hM.v
 refine⟨Xn hn.1 hn.2 Oa hd2,?_⟩
 obtain⟨L,V,U,g3⟩:=h.bars D J
 apply Classical.byContradiction;intro X
 have h1:=Int.mul_le_mul_of_nonneg_right (show nb+1<=YZ p s.m s.Y s.den by
   rw [O,Int.tdiv_eq_ediv_of_nonneg Oa]
   exact(Int.le_ediv_iff_mul_le Oa).2 (by rw [Int.add_mul];omega)) (show(0:Int)<=1 by omega)
 have:=ZbH F (b:=nb) Oa Oa V U
 omega
theorem ZnS:Zc Oj 41=true:=Ob
theorem Zbi{vL vD:Value}{p:Prob}(w0:World)(h:PAt w0 vL vD p):
   Calls Oj 10 [.agg #[vL,vD,.int Oh p.b8,.int Oh p.bo]].toArray w0 fun e w=>∃v,e= .returned v/\v= .bool true/\Sat w0 w []:=by
 obtain⟨hm,U,hd,hd1,hs,hk⟩:=h.Oo
 refine zenG Tryz.func10 Tryz.ntmps10 fun w D=> ?_
 refine zsr<|zla (xbx (cs:= [_,_,_,_]) D) ?_;rintro _ w ⟨g1,rfl,D⟩
 refine(zP)<|zx5<|zlc (xc0 Zgi) (Rf w) ?_;rintro _ w ⟨rfl,F⟩
 replace D:=D.cmp F;clear F
 refine(Om)<|(zV (xls 0 ZE D))<|zlc (xc0 ZnZ) (Zi3 (p:=p) w (h.below D.below)) ?_;rintro _ w ⟨rfl,F⟩
 replace D:=D.cmp F;clear F
 refine(On)<|zlb 16 ?_ ?_<;>intro hc
 ·
  iterate 3 refine zlo ?_
  refine(zP)<|zlt<|zct<|zsr ?_
  refine zlc (xc0 Zgi) (Rf w) ?_;rintro _ w ⟨rfl,F⟩
  replace D:=D.cmp F;clear F
  refine(zP)<|zx14<|Oi ?_
  exact⟨rfl,D.nl⟩
 refine(zV (xls 0 ZE D))<|zlc (xc0 Ut) (YB (p:=p) w (h.below D.below)) ?_;rintro _ w ⟨rfl,F⟩
 replace D:=D.cmp F;clear F
 refine(Om)<|zlt<|Ze ?_ ?_<;>intro hc
 ·
  refine zsr<|zlc (xc0 Zgi) (Rf w) ?_;rintro _ w ⟨rfl,F⟩
  replace D:=D.cmp F;clear F
  refine(zP)<|zx14<|Oi ?_
  exact⟨rfl,D.nl⟩
 refine ZM<|(zV (xls 0 ZE D))<|zlc (xc0 ZjJ) (ZbD (p:=p) w (h.below D.below)) ?_;rintro _ w ⟨bj,bu,bM,bP,bW,bQ,aX,eE,de,rfl,O,aN,cA,cx,bZ,F⟩
 replace D:=(D.comp F).n4;clear F
 have fK:=fun j (j0:0<=j) (j1:j<bM)=>D.db 3 rfl j0 j1
 have dS:=SolR6.u O
 refine zs2 ?_
 have G:p.Ok:=Od
 have mn:eE=0\/eE=9:=Classical.byContradiction fun hh=>by have:=(O.lim G Oa).1;omega
 refine(zP)<|zla (xal (cs:= [_,_,_,_,_]) ZfP D) ?_;rintro _ w ⟨g2,rfl,D⟩
 refine zle (xsw 4 XR D (hd:=(Za rfl (Za bZ.one (Za rfl (Za cA.one (Za cx.one Zh))))))) ?_;clear D;rintro w D
 refine(zP)<|zx5<|(Om)<|zlt<|Ze ?_ ?_<;>intro hc
 ·
  refine zsr<|(On)<|zx14<|Oi ?_
  exact⟨(ZT Oa).symm,D.nl⟩
 refine ZM<|(zV (xls 0 ZE D))<|zlc (xc0 ZnS) (ZiP (p:=p) w (h.below D.below)) ?_;rintro _ w ⟨ag,V,zg,Z,zA,zE,dB,rfl,qS,br,dv,xY,F⟩
 replace D:=(D.comp F).n7;clear F
 have co:=fun k (J:0<=k) (I:k<V)=>D.db 6 rfl J I
 refine zs5 ?_
 refine zlz<|(zV (xls 0 ZE D))<|zlc (xc0 ZjI) (Ko (p:=p) w (h.below D.below)) ?_;rintro _ w ⟨yd,yc,zc,yS,xH,xA,xD,qT,aW,rfl,qR,W,yo,xp,F⟩
 replace D:=(D.comp F).n11;clear F
 have aJ:=fun k (J:0<=k) (I:k<xH)=>D.db 8 rfl J I
 refine(On)<|zla (xal (cs:= [_,_,_,_,_]) ZfN D) ?_;rintro _ w ⟨g3,rfl,D⟩
 refine zle (xsw 11 X9 D (hd:=(Za W.one (Za yo.one (Za xp.one (Za rfl (Za rfl Zh))))))) ?_;clear D;rintro w D
 refine(zP)<|zx7<|zdst [0,1,2,3,4,5,6,7,8,9,10,11] [0,1,2,3,4,5,6,7,8,9,10,11] 1000 mx_ D ?_;clear D;intro w D
 refine(zDw 0 xmv)<|(zDw 1 YM)<|(zDw 2 xmv)<|zdb 43 ?_ ?_<;>intro hc
 ·
  refine(zDo 3)<|(zDo 4)<|(zDo 5)<|(zDo 6)<|(zDo 7)<|(zDw 8 xpt)<|(zDw 9 xmv)<|(zDw 10 xmv)<|(zDw 11 YM)<|(zDw 12 xmv)<|zdb 53 ?_ ?_<;>intro hc
  ·
   refine(zDo 13)<|(zDo 14)<|(zDo 15)<|(zDo 16)<|(zDo 17)<|(zDo 18)<|(zDo 19)<|(zDo 20)<|(zDo 21)<|(zDo 22)<|(zDw 23 xpt)<|(zDw 24 xpt)<|(zDw 25 xas)<|zdd<|ztn<|zrt<|Oi ?_
   exact⟨rfl,D.nl⟩
  refine(zDw 13 (xfb 0 WK))<|(zDl 14 (fun w D=>(xlb 4 pl_3 D)))<|(zDw 15 (xfb 1 WJ))<|(zDw 16 (xfb 4 fd_85_3))<|zdla 17 (fun w D=>(xlb 11 pl_3 D)) ?_
  obtain⟨⟨U,Y⟩,X⟩:=O.val G Oa W.n0 ((show aW=0 by omega)▸qR)
  refine(zDw 18 (Z2 (r:=(bj*qT.den)) (e:=rfl)))<|(zDw 19 (xfb 1 WJ))<|(zDw 20 (xfb 3 fd_85_2))<|(zDl 21 (fun w D=>(xlb 11 pl_3 D)))<|(zDw 22 Xw)<|(zDw 23 xpf)<|(zDw 24 xpt)<|(zDw 25 xas)<|zdd<|ztn<|zrt<|Oi ?_
  exact⟨(ZT Oa).symm,D.nl⟩
 refine(zDw 3 (xfb 0 WK))<|(zDl 4 (fun w D=>(xlb 4 pl_3 D)))<|(zDw 5 xmv)<|zdc 6 (xc0 Zbz) (Uu (u:=V) (pv:=zg) (ln:=Z) (pt:=zA) (cnt:=zE) w (⟨(D.c7 5 rfl),fun k J I=>D.fq 6 rfl J I,fun k J I=>D.gb 6 rfl J I⟩:VAt _ ag V zg Z zA zE) Oa (fun k J I=>by have h8:=br k J I;omega)) ?_;rintro _ w ⟨rfl,F⟩
 replace D:=D.cmp F;clear F
 have aa:=O.kj G Oa (qS.meets G Oa xY.n0)
 refine⟨⟨fun _=>D,D⟩,?_⟩
 refine(zDw 7 (xkt Xv))<|(zDw 8 xpf)<|(zDw 9 xmv)<|(zDw 10 xmv)<|(zDw 11 YM)<|(zDw 12 xmv)<|zdb 53 ?_ ?_<;>intro hc
 ·
  refine(zDo 13)<|(zDo 14)<|(zDo 15)<|(zDo 16)<|(zDo 17)<|(zDo 18)<|(zDo 19)<|(zDo 20)<|(zDo 21)<|(zDo 22)<|(zDw 23 xpt)<|(zDw 24 xpt)<|(zDw 25 xas)<|zdd<|ztn<|zrt<|Oi ?_
  exact⟨rfl,D.nl⟩
 refine(zDw 13 (xfb 0 WK))<|(zDl 14 (fun w D=>(xlb 4 pl_3 D)))<|(zDw 15 (xfb 1 WJ))<|(zDw 16 (xfb 4 fd_85_3))<|zdla 17 (fun w D=>(xlb 11 pl_3 D)) ?_
 obtain⟨⟨U,Y⟩,X⟩:=O.val G Oa W.n0 ((show aW=0 by omega)▸qR)
 refine(zDw 18 (Z2 (r:=(bj*qT.den)) (e:=rfl)))<|(zDw 19 (xfb 1 WJ))<|(zDw 20 (xfb 3 fd_85_2))<|(zDl 21 (fun w D=>(xlb 11 pl_3 D)))<|(zDw 22 Xw)<|(zDw 23 xpf)<|(zDw 24 xpt)<|(zDw 25 xas)<|zdd<|ztn<|zrt<|Oi ?_
 exact⟨(ZT Oa).symm,D.nl⟩
end Go.Proofs.YtkichmnjjblodaaGreat
namespace Go.Proofs.Gw
open Go Go.RowKit Go.ChangeShapes Go.WideShapes Go.ChangeAt
section
variable {H:Type} {enc:TypeId×Value->H} {P:Program} {w:World} {held:Bool}
def Small{H:Type}(P:Program)(t:TypeId)(d:DataW H):Prop:=(d.weights P t).all (· <=reachBytes)=true
theorem TD{ts:List TypeId}{ds:List (DataW H)}(h:(DataW.weightsEach P ts ds).all (· <=reachBytes)=true){j:Nat}{t:TypeId}{d:DataW H}(D:ts[j]? =some t)(hd:ds[j]? =some d):Small P t d:=
 List.all_eq_true.2 fun n hn=>List.all_eq_true.1 h n (DataW.weights_mem_each D hd n hn)
theorem KO{t:TypeId}{F:Array Field}{D:List (DataW H)}(h:Small P t (.agg D))(G:P.underlying t=some (.struct F)){j:Nat}{u:TypeId}{d:DataW H}(I:(F.toList.map (·.type))[j]? =some u)(hd:D[j]? =some d):Small P u d:=by
 unfold Small at h
 simp only [DataW.weights,G] at h
 exact TD h I hd
theorem RD{e:TypeId}:∀{ds:List (DataW H)},(DataW.weightsAll P e ds).all (· <=reachBytes)=true->∀d∈ds,Small P e d
 | [],_,d,hd=>by cases hd
 | x::r,h,d,hd=>by
   simp only [DataW.weightsAll,List.all_append,Bool.and_eq_true] at h
   rcases List.mem_cons.1 hd with rfl|hd
   · exact h.1
   · exact RD h.2 d hd
theorem ZaQ{t e:TypeId}{D F:List (DataW H)}(h:Small P t (.slice D F))(G:P.underlying t=some (.slice e)):(D.length+F.length)*P.bytesOf e<=reachBytes/\∀d∈D,Small P e d:=by
 unfold Small at h
 simp only [DataW.weights,G,List.all_cons,List.all_append,Bool.and_eq_true,decide_eq_true_eq] at h
 exact⟨h.1,RD h.2.1⟩
theorem Zb0{n:Int}(h:(Lit.int IntKind.i64 n).wf=true): -9223372036854775808<=n/\n<=9223372036854775807:=by
 simp only [Lit.wf,Bool.and_eq_true,decide_eq_true_eq] at h
 have h1:IntKind.i64.min= -9223372036854775808:=by decide
 have D:IntKind.i64.max=9223372036854775807:=by decide
 omega
theorem ZdW{a:Addr}{v:Value}(h:w.cell? a=some v):a.spot=none:=World.cell?_spot h
end
end Go.Proofs.Gw
namespace Go.Proofs.Gw
open Go Go.RowKit Go.ChangeShapes Go.WideShapes Go.ChangeAt
section
variable {H:Type} {enc:TypeId×Value->H} {P:Program} {w:World} {held:Bool}
def Rd{H:Type}(enc:TypeId×Value->H)(P:Program)(w:World)(held:Bool)(t:TypeId)(cs:List Value):Prop:=∃fuel y,DataW.trod enc P w 0 (fun _=>true) held fuel t cs=some y/\Small P t y.1
theorem Rd.int{k:IntKind}{t:TypeId}{cs:List Value}(h:Rd enc P w held t cs)(D:P.underlying t=some (.int k)):∃n,cs= [.int k n]/\(Lit.int k n).wf=true:=by
 obtain⟨fuel,y,h,_⟩:=h
 obtain⟨n,h1,_,F⟩:=DataW.trod_int D h
 exact⟨n,h1,F⟩
theorem Rd.mx{k:IntKind}{t:TypeId}{v:Value}(h:Rd enc P w held t [v])(D:P.underlying t=some (.int k)):∃n,v= .int k n/\(Lit.int k n).wf=true:=by
 obtain⟨n,h1,F⟩:=h.int D
 exact⟨n,by simpa using h1,F⟩
theorem Rd.struct{G:Array Field}{t:TypeId}{cs:List Value}(h:Rd enc P w held t cs)(D:P.underlying t=some (.struct G)):∀(j:Nat) (f:Field),G[j]? =some f->Rd enc P w held f.type ((cs.drop f.offset).take (P.cellsOf f.type)):=fun j f hf=>by
 obtain⟨fuel,y,h,U⟩:=h
 obtain⟨I,n,_,rfl,V,J,O⟩:=DataW.trod_struct D h
 have F:j<I.length:=by rw [J];exact(Array.getElem?_eq_some_iff.1 hf).1
 have h1:=O j f hf
 rw [List.getElem?_eq_getElem F] at h1
 exact⟨n,_,h1,KO (j:=j) U D (by simp [hf]) (by simp [F])⟩
theorem Rd.len{G:Array Field}{t:TypeId}{cs:List Value}(h:Rd enc P w held t cs)(D:P.underlying t=some (.struct G)):cs.length=P.cellsOf t:=by
 obtain⟨fuel,y,h,U⟩:=h
 obtain⟨I,n,_,rfl,F,J,O⟩:=DataW.trod_struct D h
 exact F
theorem Rd.slice {t e:TypeId} {s b:Nat} {v:Value} (h:Rd enc P w held t [v]) (ht:P.underlying t=some (.slice e)) (ce:P.cellsOf e=s) (be:P.bytesOf e=b) (ac:1<=s) (ab:s<=b):
   ∃(n:Int) (c:Int->Value),Row w v s n c/\b*n<=140737488351232/\∀i:Int,0<=i->i<n->Rd enc P w held e ((List.range s).map fun j:Nat=>c (i*s+j)):=by
 obtain⟨fuel,y,h,hs⟩:=h
 rcases Go.Deep.open_slice ht h with⟨hcs,_⟩|⟨a,len,cap,m,n,D,Pl,hcs,_,hl,hm,hmm,hy,hx⟩
 · simp only [List.cons.injEq,and_true] at hcs
   subst hcs
   exact⟨0,fun _=>undef,⟨⟨by omega,Oa,none,0,rfl,.inl rfl⟩,fun k V=>by rw [Int.zero_mul] at V;omega⟩,Oa,fun i a0 a1=>Oa⟩
 · simp only [List.cons.injEq,and_true] at hcs
   subst hcs
   simp only [if_true] at hmm
   subst hmm
   rw [hy] at hs
   have U:=ZaQ hs ht
   have J:=U.1
   rw [be] at J
   simp only [List.length_map,List.length_range] at J
   have h2:len*b<=(len+(m-len))*b:=Nat.mul_le_mul_right _ Oa
   have h3:len*b<=140737488351232:=by unfold reachBytes at J;omega
   have h4:len*1<=len*b:=Nat.mul_le_mul_left _ Oa
   rw [ce] at hx
   have e0:∀i:Nat,∃I:List Value,i<len->w.cells? 0 (a.add (i*s)) s=some I/\DataW.trod enc P w 0 (fun _=>true) held n e I=some (D i,Pl i):=fun i=>by
     by_cases hi:i<len
     · obtain⟨I,h5,h6⟩:=hx i Oa
       exact⟨I,fun _=>⟨h5,h6⟩⟩
     · exact⟨[],fun h=>absurd h hi⟩
   obtain⟨C,Z⟩:=Classical.axiomOfChoice e0
   have fG:0<len->a.spot=none:=fun h0=>by
     obtain⟨_,h7,W⟩:=World.cells?_some (Z 0 h0).1
     have O:=W 0 Oa
     rw [List.getElem?_eq_getElem Oa] at O
     have aa:=ZdW O
     simpa [Addr.add] using aa
   refine⟨len,fun k=>(C (k/s).toNat).getD (k%s).toNat undef,⟨⟨by omega,Oa,some a,m,by simp,?_⟩,fun j hj=> ?_⟩,?_,fun i i0 i1=> ?_⟩
   · by_cases hl0:len=0
     · left;omega
     · right
       have F:=fG Oa
       exact⟨a.block,a.off,by cases a;simp at F;simp [F]⟩
   · have G:j<len*s:=by rw [<-Int.natCast_mul] at hj;omega
     have hi:j/s<len:=(Nat.div_lt_iff_lt_mul Oa).2 G
     have gA:0<len:=Nat.lt_of_le_of_lt (Nat.zero_le _) hi
     have F:=fG gA
     obtain⟨_,h7,W⟩:=World.cells?_some (Z (j/s) hi).1
     have hr:j%s<s:=Nat.mod_lt _ Oa
     have O:=W (j%s) hr
     rw [Addr.add_eq a F,Addr.add_eq _ rfl] at O
     have e1:((j:Int)/(s:Int)).toNat=j/s:=by rw [<-Int.natCast_ediv,Int.toNat_natCast]
     have e2:((j:Int)%(s:Int)).toNat=j%s:=by rw [<-Int.natCast_emod,Int.toNat_natCast]
     have e3:a.off+j/s*s+j%s=a.off+j:=by rw [Nat.add_assoc,Nat.mul_comm,Nat.div_add_mod]
     rw [List.getElem?_eq_getElem Oa] at O
     simp only [e1,e2,List.getD_eq_getElem?_getD]
     rw [List.getElem?_eq_getElem Oa]
     simp only [cad,Int.toNat_natCast,Option.getD_some]
     simp only [e3] at O
     exact O
   · have:((len*b:Nat):Int)=b*len:=by rw [Int.natCast_mul,Int.mul_comm]
     omega
   · obtain⟨k,rfl⟩:=Int.eq_ofNat_of_zero_le i0
     have V:k<len:=Oa
     obtain⟨h5,h6⟩:=Z k V
     obtain⟨_,h7,W⟩:=World.cells?_some h5
     have e:((List.range s).map fun j:Nat=>(C (((k:Int)*(s:Int)+(j:Int))/(s:Int)).toNat).getD (((k:Int)*(s:Int)+(j:Int))%(s:Int)).toNat undef)=C k:=by
       apply List.ext_getElem
       · simp [h7]
       · intro j Y X
         rw [List.getElem_map,List.getElem_range]
         have G:j<s:=by simpa using Y
         have e0:((k:Int)*(s:Int)+(j:Int))=((k*s+j:Nat):Int):=by rw [Int.natCast_add,Int.natCast_mul]
         have e1:(((k*s+j:Nat):Int)/(s:Int)).toNat=k:=by
           rw [<-Int.natCast_ediv,Int.toNat_natCast,Nat.mul_comm,Nat.mul_add_div Oa,Nat.div_eq_of_lt G,Nat.add_zero]
         have e2:(((k*s+j:Nat):Int)%(s:Int)).toNat=j:=by
           rw [<-Int.natCast_emod,Int.toNat_natCast,Nat.mul_comm,Nat.mul_add_mod,Nat.mod_eq_of_lt G]
         rw [e0,e1,e2,List.getD_eq_getElem?_getD,List.getElem?_eq_getElem X,Option.getD_some]
     rw [e]
     exact⟨n,_,h6,U.2 (D k) (List.mem_map.2 ⟨k,List.mem_range.2 V,rfl⟩)⟩
theorem Rd.field{D:Array Field}{t u:TypeId}{cs ds:List Value}(h:Rd enc P w held t cs)(G:P.underlying t=some (.struct D))(j:Nat){f:Field}(hf:D[j]? =some f){k:Nat}(F:f.type=u)(I:P.cellsOf u=k)(hd:(cs.drop f.offset).take k=ds):Rd enc P w held u ds:=by
 subst F;subst hd;rw [<-I];exact h.struct G j f hf
theorem Zb3{cs:Array Value}{l:List Value}(h:cs.toList=l):cs=l.toArray:=by subst h;simp
theorem Rd.arg{t:TypeId}{v:Value}{d:DataW H}{p:List MemPlace}(h:DataW.Trod enc P w 0 (fun _=>true) held t v d p)(D:Small P t d):Rd enc P w held t v.cells.toList:=by
 obtain⟨fuel,hf⟩:=h
 exact⟨fuel,_,hf,D⟩
theorem Zni{cs:List Value}(h:cs.length=4):∃a b c d,cs= [a,b,c,d]:=by match cs,h with| [a,b,c,d],_=>exact⟨_,_,_,_,rfl⟩
theorem Rd.nums{k:IntKind}{t e:TypeId}{b:Nat}{v:Value}(h:Rd enc P w held t [v])(O:P.underlying t=some (.slice e))(U:P.underlying e=some (.int k))(hc:P.cellsOf e=1)(V:P.bytesOf e=b)(D:1<=b):
   ∃(n:Int) (f:Oe),Row w v 1 n (fun j=> .int k (f j))/\b*n<=140737488351232/\∀j,(Lit.int k (f j)).wf=true:=by
 obtain⟨n,c,h1,X,W⟩:=h.slice O hc V Oa D
 have Y:(Lit.int k 0).wf=true:=by cases k<;>decide
 have Z:∀i:Int,∃x:Int,(Lit.int k x).wf=true/\(0<=i->i<n->c i= .int k x):=fun i=>by
   by_cases hi:0<=i/\i<n
   · have F:=W i hi.1 hi.2
     simp only [List.range_one,List.map_cons,List.map_nil] at F
     obtain⟨x,I,J⟩:=F.mx U
     refine⟨x,J,fun _ _=> ?_⟩
     rw [<-I];congr 1;omega
   · exact⟨0,Y,fun a0 a1=>absurd ⟨a0,a1⟩ hi⟩
 obtain⟨f,hf⟩:=Classical.axiomOfChoice Z
 exact⟨n,f,h1.congr fun i G i1=>(hf i).2 G Oa,X,fun j=>(hf j).1⟩
theorem Rd.ints{t e:TypeId}{v:Value}(h:Rd enc P w held t [v])(D:P.underlying t=some (.slice e))(F:P.underlying e=some (.int .i64))(hc:P.cellsOf e=1)(G:P.bytesOf e=8):∃(n:Int) (f:Oe),IAt w v n f:=by
 obtain⟨n,f,h1,_,I⟩:=h.nums D F hc G Oa
 exact⟨n,f,h1,fun k=>Zb0 (I k)⟩
end
end Go.Proofs.Gw
