import Derived.Test.YtkichmnjjblodaaGreatPeC
import Derived.ArgAppend
import Derived.RangeFuncBox
import Derived.RangeFuncLeaves
set_option linter.unusedVariables false
set_option linter.unusedSimpArgs false
set_option maxRecDepth 20000
set_option maxHeartbeats 4000000
namespace Go.Proofs.YtkichmnjjblodaaGreat
open Go Go.RowKit Go.Proofs.Gw
variable {i:Int}
theorem Zgc:Zc Oj 142=true:=Ob
theorem YS:ZV Oj 103=some (.agg #[Og,.int Oh 0],2,32):=Ob
theorem YA:ZV Oj 107=some (.agg #[Og,.int Oh 0],2,32):=Ob
theorem Z4:ZJ Oj 60=some (107,2):=Ob
def flN(s:So):Nat->Int
  |0=>0
  |k+1=>if s.den<=s.X k then flN s k+1 else flN s k
def flL(s:So)(ml:Oe):Nat->Int->Int
  |0=>fun _=>0
  |k+1=>if s.den<=s.X k then gsn (flL s ml k) (flN s k) (ml k) else flL s ml k
def flG(s:So)(mf:Of):Nat->Int->Int->Int
  |0=>fun _ _=>0
  |k+1=>if s.den<=s.X k then gsn (flG s mf k) (flN s k) (mf k) else flG s mf k
def flC(s:So):Nat->Int->Int
  |0=>fun _=>0
  |k+1=>if s.den<=s.X k then snoc (flC s k) (flN s k) ((s.X k).tdiv s.den) else flC s k
theorem Uj(s:So)(h:0<=i):flN s (i+1).toNat=if s.den<=s.X i then flN s i.toNat+1 else flN s i.toNat:=by
 obtain⟨k,rfl⟩:=Int.eq_ofNat_of_zero_le h;rw [show((k:Int)+1).toNat=k+1 by omega,Int.toNat_natCast];rfl
theorem Uk(s:So)(ml:Oe)(h:0<=i):flL s ml (i+1).toNat=if s.den<=s.X i then gsn (flL s ml i.toNat) (flN s i.toNat) (ml i) else flL s ml i.toNat:=by
 obtain⟨k,rfl⟩:=Int.eq_ofNat_of_zero_le h;rw [show((k:Int)+1).toNat=k+1 by omega,Int.toNat_natCast];rfl
theorem Ul(s:So)(mf:Of)(h:0<=i):flG s mf (i+1).toNat=if s.den<=s.X i then gsn (flG s mf i.toNat) (flN s i.toNat) (mf i) else flG s mf i.toNat:=by
 obtain⟨k,rfl⟩:=Int.eq_ofNat_of_zero_le h;rw [show((k:Int)+1).toNat=k+1 by omega,Int.toNat_natCast];rfl
theorem Um(s:So)(h:0<=i):flC s (i+1).toNat=if s.den<=s.X i then snoc (flC s i.toNat) (flN s i.toNat) ((s.X i).tdiv s.den) else flC s i.toNat:=by
 obtain⟨k,rfl⟩:=Int.eq_ofNat_of_zero_le h;rw [show((k:Int)+1).toNat=k+1 by omega,Int.toNat_natCast];rfl
theorem Tj(s:So):∀k:Nat,0<=flN s k/\flN s k<=k
 |0=>by simp [flN]
 | k+1=>by
   have:=Tj s k
   simp only [flN];split<;>omega
def Zhw(s:So)(u:Int)(ml:Oe)(mf:Of)(n:Int)(ln:Oe)(pt:Of)(cnt:Oe)(e:Int):Prop:=
  (¬(Yj s/\u=s.n)/\n=0/\e=1)\/(Yj s/\u=s.n/\n=flN s u.toNat/\ln=flL s ml u.toNat/\pt=flG s mf u.toNat/\cnt=flC s u.toNat/\e=0)
theorem ZeA{vM:Value}{u:Int}{mv:Int->Value}{ml:Oe}{mf:Of}{vX vY:Value}{s:So}(w0:World)(hM:MAt w0 vM u mv ml mf)(X:Row w0 vX 1 s.n (ints s.X))(hY:Row w0 vY 1 s.m (ints s.Y))(ya:s.n<=1000)(ae:∀k,0<=k->k<u->ml k<=100000):
   Calls Oj 167 [vM,.agg #[vX,vY,.int Oh s.val,.int Oh s.den]].toArray w0 fun e w=>∃v,e= .returned v/\∃r n pv ln pt cnt e,v= .tuple #[r,.int Oh e]/\Zhw s u ml mf n ln pt cnt e/\Slh r n/\Sat w0 w [.own r 2 107 n (Zd pv cnt),.sem (Frame.rows 3 n pv ln pt)]:=by
 have hn:=X.cf.n0;have ak:=X.cf.n1
 have hu:=hM.row.cf.n0;have ah:=hM.row.cf.n1
 refine zenG Tryz.func167 Tryz.ntmps167 fun w D=> ?_
 refine zsr<|zla (xbx (cs:= [_,_,_,_]) D) ?_;rintro _ w ⟨g1,rfl,D⟩
 refine(Om)<|zx5<|(zV (xls 0 ZN D))<|zlc (xc0 Zf6) (Kl (s:=s) w (X.below D.below) (hY.below D.below) Oa) ?_;rintro _ w ⟨rfl,J⟩
 replace D:=D.cmp J;clear J
 refine(Om)<|zlb 12 ?_ ?_<;>intro hc
 ·
  iterate 6 refine zlo ?_
  refine(zP)<|zlt<|zct<|zsr ?_
  refine(Om)<|zx14<|zf2 ⟨_,rfl,?_⟩
  exact⟨_,0,fun _=>undef,fun _=>0,fun _ _=>0,fun _=>0,1,rfl,.inl ⟨by first|exact fun hh=>absurd hh.1 ‹¬Yj s›|(rintro⟨_,hh⟩;omega),rfl,rfl⟩,slh_nil,((D.sub (.cons _ .slnil)).cg 2 107 (Zd (fun _=>undef) (fun _=>0))).fa 3 (fun _=>undef) (fun _=>0) (fun _ _=>0)⟩
 refine(zP)<|(zV (xln Zi hM.row.cf))<|(zV (xfb 0 fd_139_0))<|(zV (xlb 0 pl_22 D))<|(zV (xln Zb X.cf))<|(Om)<|zlt<|Ze ?_ ?_<;>intro hc
 ·
  refine zsr<|(Om)<|zx14<|zf2 ⟨_,rfl,?_⟩
  exact⟨_,0,fun _=>undef,fun _=>0,fun _ _=>0,fun _=>0,1,rfl,.inl ⟨by first|exact fun hh=>absurd hh.1 ‹¬Yj s›|(rintro⟨_,hh⟩;omega),rfl,rfl⟩,slh_nil,((D.sub (.cons _ .slnil)).cg 2 107 (Zd (fun _=>undef) (fun _=>0))).fa 3 (fun _=>undef) (fun _=>0) (fun _ _=>0)⟩
 refine ZM<|(zP)<|zx5<|(zV (xfb 0 fd_139_0))<|(zV (xlb 0 pl_22 D))<|(zV (xln Zb X.cf))<|(zP)<|zx6 ?_
 have ab:Yj s:=by first|assumption|exact Oc ‹_›
 obtain⟨⟨d1,d2⟩,⟨d3,d4⟩,d5⟩:=id ab
 have ad:u=s.n:=Oa
 replace D:=D.cg 2 107 (Zd (fun _=>Og) (fun _=>0))
 replace D:=D.fa 3 (fun _=>Og) (fun _=>0) (fun _ _=>0)
 have yz:=fun k (k0:0<=k) (k1:k<0)=>D.db 2 rfl k0 k1
 refine zlp (fun mm M w=>∃(G:Int) (Y:Int->Value) (lC:Oe) (gC:Of) (cC:Oe) (i:Int) (Z:Value),mm=((s.n-i).toNat)/\(0<=i)/\(i<=s.n)/\(G=flN s i.toNat)/\(lC=flL s ml i.toNat)/\(gC=flG s mf i.toNat)/\(cC=flC s i.toNat)/\(Slh Z G)/\M= [(0,vM),(3,Oq g1),(4,Og),(5,.int Oh 0),(6,Z),(21,vX),(22,.int Oh s.n),(23,.int Oh i)]/\Sat w0 w [.blk g1 [vX,vY,.int Oh s.val,.int Oh s.den],.own Z 2 107 G (Zd Y cC),.sem (Frame.rows 3 G Y lC gC)]) ⟨0,(fun _=>Og),(fun _=>0),(fun _ _=>0),(fun _=>0),0,Og,rfl,Oa,Oa,?_,?_,?_,?_,?_,rfl,D⟩ ?_
 ·
  rfl
 ·
  rfl
 ·
  rfl
 ·
  rfl
 ·
  exact slh_nil
 clear D w
 rintro mm M w ⟨G,Y,lC,gC,cC,i,Z,rfl,O,h1,F,U,V,W,aa,rfl,D⟩
 have qG:=fun k (k0:0<=k) (k1:k<G)=>D.db 2 rfl k0 k1
 have aj:=Tj s i.toNat
 refine zsr<|(zP)<|zx7<|Ze ?_ ?_<;>intro hc
 ·
  refine zx3<|(zP)<|(zV (xix (kk:=i) Zb X.cf))<|(zV (xlr (u:= .int Oh (s.X i)) pl_3 (X.below D.below)))<|(Om)<|zlz<|(zP)<|(zV (xfb 3 fd_139_3))<|(zV (xlb 0 pl_3 D))<|(zP)<|zlt<|Ze ?_ ?_<;>intro hc
  ·
   refine zdst [0] [0] 1000 mx_ D ?_;clear D;intro w D
   refine(zDw 0 xmv)<|(zDw 1 xmv)<|(zDw 2 xmv)<|(zDw 3 (xix (kk:=i) Zi hM.row.cf))<|zdla 4 (fun w D=>(xlr (u:=(mv i)) pl_22 (hM.row.below D.below))) ?_
   have jS:=ae i O Oa
   refine(zDw 6 xmv)<|(zDw 7 (xfb 3 fd_139_3))<|zdla 8 (fun w D=>(xlb 0 pl_3 D)) ?_
   have ai:=YC (a:=s.X i) (d:=s.den) (A:=1073741824) Oa (by have:=d5 i O Oa;omega)
   refine(zDw 9 (VC (r:=(Int.tdiv (s.X i) s.den))))<|zdc 5 (xc0 cl_65) (c_clone (n:=(ml i)) (f:=(mf i)) w ((hM.p i Oa Oa).below D.below) Oa) ?_;rintro I w ⟨_,rfl,qb,J⟩
   replace D:=(D.comp J).n4;clear J
   refine⟨⟨fun _=>D.pk [0],D.pk [0]⟩,?_⟩
   refine zDrv 10 (xany (v:= .agg #[I,.int Oh (Int.tdiv (s.X i) s.den)]) (hr:=by obtain⟨_,_,_,_,rfl,_⟩:=qb;kernel_rfl)) ?_
   refine zda 11 (xli (n:=1) (len:=1) (pv:= [(0,.agg #[I,.int Oh (Int.tdiv (s.X i) s.den)])]) (cs:= [I,.int Oh (Int.tdiv (s.X i) s.den)]) (c:=Zd (fun _=>I) (fun _=>(Int.tdiv (s.X i) s.den))) Z4 YA D (hf:=by obtain⟨_,_,_,_,rfl,_⟩:=qb;kernel_rfl)) ?_;rintro v1 w ⟨D,ag⟩
   refine⟨⟨fun _=>D.pk [0],D.pk [0]⟩,?_⟩
   refine zda 12 (xap 1 (r:=G+1) Z4 YA D (D.c7 4 rfl) (Ym _ _ _ _ _) (h1:=fun k _ _=>ZK (fun _=>qb.one) k)) ?_;rintro v2 w ⟨D,ac⟩
   replace D:=Sat.merge (l1:= [_,_]) (l2:= []) (l3:= [_]) D Oa
   have xd:=fun k (k0:0<=k) (k1:k<G+1)=>D.db 2 rfl k0 k1
   refine⟨⟨fun _=>D.pk [0],D.pk [0]⟩,?_⟩
   refine(zDw 13 xas)<|zdd<|zbn<|ztn<|zrg ?_
   refine(zV (Zg (r:=i+1)))<|(zP)<|zln<|zlq ⟨G+1,gsn Y G I,gsn lC G (ml i),gsn gC G (mf i),(snoc cC G (Int.tdiv (s.X i) s.den)),i+1,v2,rfl,Oa,Oa,?_,?_,?_,?_,?_,rfl,D.pk [0,1,2]⟩
   ·
    rw [Uj s O,<-F];first|rw [if_pos Oa]|rw [if_neg Oa]
   ·
    rw [Uk s ml O,<-U,<-F];first|rw [if_pos Oa]|rw [if_neg Oa]
   ·
    rw [Ul s mf O,<-V,<-F];first|rw [if_pos Oa]|rw [if_neg Oa]
   ·
    rw [Um s O,<-W,<-F];first|rw [if_pos Oa]|rw [if_neg Oa]
   ·
    exact ac
  refine zx4<|(zV (Zg (r:=i+1)))<|(zP)<|zln<|zlq ⟨G,Y,lC,gC,cC,i+1,Z,rfl,Oa,Oa,?_,?_,?_,?_,?_,rfl,D⟩
  ·
   rw [Uj s O,<-F];first|rw [if_pos Oa]|rw [if_neg Oa]
  ·
   rw [Uk s ml O,<-U,<-F];first|rw [if_pos Oa]|rw [if_neg Oa]
  ·
   rw [Ul s mf O,<-V,<-F];first|rw [if_pos Oa]|rw [if_neg Oa]
  ·
   rw [Um s O,<-W,<-F];first|rw [if_pos Oa]|rw [if_neg Oa]
  ·
   exact aa
 refine zx8<|(On)<|zx1<|zf2 ⟨_,rfl,?_⟩
 have af:i=u:=Oa
 rw [af] at F U V W
 exact⟨_,_,_,_,_,_,0,rfl,.inr ⟨ab,ad,F,U,V,W,rfl⟩,aa,D.pk [1,2]⟩
theorem Rb{vM:Value}{u:Int}{mv:Int->Value}{ml:Oe}{mf:Of}{vX vY:Value}{s:So}(w0:World)(hM:MAt w0 vM u mv ml mf)(V:Row w0 vX 1 s.n (ints s.X))(hY:Row w0 vY 1 s.m (ints s.Y))(c5:u<=1000)(af:∀k,0<=k->k<u->ml k<=100000):
   Calls Oj 105 [vM,.agg #[vX,vY,.int Oh s.val,.int Oh s.den]].toArray w0 fun e w=>∃v,e= .returned v/\∃r n pv ln pt cnt e,v= .tuple #[r,.int Oh e]/\Zhw s u ml mf n ln pt cnt e/\Slh r n/\Sat w0 w [.own r 2 103 n (Zd pv cnt),.sem (Frame.rows 3 n pv ln pt)]:=by
 have hn:=V.cf.n0;have am:=V.cf.n1
 have hu:=hM.row.cf.n0;have aj:=hM.row.cf.n1
 refine zenG Tryz.func105 Tryz.ntmps105 fun w D=> ?_
 refine zsr<|zla (xbx (cs:= [_,_,_,_]) D) ?_;rintro _ w ⟨g1,rfl,D⟩
 refine(Om)<|zx5<|(zV (xls 0 st_85 D))<|zlc (xc0 Zgc) (T9 (s:=s) w (V.below D.below) (hY.below D.below)) ?_;rintro _ w ⟨rfl,ac⟩
 replace D:=D.cmp ac;clear ac
 refine(Om)<|zlb 11 ?_ ?_<;>intro hc
 ·
  iterate 6 refine zlo ?_
  refine(zP)<|zlt<|zct<|zsr ?_
  refine(Om)<|zx14<|zf2 ⟨_,rfl,?_⟩
  exact⟨_,0,fun _=>undef,fun _=>0,fun _ _=>0,fun _=>0,1,rfl,.inl ⟨by first|exact fun hh=>absurd hh.1 ‹¬Yj s›|(rintro⟨_,hh⟩;omega),rfl,rfl⟩,slh_nil,((D.sub (.cons _ .slnil)).cg 2 103 (Zd (fun _=>undef) (fun _=>0))).fa 3 (fun _=>undef) (fun _=>0) (fun _ _=>0)⟩
 refine(zP)<|(zV (xln Zi hM.row.cf))<|(zV (xfb 0 fd_85_0))<|(zV (xlb 0 pl_22 D))<|(zV (xln Zb V.cf))<|(Om)<|zlt<|Ze ?_ ?_<;>intro hc
 ·
  refine zsr<|(Om)<|zx14<|zf2 ⟨_,rfl,?_⟩
  exact⟨_,0,fun _=>undef,fun _=>0,fun _ _=>0,fun _=>0,1,rfl,.inl ⟨by first|exact fun hh=>absurd hh.1 ‹¬Yj s›|(rintro⟨_,hh⟩;omega),rfl,rfl⟩,slh_nil,((D.sub (.cons _ .slnil)).cg 2 103 (Zd (fun _=>undef) (fun _=>0))).fa 3 (fun _=>undef) (fun _=>0) (fun _ _=>0)⟩
 refine ZM<|(zP)<|zx5<|(zP)<|zx6 ?_
 have ab:Yj s:=by first|assumption|exact Oc ‹_›
 obtain⟨⟨d1,d2⟩,⟨d3,d4⟩,d5⟩:=id ab
 have ae:u=s.n:=Oa
 replace D:=D.cg 2 103 (Zd (fun _=>Og) (fun _=>0))
 replace D:=D.fa 3 (fun _=>Og) (fun _=>0) (fun _ _=>0)
 have yz:=fun k (k0:0<=k) (k1:k<0)=>D.db 2 rfl k0 k1
 refine zlp (fun mm M w=>∃(G:Int) (X:Int->Value) (lC:Oe) (gC:Of) (cC:Oe) (i:Int) (Y:Value),mm=((u-i).toNat)/\(0<=i)/\(i<=u)/\(G=flN s i.toNat)/\(lC=flL s ml i.toNat)/\(gC=flG s mf i.toNat)/\(cC=flC s i.toNat)/\(Slh Y G)/\M= [(0,vM),(3,Oq g1),(4,Og),(5,.int Oh 0),(6,Y),(7,.int Oh i)]/\Sat w0 w [.blk g1 [vX,vY,.int Oh s.val,.int Oh s.den],.own Y 2 103 G (Zd X cC),.sem (Frame.rows 3 G X lC gC)]) ⟨0,(fun _=>Og),(fun _=>0),(fun _ _=>0),(fun _=>0),0,Og,rfl,Oa,Oa,?_,?_,?_,?_,?_,rfl,D⟩ ?_
 ·
  rfl
 ·
  rfl
 ·
  rfl
 ·
  rfl
 ·
  exact slh_nil
 clear D w
 rintro mm M w ⟨G,X,lC,gC,cC,i,Y,rfl,I,h1,F,J,O,U,aa,rfl,D⟩
 have qG:=fun k (k0:0<=k) (k1:k<G)=>D.db 2 rfl k0 k1
 have al:=Tj s i.toNat
 refine zx11<|(Om)<|(zV (xln Zi hM.row.cf))<|(zP)<|zlt<|Ze ?_ ?_<;>intro hc
 ·
  refine zx27<|zdst [0,1,2] [0,1,2] 1000 mx_ D ?_;clear D;intro w D
  refine(zDw 0 (xfb 0 fd_85_0))<|(zDl 1 (fun w D=>(xlb 0 pl_22 D)))<|(zDw 2 xmv)<|(zDw 3 (xix (kk:=i) Zb V.cf))<|(zDl 4 (fun w D=>(xlr (u:= .int Oh (s.X i)) pl_3 (V.below D.below))))<|(zDw 5 (xfb 3 fd_85_3))<|(zDl 6 (fun w D=>(xlb 0 pl_3 D)))<|(zDw 7 Xw)<|zdd<|ztn ?_
  refine Ze ?_ ?_<;>intro hc
  ·
   refine zdst [0] [0] 1000 mx_ D ?_;clear D;intro w D
   refine(zDw 0 xmv)<|(zDw 2 xmv)<|(zDw 3 xmv)<|(zDw 4 (xix (kk:=i) Zi hM.row.cf))<|zdla 5 (fun w D=>(xlr (u:=(mv i)) pl_22 (hM.row.below D.below))) ?_
   have jS:=af i I Oa
   refine(zDw 7 (xfb 0 fd_85_0))<|(zDl 8 (fun w D=>(xlb 0 pl_22 D)))<|(zDw 9 xmv)<|(zDw 10 (xix (kk:=i) Zb V.cf))<|zdla 11 (fun w D=>(xlr (u:= .int Oh (s.X i)) pl_3 (V.below D.below))) ?_
   have ak:=YC (a:=s.X i) (d:=s.den) (A:=1073741824) Oa (by have:=d5 i I Oa;omega)
   refine(zDw 12 (xfb 3 fd_85_3))<|(zDl 13 (fun w D=>(xlb 0 pl_3 D)))<|(zDw 14 (VC (r:=(Int.tdiv (s.X i) s.den))))<|zda 1 (xl0 (c:=ints (mf i)) Zb D) ?_;rintro v1 w ⟨D,ai⟩
   refine⟨⟨fun _=>D.pk [0],D.pk [0]⟩,?_⟩
   refine zda 6 (xap 3 (r:=(ml i)) (f:=ints (mf i)) Zb Zm D ((hM.p i Oa Oa).below D.below) (by exact XE _ _)) ?_;rintro Z w ⟨D,W⟩
   refine⟨⟨fun _=>D.pk [0],D.pk [0]⟩,?_⟩
   refine zDrv 15 (xany (v:= .agg #[Z,.int Oh (Int.tdiv (s.X i) s.den)]) (hr:=by obtain⟨_,_,_,_,rfl,_⟩:=W;kernel_rfl)) ?_
   refine zda 16 (xli (n:=1) (len:=1) (pv:= [(0,.agg #[Z,.int Oh (Int.tdiv (s.X i) s.den)])]) (cs:= [Z,.int Oh (Int.tdiv (s.X i) s.den)]) (c:=Zd (fun _=>Z) (fun _=>(Int.tdiv (s.X i) s.den))) ZF YS D (hf:=by obtain⟨_,_,_,_,rfl,_⟩:=W;kernel_rfl)) ?_;rintro v3 w ⟨D,ah⟩
   refine⟨⟨fun _=>D.pk [0],D.pk [0]⟩,?_⟩
   refine zda 17 (xap 1 (r:=G+1) ZF YS D (D.c7 4 rfl) (Ym _ _ _ _ _) (h1:=fun k _ _=>ZK (fun _=>W.one) k)) ?_;rintro v4 w ⟨D,ad⟩
   replace D:=Sat.merge (l1:= [_,_]) (l2:= []) (l3:= [_]) D Oa
   have xd:=fun k (k0:0<=k) (k1:k<G+1)=>D.db 2 rfl k0 k1
   refine⟨⟨fun _=>D.pk [0],D.pk [0]⟩,?_⟩
   refine(zDw 18 xas)<|zdd<|zbn<|ztn<|zrg ?_
   refine(zP)<|(zV (Zg (r:=i+1)))<|(zP)<|zln<|zlq ⟨G+1,gsn X G Z,gsn lC G (ml i),gsn gC G (mf i),(snoc cC G (Int.tdiv (s.X i) s.den)),i+1,v4,rfl,Oa,Oa,?_,?_,?_,?_,?_,rfl,D.pk [0,1,2]⟩
   ·
    rw [Uj s I,<-F];first|rw [if_pos Oa]|rw [if_neg Oa]
   ·
    rw [Uk s ml I,<-J,<-F];first|rw [if_pos Oa]|rw [if_neg Oa]
   ·
    rw [Ul s mf I,<-O,<-F];first|rw [if_pos Oa]|rw [if_neg Oa]
   ·
    rw [Um s I,<-U,<-F];first|rw [if_pos Oa]|rw [if_neg Oa]
   ·
    exact ad
  refine zx4<|(zP)<|(zV (Zg (r:=i+1)))<|(zP)<|zln<|zlq ⟨G,X,lC,gC,cC,i+1,Y,rfl,Oa,Oa,?_,?_,?_,?_,?_,rfl,D⟩
  ·
   rw [Uj s I,<-F];first|rw [if_pos Oa]|rw [if_neg Oa]
  ·
   rw [Uk s ml I,<-J,<-F];first|rw [if_pos Oa]|rw [if_neg Oa]
  ·
   rw [Ul s mf I,<-O,<-F];first|rw [if_pos Oa]|rw [if_neg Oa]
  ·
   rw [Um s I,<-U,<-F];first|rw [if_pos Oa]|rw [if_neg Oa]
  ·
   exact aa
 refine zx8<|(On)<|zx1<|zf2 ⟨_,rfl,?_⟩
 have ag:i=u:=Oa
 rw [ag] at F J O U
 exact⟨_,_,_,_,_,_,0,rfl,.inr ⟨ab,ae,F,J,O,U,rfl⟩,aa,D.pk [1,2]⟩
end Go.Proofs.YtkichmnjjblodaaGreat
namespace Go.Proofs.YtkichmnjjblodaaGreat
open Go Go.RowKit Go.Proofs.Gw
theorem ZQ:ZC Oj 107=some 2:=Ob
end Go.Proofs.YtkichmnjjblodaaGreat
namespace Go.Proofs.Gw
open Go Go.RowKit
def Frame.dq (E:TypeId) (v:Value) (n:Int) (f:Oe):Frame where
  holds w:=0<=n/\n<=140737488355328/\((v=Og/\n=0)\/∃g off cap cur,v= .slice (some ⟨g,off,none⟩) n.toNat cap/\w.heap[g]? =some (.cells cur E (0,0))/\n.toNat<=cap/\cap<=maxLen/\off+cap<=cur.size/\
    ∀k:Nat,(k:Int)<n->cur[off+k]? =some (.int Oh (f k)))
  has g:=∃a l c,v= .slice (some a) l c/\a.block=g
  keep h hk:=by
    obtain⟨h0,h1,h|⟨g,off,cap,cur,rfl,hg,h⟩⟩:=h
    · exact⟨h0,h1,.inl h⟩
    · exact⟨h0,h1,.inr ⟨g,off,cap,cur,rfl,by rw [hk g ⟨_,_,_,rfl,rfl⟩];exact hg,h⟩⟩
  lt h hg:=by
    obtain⟨_,_,h|⟨g,off,cap,cur,rfl,h2,_⟩⟩:=h
    · obtain⟨rfl,_⟩:=h;obtain⟨_,_,_,e,_⟩:=hg;cases e
    · obtain⟨_,_,_,e,rfl⟩:=hg;cases e;exact(Array.getElem?_eq_some_iff.1 h2).1
section
variable {P:Program} {L:List (Nat×Value)} {w w0:World} {o:Oper} {x y z:Operand} {T T':TypeId} {l:List Ent} {E:TypeId} {v:Value} {n:Int} {f:Oe}
theorem Frame.dq.row(h:(Frame.dq E v n f).holds w):Row w v 1 n (ints f):=by
 obtain⟨G,h1,⟨rfl,rfl⟩|⟨g,off,cap,cur,rfl,F,_,_,_,hc⟩⟩:=h
 · exact Te _ _ _
 · refine⟨⟨G,h1,_,_,rfl,.inr ⟨g,off,rfl⟩⟩,fun k I=> ?_⟩
   have D:(k:Int)<n:=Oa
   have:=hc k D
   show w.cell? ⟨g,off+(k:Int).toNat,none⟩=_
   rw [cell_of_row w g _ cur E (0,0) F]
   rw [show(k:Int).toNat=k by omega,this];rfl
theorem Frame.dq.roomy(h:(Frame.dq E v n f).holds w):X2 v:=fun a len cap e=>by
 obtain⟨_,_,⟨rfl,_⟩|⟨g,off,D,cur,rfl,_,F,_⟩⟩:=h
 · cases e;omega
 · cases e;exact F
theorem Sat.im(h:Sat w0 w l)(i:Nat)(hi:l[i]? =some (.sem (Frame.dq E v n f))):(Frame.dq E v n f).holds w:=h.holds _ (List.mem_of_getElem? hi)
theorem Sat.j3(h:Sat w0 w l)(E:TypeId)(f:Oe):Sat w0 w (l++ [.sem (Frame.dq E Og 0 f)]):=by
 refine h.comp (m:= [.sem (Frame.dq E Og 0 f)]) ⟨Below.refl _ _,?_,?_,List.pairwise_singleton _ _⟩
 · intro e D
   obtain rfl:=List.mem_singleton.1 D
   exact⟨by omega,Oa,.inl ⟨rfl,rfl⟩⟩
 · intro e D g F
   obtain rfl:=List.mem_singleton.1 D
   obtain⟨_,_,_,e,_⟩:=F;cases e
theorem Sat.iw{F G:Frame}(h:Sat w0 w l)(i:Nat)(hi:l[i]? =some (.sem F))(O:F.holds w->G.holds w)(I:∀g,G.has g->F.has g):Sat w0 w (l.set i (.sem G)):=by
 have D:=h
 rw [Yf hi] at D
 rw [YN hi]
 exact D.turn (d:= .sem F) (fun k _ _=>rfl) rfl rfl rfl (Nat.le_refl _) (O (h.holds _ (List.mem_of_getElem? hi))) (fun g J=> .inl (I g J))
theorem Sat.lw (h :Sat w0 w l) (i:Nat) (q:Nat) (D:(q:Int)<=n) (hi:l[i]? =some (.sem (Frame.dq E v n f)):=by exact rfl):Sat w0 w (l.set i (.sem (Frame.dq E (Rm v q) q f))):=
 h.iw i hi (fun ⟨G,h1,hd⟩=>⟨by omega,Oa,by
   rcases hd with⟨rfl,rfl⟩|⟨g,off,cap,cur,rfl,hg,h2,h3,h4,h5⟩
   · exact .inl ⟨by obtain rfl:q=0:=Oa
                    rfl,Oa⟩
   · exact .inr ⟨g,off,cap,cur,by simp [Rm],hg,Oa,h3,h4,fun k F=>h5 k Oa⟩⟩) (fun g ⟨a',lh,c,e,eb⟩=>by
   cases v with
   |slice a len cap=>cases e;exact⟨_,_,_,rfl,eb⟩
   |_=>cases e)
theorem Kh{e:Int}(h:Slh v n)(D:0<=e)(h1:e<=n):Slh (Rm v e.toNat) e:=by
 have:=ZcX (q:=e.toNat) h Oa
 rwa [Int.toNat_of_nonneg D] at this
theorem Kg{m:Int}(h:Slh v n)(hr:X2 v)(h1:1<=n)(e:n-1=m):Slh (XF v 1) m:=by
 subst e;exact(Xb (q:=1) h hr Oa).cf
theorem Sat.nq(h:Sat w0 w l)(i:Nat){m:Int}(e:n=m)(hi:l[i]? =some (.sem (Frame.dq E v n f)):=by exact rfl):Sat w0 w (l.set i (.sem (Frame.dq E v m f))):=by subst e;exact h.iw i hi id fun _ D=>D
theorem Sat.lv (h:Sat w0 w l) (i:Nat) (q:Nat) (D:(q:Int)<n) (hi:l[i]? =some (.sem (Frame.dq E v n f)):=by exact rfl):Sat w0 w (l.set i (.sem (Frame.dq E (XF v q) (n-q) (fun k=>f (k+q))))):=
 h.iw i hi (fun⟨G,h1,hd⟩=>⟨by omega,Oa,by
   rcases hd with⟨rfl,rfl⟩|⟨g,off,cap,cur,rfl,hg,h2,h3,h4,h5⟩
   · omega
   · refine .inr ⟨g,off+q,cap-q,cur,?_,hg,Oa,Oa,Oa,fun k F=> ?_⟩
     · unfold XF;dsimp only;rw [if_neg Oa];simp;try omega
     · rw [show off+q+k=off+(k+q) by omega,h5 (k+q) Oa];congr 3⟩) (fun g ⟨a',lh,c,e,eb⟩=>by
   cases v with
   | slice a len cap=>cases a with
     |none=>simp [XF] at e
     | some a=>
       unfold XF at e;dsimp only at e
       split at e
       · cases e;exact⟨_,_,_,rfl,eb⟩
       · cases e;exact⟨_,_,_,rfl,eb⟩
   |_=>cases e)
theorem ZjT {u:Value} {b:Nat} {a:Int} {zv:Value} (i:Nat) (ht:ZJ P T=some (E,1)) (he:ZV P E=some (zv,1,b)) (hS:Sat w0 w l) (hu:Row w u 1 1 (ints fun _=>a)) (ho:o.op= .call {callee:= .builtin .append,args:= #[x,y],argTypes:= #[T,T]}:=by exact rfl) (hz:zv.cells.size=1:=by exact rfl)
   (hi:l[i]? =some (.sem (Frame.dq E v n f)):=by exact rfl) (hx:evL L x=some v:=by exact rfl) (hy:evL L y=some u:=by exact rfl) (hb:b*(n+1)<=140737488355328:=by omega) (ac:n+1<=140737488355328:=by omega):
   ∃q w',Runs P L w o (.value q) w'/\Sat w0 w' (l.set i (.sem (Frame.dq E q (n+1) (snoc f n a))))/\Slh q (n+1):=by
 obtain⟨Z,_⟩:=Z8 ht
 obtain⟨Y,el,aa,I,ae⟩:=XJ he
 have hd:=hS.im i hi
 have qK:=Frame.dq.row hd
 obtain⟨h0,h1,hd⟩:=hd
 obtain⟨_,_,ua,G,rfl,ai⟩:=hu.cf
 obtain⟨W,D,rfl⟩:∃W D,ua=some ⟨W,D,none⟩:=by rcases ai with h|h;omega;exact h
 have yX:∀j t, [Value.int Oh a][j]? =some t->w.cell? ((⟨W,D,none⟩:Addr).add j)=some t:=fun j t J=>by
   rcases j with _|j
   · cases J
     have:=hu.2 0 Oa
     rw [Addr.add_eq _ rfl];simpa [cad,ints] using this
   · simp at J
 have eb:(n.toNat+1)*b<=140737488355328:=by
   have:(((n.toNat+1)*b:Nat):Int)=b*(n+1):=by rw [Int.natCast_mul,Int.natCast_add,Int.toNat_of_nonneg h0,Int.mul_comm];rfl
   omega
 have h':=hS
 rw [Yf hi] at h'
 have af:∃q w',(∀X:TypeId,(Builtin.append_ #[T,T] X #[v,.slice (some ⟨W,D,none⟩) 1 G]).run P w= .ok q w')/\(Frame.dq E q (n+1) (snoc f n a)).holds w'/\(∀k,k<w.heap.size->¬(Frame.dq E v n f).has k->w'.heap[k]? =w.heap[k]?)/\w'.tape=w.tape/\w'.os=w.os/\w'.output=w.output/\w.heap.size<=w'.heap.size/\
     (∀g,(Frame.dq E q (n+1) (snoc f n a)).has g->(Frame.dq E v n f).has g\/w.heap.size<=g):=by
   have jQ:n.toNat+1<=maxLen:=by unfold maxLen;omega
   have O:∀(F:Nat),F<n.toNat+1->∀(V:List Value),V.length=n.toNat->(∀k:Nat,(k:Int)<n->V[k]? =some (.int Oh (f k)))->
       (Frame.dq E (.slice (some ⟨w.heap.size,0,none⟩) (n.toNat+1) (grownCap w (n.toNat+1) F E)) (n+1) (snoc f n a)).holds (w.drew.alloc (.cells (V.toArray++ [Value.int Oh a].toArray++Builtin.zeroCells zv.cells (grownCap w (n.toNat+1) F E-(n.toNat+1))) E)):=fun F ho V ah ag=>by
     have au:=grownCap_ge w (n.toNat+1) F E
     have ap:grownCap w (n.toNat+1) F E<=maxLen:=grownCap_le_maxLen w (n.toNat+1) F E jQ
     refine⟨by omega,ac,.inr ⟨w.heap.size,0,_,_,by rw [show(n+1).toNat=n.toNat+1 by omega],heap_alloc_new w.drew _,Oa,ap,?_,fun k U=> ?_⟩⟩
     · simp only [Array.size_append,List.size_toArray,size_zeroCells,hz,ah,List.length_cons,List.length_nil];omega
     · have e1:(V.toArray++ [Value.int Oh a].toArray++Builtin.zeroCells zv.cells (grownCap w (n.toNat+1) F E-(n.toNat+1)))[0+k]? =(V++ [Value.int Oh a])[k]? :=by
         rw [Nat.zero_add,Array.getElem?_append_left (by simp;omega)];simp
       rw [e1,List.getElem?_append]
       by_cases hk2:(k:Int)<n
       · rw [if_pos Oa,ag k hk2,Zl hk2]
       · rw [if_neg Oa,show k-V.length=0 by omega,Zk hk2];rfl
   rcases hd with⟨rfl,rfl⟩|⟨g,off,cap,cur,rfl,hg,h2,h3,h4,h5⟩
   · refine⟨_,_,fun X=>run_append_nil (P:=P) w T X E Y zv Z el aa ⟨W,D,none⟩ 1 G [Value.int Oh a] (by rw [I];rfl) yX Oa Oa (by rw [ae];omega),?_,fun k U _=>heap_alloc_old w.drew _ U,rfl,rfl,rfl,by simp,fun g ⟨_,_,_,e,eb⟩=>by cases e;exact .inr (Nat.le_of_eq eb)⟩
     have:=O 0 Oa [] rfl (fun k U=>Oa)
     simpa using this
   · by_cases hroom:n.toNat+1<=cap
     · have gT:∀k,k<cur.size->w.cell? ⟨g,k,none⟩=cur[k]? :=fun k _=>cell_of_row w g k cur E (0,0) hg
       refine⟨_,_,fun X=>run_append_room_cells (P:=P) w T X E Y Z el g off n.toNat cap ⟨W,D,none⟩ 1 G [Value.int Oh a] (by rw [I];rfl) yX (fun u hu=>by simp at hu;subst hu;rfl) hroom (fun j J=>by
           simp at J;subst J
           rw [I,Nat.mul_one,gT _ Oa];simp;omega) (fun j J=>by
           simp at J;subst J
           simp [World.frozen?,hg]),?_,fun k U an=> ?_,rfl,rfl,rfl,?_,fun g' ⟨_,_,_,e,eb⟩=> .inl (by cases e;exact⟨_,_,_,rfl,eb⟩)⟩
       · refine⟨by omega,ac,.inr ⟨g,off,cap,cur.setIfInBounds (off+n.toNat) (.int Oh a),by rw [show(n+1).toNat=n.toNat+1 by omega],?_,Oa,h3,by simp;omega,fun k U=> ?_⟩⟩
         · simp [World.setCells,World.setCell,Array.getElem?_modify,hg,I]
         · rw [Array.getElem?_setIfInBounds]
           by_cases hk2:(k:Int)<n
           · rw [if_neg Oa,h5 k hk2,Zl hk2]
           · rw [if_pos Oa,if_pos Oa,Zk hk2]
       · exact Below.heap_setCell _ _ _ _ fun e=>an (by rw [e];exact⟨_,_,_,rfl,rfl⟩)
       · simp [World.setCells,World.setCell]
     · have ab:∀k:Nat,(k:Int)<n->(ZB f n|>.map (Value.int .i64))[k]? =some (.int Oh (f k)):=fun k U=>by
         have ao:k<n.toNat:=Oa
         simp [ZB,ao]
       have ad:(ZB f n|>.map (Value.int .i64)).length=n.toNat:=by simp [ZB]
       refine⟨_,_,fun X=>run_append_grow (P:=P) w T X E Y zv Z el aa ⟨g,off,none⟩ n.toNat cap (ZB f n|>.map (Value.int .i64)) (by rw [I,ad];omega) (fun j t J=> ?_) ⟨W,D,none⟩ 1 G [Value.int Oh a] (by rw [I];rfl) yX Oa Oa (growslice_fits Oa (by rw [ae];exact eb)),?_,fun k U _=>heap_alloc_old w.drew _ U,rfl,rfl,rfl,by simp,fun g ⟨_,_,_,e,eb⟩=>by cases e;exact .inr (Nat.le_of_eq eb)⟩
       · have ar:j<n.toNat:=by
           have:=(List.getElem?_eq_some_iff.1 J).1;omega
         rw [ab j Oa] at J;cases J
         rw [Addr.add_eq _ rfl,cell_of_row w g _ cur E (0,0) hg];exact h5 j Oa
       · exact O cap Oa _ ad ab
 obtain⟨q,w',hr,hq,aq,aj,am,al,ak,hh⟩:=af
 refine⟨q,w',fun ρ h=> ?_,?_,(Frame.dq.row hq).cf⟩
 · simp [execOp,ho,resolve,invoke,builtin,h _ _ hx,h _ _ hy,hr]
 · rw [YN hi]
   exact h'.turn aq aj am al ak hq hh
end
end Go.Proofs.Gw
namespace Go.Proofs.Gw
open Go Go.RowKit
variable {M cap i k m r y:Int} {A T g x:Oe}
structure DQ (A:Oe) (M k q:Int) (g:Oe):Prop where
  q0:0<=q
  ia:∀i,0<=i->i<q->max 0 (k-1-M)<=g i/\g i<=k-1
  mon:∀i,0<=i->i+1<q->g i<g (i+1)/\A (g (i+1))<A (g i)
  ir:∀j,max 0 (k-1-M)<=j->j<=k-1->∃i,0<=i/\i<q/\j<=g i/\A j<=A (g i)
structure DQp (A:Oe) (M k q:Int) (g:Oe):Prop where
  q0:0<=q
  ia:∀i,0<=i->i<q->max 0 (k-1-M)<=g i/\g i<=k-1
  mon:∀i,0<=i->i+1<q->g i<g (i+1)/\A (g (i+1))<A (g i)
  ir:∀j,max 0 (k-1-M)<=j->j<=k-1->(∃i,0<=i/\i<q/\j<=g i/\A j<=A (g i))\/A j<=A k
theorem DQ.start(A:Oe)(M:Int)(g:Oe):DQ A M 0 0 g:=⟨by omega,fun i _ _=>Oa,fun i _ _=>Oa,fun j _ _=>Oa⟩
theorem DQ.p{q:Int}(h:DQ A M k q g):DQp A M k q g:=⟨h.q0,h.ia,h.mon,fun j a b=> .inl (h.ir j a b)⟩
theorem DQp.pop{q:Int}(h:DQp A M k q g)(J:0<q)(O:A (g (q-1))<=A k):DQp A M k (q-1) g:=
 ⟨by omega,fun i D F=>h.ia i D Oa,fun i D F=>h.mon i D Oa,fun j I G=>by
   rcases h.ir j I G with⟨i,D,F,h1,h2⟩|h1
   · by_cases e:i=q-1
     · subst e;exact .inr Oa
     · exact .inl ⟨i,D,Oa,h1,h2⟩
   · exact .inr h1⟩
structure DQa (A:Oe) (M k q:Int) (g:Oe):Prop where
  q0:1<=q
  ia:∀i,0<=i->i<q->max 0 (k-1-M)<=g i/\g i<=k
  mon:∀i,0<=i->i+1<q->g i<g (i+1)/\A (g (i+1))<A (g i)
  ir:∀j,max 0 (k-1-M)<=j->j<=k->∃i,0<=i/\i<q/\j<=g i/\A j<=A (g i)
  last:g (q-1)=k
theorem DQp.push{q:Int}(h:DQp A M k q g)(J:0<=k)(hM:0<=M)(U:q<=0\/A k<A (g (q-1))):DQa A M k (q+1) (snoc g q k):=by
 have I:=h.q0
 refine⟨by omega,fun i D F=> ?_,fun i D F=> ?_,fun j G O=> ?_,?_⟩
 · by_cases e:i<q
   · rw [Zl e];have:=h.ia i D e;omega
   · rw [Zk e];omega
 · rw [Zl (show i<q by omega)]
   by_cases e:i+1<q
   · rw [Zl e];exact h.mon i D e
   · rw [Zk e]
     obtain rfl:i=q-1:=Oa
     have:=h.ia (q-1) D Oa
     omega
 · by_cases e:j=k
   · subst e;exact⟨q,Oa,Oa,by rw [Zk Oa];omega,by rw [Zk Oa];omega⟩
   · rcases h.ir j G Oa with⟨i,D,F,h1,h2⟩|h1
     · exact⟨i,D,Oa,by rw [Zl F];exact h1,by rw [Zl F];exact h2⟩
     · exact⟨q,Oa,Oa,by rw [Zk Oa];omega,by rw [Zk Oa];exact h1⟩
 · rw [Zk Oa]
theorem DQa.up{A:Oe}{M k q:Int}{g:Oe}(h:DQa A M k q g):∀i:Nat,(i:Int)<q->g 0+i<=g i/\A (g i)<=A (g 0)
 |0,_=>⟨by simp,Int.le_refl _⟩
 | i+1,hi=>by
   have h1:=h.up i Oa
   have D:=h.mon i Oa Oa
   rw [show((i+1:Nat):Int)=(i:Int)+1 by omega]
   omega
theorem DQa.keep{q:Int}(h:DQa A M k q g)(G:0<=k)(U:¬g 0<k-M):DQ A M (k+1) q g:=by
 have O:=h.q0
 refine⟨by omega,fun i D F=> ?_,h.mon,fun j J I=>h.ir j Oa Oa⟩
 have h1:=h.up i.toNat Oa
 rw [Int.toNat_of_nonneg D] at h1
 have:=h.ia i D F;have:=h.ia 0 Oa Oa
 omega
theorem DQa.more{q:Int}(h:DQa A M k q g)(hM:0<=M)(F:g 0<k-M):1<q:=by
 have:=h.q0;have D:=h.last
 by_cases e:q=1
 · subst e;rw [show(1:Int)-1=0 by omega] at D;omega
 · omega
theorem DQa.drop{q p:Int}(h:DQa A M k q g)(I:0<=k)(hM:0<=M)(V:g 0<k-M)(e:q-1=p:=by omega):DQ A M (k+1) p (fun i=>g (i+1)):=by
 subst e
 have U:=h.q0
 refine⟨by omega,fun i F D=> ?_,fun i F D=>h.mon (i+1) Oa Oa,fun j O J=> ?_⟩
 · have h1:=h.up (i+1).toNat Oa
   rw [Int.toNat_of_nonneg Oa] at h1
   have G:=h.ia (i+1) Oa Oa;have W:=h.ia 0 Oa Oa
   omega
 · obtain⟨i,F,D,h1,G⟩:=h.ir j Oa Oa
   by_cases e:i=0
   · subst e;omega
   · exact⟨i-1,Oa,Oa,by rw [show i-1+1=i by omega];exact h1,by rw [show i-1+1=i by omega];exact G⟩
theorem DQ.best{q:Int}(h:DQ A M (k+1) q g)(I:0<=k)(hM:0<=M):0<q/\max 0 (k-M)<=g 0/\g 0<=k/\∀j,max 0 (k-M)<=j->j<=k->A j<=A (g 0):=by
 obtain⟨i,D,F,_,_⟩:=h.ir k Oa Oa
 have hr:=h.ia 0 Oa Oa
 have up:∀i:Nat,(i:Int)<q->A (g i)<=A (g 0):=fun i=>by
   induction i with
   |zero=>intro _;exact Int.le_refl _
   | succ i ih=>
     intro hi
     have h1:=ih Oa
     have G:=h.mon i Oa Oa
     rw [show((i+1:Nat):Int)=(i:Int)+1 by omega]
     omega
 refine⟨by omega,Oa,Oa,fun j O J=> ?_⟩
 obtain⟨i,D,F,h1,G⟩:=h.ir j Oa Oa
 have:=up i.toNat Oa
 rw [Int.toNat_of_nonneg D] at this
 omega
theorem DQ.len{q:Int}(h:DQ A M k q g)(G:0<=k):q<=k:=by
 have up:∀i:Nat,(i:Int)<q->g 0+i<=g i:=fun i=>by
   induction i with
   |zero=>intro _;simp
   | succ i ih=>
     intro hi
     have h1:=ih Oa
     have F:=h.mon i Oa Oa
     rw [show((i+1:Nat):Int)=(i:Int)+1 by omega]
     omega
 rcases Int.lt_or_le 0 q with D|D
 · have h1:=up (q-1).toNat Oa
   rw [Int.toNat_of_nonneg Oa] at h1
   have F:=h.ia 0 Oa D;have I:=h.ia (q-1) Oa Oa
   omega
 · omega
theorem Tp {s b:Int} (X:1<=s) (hM:0<=M) (W:0<=r) (V:r<s) (F:0<=k) (b0:max 0 (k-M)<=b) (Z:b<=k) (J:∀j,max 0 (k-M)<=j->j<=k->T (r+j*s)-j*y<=T (r+b*s)-b*y):
   R T s y M.toNat (r+k*s)=T (r+b*s)-b*y+k*y:=by
 have I:0<=k*s:=Int.mul_nonneg F Oa
 apply Int.le_antisymm
 · obtain⟨n,h1,Y,U⟩:=ZbO T s y M.toNat (r+k*s) Oa
   have G:(n:Int)<=k:=by
     rcases Int.lt_or_le k n with h|h
     · have:=Int.mul_le_mul_of_nonneg_right (show k+1<=(n:Int) by omega) (show 0<=s by omega)
       rw [Int.add_mul] at this;omega
     · exact h
   have O:=J (k-n) Oa Oa
   have D:r+(k-n)*s=r+k*s-n*s:=by rw [Int.sub_mul];omega
   rw [D,Int.sub_mul] at O
   rw [U];omega
 · have h1:=ZcJ T s y M.toNat (k-b).toNat (r+k*s) Oa (by
     have:=Int.mul_le_mul_of_nonneg_right (show(((k-b).toNat:Nat):Int)<=k by omega) (show 0<=s by omega);omega)
   rw [Int.toNat_of_nonneg Oa,Int.sub_mul,Int.sub_mul] at h1
   have D:r+k*s-(k*s-b*s)=r+b*s:=Oa
   rw [D] at h1;omega
def LY(T:Oe)(s y m n r k:Int)(g:Oe):Prop:=∀c,0<=c->c<n->(c%s<r\/(c%s=r/\c<r+k*s))->g c=R T s y m.toNat c
theorem Zfi{s:Int}(D:0<=k)(F:1<=s):k<=k*s:=by
 have:=Int.mul_le_mul_of_nonneg_left F D;omega
theorem R2{j s n:Int}(I:1<=s)(G:0<=r)(F:0<=j)(D:j<=k)(h:r+k*s<n):0<=j*s/\j*s<=k*s/\r+j*s<n:=by
 have h1:=Int.mul_nonneg F (show 0<=s by omega)
 have J:=Int.mul_le_mul_of_nonneg_right D (show 0<=s by omega)
 omega
theorem Wj{j:Int}(F:0<=j)(D:j<=4001)(y0:0<=y)(y1:y<=1073741824):0<=j*y/\j*y<=4296041037824:=by
 have h1:=Int.mul_nonneg F y0
 have G:=Int.mul_le_mul D y1 y0 Oa
 omega
theorem LY.start (T:Oe) {s n:Int} (h:∀c,0<=c->c<n->c%s<r->g c=R T s y m.toNat c):LY T s y m n r 0 g:=fun c D G hc=>by
 rcases hc with hc|⟨_,hc⟩
 · exact h c D G hc
 · by_cases hs:c%s<r
   · exact h c D G hs
   · exfalso
     rename_i hr
     have:c%s<=c:=by
       by_cases hs0:0<s
       · rcases Int.lt_or_le c s with h1|h1
         · rw [Int.emod_eq_of_lt D h1];omega
         · have:=Int.emod_lt_of_pos c hs0;omega
       · by_cases e:s=0
         · subst e;simp
         · have h1:=Int.emod_lt_of_pos c (show 0< -s by omega)
           rw [Int.emod_neg] at h1
           have I:=Int.emod_emod_of_dvd c (show(-s)∣s from⟨-1,Oa⟩)
           rcases Int.lt_or_le c (-s) with F|F
           · have:=Int.emod_eq_of_lt D F;rw [Int.emod_neg] at this;omega
           · omega
     omega
theorem LY.step {s n v:Int} (h:LY T s y m n r k g) (V:1<=s) (O:0<=r) (J:r<s) (U:0<=k) (hv:R T s y m.toNat (r+k*s)=v):LY T s y m n r (k+1) (upd g (r+k*s) v):=fun c I G hc=>by
 by_cases e:c=r+k*s
 · subst e;rw [ZA,hv]
 · rw [upd_ne _ _ e]
   refine h c I G ?_
   rcases hc with hc|⟨hc,D⟩
   · exact .inl hc
   · refine .inr ⟨hc,?_⟩
     have h1:=Int.mul_ediv_add_emod c s
     rw [hc] at h1
     rcases Int.lt_trichotomy (c/s) k with F|F|F
     · have:=Int.mul_le_mul_of_nonneg_left (show c/s+1<=k by omega) (show 0<=s by omega)
       rw [Int.mul_add,Int.mul_comm s k] at this;omega
     · rw [F,Int.mul_comm] at h1;omega
     · have:=Int.mul_le_mul_of_nonneg_left (show k+1<=c/s by omega) (show 0<=s by omega)
       rw [Int.mul_add,Int.mul_comm s k] at this
       rw [Int.add_mul] at D;omega
theorem LY.fin{s n:Int}(h:LY T s y m n r k g)(G:¬r+k*s<n):∀c,0<=c->c<n->c%s<r+1->g c=R T s y m.toNat c:=fun c F D hc=>h c F D Oa
structure Its where
  n:Int
  S:Oe
  V:Oe
  M:Oe
def Yy(s v m:Int):Prop:=1<=s/\s<=4000/\0<=v/\v<=1073741824/\0<=m/\m<=1000
def Its.each(t:Its)(i:Int):Prop:=Yy (t.S i) (t.V i) (t.M i)
structure Its.Ok (t:Its) (cap:Int):Prop where
  n:t.n<=20
  c0:0<=cap
  c1:cap<=4000
  all:∀i,0<=i->i<t.n->t.each i
def KT(t:Its):Nat->Int->Int
  |0=>fun _=>0
  |k+1=>R (KT t k) (t.S (t.n-1-k)) (t.V (t.n-1-k)) (t.M (t.n-1-k)).toNat
def KI(t:Its)(i:Int):Oe:=KT t (t.n-i).toNat
theorem ZcK(t:Its):KI t t.n=fun _=>0:=by unfold KI;rw [show(t.n-t.n).toNat=0 by omega];rfl
theorem ZaG(t:Its)(F:0<=i)(D:i<t.n):KI t i=R (KI t (i+1)) (t.S i) (t.V i) (t.M i).toNat:=by
 unfold KI
 rw [show(t.n-i).toNat=(t.n-(i+1)).toNat+1 by omega]
 show R _ _ _ _=_
 rw [show t.n-1-(((t.n-(i+1)).toNat:Nat):Int)=i by omega]
theorem ZbT{t:Its}{cap:Int}(h:t.Ok cap):∀k:Nat,(k:Int)<=t.n->∀c,0<=c->0<=KT t k c/\KT t k c<=c*1073741824
 |0,_,c,hc=>⟨Int.le_refl _,by show 0<=_;omega⟩
 | k+1,hk,c,hc=>by
   have D:=h.all (t.n-1-k) Oa Oa
   unfold Its.each Yy at D
   exact ZaB D.1 D.2.2.1 D.2.2.2.1 (fun c F=>ZbT h k Oa c F) _ c hc
theorem Xs{t:Its}(h:t.Ok cap)(G:0<=i)(F:i<=t.n){c:Int}(D:0<=c):0<=KI t i c/\KI t i c<=c*1073741824:=ZbT h _ Oa c D
def KU(t:Its)(x:Oe)(i:Nat):Int:=Zf (fun k=>x k*t.S k) i
def KW(t:Its)(x:Oe)(i:Nat):Int:=Zf (fun k=>x k*t.V k) i
def KX(t:Its)(cap:Int)(x:Oe)(n:Int):Prop:=∀i,0<=i->i<n->0<=x i/\x i<=t.M i/\x i*t.S i<=cap-KU t x i.toNat/\KI t (i+1) (cap-KU t x i.toNat-x i*t.S i)+x i*t.V i=KI t i (cap-KU t x i.toNat)/\
  ∀j,x i<j->j<=t.M i->j*t.S i<=cap-KU t x i.toNat->KI t (i+1) (cap-KU t x i.toNat-j*t.S i)+j*t.V i≠KI t i (cap-KU t x i.toNat)
theorem ZdR(t:Its)(x:Oe)(h:0<=i):KU t x (i+1).toNat=KU t x i.toNat+x i*t.S i:=ZH _ h
theorem Zjn(t:Its)(x:Oe)(h:0<=i):KW t x (i+1).toNat=KW t x i.toNat+x i*t.V i:=ZH _ h
theorem Ri(t:Its){z:Oe}{n:Nat}(h:∀i,0<=i->i<(n:Int)->x i=z i):KU t x n=KU t z n:=Zj fun i F D=>by rw [h i F D]
theorem KX.snoc{t:Its}{cap:Int}{x:Oe}{i n:Int}(h:KX t cap x i)(V:0<=i)(n0:0<=n)(n1:n<=t.M i)(n2:n*t.S i<=cap-KU t x i.toNat)(G:KI t (i+1) (cap-KU t x i.toNat-n*t.S i)+n*t.V i=KI t i (cap-KU t x i.toNat))
   (I:∀j,n<j->j<=t.M i->j*t.S i<=cap-KU t x i.toNat->KI t (i+1) (cap-KU t x i.toNat-j*t.S i)+j*t.V i≠KI t i (cap-KU t x i.toNat)):KX t cap (snoc x i n) (i+1):=fun k D U=>by
 have F:KU t (Gw.snoc x i n) k.toNat=KU t x k.toNat:=Ri t fun q O J=>Zl Oa
 rw [F]
 by_cases e:k<i
 · rw [Zl e];exact h k D e
 · obtain rfl:k=i:=Oa
   rw [Zk Oa];exact⟨n0,n1,n2,G,I⟩
theorem ZaF(t:Its)(x:Oe)(n:Int)(D:0<=i):KU t (snoc x i n) (i+1).toNat=KU t x i.toNat+n*t.S i:=by
 rw [ZdR t _ D,Zk Oa]
 congr 1
 exact Ri t fun q G F=>Zl Oa
theorem ZjP{t:Its}(h:t.Ok cap){c:Int}(F:0<=i)(D:i<t.n)(O:0<=c):∃j,0<=j/\j<=t.M i/\j*t.S i<=c/\KI t (i+1) (c-j*t.S i)+j*t.V i=KI t i c:=by
 have G:=h.all i F D
 unfold Its.each Yy at G
 obtain⟨j,h1,J,I⟩:=ZbO (KI t (i+1)) (t.S i) (t.V i) (t.M i).toNat c O
 exact⟨j,Oa,Oa,J,by rw [ZaG t F D,I]⟩
theorem KX.same{t:Its}{cap:Int}{x z:Oe}:∀{n:Nat},KX t cap x n->KX t cap z n->∀i,0<=i->i<(n:Int)->x i=z i
 |0,_,_,i,_,_=>Oa
 | n +1,hx,hz,i,i0,i1=>by
   have D:=KX.same (n:=n) (fun i a b=>hx i a Oa) (fun i a b=>hz i a Oa)
   by_cases e:i=n
   · have O:KU t x i.toNat=KU t z i.toNat:=Ri t fun k J Y=>D k J Oa
     obtain⟨a1,a2,I,G,F⟩:=hx i i0 i1
     obtain⟨Z,X,W,V,U⟩:=hz i i0 i1
     rw [O] at I G F
     rcases Int.lt_trichotomy (x i) (z i) with h|h|h
     · exact absurd V (F _ h X W)
     · exact h
     · exact absurd G (U _ h a2 I)
   · exact D i i0 Oa
theorem KX.sum{t:Its}{cap:Int}(hc:0<=cap){x:Oe}:∀{n:Nat},KX t cap x n->(n:Int)<=t.n->KU t x n<=cap/\KW t x n+KI t n (cap-KU t x n)=KI t 0 cap
 |0,_,_=>by simp [KU,KW,Zf];exact hc
 | n+1,h,hn=>by
   obtain⟨U,a2⟩:=KX.sum hc (n:=n) (fun i x y=>h i x Oa) Oa
   obtain⟨O,J,I,G,_⟩:=h n Oa Oa
   have F:=ZdR t x (i:=n) Oa
   have D:=Zjn t x (i:=n) Oa
   rw [Int.toNat_natCast] at I G
   rw [show((n:Int)+1).toNat=n+1 by omega,Int.toNat_natCast] at F D
   rw [F,D,show((n+1:Nat):Int)=(n:Int)+1 by omega,show cap-(KU t x n+x n*t.S n)=cap-KU t x n-x n*t.S n by omega]
   omega
theorem KX.ng{t:Its}(hc:0<=cap)(hn:0<=t.n)(h:KX t cap x t.n):KU t x t.n.toNat<=cap/\KW t x t.n.toNat=KI t 0 cap:=by
 obtain⟨h1,D⟩:=KX.sum hc (n:=t.n.toNat) (by rw [Int.toNat_of_nonneg hn];exact h) Oa
 rw [Int.toNat_of_nonneg hn,ZcK] at D
 exact⟨h1,by simpa using D⟩
theorem KL(f:Oe)(n:Nat):Zf f (n+1)=f 0+Zf (fun j=>f (j+1)) n:=by
 induction n with
 |zero=>simp [Zf]
 | succ n ih=>
   simp only [Zf] at*
   rw [ih,show((n+1:Nat):Int)=(n:Int)+1 by omega];omega
theorem Zhv{t:Its}(F:∀i,0<=i->i<t.n->1<=t.S i){x:Oe}(D:∀i,0<=i->i<t.n->0<=x i/\x i<=t.M i):∀(k:Nat) (c:Int),(k:Int)<=t.n->Zf (fun j=>x (t.n-k+j)*t.S (t.n-k+j)) k<=c->Zf (fun j=>x (t.n-k+j)*t.V (t.n-k+j)) k<=KT t k c
 |0,c,_,_=>by simp [Zf,KT]
 | k+1,c,hk,hc=>by
   rw [KL] at hc⊢
   have G:∀f:Oe,Zf (fun j=>f (t.n-((k+1:Nat):Int)+(j+1))) k=Zf (fun j=>f (t.n-k+j)) k:=fun f=>Zj fun j _ _=>by congr 1;omega
   rw [G (fun i=>x i*t.S i),show t.n-((k+1:Nat):Int)+0=t.n-1-k by omega] at hc
   rw [G (fun i=>x i*t.V i),show t.n-((k+1:Nat):Int)+0=t.n-1-k by omega]
   have h1:=D (t.n-1-k) Oa Oa
   have V:0<=Zf (fun j=>x (t.n-k+j)*t.S (t.n-k+j)) k:=Yi fun j O J=>Int.mul_nonneg (D _ Oa Oa).1 (by have:=F (t.n-k+j) Oa Oa;omega)
   have U:=Zhv F D k (c-x (t.n-1-k)*t.S (t.n-1-k)) Oa Oa
   have I:=ZcJ (KT t k) (t.S (t.n-1-k)) (t.V (t.n-1-k)) (t.M (t.n-1-k)).toNat (x (t.n-1-k)).toNat c Oa (by rw [Int.toNat_of_nonneg h1.1];omega)
   rw [Int.toNat_of_nonneg h1.1] at I
   show _<=R _ _ _ _ _
   omega
theorem Zm3{t:Its}(hn:0<=t.n)(F:∀i,0<=i->i<t.n->1<=t.S i)(D:∀i,0<=i->i<t.n->0<=x i/\x i<=t.M i)(hc:KU t x t.n.toNat<=cap):KW t x t.n.toNat<=KI t 0 cap:=by
 have:=Zhv F D t.n.toNat cap Oa
 rw [Int.toNat_of_nonneg hn] at this
 simp only [Int.sub_self,Int.zero_add] at this
 have G:=this hc
 unfold KI;rwa [Int.sub_zero]
end Go.Proofs.Gw
namespace Go.Proofs.Gw
open Go Go.RowKit
variable {i k:Int}
def okF(kind k c:Int):Prop:=(kind=0/\k=0)\/(kind=1/\1<=k/\k<=100)\/(kind=2/\1<=k/\k<=c.tdiv 2)
def dfv(kind k x c:Int):Int:=
  if kind=0 then x else if kind=1 then(if((k+1)*x).tmod c=0 then k*x else((k+1)*x).tdiv c*c) else(if c-k<x then c else if x<k then 0 else x)
def ZW(W H N:Oe):Int->Value:=fun k=>if k%3=0 then .int Oh (W (k/3)) else if k%3=1 then .int Oh (H (k/3)) else .int Oh (N (k/3))
theorem Zix(W H N:Oe)(h:k=3*i):ZW W H N k= .int Oh (W i):=by
 subst h;unfold ZW;rw [if_pos Oa];congr 2;omega
theorem Ziw(W H N:Oe)(h:k=3*i+1):ZW W H N k= .int Oh (H i):=by
 subst h;unfold ZW;rw [if_neg Oa,if_pos Oa];congr 2;omega
theorem Ziv(W H N:Oe)(h:k=3*i+2):ZW W H N k= .int Oh (N i):=by
 subst h;unfold ZW;rw [if_neg Oa,if_neg Oa];congr 2;omega
theorem XO(W H N:Oe)(h:k=3*i):∀(j:Nat) u, [Value.int Oh (W i),.int Oh (H i),.int Oh (N i)][j]? =some u->ZW W H N (k+j)=u:=fun j u D=>by
 rcases j with _|_|_|j
 · cases D;exact Zix W H N Oa
 · cases D;exact Ziw W H N Oa
 · cases D;exact Ziv W H N Oa
 · simp at D
theorem T3(W H N:Oe)(k:Int):(ZW W H N k).oneCell'=true:=by
 unfold ZW
 split
 · rfl
 · split<;>rfl
theorem Ur{W H N D G F:Oe}{n:Int}(h:∀k,0<=k->k<n->W k=D k/\H k=G k/\N k=F k):∀k,0<=k->k<n*(3:Nat)->ZW W H N k=ZW D G F k:=fun k U O=>by
 obtain⟨h1,J,I⟩:=h (k/3) Oa Oa
 unfold ZW
 rw [h1,J,I]
structure DAt (w:World) (v:Value) (n:Int) (W H N:Oe):Prop where
  row:Row w v 3 n (ZW W H N)
  bw:∀i,-9223372036854775808<=W i/\W i<=9223372036854775807
  bh:∀i,-9223372036854775808<=H i/\H i<=9223372036854775807
  bn:∀i,-9223372036854775808<=N i/\N i<=9223372036854775807
theorem DAt.below{w w':World}{v:Value}{n:Int}{W H N:Oe}(h:DAt w v n W H N)(D:Below w.heap.size w w'):DAt w' v n W H N:=⟨h.row.below D,h.bw,h.bh,h.bn⟩
theorem T7(W H N:Oe)(n a b c:Int):cat (n*3) (ZW W H N) (ZW (fun _=>a) (fun _=>b) (fun _=>c))=ZW (snoc W n a) (snoc H n b) (snoc N n c):=by
 funext k
 unfold cat ZW snoc
 by_cases h:k<n*3
 · have:k/3<n:=Oa
   simp only [if_pos h,if_pos this]
 · have:¬k/3<n:=Oa
   have e:(k-n*3)%3=k%3:=Oa
   simp only [if_neg h,if_neg this,e]
end Go.Proofs.Gw
namespace Go.Proofs.Gw
open Go Go.RowKit
structure FL (l:List (Int×Int)) (n:Int) (K A:Oe):Prop where
  len:(l.length:Int)=n
  get:∀(k:Nat) x,l[k]? =some x->K k=x.1/\A k=x.2
theorem FL.at{l:List (Int×Int)}{n:Int}{K A:Oe}(h:FL l n K A){k:Int}(F:0<=k)(h1:k<n):l[k.toNat]? =some (K k,A k):=by
 have G:=h.len
 have D:k.toNat<l.length:=Oa
 have:=h.get k.toNat _ (List.getElem?_eq_getElem D)
 rw [Int.toNat_of_nonneg F] at this
 rw [List.getElem?_eq_getElem D,this.1,this.2]
def base(k:Nat):List (Int×Int):=(0,0)::(List.range k).map fun i:Nat=>(1,(i:Int)+1)
def CandL(S:Int->Prop)(l:List (Int×Int)):Prop:=∃m:List Int,l=base 5++m.map (fun a=>((2:Int),a))/\m.Pairwise (· < ·)/\∀a,a∈m↔S a
theorem CandL.len{S:Int->Prop}{l:List (Int×Int)}(h:CandL S l):6<=l.length/\l[0]? =some (0,0):=by
 obtain⟨m,rfl,_⟩:=h
 exact⟨by simp [base],rfl⟩
def before(i j I J:Int):Prop:=i<I\/(i=I/\j<J)
end Go.Proofs.Gw
namespace Go.Proofs.YtkichmnjjblodaaGreat
open Go Go.RowKit Go.Proofs.Gw
variable {vI:Value}
theorem ZkX:Zc Oj 221=true:=Ob
theorem ZkW:Zc Oj 222=true:=Ob
theorem ZkT:Zc Oj 230=true:=Ob
theorem UN:Zc Oj 231=true:=Ob
theorem fd_247_0:Zv Oj 247 0=some 0:=Ob
theorem fd_247_1:Zv Oj 247 1=some 1:=Ob
theorem fd_247_2:Zv Oj 247 2=some 2:=Ob
theorem XS:ZJ Oj 246=some (247,3):=Ob
theorem KN:ZC Oj 247=some 3:=Ob
theorem Zoa{a b c:Int}(w0:World):
   Calls Oj 221 [.agg #[.int Oh a,.int Oh b,.int Oh c]].toArray w0 fun e w=>∃v,e= .returned v/\v=B (¬Yy a b c)/\Sat w0 w []:=by
 refine zenG Tryz.func221 Tryz.ntmps221 fun w D=> ?_
 refine zsr<|zla (xbx (cs:= [_,_,_]) D) ?_;rintro _ w ⟨F,rfl,D⟩
 refine(zP)<|zlz<|(zV (xfb 0 fd_247_0))<|(zV (xlb 0 pl_3 D))<|(Om)<|zlb 6 ?_ ?_<;>intro hc;rotate_left
 refine(zV (xfb 0 fd_247_0))<|(zV (xlb 0 pl_3 D))<|(On)<|zlb 11 ?_ ?_<;>intro hc;rotate_left
 refine(zV (xfb 1 fd_247_1))<|(zV (xlb 0 pl_3 D))<|(On)<|zlb 16 ?_ ?_<;>intro hc;rotate_left
 refine(zV (xfb 1 fd_247_1))<|(zV (xlb 0 pl_3 D))<|(On)<|zlb 21 ?_ ?_<;>intro hc;rotate_left
 refine(zV (xfb 2 fd_247_2))<|(zV (xlb 0 pl_3 D))<|(On)<|zlb 26 ?_ ?_<;>intro hc;rotate_left
 refine(zV (xfb 2 fd_247_2))<|(zV (xlb 0 pl_3 D))<|(On)<|zx1<|Oi ?_
 exact⟨Zn (by unfold Yy;omega),D.nl⟩
 all_goals
  refine zOps ?_
  refine zx1<|Oi ?_
  exact⟨ZT (by unfold Yy;omega),D.nl⟩
theorem Zg4{t:Its}(w0:World)(G:Row w0 vI 3 t.n (ZW t.S t.V t.M)):
   Calls Oj 230 [vI,.func (.func 221) #[] #[]].toArray w0 fun e w=>∃v,e= .returned v/\∃r:Int,v= .int Oh r/\((r= -1/\∀k,0<=k->k<t.n->¬(¬Yy (t.S k) (t.V k) (t.M k)))\/(0<=r/\r<t.n/\(¬Yy (t.S r) (t.V r) (t.M r))))/\Sat w0 w []:=by
 have hn:=G.cf.n0;have W:=G.cf.n1
 refine zenG Tryz.func230 Tryz.ntmps230 fun w D=> ?_
 refine zsr<|(zP)<|zx5<|(zP)<|(zV (xln XS G.cf))<|(zP)<|zx6<|zlp (fun V M w=>∃(i:Int),V=((t.n-i).toNat)/\(0<=i)/\(i<=t.n)/\(∀k,0<=k->k<i->¬(¬Yy (t.S k) (t.V k) (t.M k)))/\M= [(0,vI),(1,.func (.func 221) #[] #[]),(7,.int Oh t.n),(8,.int Oh i)]/\Sat w0 w []) ⟨0,rfl,Oa,Oa,?_,rfl,D⟩ ?_
 ·
  intro k O h1;omega
 clear D w
 rintro V M w ⟨i,rfl,O,h1,U,rfl,D⟩
 refine zsr<|(zP)<|zx7<|Ze ?_ ?_<;>intro hc
 ·
  refine zx3<|(Om)<|zlz<|(On)<|(zV (xix (kk:=3*i) XS G.cf))<|(zV (xlw (cs:= [.int Oh (t.S i),.int Oh (t.V i),.int Oh (t.M i)]) KN (G.below D.below) (XO (k:=3*i) (i:=i) t.S t.V t.M Oa)))<|zlc (xc0 ZkX) (Zoa (a:=(t.S i)) (b:=(t.V i)) (c:=(t.M i)) w) ?_;rintro _ w ⟨rfl,F⟩
  replace D:=D.cmp F;clear F
  refine zlt<|Ze ?_ ?_<;>intro hc
  ·
   refine zsr<|(Om)<|zx2<|Oi ?_
   exact⟨i,rfl,.inr ⟨by omega,Oa,‹¬Yy (t.S i) (t.V i) (t.M i)›⟩,D⟩
  refine zx4<|(zV (Zg (r:=i+1)))<|(zP)<|zln<|zlq ⟨i+1,rfl,Oa,Oa,?_,rfl,D⟩
  ·
   intro k J X;rcases Int.lt_or_eq_of_le (show k<=i by omega) with I|I;exact U k J I;rw [I];assumption
 refine zx8<|(zP)<|zx1<|Oi ?_
 exact⟨-1,rfl,.inl ⟨rfl,fun k O h1=>U k O Oa⟩,D⟩
theorem Zha{t:Its}(w0:World)(I:Row w0 vI 3 t.n (ZW t.S t.V t.M)):
   Calls Oj 222 [vI,.func (.func 221) #[] #[]].toArray w0 fun e w=>∃v,e= .returned v/\v=B (∃k,0<=k/\k<t.n/\(¬Yy (t.S k) (t.V k) (t.M k)))/\Sat w0 w []:=by
 refine zenG Tryz.func222 Tryz.ntmps222 fun w F=> ?_
 refine zsr<|(zP)<|zlz<|(Om)<|zlc (xc0 ZkT) (Zg4 w (I.below F.below)) ?_;rintro _ w ⟨V,rfl,G,D⟩
 replace F:=F.cmp D;clear D
 refine(Om)<|zx1<|Oi ?_
 exact⟨Zn (by
  rcases G with⟨h1,h2⟩|⟨h1,h2,h3⟩
  · exact⟨fun h=>Oa,fun⟨k,U,O,J⟩=>absurd J (h2 k U O)⟩
  · exact⟨fun _=>⟨_,h1,h2,h3⟩,fun _=>h1⟩),F⟩
theorem Zg1{t:Its}{cap:Int}(w0:World)(U:Row w0 vI 3 t.n (ZW t.S t.V t.M)):
   Calls Oj 209 [vI,.int Oh cap].toArray w0 fun e w=>∃v,e= .returned v/\v=B (t.Ok cap)/\Sat w0 w []:=by
 have hn:=U.cf.n0
 refine zenG Tryz.func209 Tryz.ntmps209 fun w D=> ?_
 refine zsr<|(zP)<|zlz<|(zP)<|zlz<|(zP)<|(zV (xln XS U.cf))<|(Om)<|zlb 9 ?_ ?_<;>intro hc
 ·
  refine zs4 ?_
  refine zlb 13 ?_ ?_<;>intro hc
  ·
   refine zs4 ?_
   refine zlb 17 ?_ ?_<;>intro hc
   ·
    refine(Om)<|zlc (xc0 ZkW) (Zha (t:=t) w (U.below D.below)) ?_;rintro _ w ⟨rfl,F⟩
    replace D:=D.cmp F;clear F
    refine(On)<|zx1<|Oi ?_
    exact⟨Zn (by exact⟨fun V=>⟨by omega,Oa,Oa,fun k I G=>Oc fun O=>V ⟨k,I,G,O⟩⟩,fun J ⟨k,I,G,O⟩=>O (J.all k I G)⟩),D⟩
   iterate 4 refine zlo ?_
   refine(Om)<|zx1<|Oi ?_
   exact⟨false_B (by rintro⟨h1,h2,h3,h4⟩;omega),D⟩
  refine(zO)<|(zO)<|zs2 ?_
  iterate 4 refine zlo ?_
  refine(Om)<|zx1<|Oi ?_
  exact⟨false_B (by rintro⟨h1,h2,h3,h4⟩;omega),D⟩
 refine(zO)<|(zO)<|(Om)<|(zO)<|zlo ?_
 refine zs2 ?_
 iterate 4 refine zlo ?_
 refine(Om)<|zx1<|Oi ?_
 exact⟨false_B (by rintro⟨h1,h2,h3,h4⟩;omega),D⟩
theorem UO{W:Value}{n s y m r:Int}{T:Oe}{gn gr Z:Nat}{k:Int}(w0:World)(V:(Ent.blk gn [W]).holds w0)(U:(Ent.blk gr [.int Oh r]).holds w0)(F:(Ent.blk Z [.int Oh s,.int Oh y,.int Oh m]).holds w0)(O:Row w0 W 1 n (ints T))(J:∀c,0<=c->c<n->0<=T c/\T c<=4398046511104)(Y:1<=s)(ab:n<=4001)(X:0<=y/\y<=1073741824)(r0:0<=r)(G:0<=k)(I:r+k*s<n):
   Calls Oj 231 [.int Oh k,Oq gn,Oq gr,Oq Z].toArray w0 fun e w=>∃v,e= .returned v/\v= .int Oh (T (r+k*s)-k*y)/\Sat w0 w []:=by
 have ac:=O.cf.n1
 have jW:=Zfi G Y
 have ae:=R2 Y r0 G (Int.le_refl _) I
 have ad:=Wj G Oa X.1 X.2
 have aa:=J (r+k*s) Oa Oa
 refine zenG Tryz.func231 Tryz.ntmps231 fun w D=> ?_
 refine zsr<|(zP)<|zx7<|zdst [] [] 1000 mx_ D ?_;clear D;intro w D
 refine(zDl 0 (fun w D=>(xlf pl_22 (Ent.holds.cell V (o:=0) rfl) D)))<|(zDl 1 (fun w D=>(xlf pl_3 (Ent.holds.cell U (o:=0) rfl) D)))<|(zDw 2 xmv)<|(zDw 3 (xfb 0 fd_247_0))<|(zDl 4 (fun w D=>(xlf pl_3 (Ent.holds.cell F (o:=0) rfl) D)))<|(zDw 5 (Z2 (r:=(k*s)) (e:=rfl)))<|(zDw 6 (Zg (r:=r+(k*s))))<|(zDw 7 (xix (kk:=r+(k*s)) Zb O.cf))<|(zDl 8 (fun w D=>(xlr (u:= .int Oh (T (r+(k*s)))) pl_3 (O.below D.below))))<|(zDw 9 xmv)<|(zDw 10 (xfb 1 fd_247_1))<|(zDl 11 (fun w D=>(xlf pl_3 (Ent.holds.cell F (o:=1) rfl) D)))<|(zDw 12 (Z2 (r:=(k*y)) (e:=rfl)))<|(zDw 13 (Zw (r:=(T (r+(k*s)))-(k*y))))<|zDrv 14 xas ?_
 refine zdd<|ztn<|zrt<|Oi ?_
 exact⟨rfl,D⟩
theorem ZiV{vN:Value}{n s y m:Int}{T:Oe}(w0:World)(hN:Row w0 vN 1 n (ints T))(X:∀c,0<=c->c<n->0<=T c/\T c<=4398046511104)(Y:1<=s)(aj:s<=4000)(ac:n<=4001)(W:0<=y/\y<=1073741824)(hm:0<=m/\m<=1000):
   Calls Oj 223 [.agg #[.int Oh s,.int Oh y,.int Oh m],vN].toArray w0 fun e w=>∃v,e= .returned v/\∃r,v=r/\Slh r n/\Sat w0 w [.own r 1 3 n (ints (R T s y m.toNat))]:=by
 have av:=hN.cf.n0
 refine zenG Tryz.func223 Tryz.ntmps223 fun w D=> ?_
 refine zsr<|zla (xbx (cs:= [_,_,_]) D) ?_;rintro _ w ⟨g1,rfl,D⟩
 refine zla (xbx (cs:= [_]) D (hc:=Slh.cells hN.cf)) ?_;rintro _ w ⟨g2,rfl,D⟩
 refine(zP)<|zlz<|(zV (xlb 1 pl_22 D))<|(zV (xln Zb hN.cf))<|zla (xmk Zb Zm D) ?_;rintro v1 w ⟨D,af⟩
 refine(zP)<|zx5<|(zV (xfb 0 fd_247_0))<|(zV (xlb 0 pl_3 D))<|(zV (xlb 1 pl_22 D))<|(zV (xln Zb hN.cf))<|(zV (U9 (r:=(min s n))))<|(zP)<|zx6<|zlp (fun mm M w=>∃(r:Int) (g:Oe),mm=((min s n-r).toNat)/\(0<=r)/\(r<=min s n)/\(∀c,0<=c->c<n->c%s<r->g c=R T s y m.toNat c)/\M= [(2,Oq g1),(3,Oq g2),(4,Og),(5,v1),(17,.int Oh (min s n)),(18,.int Oh r)]/\Sat w0 w [.blk g1 [.int Oh s,.int Oh y,.int Oh m],.blk g2 [vN],.own v1 1 3 n (ints g)]) ⟨0,(fun _=>0),rfl,Oa,Oa,?_,rfl,D⟩ ?_
 ·
  intro c c0 c1 c2;have:=Int.emod_nonneg c (show s≠0 by omega);omega
 clear D w
 rintro mm M w ⟨r,g,rfl,r0,r1,hg,rfl,D⟩
 refine zsr<|(zP)<|zx7<|Ze ?_ ?_<;>intro hc
 ·
  refine zx3<|(zP)<|zla (xal (cs:= [_]) Zm D) ?_;rintro _ w ⟨g3,rfl,D⟩
  refine zle (xsb 3 pl_3 D) ?_;clear D;rintro w D
  refine zlz<|(zP)<|zlz<|(zV xmf)<|(zP)<|zlz<|(zP)<|zx6 ?_
  replace D:=D.j3 3 (fun _=>0)
  refine zlp (fun mm M w=>∃(q:Int) (k:Int) (V:Oe) (wq:Value) (G:Oe),mm=((n-k).toNat)/\(0<=k)/\(k<=n)/\(DQ (fun j=>T (r+j*s)-j*y) m k q G)/\(LY T s y m n r k V)/\(Slh wq q)/\M= [(2,Oq g1),(3,Oq g2),(4,Og),(5,v1),(6,Oq g3),(7,wq),(8,.func (.func 231) #[] #[Oq g2,Oq g3,Oq g1]),(9,.int Oh k),(17,.int Oh (min s n)),(18,.int Oh r)]/\Sat w0 w [.blk g1 [.int Oh s,.int Oh y,.int Oh m],.blk g2 [vN],.own v1 1 3 n (ints V),.blk g3 [.int Oh r],.sem (Frame.dq 3 wq q G)]) ⟨0,0,g,Og,(fun _=>0),rfl,Oa,Oa,?_,?_,?_,rfl,D⟩ ?_
  ·
   exact DQ.start _ _ _
  ·
   exact LY.start T hg
  ·
   exact slh_nil
  clear D w
  rintro mm M w ⟨q,k,V,wq,G,rfl,O,k1,ak,ah,al,rfl,D⟩
  refine zx11<|(zV (xlb 3 pl_3 D))<|(zP)<|(zV (xfb 0 fd_247_0))<|(zV (xlb 0 pl_3 D))<|zlv (Z2 (r:=(k*s)) (e:=rfl) (hr:=(by have h1:=Int.mul_nonneg O (show 0<=s by omega);have h2:=Int.mul_le_mul (show k<=4001 by omega) aj Oa (show 0<=(4001:Int) by omega);unfold I64;omega))) ?_
  have jW:=Zfi O Y
  have ma:0<=k*s/\k*s<=16008000:=by have h1:=Int.mul_nonneg O (show 0<=s by omega);have h2:=Int.mul_le_mul (show k<=4001 by omega) aj Oa (show 0<=(4001:Int) by omega);omega
  refine(zV (Zg (r:=r+(k*s))))<|(zV (xlb 1 pl_22 D))<|(zV (xln Zb hN.cf))<|(zP)<|zlt<|Ze ?_ ?_<;>intro hc
  ·
   refine zsk<|ztn<|zsq<|zbk<|zsq<|zbk ?_
   have jZ:=ak.p
   refine zlp (fun mm M w=>∃(F:Int) (wp:Value),mm=F.toNat/\(DQp (fun j=>T (r+j*s)-j*y) m k F G)/\(F<=k)/\(Slh wp F)/\M= [(2,Oq g1),(3,Oq g2),(4,Og),(5,v1),(6,Oq g3),(7,wp),(8,.func (.func 231) #[] #[Oq g2,Oq g3,Oq g1]),(9,.int Oh k),(17,.int Oh (min s n)),(18,.int Oh r)]/\Sat w0 w [.blk g1 [.int Oh s,.int Oh y,.int Oh m],.blk g2 [vN],.own v1 1 3 n (ints V),.blk g3 [.int Oh r],.sem (Frame.dq 3 wp F G)]) ⟨q,wq,rfl,?_,?_,?_,rfl,D⟩ ?_
   ·
    exact jZ
   ·
    exact ak.len O
   ·
    exact al
   clear D w
   rintro mm M w ⟨F,wp,rfl,ag,ar,ab,rfl,D⟩
   have kO:=ag.q0
   refine zx11<|(zP)<|(zV (xln Zb ab))<|(Om)<|zlb 36 ?_ ?_<;>intro hc
   ·
    refine(On)<|(zV (xln Zb ab))<|(zV (Zw (r:=F-1)))<|(zV (xix (kk:=F-1) Zb ab))<|zlv (xlr (u:= .int Oh (G (F-1))) pl_3 (Frame.dq.row (D.im 4 rfl))) ?_
    have au:=ag.ia (F-1) Oa Oa
    have mc:=R2 Y r0 (show 0<=G (F-1) by omega) (show G (F-1)<=k by omega) (show r+k*s<n by omega)
    refine zlc (xcc (vs:= [_]) UN) (UO (k:=(G (F-1))) (n:=n) (T:=T) w (D.holds _ (List.mem_of_getElem? (i:=1) rfl)) (D.holds _ (List.mem_of_getElem? (i:=3) rfl)) (D.holds _ (List.mem_of_getElem? (i:=0) rfl)) (hN.below D.below) X Y ac W Oa Oa Oa) ?_;rintro _ w ⟨rfl,J⟩
    replace D:=D.cmp J;clear J
    refine(Om)<|zlc (xcc (vs:= [_]) UN) (UO (k:=k) (n:=n) (T:=T) w (D.holds _ (List.mem_of_getElem? (i:=1) rfl)) (D.holds _ (List.mem_of_getElem? (i:=3) rfl)) (D.holds _ (List.mem_of_getElem? (i:=0) rfl)) (hN.below D.below) X Y ac W Oa Oa Oa) ?_;rintro _ w ⟨rfl,J⟩
    replace D:=D.cmp J;clear J
    refine(Om)<|zlt<|Ze ?_ ?_<;>intro hc
    ·
     refine zsk<|ztn<|zbk<|zrg<|(Om)<|(zV (xln Zb ab))<|(zV (Zw (r:=F-1)))<|zlv (ZbW (i:=F-1) (F-1).toNat Zb ab (Frame.dq.roomy (D.im 4 rfl))) ?_
     have bq:=(Kh (e:=F-1) ab Oa Oa)
     replace D:=D.lw (n:=F) 4 (F-1).toNat Oa
     replace D:=D.nq 4 (by omega:((F-1).toNat:Int)=F-1)
     refine(zP)<|zln<|zbn<|zlq ⟨F-1,(Rm wp (F-1).toNat),rfl,?_,?_,?_,rfl,D⟩
     ·
      exact ag.pop Oa (by show T _-_<=T _-_;omega)
     ·
      omega
     ·
      exact bq
    refine zx8<|(Om)<|zla (xli (n:=1) (len:=1) (pv:= [(0,.int Oh k)]) (cs:= [.int Oh k]) (c:=ints (fun _=>k)) Zb Zm D) ?_;rintro v2 w ⟨D,ao⟩
    refine zla (ZjT 4 Zb Zm D (D.c7 5 rfl)) ?_;rintro v3 w ⟨D,ae⟩
    have Z:=ag.push O hm.1 (by show _<=_\/T _-_<T _-_;omega)
    have hdr:=Z.ia 0 Oa Oa
    refine(zP)<|zlt<|zsq<|zsq<|zdst [0,1,2,3,4,5] [0,1,2,3,4,5] 1000 mx_ D ?_;clear D;intro w D
    refine(zDw 0 xmv)<|(zDw 1 (xix (kk:=0) Zb ae))<|(zDl 2 (fun w D=>(xlr (u:= .int Oh ((snoc G F k) 0)) pl_3 (Frame.dq.row (D.im 4 rfl)))))<|(zDw 3 xmv)<|(zDw 4 (xfb 2 fd_247_2))<|(zDl 5 (fun w D=>(xlb 0 pl_3 D)))<|(zDw 6 (Zw (r:=k-m)))<|(zDw 7 Z7)<|zdd<|ztn ?_
    refine Ze ?_ ?_<;>intro hc
    ·
     refine zrg<|zlv xmv ?_
     have am:=Z.more hm.1 Oa
     refine Rk rfl rfl rfl (YR (q:=1) rfl Zb rfl rfl rfl ae rfl Oa Oa) ?_
     have dy:=(Kg (m:=F) ae (Frame.dq.roomy (D.im 4 rfl)) Oa Oa)
     replace D:=D.lv (n:=F+1) 4 1 Oa
     replace D:=D.nq 4 (by omega:(F+1-((1:Nat):Int):Int)=F)
     replace D:Sat w0 w [.blk g1 [.int Oh s,.int Oh y,.int Oh m],.blk g2 [vN],.own v1 1 3 n (ints V),.blk g3 [.int Oh r],.sem (Frame.dq 3 (XF v3 1) F (fun I=>(snoc G F k) (I+1))),.own v2 1 3 1 (ints (fun _=>k))]:=D
     refine(zP)<|zlt<|zdst [0,1,2,3,4,5] [0,1,3,4,5] 18 mx_ D ?_;clear D;intro w D
     refine zDrv 0 xmv ?_
     have zy:DQ (fun j=>T (r+j*s)-j*y) m (k+1) (F) ((fun I=>(snoc G F k) (I+1))):=Z.drop O hm.1 Oa
     have U:=zy.best O hm.1
     have ai:max 0 (k-m)<=((fun I=>(snoc G F k) (I+1))) 0:=U.2.1
     have aa:((fun I=>(snoc G F k) (I+1))) 0<=k:=U.2.2.1
     have ek:=R2 Y r0 (show 0<=((fun I=>(snoc G F k) (I+1))) 0 by omega) aa (show r+k*s<n by omega)
     have eg:=Wj O Oa W.1 W.2
     have eh:=Wj (show 0<=((fun I=>(snoc G F k) (I+1))) 0 by omega) Oa W.1 W.2
     have dT:=X (r+((fun I=>(snoc G F k) (I+1))) 0*s) Oa Oa
     refine(zDl 1 (fun w D=>(xlb 2 pl_3 D)))<|(zDw 2 xmv)<|(zDw 3 (xfb 0 fd_247_0))<|(zDl 4 (fun w D=>(xlb 0 pl_3 D)))<|(zDw 5 (Z2 (r:=(k*s)) (e:=rfl)))<|(zDw 6 (Zg (r:=r+(k*s))))<|(zDw 7 xmv)<|(zDw 8 xmv)<|(zDw 9 (xix (kk:=0) Zb dy))<|(zDl 10 (fun w D=>(xlr (u:= .int Oh ((fun I=>(snoc G F k) (I+1)) 0)) pl_3 (Frame.dq.row (D.im 3 rfl)))))<|(zDw 12 xmv)<|(zDw 13 (xfb 1 fd_247_1))<|(zDl 14 (fun w D=>(xlb 0 pl_3 D)))<|(zDw 15 (Z2 (r:=(k*y)) (e:=rfl)))<|zdc 11 (xcc (vs:= [_]) UN) (UO (k:=((fun I=>(snoc G F k) (I+1)) 0)) (n:=n) (T:=T) w (D.holds _ (List.mem_of_getElem? (i:=1) rfl)) (D.holds _ (List.mem_of_getElem? (i:=3) rfl)) (D.holds _ (List.mem_of_getElem? (i:=0) rfl)) (hN.below D.below) X Y ac W Oa Oa Oa) ?_;rintro _ w ⟨rfl,J⟩
     replace D:=D.cmp J;clear J
     refine⟨⟨fun _=>D,D.pk [0,1,3,4,5]⟩,?_⟩
     refine(zDw 16 (Zg (r:=(T (r+((fun I=>(snoc G F k) (I+1)) 0)*s)-((fun I=>(snoc G F k) (I+1)) 0)*y)+(k*y))))<|(zDw 17 (xix (kk:=r+(k*s)) Zb af))<|zde 18 (xso 2 pl_3 D (Zy _ _ _)) ?_;clear D;rintro w D
     refine⟨⟨fun h=>absurd h (by decide),D.pk [0,1,3,4,5]⟩,?_⟩
     refine zdd<|zbn<|ztn<|zrg ?_
     refine(zP)<|(zV (Zg (r:=k+1)))<|(zP)<|zln<|zlq ⟨F,k+1,(upd V (r+(k*s)) ((T (r+((fun I=>(snoc G F k) (I+1)) 0)*s)-((fun I=>(snoc G F k) (I+1)) 0)*y)+(k*y))),(XF v3 1),(fun I=>(snoc G F k) (I+1)),rfl,Oa,Oa,?_,?_,?_,rfl,D.pk [0,1,2,3,4]⟩
     ·
      exact zy
     ·
      exact ah.step Y r0 Oa O (Tp Y hm.1 r0 Oa O U.2.1 U.2.2.1 (fun j j0 j1=>U.2.2.2 j j0 j1))
     ·
      exact dy
    refine zsk<|ztn<|zdst [0,1,2,3,4,5] [0,1,3,4,5] 18 mx_ D ?_;clear D;intro w D
    refine zDrv 0 xmv ?_
    have zy:DQ (fun j=>T (r+j*s)-j*y) m (k+1) (F+1) ((snoc G F k)):=Z.keep O Oa
    have U:=zy.best O hm.1
    have ai:max 0 (k-m)<=((snoc G F k)) 0:=U.2.1
    have aa:((snoc G F k)) 0<=k:=U.2.2.1
    have ek:=R2 Y r0 (show 0<=((snoc G F k)) 0 by omega) aa (show r+k*s<n by omega)
    have eg:=Wj O Oa W.1 W.2
    have eh:=Wj (show 0<=((snoc G F k)) 0 by omega) Oa W.1 W.2
    have dT:=X (r+((snoc G F k)) 0*s) Oa Oa
    refine(zDl 1 (fun w D=>(xlb 2 pl_3 D)))<|(zDw 2 xmv)<|(zDw 3 (xfb 0 fd_247_0))<|(zDl 4 (fun w D=>(xlb 0 pl_3 D)))<|(zDw 5 (Z2 (r:=(k*s)) (e:=rfl)))<|(zDw 6 (Zg (r:=r+(k*s))))<|(zDw 7 xmv)<|(zDw 8 xmv)<|(zDw 9 (xix (kk:=0) Zb ae))<|(zDl 10 (fun w D=>(xlr (u:= .int Oh ((snoc G F k) 0)) pl_3 (Frame.dq.row (D.im 3 rfl)))))<|(zDw 12 xmv)<|(zDw 13 (xfb 1 fd_247_1))<|(zDl 14 (fun w D=>(xlb 0 pl_3 D)))<|(zDw 15 (Z2 (r:=(k*y)) (e:=rfl)))<|zdc 11 (xcc (vs:= [_]) UN) (UO (k:=((snoc G F k) 0)) (n:=n) (T:=T) w (D.holds _ (List.mem_of_getElem? (i:=1) rfl)) (D.holds _ (List.mem_of_getElem? (i:=3) rfl)) (D.holds _ (List.mem_of_getElem? (i:=0) rfl)) (hN.below D.below) X Y ac W Oa Oa Oa) ?_;rintro _ w ⟨rfl,J⟩
    replace D:=D.cmp J;clear J
    refine⟨⟨fun _=>D,D.pk [0,1,3,4,5]⟩,?_⟩
    refine(zDw 16 (Zg (r:=(T (r+((snoc G F k) 0)*s)-((snoc G F k) 0)*y)+(k*y))))<|(zDw 17 (xix (kk:=r+(k*s)) Zb af))<|zde 18 (xso 2 pl_3 D (Zy _ _ _)) ?_;clear D;rintro w D
    refine⟨⟨fun h=>absurd h (by decide),D.pk [0,1,3,4,5]⟩,?_⟩
    refine zdd<|zbn<|ztn<|zrg ?_
    refine(zP)<|(zV (Zg (r:=k+1)))<|(zP)<|zln<|zlq ⟨F+1,k+1,(upd V (r+(k*s)) ((T (r+((snoc G F k) 0)*s)-((snoc G F k) 0)*y)+(k*y))),v3,(snoc G F k),rfl,Oa,Oa,?_,?_,?_,rfl,D.pk [0,1,2,3,4]⟩
    ·
     exact zy
    ·
     exact ah.step Y r0 Oa O (Tp Y hm.1 r0 Oa O U.2.1 U.2.2.1 (fun j j0 j1=>U.2.2.2 j j0 j1))
    ·
     exact ae
   iterate 12 refine zlo ?_
   refine(zP)<|zlt<|zcf<|zxt<|ztx<|ztx<|zbh<|ztn<|zsr ?_
   refine(Om)<|zla (xli (n:=1) (len:=1) (pv:= [(0,.int Oh k)]) (cs:= [.int Oh k]) (c:=ints (fun _=>k)) Zb Zm D) ?_;rintro v4 w ⟨D,an⟩
   refine zla (ZjT 4 Zb Zm D (D.c7 5 rfl)) ?_;rintro v5 w ⟨D,ad⟩
   have Z:=ag.push O hm.1 (by show _<=_\/T _-_<T _-_;omega)
   have hdr:=Z.ia 0 Oa Oa
   refine(zP)<|zlt<|zsq<|zsq<|zdst [0,1,2,3,4,5] [0,1,2,3,4,5] 1000 mx_ D ?_;clear D;intro w D
   refine(zDw 0 xmv)<|(zDw 1 (xix (kk:=0) Zb ad))<|(zDl 2 (fun w D=>(xlr (u:= .int Oh ((snoc G F k) 0)) pl_3 (Frame.dq.row (D.im 4 rfl)))))<|(zDw 3 xmv)<|(zDw 4 (xfb 2 fd_247_2))<|(zDl 5 (fun w D=>(xlb 0 pl_3 D)))<|(zDw 6 (Zw (r:=k-m)))<|(zDw 7 Z7)<|zdd<|ztn ?_
   refine Ze ?_ ?_<;>intro hc
   ·
    refine zrg<|zlv xmv ?_
    have am:=Z.more hm.1 Oa
    refine Rk rfl rfl rfl (YR (q:=1) rfl Zb rfl rfl rfl ad rfl Oa Oa) ?_
    have dx:=(Kg (m:=F) ad (Frame.dq.roomy (D.im 4 rfl)) Oa Oa)
    replace D:=D.lv (n:=F+1) 4 1 Oa
    replace D:=D.nq 4 (by omega:(F+1-((1:Nat):Int):Int)=F)
    replace D:Sat w0 w [.blk g1 [.int Oh s,.int Oh y,.int Oh m],.blk g2 [vN],.own v1 1 3 n (ints V),.blk g3 [.int Oh r],.sem (Frame.dq 3 (XF v5 1) F (fun I=>(snoc G F k) (I+1))),.own v4 1 3 1 (ints (fun _=>k))]:=D
    refine(zP)<|zlt<|zdst [0,1,2,3,4,5] [0,1,3,4,5] 18 mx_ D ?_;clear D;intro w D
    refine zDrv 0 xmv ?_
    have zy:DQ (fun j=>T (r+j*s)-j*y) m (k+1) (F) ((fun I=>(snoc G F k) (I+1))):=Z.drop O hm.1 Oa
    have U:=zy.best O hm.1
    have ai:max 0 (k-m)<=((fun I=>(snoc G F k) (I+1))) 0:=U.2.1
    have aa:((fun I=>(snoc G F k) (I+1))) 0<=k:=U.2.2.1
    have ek:=R2 Y r0 (show 0<=((fun I=>(snoc G F k) (I+1))) 0 by omega) aa (show r+k*s<n by omega)
    have eg:=Wj O Oa W.1 W.2
    have eh:=Wj (show 0<=((fun I=>(snoc G F k) (I+1))) 0 by omega) Oa W.1 W.2
    have dT:=X (r+((fun I=>(snoc G F k) (I+1))) 0*s) Oa Oa
    refine(zDl 1 (fun w D=>(xlb 2 pl_3 D)))<|(zDw 2 xmv)<|(zDw 3 (xfb 0 fd_247_0))<|(zDl 4 (fun w D=>(xlb 0 pl_3 D)))<|(zDw 5 (Z2 (r:=(k*s)) (e:=rfl)))<|(zDw 6 (Zg (r:=r+(k*s))))<|(zDw 7 xmv)<|(zDw 8 xmv)<|(zDw 9 (xix (kk:=0) Zb dx))<|(zDl 10 (fun w D=>(xlr (u:= .int Oh ((fun I=>(snoc G F k) (I+1)) 0)) pl_3 (Frame.dq.row (D.im 3 rfl)))))<|(zDw 12 xmv)<|(zDw 13 (xfb 1 fd_247_1))<|(zDl 14 (fun w D=>(xlb 0 pl_3 D)))<|(zDw 15 (Z2 (r:=(k*y)) (e:=rfl)))<|zdc 11 (xcc (vs:= [_]) UN) (UO (k:=((fun I=>(snoc G F k) (I+1)) 0)) (n:=n) (T:=T) w (D.holds _ (List.mem_of_getElem? (i:=1) rfl)) (D.holds _ (List.mem_of_getElem? (i:=3) rfl)) (D.holds _ (List.mem_of_getElem? (i:=0) rfl)) (hN.below D.below) X Y ac W Oa Oa Oa) ?_;rintro _ w ⟨rfl,J⟩
    replace D:=D.cmp J;clear J
    refine⟨⟨fun _=>D,D.pk [0,1,3,4,5]⟩,?_⟩
    refine(zDw 16 (Zg (r:=(T (r+((fun I=>(snoc G F k) (I+1)) 0)*s)-((fun I=>(snoc G F k) (I+1)) 0)*y)+(k*y))))<|(zDw 17 (xix (kk:=r+(k*s)) Zb af))<|zde 18 (xso 2 pl_3 D (Zy _ _ _)) ?_;clear D;rintro w D
    refine⟨⟨fun h=>absurd h (by decide),D.pk [0,1,3,4,5]⟩,?_⟩
    refine zdd<|zbn<|ztn<|zrg ?_
    refine(zP)<|(zV (Zg (r:=k+1)))<|(zP)<|zln<|zlq ⟨F,k+1,(upd V (r+(k*s)) ((T (r+((fun I=>(snoc G F k) (I+1)) 0)*s)-((fun I=>(snoc G F k) (I+1)) 0)*y)+(k*y))),(XF v5 1),(fun I=>(snoc G F k) (I+1)),rfl,Oa,Oa,?_,?_,?_,rfl,D.pk [0,1,2,3,4]⟩
    ·
     exact zy
    ·
     exact ah.step Y r0 Oa O (Tp Y hm.1 r0 Oa O U.2.1 U.2.2.1 (fun j j0 j1=>U.2.2.2 j j0 j1))
    ·
     exact dx
   refine zsk<|ztn<|zdst [0,1,2,3,4,5] [0,1,3,4,5] 18 mx_ D ?_;clear D;intro w D
   refine zDrv 0 xmv ?_
   have zy:DQ (fun j=>T (r+j*s)-j*y) m (k+1) (F+1) ((snoc G F k)):=Z.keep O Oa
   have U:=zy.best O hm.1
   have ai:max 0 (k-m)<=((snoc G F k)) 0:=U.2.1
   have aa:((snoc G F k)) 0<=k:=U.2.2.1
   have ek:=R2 Y r0 (show 0<=((snoc G F k)) 0 by omega) aa (show r+k*s<n by omega)
   have eg:=Wj O Oa W.1 W.2
   have eh:=Wj (show 0<=((snoc G F k)) 0 by omega) Oa W.1 W.2
   have dT:=X (r+((snoc G F k)) 0*s) Oa Oa
   refine(zDl 1 (fun w D=>(xlb 2 pl_3 D)))<|(zDw 2 xmv)<|(zDw 3 (xfb 0 fd_247_0))<|(zDl 4 (fun w D=>(xlb 0 pl_3 D)))<|(zDw 5 (Z2 (r:=(k*s)) (e:=rfl)))<|(zDw 6 (Zg (r:=r+(k*s))))<|(zDw 7 xmv)<|(zDw 8 xmv)<|(zDw 9 (xix (kk:=0) Zb ad))<|(zDl 10 (fun w D=>(xlr (u:= .int Oh ((snoc G F k) 0)) pl_3 (Frame.dq.row (D.im 3 rfl)))))<|(zDw 12 xmv)<|(zDw 13 (xfb 1 fd_247_1))<|(zDl 14 (fun w D=>(xlb 0 pl_3 D)))<|(zDw 15 (Z2 (r:=(k*y)) (e:=rfl)))<|zdc 11 (xcc (vs:= [_]) UN) (UO (k:=((snoc G F k) 0)) (n:=n) (T:=T) w (D.holds _ (List.mem_of_getElem? (i:=1) rfl)) (D.holds _ (List.mem_of_getElem? (i:=3) rfl)) (D.holds _ (List.mem_of_getElem? (i:=0) rfl)) (hN.below D.below) X Y ac W Oa Oa Oa) ?_;rintro _ w ⟨rfl,J⟩
   replace D:=D.cmp J;clear J
   refine⟨⟨fun _=>D,D.pk [0,1,3,4,5]⟩,?_⟩
   refine(zDw 16 (Zg (r:=(T (r+((snoc G F k) 0)*s)-((snoc G F k) 0)*y)+(k*y))))<|(zDw 17 (xix (kk:=r+(k*s)) Zb af))<|zde 18 (xso 2 pl_3 D (Zy _ _ _)) ?_;clear D;rintro w D
   refine⟨⟨fun h=>absurd h (by decide),D.pk [0,1,3,4,5]⟩,?_⟩
   refine zdd<|zbn<|ztn<|zrg ?_
   refine(zP)<|(zV (Zg (r:=k+1)))<|(zP)<|zln<|zlq ⟨F+1,k+1,(upd V (r+(k*s)) ((T (r+((snoc G F k) 0)*s)-((snoc G F k) 0)*y)+(k*y))),v5,(snoc G F k),rfl,Oa,Oa,?_,?_,?_,rfl,D.pk [0,1,2,3,4]⟩
   ·
    exact zy
   ·
    exact ah.step Y r0 Oa O (Tp Y hm.1 r0 Oa O U.2.1 U.2.2.1 (fun j j0 j1=>U.2.2.2 j j0 j1))
   ·
    exact ad
  refine zx21<|(zV (Zg (r:=r+1)))<|(zP)<|zln<|zlq ⟨r+1,V,rfl,Oa,Oa,?_,rfl,D.pk [0,1,2]⟩
  ·
   exact ah.fin Oa
 refine zx8<|(Om)<|zx1<|Oi ?_
 obtain⟨aq,ap⟩:r=min s n/\r<=n:=Oa
 replace D:=D.gi 2 rfl (d:=ints (R T s y m.toNat)) (fun c c0 c1=>by
   unfold ints;rw [hg c c0 Oa (by rcases Int.lt_or_le c s with h1|h1;rw [Int.emod_eq_of_lt c0 h1];omega;have:=Int.emod_lt_of_pos c (show 0<s by omega);omega)])
 exact⟨_,rfl,af,D.pk [2]⟩
end Go.Proofs.YtkichmnjjblodaaGreat
namespace Go.Proofs.YtkichmnjjblodaaGreat
open Go Go.RowKit Go.Proofs.Gw
theorem ZkV:Zc Oj 223=true:=Ob
theorem Sat.j9{w w0:World}{l:List Ent}{E:TypeId}{n:Int}{vv:Int->Value}{ln:Oe}{f:Of}(i:Nat)(h:Sat w0 w l)(hi:l[i]? =some (.sem (Frame.rows E n vv ln f))):Sat w0 w (l.set i (.sem (Frame.rows E n (fun k=>vv (n-1-k)) (fun k=>ln (n-1-k)) (fun k=>f (n-1-k))))):=
 h.iw i hi (fun⟨h1,I⟩=>⟨fun k F D=>h1 (n-1-k) Oa Oa,fun a b V U O J G=>I (n-1-a) (n-1-b) Oa Oa Oa Oa Oa⟩) fun g ⟨k,F,D,hk⟩=>⟨n-1-k,Oa,Oa,hk⟩
theorem Zj0{w:World}{v:Value}{n:Int}{f g:Oe}(h:Row w v 1 n (ints f))(e:f=g):Row w v 1 n (ints g):=e▸h
theorem Zg0{vI:Value}{t:Its}{cap:Int}(w0:World)(V:Row w0 vI 3 t.n (ZW t.S t.V t.M))(Y:t.Ok cap):
   Calls Oj 210 [vI,.int Oh cap].toArray w0 fun e w=>∃v,e= .returned v/\∃r vv,v=r/\Slh r (t.n+1)/\Sat w0 w [.own r 1 22 (t.n+1) vv,.sem (Frame.rows 3 (t.n+1) vv (fun _=>cap+1) (KI t))]:=by
 have hn:=V.cf.n0
 have ae:=Y.n;have ad:=Y.c0;have ac:=Y.c1
 refine zenG Tryz.func210 Tryz.ntmps210 fun w D=> ?_
 refine zsr<|(zP)<|zlz<|(zP)<|(zV (xln XS V.cf))<|(zV (Zg (r:=t.n+1)))<|zla (xmk Zi Z9 D) ?_;rintro v1 w ⟨D,I⟩
 refine(zP)<|zlz<|(Om)<|(zV (xln XS V.cf))<|(zP)<|(zV (Zg (r:=cap+1)))<|zla (xmk Zb Zm D) ?_;rintro v2 w ⟨D,aa⟩
 refine(zV (xix (kk:=t.n) Zi I))<|zle (xso 0 pl_22 D rfl (hv:=aa.one)) ?_;clear D;rintro w D
 refine zx5<|(zP)<|(zV (xln XS V.cf))<|(zV (Zw (r:=t.n-1)))<|(zP)<|zx6 ?_
 replace D:=D.fa 3 (fun _=>Og) (fun _=>cap+1) (fun j=>KI t (t.n-j))
 have yz:=fun k (G:0<=k) (F:k<0)=>D.db 2 rfl G F
 replace D:=Sat.iz (l1:= [_]) (l2:= []) (l3:= []) D Oa
 have qG:=fun k (G:0<=k) (F:k<1)=>D.db 1 rfl G F
 replace D:=D.gj (vv':=gsn (fun _=>Og) 0 v2) (ln':=fun _=>cap+1) (f':=fun j=>KI t (t.n-j)) 1 rfl (fun k G F=>by
   by_cases e:k<0
   · exact⟨rfl,Zp e,fun j _ _=>by rw [Zp e]⟩
   · have O:k=0:=Oa
     refine⟨rfl,Zq e,fun j _ _=> ?_⟩
     rw [Zq e,O];rw [show t.n-(0:Int)=t.n by omega,ZcK])
 have fN:=fun k (G:0<=k) (F:k<1)=>D.db 1 rfl G F
 refine zlp (fun mm M w=>∃(nC:Int) (W:Int->Value) (U:Int->Value) (i:Int),mm=((i+1).toNat)/\(-1<=i)/\(i<=t.n-1)/\(nC=t.n-i)/\(∀j,0<=j->j<nC->W (t.n-j)=U j)/\M= [(0,vI),(4,Og),(5,v1),(6,.int Oh i)]/\Sat w0 w [.own v1 1 22 (t.n+1) W,.sem (Frame.rows 3 nC U (fun _=>cap+1) (fun j=>KI t (t.n-j)))]) ⟨1,upd (fun _=> Og) t.n (v2),gsn (fun _=>Og) 0 v2,(t.n-1),rfl,Oa,Oa,Oa,?_,rfl,D⟩ ?_
 ·
  intro j j0 j1;obtain rfl:j=0:=Oa
  rw [show t.n-(0:Int)=t.n by omega,gu_self,Zq Oa]
 clear D w
 rintro mm M w ⟨nC,W,U,i,rfl,i0,i1,X,J,rfl,D⟩
 have xd:=fun k (G:0<=k) (F:k<nC)=>D.db 1 rfl G F
 refine zx11<|(Om)<|zlt<|Ze ?_ ?_<;>intro hc
 ·
  refine zx38<|zdst [0,1] [1] 13 mx_ D ?_;clear D;intro w D
  refine(zDw 0 xmv)<|(zDw 1 xmv)<|(zDw 2 xmv)<|(zDw 3 xmv)<|(zDw 4 (xix (kk:=3*i) XS V.cf))<|zdla 5 (fun w D=>(xlw (cs:= [.int Oh (t.S i),.int Oh (t.V i),.int Oh (t.M i)]) KN (V.below D.below) (XO (k:=3*i) (i:=i) t.S t.V t.M Oa))) ?_
  have ab:=Y.all i Oa Oa;unfold Its.each Yy at ab
  refine(zDw 6 xmv)<|(zDw 7 xmv)<|(zDw 8 (Zg (r:=i+1)))<|(zDw 9 (xix (kk:=i+1) Zi I))<|zdl 10 (fun w D=>(xlr (u:=(U (t.n-i-1))) pl_22 (D.c7 0 rfl) (e:=(by have:=J (t.n-i-1) Oa Oa;rwa [show t.n-(t.n-i-1)=i+1 by omega] at this)))) ?_
  refine zdc 11 (xc0 ZkV) (ZiV (n:=cap+1) (s:=(t.S i)) (y:=(t.V i)) (m:=(t.M i)) (T:=KI t (i+1)) w (Zj0 (D.fq (k:=t.n-i-1) 1 rfl Oa Oa) (by show KI t (t.n-(t.n-i-1))=_;congr 1;omega)) (fun c c0 c1=>by have:=Xs Y (i:=i+1) Oa Oa c0;omega) Oa Oa Oa Oa Oa) ?_;rintro bJ w ⟨_,rfl,dL,Z⟩
  replace D:=(D.comp Z).n3;clear Z
  refine⟨⟨fun _=>D.pk [0,1],D.pk [1]⟩,?_⟩
  refine(zDw 12 (xix (kk:=i) Zi I))<|zde 13 (xso 0 pl_22 D rfl (hv:=dL.one)) ?_;clear D;rintro w D
  refine⟨⟨fun h=>absurd h (by decide),D.pk [1]⟩,?_⟩
  refine zdd<|zbn<|ztn<|zrg ?_
  refine(zP)<|(zV (Zw (r:=i-1)))<|(zP)<|zln ?_
  replace D:=Sat.merge (l1:= [_]) (l2:= []) (l3:= []) D Oa
  have dY:=fun k (G:0<=k) (F:k<nC+1)=>D.db 1 rfl G F
  replace D:=D.gj (vv':=gsn U nC bJ) (ln':=fun _=>cap+1) (f':=fun j=>KI t (t.n-j)) 1 rfl (fun k G F=>by
    by_cases e:k<nC
    · exact⟨rfl,Zp e,fun j _ _=>by rw [Zp e]⟩
    · have O:k=nC:=Oa
      refine⟨rfl,Zq e,fun j _ _=> ?_⟩
      rw [Zq e,O];rw [X,show t.n-(t.n-i)=i by omega,ZaG t (i:=i) Oa Oa])
  have fL:=fun k (G:0<=k) (F:k<nC+1)=>D.db 1 rfl G F
  refine zlq ⟨nC+1,upd W i (bJ),gsn U nC bJ,i-1,rfl,Oa,Oa,Oa,?_,rfl,D⟩
  ·
   intro j j0 j1;by_cases e:j=nC
   · rw [e,X,show t.n-(t.n-i)=i by omega,gu_self,Zq Oa]
   · rw [gu_ne Oa,Zp Oa];exact J j j0 Oa
 refine zx8<|(Om)<|zx1<|Oi ?_
 obtain rfl:i= -1:=Oa
 obtain rfl:nC=t.n+1:=Oa
 replace D:=Sat.j9 1 D rfl
 replace D:=D.gj (vv':=W) (ln':=fun _=>cap+1) (f':=KI t) 1 rfl (fun k G F=>⟨by rw [<-J _ Oa Oa];congr 1;omega,rfl,fun j _ _=>by show KI t (t.n-(t.n+1-1-k)) j=_;congr 1;omega⟩)
 exact⟨_,_,rfl,I,D.pk [0,1]⟩
variable {cap i j:Int}
theorem Zk6:Zc Oj 209=true:=Ob
theorem Zk5:Zc Oj 210=true:=Ob
theorem Zcm:ZV Oj 247=some (.agg #[.int Oh 0,.int Oh 0,.int Oh 0],3,24):=Ob
def ZjO(t:Its)(cap n:Int)(x:Oe)(val e:Int):Prop:=(¬t.Ok cap/\n=0/\val=0/\e=1)\/(t.Ok cap/\n=t.n/\KX t cap x t.n/\val=KI t 0 cap/\e=0)
theorem Zc6{t:Its}(O:t.Ok cap){c:Int}(J:0<=i)(I:i<t.n)(G:0<=j)(F:j<=c.tdiv (t.S i))(U:0<=c):0<=j*t.S i/\j*t.S i<=c:=by
 have D:=O.all i J I
 unfold Its.each Yy at D
 have V:=YV (a:=c) (b:=t.S i) U D.1
 have h1:=Int.mul_nonneg G (show 0<=t.S i by omega)
 have W:=Int.mul_le_mul_of_nonneg_right F (show 0<=t.S i by omega)
 omega
theorem Zfl{t:Its}(G:t.Ok cap){c:Int}(F:0<=i)(D:i<t.n)(h:j*t.S i<=c)(J:0<=c):j<=c.tdiv (t.S i):=by
 have I:=G.all i F D
 unfold Its.each Yy at I
 rw [Int.tdiv_eq_ediv_of_nonneg J]
 exact(Int.le_ediv_iff_mul_le Oa).2 h
theorem Zfk{t:Its}(O:t.Ok cap)(J:0<=i)(I:i<t.n)(G:0<=j)(F:j<=4001):0<=j*t.V i/\j*t.V i<=4296041037824:=by
 have D:=O.all i J I
 unfold Its.each Yy at D
 exact Wj G F D.2.2.1 D.2.2.2.1
theorem Zg2{vI:Value}{t:Its}(w0:World)(X:Row w0 vI 3 t.n (ZW t.S t.V t.M)):
   Calls Oj 192 [vI,.int Oh cap].toArray w0 fun e w=>∃v,e= .returned v/\∃r n x val e,v= .tuple #[r,.int Oh val,.int Oh e]/\ZjO t cap n x val e/\Slh r n/\Sat w0 w [.own r 1 3 n (ints x)]:=by
 have hn:=X.cf.n0
 refine zenG Tryz.func192 Tryz.ntmps192 fun w D=> ?_
 refine zsr<|(On)<|zx5<|(Om)<|zlc (xc0 Zk6) (Zg1 (t:=t) (cap:=cap) w (X.below D.below)) ?_;rintro _ w ⟨rfl,G⟩
 replace D:=D.cmp G;clear G
 refine(zP)<|zlt<|Ze ?_ ?_<;>intro hc
 ·
  refine zsr<|(On)<|zx14<|zf3 ⟨_,rfl,?_⟩
  exact⟨_,0,fun _=>0,0,1,rfl,.inl ⟨‹¬t.Ok cap›,rfl,rfl,rfl⟩,slh_nil,(D.cg 1 3 (ints fun _=>0)).pk [0]⟩
 refine ZM<|zlv xmv ?_
 have F:t.Ok cap:=by first|assumption|exact Oc ‹_›
 refine(zP)<|zlc (xc0 Zk5) (Zg0 (t:=t) (cap:=cap) w (X.below D.below) F) ?_;rintro xG w ⟨_,O,rfl,xL,G⟩
 replace D:=(D.comp G).n2;clear G
 have yt:=fun k (k0:0<=k) (k1:k<(t.n+1))=>D.db 1 rfl k0 k1
 refine(zP)<|zlz<|(Om)<|zx5<|(zP)<|(zV (xln XS X.cf))<|(zP)<|zx6 ?_
 replace D:=D.cg 1 3 (ints (fun _=>0))
 have av:=F.n;have au:=F.c0;have ar:=F.c1
 refine zlp (fun Y M w=>∃(J:Int) (c:Int) (i:Int) (W:Value) (V:Oe),Y=((t.n-i).toNat)/\(0<=i)/\(i<=t.n)/\(J=i)/\(0<=c)/\(c<=cap)/\(c=cap-KU t V i.toNat)/\(KX t cap V i)/\(Slh W J)/\M= [(1,.int Oh cap),(4,W),(5,.int Oh 0),(6,.int Oh 0),(7,xG),(8,.int Oh c),(20,vI),(21,.int Oh t.n),(22,.int Oh i)]/\Sat w0 w [.own xG 1 22 (t.n+1) O,.sem (Frame.rows 3 (t.n+1) O (fun _=>cap+1) (KI t)),.own W 1 3 J (ints V)]) ⟨0,cap,0,Og,(fun _=>0),rfl,Oa,Oa,Oa,Oa,Oa,?_,?_,?_,rfl,D⟩ ?_
 ·
  show cap=cap-0;omega
 ·
  intro k k0 k1;omega
 ·
  exact slh_nil
 clear D w
 rintro Y M w ⟨J,c,i,W,V,rfl,I,i1,U,c0,c1,al,ab,ae,rfl,D⟩
 refine zsr<|(zP)<|zx7<|Ze ?_ ?_<;>intro hc
 ·
  refine zx3<|(zP)<|(zV (xix (kk:=3*i) XS X.cf))<|zlv (xlw (cs:= [.int Oh (t.S i),.int Oh (t.V i),.int Oh (t.M i)]) KN (X.below D.below) (XO (k:=3*i) (i:=i) t.S t.V t.M Oa)) ?_
  have ad:=F.all i I Oa;unfold Its.each Yy at ad
  obtain⟨Z,az,ay,ak,aj⟩:=ZjP F I (by omega:i<t.n) (c:=c) Oa
  have ax:=Zfl F I (by omega:i<t.n) ak Oa
  have an:=YV (a:=c) (b:=t.S i) Oa ad.1
  refine zla (xal (cs:= [_,_,_]) Zcm D) ?_;rintro _ w ⟨g1,rfl,D⟩
  refine(zP)<|zle (xsw 3 KN D) ?_;clear D;rintro w D
  refine zx7<|zdst [0,1,2,3] [0,1,2,3] 1000 mx_ D ?_;clear D;intro w D
  refine(zDw 0 (xfb 2 fd_247_2))<|(zDl 1 (fun w D=>(xlb 3 pl_3 D)))<|(zDw 2 xmv)<|(zDw 3 (xfb 0 fd_247_0))<|(zDl 4 (fun w D=>(xlb 3 pl_3 D)))<|(zDw 5 (VC (r:=(Int.tdiv c (t.S i)))))<|(zDw 6 (U9 (r:=(min (t.M i) (Int.tdiv c (t.S i))))))<|(zDw 7 xas)<|zdd<|ztn<|zsq<|zbk<|zlp (fun Y M w=>∃(n:Int),Y=((n-Z).toNat)/\(Z<=n)/\(n<=min (t.M i) (c.tdiv (t.S i)))/\(∀j,n<j->j<=t.M i->j*t.S i<=c->KI t (i+1) (c-j*t.S i)+j*t.V i≠KI t i c)/\M= [(1,.int Oh cap),(4,W),(5,.int Oh 0),(6,.int Oh 0),(7,xG),(8,.int Oh c),(9,.int Oh i),(10,Oq g1),(11,.int Oh n),(20,vI),(21,.int Oh t.n),(22,.int Oh i)]/\Sat w0 w [.own xG 1 22 (t.n+1) O,.sem (Frame.rows 3 (t.n+1) O (fun _=>cap+1) (KI t)),.own W 1 3 J (ints V),.blk g1 [.int Oh (t.S i),.int Oh (t.V i),.int Oh (t.M i)]]) ⟨(min (t.M i) (c.tdiv (t.S i))),rfl,Oa,Oa,?_,rfl,D⟩ ?_
  ·
   intro j h1 h2 h3;have:=Zfl F I (by omega:i<t.n) h3 Oa;omega
  clear D w
  rintro Y M w ⟨n,rfl,ap,ao,qa,rfl,D⟩
  refine zsq<|zsq<|zdst [0,1,2,3] [0,1,2,3] 1000 mx_ D ?_;clear D;intro w D
  refine(zDw 0 xmv)<|(zDw 1 xmv)<|(zDw 2 (Zg (r:=i+1)))<|(zDw 3 (xix (kk:=i+1) Zi xL))<|(zDl 4 (fun w D=>(xlr (u:=(O (i+1))) pl_22 (D.c7 0 rfl))))<|(zDw 5 xmv)<|zDrv 6 xmv ?_
  have ac:=Zc6 F I (by omega:i<t.n) (show 0<=n by omega) (show n<=c.tdiv (t.S i) by omega) Oa
  have ai:=Zfk F I (by omega:i<t.n) (show 0<=n by omega) Oa
  have ah:=Xs F (i:=i+1) Oa Oa (c:=c-n*t.S i) Oa
  have ag:=Xs F (i:=i) Oa Oa (c:=c) Oa
  refine(zDw 7 (xfb 0 fd_247_0))<|(zDl 8 (fun w D=>(xlb 3 pl_3 D)))<|(zDw 9 (Z2 (r:=(n*(t.S i))) (e:=rfl)))<|(zDw 10 (Zw (r:=c-(n*(t.S i)))))<|(zDw 11 (xix (kk:=c-(n*(t.S i))) Zb (yt (i+1) Oa Oa)))<|(zDl 12 (fun w D=>(xlr (u:= .int Oh ((KI t) (i+1) (c-(n*(t.S i))))) pl_3 (D.fq (k:=i+1) 1 rfl Oa Oa))))<|(zDw 13 xmv)<|(zDw 14 (xfb 1 fd_247_1))<|(zDl 15 (fun w D=>(xlb 3 pl_3 D)))<|(zDw 16 (Z2 (r:=(n*(t.V i))) (e:=rfl)))<|(zDw 17 (Zg (r:=((KI t) (i+1) (c-(n*(t.S i))))+(n*(t.V i)))))<|(zDw 18 xmv)<|(zDw 19 xmv)<|(zDw 20 (xix (kk:=i) Zi xL))<|zdla 21 (fun w D=>(xlr (u:=(O i)) pl_22 (D.c7 0 rfl))) ?_
  refine(zDw 22 xmv)<|(zDw 23 (xix (kk:=c) Zb (yt i Oa Oa)))<|(zDl 24 (fun w D=>(xlr (u:= .int Oh ((KI t) i c)) pl_3 (D.fq (k:=i) 1 rfl Oa Oa))))<|(zDw 25 YM)<|zdd<|ztn ?_
  refine Ze ?_ ?_<;>intro hc
  ·
   refine zsk<|ztn<|zbk<|zrg<|(zP)<|(zV (Zw (r:=n-1)))<|(zP)<|zln<|zbn ?_
   have aq:Z≠n:=fun hh=>by rw [hh] at aj;omega
   refine zlq ⟨n-1,rfl,Oa,Oa,?_,rfl,D⟩
   ·
    intro j h1 h2 h3;by_cases e:j=n
    · rw [e];assumption
    · exact qa j Oa h2 h3
  refine zx8<|zlv xmv ?_
  have ac:=Zc6 F I (by omega:i<t.n) (show 0<=n by omega) (show n<=c.tdiv (t.S i) by omega) Oa
  have ai:=Zfk F I (by omega:i<t.n) (show 0<=n by omega) Oa
  have ah:=Xs F (i:=i+1) Oa Oa (c:=c-n*t.S i) Oa
  have ag:=Xs F (i:=i) Oa Oa (c:=c) Oa
  have aa:KI t (i+1) (c-n*t.S i)+n*t.V i=KI t i c:=Oa
  refine(zP)<|zla (xli (n:=1) (len:=1) (pv:= [(0,.int Oh n)]) (cs:= [.int Oh n]) (c:=ints (fun _=>n)) Zb Zm D) ?_;rintro v1 w ⟨D,am⟩
  refine zla (xap 2 (r:=J+1) Zb Zm D (D.c7 4 rfl) (Ya _ _ _)) ?_;rintro v2 w ⟨D,af⟩
  refine(zP)<|zlt<|zrg<|(Om)<|(zV (xfb 0 fd_247_0))<|(zV (xlb 3 pl_3 D))<|(zV (Z2 (r:=(n*(t.S i))) (e:=rfl)))<|(zV (Zw (r:=c-(n*(t.S i)))))<|(zP)<|zx10<|(zV (Zg (r:=i+1)))<|(zP)<|zln<|zlq ⟨J+1,c-(n*(t.S i)),i+1,v2,(snoc V J n),rfl,Oa,Oa,Oa,Oa,Oa,?_,?_,?_,rfl,D.pk [0,1,2]⟩
  ·
   rw [U,ZaF t V n I];omega
  ·
   rw [U];rw [al] at qa ac aa;exact KX.snoc ab I Oa Oa Oa aa (fun j Z j1 j2=>qa j Z j1 j2)
  ·
   exact af
 refine zxt<|ztx<|ztx<|zbh<|ztn<|zsq<|zdst [0,1,2] [0,1,2] 1000 mx_ D ?_;clear D;intro w D
 refine(zDw 0 xmv)<|(zDw 1 xmv)<|zDrv 2 (xix (kk:=0) Zi xL) ?_
 have aw:=Xs F (i:=0) Oa Oa (c:=cap) Oa
 refine(zDl 3 (fun w D=>(xlr (u:=(O 0)) pl_22 (D.c7 0 rfl))))<|(zDw 4 xmv)<|(zDw 5 (xix (kk:=cap) Zb (yt 0 Oa Oa)))<|(zDl 6 (fun w D=>(xlr (u:= .int Oh ((KI t) 0 cap)) pl_3 (D.fq (k:=0) 1 rfl Oa Oa))))<|(zDw 7 xas)<|(zDw 8 xas)<|(zDw 9 xas)<|zdd<|ztn<|zrt<|zf3 ⟨_,rfl,?_⟩
 obtain rfl:i=t.n:=Oa
 subst U
 exact⟨_,_,_,_,0,rfl,.inr ⟨F,rfl,ab,rfl,rfl⟩,ae,D.pk [2]⟩
end Go.Proofs.YtkichmnjjblodaaGreat
namespace Go.Proofs.YtkichmnjjblodaaGreat
open Go Go.RowKit Go.Proofs.Gw
variable {y:Oe} {vD vY:Value}
theorem Zli:Zc Oj 191=true:=Ob
theorem Zlh:Zc Oj 192=true:=Ob
theorem Zk7:Zc Oj 208=true:=Ob
def TJ(n:Int):Prop:=n<0\/1073741824<n
def ZaC(p:Prob)(n:Int)(y:Oe):Prop:=p.Ok/\n=p.m/\VS p y
def YY(p:Prob)(y:Oe):Its:=⟨p.m,fun i=>p.L i+p.bo,y,p.D⟩
theorem Zfj{p:Prob}(D:p.Ok)(I:VS p y):(YY p y).Ok (p.b8+p.bo):=by
 have h1:=D.m2;have X:=D.s1;have W:=D.s2;have V:=D.k1;have U:=D.k2
 refine⟨h1,Oa,Oa,fun i G F=> ?_⟩
 have J:=D.all i G F
 have O:=I i G F
 unfold Prob.each at J
 show Yy (p.L i+p.bo) (y i) (p.D i)
 unfold Yy;omega
def WC(p:Prob)(y:Oe):Int:=KI (YY p y) 0 (p.b8+p.bo)
noncomputable def aC(p:Prob)(y:Oe):Oe:= @dite _ (∃x,KX (YY p y) (p.b8+p.bo) x p.m) (Classical.propDecidable _) (fun h=>Classical.choose h) fun _ _=>0
theorem Zhj{p:Prob}(F:0<=p.m){x:Oe}(h:KX (YY p y) (p.b8+p.bo) x p.m):∀i,0<=i->i<p.m->x i=aC p y i:=by
 have D:∃x,KX (YY p y) (p.b8+p.bo) x p.m:=⟨x,h⟩
 have I:=Classical.choose_spec D
 unfold aC
 rw [dif_pos D]
 intro i G J
 exact KX.same (n:=p.m.toNat) (by rw [Int.toNat_of_nonneg F];exact h) (by rw [Int.toNat_of_nonneg F];exact I) i G Oa
def US(p:Prob)(n:Int)(y:Oe)(na:Int)(a:Oe)(worth e:Int):Prop:=(¬ZaC p n y/\na=0/\worth=0/\e=1)\/(ZaC p n y/\na=p.m/\a=aC p y/\(∃x,KX (YY p y) (p.b8+p.bo) x p.m)/\worth=WC p y/\e=0)
theorem Zmo{x:Int}(w0:World):
   Calls Oj 208 [.int Oh x].toArray w0 fun e w=>∃v,e= .returned v/\v=B (TJ x)/\Sat w0 w []:=by
 refine zenG Tryz.func208 Tryz.ntmps208 fun w D=> ?_
 refine zsr<|(zP)<|zlz<|(On)<|zlb 5 ?_ ?_<;>intro hc
 ·
  refine(zO)<|(zO)<|(Om)<|zx1<|Oi ?_
  exact⟨ZT (by unfold TJ;omega),D⟩
 refine zs4 ?_
 refine zx1<|Oi ?_
 exact⟨Zn (by unfold TJ;omega),D⟩
theorem ZiW{v:Value}{n:Int}{f:Oe}(w0:World)(G:Row w0 v 1 n (ints f)):
   Calls Oj 159 [v,.func (.func 208) #[] #[]].toArray w0 fun e w=>∃v,e= .returned v/\∃r:Int,v= .int Oh r/\((r= -1/\∀k,0<=k->k<n->¬(TJ (f k)))\/(0<=r/\r<n/\(TJ (f r))))/\Sat w0 w []:=by
 have hn:=G.cf.n0;have W:=G.cf.n1
 refine zenG Tryz.func159 Tryz.ntmps159 fun w D=> ?_
 refine zsr<|(zP)<|zx5<|(zP)<|(zV (xln Zb G.cf))<|(zP)<|zx6<|zlp (fun V M w=>∃(i:Int),V=((n-i).toNat)/\(0<=i)/\(i<=n)/\(∀k,0<=k->k<i->¬(TJ (f k)))/\M= [(0,v),(1,.func (.func 208) #[] #[]),(7,.int Oh n),(8,.int Oh i)]/\Sat w0 w []) ⟨0,rfl,Oa,Oa,?_,rfl,D⟩ ?_
 ·
  intro k O h1;omega
 clear D w
 rintro V M w ⟨i,rfl,O,h1,U,rfl,D⟩
 refine zsr<|(zP)<|zx7<|Ze ?_ ?_<;>intro hc
 ·
  refine zx3<|(Om)<|zlz<|(On)<|(zV (xix (kk:=i) Zb G.cf))<|(zV (xlr (u:= .int Oh (f i)) pl_3 (G.below D.below)))<|zlc (xc0 Zk7) (Zmo (x:=(f i)) w) ?_;rintro _ w ⟨rfl,F⟩
  replace D:=D.cmp F;clear F
  refine zlt<|Ze ?_ ?_<;>intro hc
  ·
   refine zsr<|(Om)<|zx2<|Oi ?_
   exact⟨i,rfl,.inr ⟨by omega,Oa,‹TJ (f i)›⟩,D⟩
  refine zx4<|(zV (Zg (r:=i+1)))<|(zP)<|zln<|zlq ⟨i+1,rfl,Oa,Oa,?_,rfl,D⟩
  ·
   intro k J X;rcases Int.lt_or_eq_of_le (show k<=i by omega) with I|I;exact U k J I;rw [I];assumption
 refine zx8<|(zP)<|zx1<|Oi ?_
 exact⟨-1,rfl,.inl ⟨rfl,fun k O h1=>U k O Oa⟩,D⟩
theorem Zi5{v:Value}{n:Int}{f:Oe}(w0:World)(I:Row w0 v 1 n (ints f)):
   Calls Oj 151 [v,.func (.func 208) #[] #[]].toArray w0 fun e w=>∃v,e= .returned v/\v=B (∃k,0<=k/\k<n/\(TJ (f k)))/\Sat w0 w []:=by
 refine zenG Tryz.func151 Tryz.ntmps151 fun w F=> ?_
 refine zsr<|(zP)<|zlz<|(Om)<|zlc (xc0 Vc) (ZiW w (I.below F.below)) ?_;rintro _ w ⟨V,rfl,G,D⟩
 replace F:=F.cmp D;clear D
 refine(Om)<|zx1<|Oi ?_
 exact⟨Zn (by
  rcases G with⟨h1,h2⟩|⟨h1,h2,h3⟩
  · exact⟨fun h=>Oa,fun⟨k,U,O,J⟩=>absurd J (h2 k U O)⟩
  · exact⟨fun _=>⟨_,h1,h2,h3⟩,fun _=>h1⟩),F⟩
theorem ZgN{vL:Value}{p:Prob}{n:Int}(w0:World)(h:PAt w0 vL vD p)(G:Row w0 vY 1 n (ints y)):
   Calls Oj 191 [.agg #[vL,vD,.int Oh p.b8,.int Oh p.bo],vY].toArray w0 fun e w=>∃v,e= .returned v/\v=B (ZaC p n y)/\Sat w0 w []:=by
 obtain⟨hm,Z,hd,hd1,hs,O⟩:=h.Oo
 have Y:=G.cf.n0;have X:=G.cf.n1
 refine zenG Tryz.func191 Tryz.ntmps191 fun w D=> ?_
 refine zsr<|zla (xbx (cs:= [_,_,_,_]) D) ?_;rintro _ w ⟨g1,rfl,D⟩
 refine(zP)<|zlz<|(zV (xls 0 st_32 D))<|zlc (xc0 XZ) (Yn (p:=p) w (h.below D.below)) ?_;rintro _ w ⟨rfl,F⟩
 replace D:=D.cmp F;clear F
 refine(zP)<|zlb 7 ?_ ?_<;>intro hc
 ·
  refine(zP)<|(zV (xln Zb G.cf))<|(zV (xfb 0 fd_32_0))<|(zV (xlb 0 pl_22 D))<|(zV (xln Zb h.L.cf))<|(On)<|zlb 15 ?_ ?_<;>intro hc
  ·
   refine(zP)<|zlc (xc0 Vd) (Zi5 (n:=n) (f:=y) w (G.below D.below)) ?_;rintro _ w ⟨rfl,F⟩
   replace D:=D.cmp F;clear F
   refine(On)<|zx1<|Oi ?_
   exact⟨Zn (by exact⟨fun W=>⟨by assumption,Oa,fun k I V=>by have:¬TJ (y k):=fun hh=>W ⟨k,I,Oa,hh⟩;unfold TJ at this;omega⟩,fun⟨h1,U,J⟩ ⟨k,I,V,O⟩=>by have:=J k I Oa;unfold TJ at O;omega⟩),D.nl⟩
  iterate 3 refine zlo ?_
  refine(Om)<|zx1<|Oi ?_
  exact⟨false_B (by rintro⟨h1,U,J⟩;first|exact absurd h1 ‹_›|omega),D.nl⟩
 iterate 6 refine zlo ?_
 refine zs2 ?_
 iterate 3 refine zlo ?_
 refine(Om)<|zx1<|Oi ?_
 exact⟨false_B (by rintro⟨h1,U,J⟩;first|exact absurd h1 ‹_›|omega),D.nl⟩
theorem Zep{vL:Value}{p:Prob}{n:Int}(w0:World)(h:PAt w0 vL vD p)(F:Row w0 vY 1 n (ints y)):
   Calls Oj 112 [.agg #[vL,vD,.int Oh p.b8,.int Oh p.bo],vY].toArray w0 fun e w=>∃v,e= .returned v/\v=B (ZaC p n y)/\Sat w0 w []:=by
 obtain⟨hm,ab,hd,hd1,hs,O⟩:=h.Oo
 have aa:=F.cf.n0;have Z:=F.cf.n1
 refine zenG Tryz.func112 Tryz.ntmps112 fun w D=> ?_
 refine zsr<|zla (xbx (cs:= [_,_,_,_]) D) ?_;rintro _ w ⟨g1,rfl,D⟩
 refine(zP)<|zx5<|(zV (xls 0 ZE D))<|zlc (xc0 Ut) (YB (p:=p) w (h.below D.below)) ?_;rintro _ w ⟨rfl,I⟩
 replace D:=D.cmp I;clear I
 refine(Om)<|zlb 9 ?_ ?_<;>intro hc
 ·
  iterate 6 refine zlo ?_
  refine(zP)<|zlt<|zct<|zsr ?_
  refine(zP)<|zx14<|Oi ?_
  exact⟨false_B (by rintro⟨h1,U,G⟩;first|exact absurd h1 ‹_›|omega|(have:=G i J Oa;omega)),D.nl⟩
 refine(zP)<|(zV (xln Zb F.cf))<|(zV (xfb 0 fd_24_0))<|(zV (xlb 0 pl_22 D))<|(zV (xln Zb h.L.cf))<|(Om)<|zlt<|Ze ?_ ?_<;>intro hc
 ·
  refine zsr<|(zP)<|zx14<|Oi ?_
  exact⟨false_B (by rintro⟨h1,U,G⟩;first|exact absurd h1 ‹_›|omega|(have:=G i J Oa;omega)),D.nl⟩
 refine YL<|(zP)<|zx6<|zlp (fun X M w=>∃(i:Int),X=((n-i).toNat)/\(0<=i)/\(i<=n)/\(∀k,0<=k->k<i->0<=y k/\y k<=1073741824)/\M= [(1,vY),(5,.int Oh i)]/\Sat w0 w [.blk g1 [vL,vD,.int Oh p.b8,.int Oh p.bo]]) ⟨0,rfl,Oa,Oa,?_,rfl,D⟩ ?_
 ·
  intro k J h1;omega
 clear D w
 rintro X M w ⟨i,rfl,J,h1,W,rfl,D⟩
 refine zx11<|(Om)<|(zV (xln Zb F.cf))<|(zP)<|zlt<|Ze ?_ ?_<;>intro hc
 ·
  refine zx3<|(Om)<|(zV (xix (kk:=i) Zb F.cf))<|(zV (xlr (u:= .int Oh (y i)) pl_3 (F.below D.below)))<|(Om)<|zlb 28 ?_ ?_<;>intro hc
  ·
   iterate 5 refine zlo ?_
   refine(zP)<|zlt<|zct<|zsr ?_
   refine(zP)<|zx2<|Oi ?_
   exact⟨false_B (by rintro⟨h1,U,G⟩;first|exact absurd h1 ‹_›|omega|(have:=G i J Oa;omega)),D.nl⟩
  refine(Om)<|(zV (xix (kk:=i) Zb F.cf))<|(zV (xlr (u:= .int Oh (y i)) pl_3 (F.below D.below)))<|(Om)<|zlt<|Ze ?_ ?_<;>intro hc
  ·
   refine zsr<|(zP)<|zx2<|Oi ?_
   exact⟨false_B (by rintro⟨h1,U,G⟩;first|exact absurd h1 ‹_›|omega|(have:=G i J Oa;omega)),D.nl⟩
  refine zx4<|(zP)<|(zV (Zg (r:=i+1)))<|(zP)<|zln<|zlq ⟨i+1,rfl,Oa,Oa,?_,rfl,D⟩
  ·
   intro k V ac;rcases Int.lt_or_eq_of_le (show k<=i by omega) with O|O;exact W k V O;rw [O];omega
 refine zx8<|(zP)<|zx1<|Oi ?_
 exact⟨ZT (by exact⟨by first|assumption|exact Oc ‹_›,Oa,fun k Y k1=>W k Y Oa⟩),D.nl⟩
theorem ZiR{vL:Value}{p:Prob}{n:Int}(w0:World)(h:PAt w0 vL vD p)(U:Row w0 vY 1 n (ints y)):
   Calls Oj 165 [.agg #[vL,vD,.int Oh p.b8,.int Oh p.bo],vY].toArray w0 fun e w=>∃v,e= .returned v/\∃r na a worth e,v= .tuple #[r,.int Oh worth,.int Oh e]/\US p n y na a worth e/\Slh r na/\Sat w0 w [.own r 1 3 na (ints a)]:=by
 obtain⟨hm,ao,hd,hd1,hs,hk⟩:=h.Oo
 have al:=U.cf.n0;have ak:=U.cf.n1
 refine zenG Tryz.func165 Tryz.ntmps165 fun w D=> ?_
 refine zsr<|zla (xbx (cs:= [_,_,_,_]) D) ?_;rintro _ w ⟨g1,rfl,D⟩
 refine(On)<|zx5<|(zV (xls 0 st_32 D))<|(zP)<|zlc (xc0 Zli) (ZgN (p:=p) (n:=n) (y:=y) w (h.below D.below) (U.below D.below)) ?_;rintro _ w ⟨rfl,G⟩
 replace D:=D.cmp G;clear G
 refine(zP)<|zlt<|Ze ?_ ?_<;>intro hc
 ·
  refine zsr<|(On)<|zx14<|zf3 ⟨_,rfl,?_⟩
  exact⟨_,0,fun _=>0,0,1,rfl,.inl ⟨‹¬ZaC p n y›,rfl,rfl,rfl⟩,slh_nil,(D.cg 1 3 (ints fun _=>0)).pk [1]⟩
 refine ZM<|(zP)<|zx5<|(zV (xfb 0 fd_32_0))<|(zV (xlb 0 pl_22 D))<|(zV (xln Zb h.L.cf))<|(zP)<|zx6 ?_
 have J:ZaC p n y:=by first|assumption|exact Oc ‹_›
 obtain⟨F,aj,aa⟩:=id J
 have ai:=F.s1;have ah:=F.s2;have aq:=F.k1;have ap:=F.k2;have an:=F.m2;have am:=F.d
 replace D:=D.cg 3 247 (ZW (fun _=>0) (fun _=>0) (fun _=>0))
 refine zlp (fun mm M w=>∃(I:Int) (Y:Oe) (X:Oe) (Z:Oe) (i:Int) (V:Value),mm=((p.m-i).toNat)/\(0<=i)/\(i<=p.m)/\(I=i)/\(∀k,0<=k->k<i->Y k=(YY p y).S k/\X k=(YY p y).V k/\Z k=(YY p y).M k)/\(Slh V I)/\M= [(1,vY),(2,Oq g1),(4,Og),(5,.int Oh 0),(6,.int Oh 0),(7,V),(15,vL),(16,.int Oh p.m),(17,.int Oh i)]/\Sat w0 w [.blk g1 [vL,vD,.int Oh p.b8,.int Oh p.bo],.own V 3 247 I (ZW Y X Z)]) ⟨0,(fun _=>0),(fun _=>0),(fun _=>0),0,Og,rfl,Oa,Oa,Oa,?_,?_,rfl,D⟩ ?_
 ·
  intro k W k1;omega
 ·
  exact slh_nil
 clear D w
 rintro mm M w ⟨I,Y,X,Z,i,V,rfl,h0,h1,ac,O,af,rfl,D⟩
 refine zsr<|(zP)<|zx7<|Ze ?_ ?_<;>intro hc
 ·
  refine zx3<|(zP)<|(zV (xix (kk:=i) Zb h.L.cf))<|zlv (xlr (u:= .int Oh (p.L i)) pl_3 (h.L.below D.below)) ?_
  have ae:=h.iL i
  have he:=F.all i h0 Oa;unfold Prob.each at he
  refine(Om)<|zlt<|zdst [0] [0] 1000 mx_ D ?_;clear D;intro w D
  refine(zDw 0 xmv)<|(zDw 1 xmv)<|(zDw 2 (xfb 3 fd_32_3))<|(zDl 3 (fun w D=>(xlb 0 pl_3 D)))<|(zDw 4 (Zg (r:=p.L i+p.bo)))<|(zDw 5 xmv)<|(zDw 6 xmv)<|(zDw 7 (xix (kk:=i) Zb U.cf))<|(zDl 8 (fun w D=>(xlr (u:= .int Oh (y i)) pl_3 (U.below D.below))))<|(zDw 9 (xfb 1 fd_32_1))<|(zDl 10 (fun w D=>(xlb 0 pl_22 D)))<|(zDw 11 xmv)<|(zDw 12 (xix (kk:=i) Zb h.D.cf))<|zdla 13 (fun w D=>(xlr (u:= .int Oh (p.D i)) pl_3 (h.D.below D.below))) ?_
  have ae:=h.iD i
  refine(zDw 14 (xany (v:= .agg #[.int Oh (p.L i+p.bo),.int Oh (y i),.int Oh (p.D i)])))<|zda 15 (xli (n:=1) (len:=1) (pv:= [(0,.agg #[.int Oh (p.L i+p.bo),.int Oh (y i),.int Oh (p.D i)])]) (cs:= [.int Oh (p.L i+p.bo),.int Oh (y i),.int Oh (p.D i)]) (c:=ZW (fun _=>p.L i+p.bo) (fun _=>(y i)) (fun _=>p.D i)) XS Zcm D) ?_;rintro v1 w ⟨D,ag⟩
  refine⟨⟨fun _=>D.pk [0],D.pk [0]⟩,?_⟩
  refine zda 16 (xap 1 (r:=I+1) XS Zcm D (D.c7 2 rfl) (T7 ..) (h1:=(fun k _ _=>T3 _ _ _ k))) ?_;rintro v2 w ⟨D,ab⟩
  refine⟨⟨fun _=>D.pk [0],D.pk [0]⟩,?_⟩
  refine(zDw 17 xas)<|zdd<|zbn<|ztn<|zrg ?_
  refine(zV (Zg (r:=i+1)))<|(zP)<|zln<|zlq ⟨I+1,(snoc Y I (p.L i+p.bo)),(snoc X I (y i)),(snoc Z I (p.D i)),i+1,v2,rfl,Oa,Oa,Oa,?_,?_,rfl,D.pk [0,1]⟩
  ·
   intro k W k1;by_cases e:k<i
   · rw [Zl Oa,Zl Oa,Zl Oa];exact O k W e
   · obtain rfl:k=i:=Oa
     rw [Zk Oa,Zk Oa,Zk Oa];exact⟨rfl,rfl,rfl⟩
  ·
   exact ab
 refine zx8<|zlv xmv ?_
 obtain rfl:i=p.m:=Oa
 subst ac
 replace D:=D.gi 1 rfl (d:=ZW (YY p y).S (YY p y).V (YY p y).M) (Ur O)
 refine(zV (xfb 2 fd_32_2))<|(zV (xlb 0 pl_3 D))<|(zV (xfb 3 fd_32_3))<|(zV (xlb 0 pl_3 D))<|(zV (Zg (r:=p.b8+p.bo)))<|zlc (xc0 Zlh) (Zg2 (t:=(YY p y)) (cap:=(p.b8+p.bo)) w (D.c7 1 rfl)) ?_;rintro _ w ⟨eO,bU,eK,eL,gZ,rfl,aQ,aF,G⟩
 replace D:=(D.comp G).n3;clear G
 refine zs6 ?_
 refine zx1<|zf3 ⟨_,rfl,?_⟩
 have ad:=Zfj F aa
 obtain⟨_,q2,q3,q4,q5⟩:=aQ.resolve_left (fun hh=>hh.1 ad)
 replace q2:bU=p.m:=q2
 subst q2
 replace D:=D.gi 2 rfl (d:=ints (aC p y)) (fun k W k1=>by unfold ints;rw [Zhj Oa q3 k W Oa])
 exact⟨_,_,_,_,_,rfl,.inr ⟨J,rfl,rfl,⟨_,q3⟩,q4,q5⟩,aF,D.pk [2]⟩
end Go.Proofs.YtkichmnjjblodaaGreat
namespace Go.Proofs.Gw
open Go Go.RowKit
section
variable {P:Program} {L:List (Nat×Value)} {w w0:World} {o:Oper} {x y z:Operand} {T T':TypeId} {l:List Ent} {E:TypeId}
theorem UX (g q:Nat) (E:TypeId):∀(vs:List Value) (k:Nat) (cur:List Value) (w:World),w.heap[g]? =some (.cells cur.toArray E (0,0))->q+k+vs.length<=cur.length->(∀v∈vs,v.oneCell'=true)->
   ∃w',(storeCells ⟨g,q,none⟩ vs k).run P w= .ok () w'/\w'.heap[g]? =some (.cells (cur.take (q+k)++vs++cur.drop (q+k+vs.length)).toArray E (0,0))/\(∀j,j≠g->w'.heap[j]? =w.heap[j]?)/\w'.tape=w.tape/\w'.os=w.os/\w'.output=w.output/\w'.heap.size=w.heap.size
 | [],k,cur,w,hg,hk,_=>⟨w,rfl,by simp [hg],fun _ _=>rfl,rfl,rfl,rfl,rfl⟩
 | v ::vs,k,cur,w,hg,hk,h1=>by
   simp only [List.length_cons] at hk
   have hv:=h1 v (by simp)
   have hlt:q+k<cur.length:=Oa
   have hc:w.cell? ⟨g,q+k,none⟩=some cur[q+k]:=by simp [World.cell?,hg,hlt]
   have hf:w.frozen? ⟨g,q+k,none⟩=false:=by simp [World.frozen?,hg]
   have D:(w.setCell ⟨g,q+k,none⟩ v).heap[g]? =some (.cells (cur.set (q+k) v).toArray E (0,0)):=by simp [World.setCell,Array.getElem?_modify,hg]
   obtain⟨w',X,W,V,U,O,J,I⟩:=UX g q E vs (k+1) (cur.set (q+k) v) (w.setCell ⟨g,q+k,none⟩ v) D (by simp;omega) (fun u G=>h1 u (by simp [G]))
   refine⟨w',?_,?_,fun j F=> ?_,U,O,J,?_⟩
   · have e0:(⟨g,q,none⟩:Addr).add k=⟨g,q+k,none⟩:=by rw [Addr.add_eq _ rfl]
     simp only [storeCells,Sem.run_bind,e0]
     rw [run_store P w _ v _ hv,hc]
     simp only [hf]
     exact X
   · rw [W]
     congr 3
     have Z:(cur.set (q+k) v).take (q+(k+1))=cur.take (q+k)++ [v]:=by
       rw [show q+(k+1)=q+k+1 by omega,List.take_set,List.take_succ_eq_append_getElem hlt,List.set_append_right _ _ (by simp;omega)]
       simp [Nat.min_eq_left (Nat.le_of_lt hlt)]
     have Y:(cur.set (q+k) v).drop (q+(k+1)+vs.length)=cur.drop (q+k+(v::vs).length):=by
       rw [List.drop_set_of_lt Oa];congr 1;simp;omega
     rw [Z,Y];simp
   · rw [V j F];exact Below.heap_setCell _ _ _ _ F
   · rw [I];simp [World.setCell]
theorem xsp(i:Nat){g q k:Nat}{cs ds es:List Value}(O:ZC P T=some k)(G:Sat w0 w l)(U:o.op= .store T x y:=by exact rfl)(hi:l[i]? =some (.blk g cs):=by exact rfl)(J:evL L x=some (.pointer (some ⟨g,q,none⟩)):=by exact rfl)(I:evL L y=some (.agg ds.toArray):=by exact rfl)
   (V:ds.length=k:=by exact rfl) (hc:Nat.ble (q+ds.length) cs.length=true:=by exact rfl) (Y:cs.take q++ds++cs.drop (q+ds.length)=es:=by exact rfl) (hd:∀v∈ds,v.oneCell'=true:=by repeat' first|exact Zh|apply Za rfl):∃w',Runs P L w o .skip w'/\Sat w0 w' (l.set i (.blk g es)):=by
 obtain⟨_,F⟩:=Xy (w:=w) O
 obtain⟨E,X⟩:=G.holds _ (List.mem_of_getElem? hi)
 obtain⟨w',h3,h4,h5,h6,h7,Z,h9⟩:=UX (P:=P) g q E ds 0 cs w X (by have:=Nat.le_of_ble_eq_true hc;omega) hd
 refine⟨w',fun ρ h=> ?_,?_⟩
 · simp [execOp,U,h _ _ J,h _ _ I,Instr.storeAt,Instr.sureAddr,storeVar,Value.cells,F,V,h3]
 · have D:=G
   rw [Yf hi] at D
   rw [YN hi]
   refine D.turn (fun j _ W=>h5 j (fun e=>W (by rw [e];rfl))) h6 h7 Z Oa ⟨E,?_⟩ (fun _ h=> .inl h)
   rw [h4,Nat.add_zero,Y]
theorem ZmY {l:List Ent} (h:(Frame.gm l).holds w) (is:List Nat) (hn:is.Nodup:=by decide):(Frame.gm (pkL l is)).holds w:=by
 refine⟨fun e he=> ?_,?_⟩
 · obtain⟨i,_,hi⟩:=Wc he;exact h.1 e (List.mem_of_getElem? hi)
 · have U:=h.2
   induction is with
   |nil=>exact List.Pairwise.nil
   | cons i is ih=>
     obtain⟨D,hn⟩:=List.nodup_cons.1 hn
     unfold pkL
     cases hi:l[i]? with
     |none=>exact ih hn
     | some e=>
       refine List.pairwise_cons.2 ⟨fun e' O=> ?_,ih hn⟩
       obtain⟨j,Z,G⟩:=Wc O
       have I:=(List.getElem?_eq_some_iff.1 hi)
       have F:=(List.getElem?_eq_some_iff.1 G)
       obtain⟨V,W⟩:=I
       obtain⟨X,Y⟩:=F
       have J:i≠j:=fun e=>D (e▸Z)
       rcases Nat.lt_or_gt_of_ne J with h1|h1
       · have:=List.pairwise_iff_getElem.1 U i j V X h1
         rw [W,Y] at this;exact this
       · have:=List.pairwise_iff_getElem.1 U j i X V h1
         rw [W,Y] at this;exact this.symm
theorem Zjg{l:List Ent}(is:List Nat){g:Nat}(h:(Frame.gm (pkL l is)).has g):(Frame.gm l).has g:=by
 obtain⟨e,F,D⟩:=h
 obtain⟨i,_,hi⟩:=Wc F
 exact⟨e,List.mem_of_getElem? hi,D⟩
def Frame.gives(F:Frame)(l:List Ent):Prop:=(∀w,F.holds w->(Frame.gm l).holds w)/\∀g,(Frame.gm l).has g->F.has g
theorem TS{l m:List Ent}(is:List Nat)(e:pkL l is=m:=by exact rfl)(hn:is.Nodup:=by decide):(Frame.gm l).gives m:=by
 subst e;exact⟨fun w h=>ZmY h is hn,fun g h=>Zjg is h⟩
theorem Sat.given{l:List Ent}(h:Sat w0 w l)(i:Nat){F:Frame}{m:List Ent}(D:F.gives m)(hi:l[i]? =some (.sem F):=by exact rfl):Sat w0 w (l.set i (.sem (Frame.gm m))):=by
 have G:=h
 rw [Yf hi] at G
 rw [YN hi]
 exact G.turn (d:= .sem F) (fun k _ _=>rfl) rfl rfl rfl (Nat.le_refl _) (D.1 _ (h.holds _ (List.mem_of_getElem? hi))) (fun g I=> .inl (D.2 g I))
end
end Go.Proofs.Gw
namespace Go.Proofs.Gw
open Go Go.RowKit
def FZ(r:Option Nat):Fence:={fn:=fun _=>True,depth:=none,alive:=false,round:=r}
theorem Vi{P:Program}{f:FuncId}{args:Array Value}{w:World}{R:Ending->World->Prop}{r:Option Nat}{n:Nat}(h:Calls P f args w R):CallsIn (FZ r) n P f args w R:=
 (callsIn_wide (n:=n)).2 h
theorem Kx{P:Program}{f:FuncId}{args:Array Value}{w:World}{R:Ending->World->Prop}{r:Option Nat}{n:Nat}(h:CallsIn (FZ r) n P f args w R):Calls P f args w R:=
 (callsIn_wide (n:=n)).1 h
abbrev Frd(a:Act)(n:Nat)(ds:List Deferred)(L:List (Nat×Value)):Prop:=Fr a n ds L
def ndf(o:Oper):Bool:=match o.op with
  | .defer _=>false
  |_=>true
theorem WF{o:Oper}(h:ndf o=true)(r:Option Nat)(ρ:Operand->Value):o.semAt r ρ=execOp ρ o:=
 Oper.semAt_eq _ _ _ (by intro c hc;unfold ndf at h;rw [hc] at h;cases h)
section
variable {P:Program} {l rest:List Oper} {Q Q':Exit->Act->World->Prop} {w w' w0:World} {o:Oper} {n d:Nat} {L M:List (Nat×Value)} {x y:Code} {c:Operand} {e:Exit} {p:Prop} {r:Option Nat} {ds:List Deferred}
def Hl(P:Program)(r:Option Nat)(n:Nat)(l:List Oper)(Q:Exit->Act->World->Prop)(rest:List Oper)(ds:List Deferred)(L:List (Nat×Value))(w:World):Prop:=∀a,Frd a n ds L->wpListIn (FZ r) 0 P l.toArray Q rest a w
def Hc(P:Program)(r:Option Nat)(n:Nat)(Q:Exit->Act->World->Prop)(x:Code)(ds:List Deferred)(L:List (Nat×Value))(w:World):Prop:=∀a,Frd a n ds L->x.wpIn (FZ r) 0 P Q a w
abbrev He(n:Nat)(Q:Exit->Act->World->Prop)(e:Exit)(ds:List Deferred)(L:List (Nat×Value))(w:World):Prop:=Ge n ds Q e L w
theorem U1{b:Bool}{a:Act}(D:Frd a n ds L)(h:gdB l L o=some b):Region.wanted o (yielded l.toArray a.tmps)=b:=by
 exact(Yl h).wanted D
theorem hlv{v:Value}(hr:Runs P L w o (.value v) w')(K:Hl P r n l Q rest ds ((d,v)::L) w')(G:gdB l L o=some true:=by exact rfl)(hd:o.dst=some d:=by exact rfl)(D:Nat.blt d n=true:=by exact rfl)(hn:ndf o=true:=by exact rfl):Hl P r n l Q (o::rest) ds L w:=fun a F=>by
 unfold wpListIn
 rw [if_pos (U1 F G)]
 refine⟨fun _ _=>trivial,?_⟩
 rw [WF hn,hr _ F.iu,Oper.uponIn_value,hd]
 exact K _ (F.put (by simpa [Nat.blt_eq] using D) v)
theorem hlo(K:Hl P r n l Q rest ds ((d,undef)::L) w)(G:gdB l L o=some false:=by exact rfl)(hd:o.dst=some d:=by exact rfl)(D:Nat.blt d n=true:=by exact rfl):Hl P r n l Q (o::rest) ds L w:=fun a F=>by
 unfold wpListIn
 rw [if_neg (by rw [U1 F G];simp)]
 refine⟨fun _ _=>trivial,?_⟩
 rw [hd]
 exact K _ (F.put (by simpa [Nat.blt_eq] using D) undef)
theorem hlc{f:FuncId}{args:Array Value}{R:Value->World->Prop}(hr:Runs P L w o (.enter f args) w)(hc:Calls P f args w fun e w'=>∃v,e= .returned v/\R v w')(K:∀v w',R v w'->Hl P r n l Q rest ds ((d,v)::L) w')
   (G:gdB l L o=some true:=by exact rfl) (hd:o.dst=some d:=by exact rfl) (D:Nat.blt d n=true:=by exact rfl) (hn:ndf o=true:=by exact rfl):Hl P r n l Q (o::rest) ds L w:=fun a F=>by
 unfold wpListIn
 rw [if_pos (U1 F G)]
 refine⟨fun _ _=>trivial,?_⟩
 rw [WF hn,hr _ F.iu,Oper.uponIn_enter]
 refine⟨fun h=>(by cases h),Vi (hc.mono fun e w' ⟨v,he,hR⟩=> ?_)⟩
 subst he
 rw [hd]
 exact K v w' hR _ (F.put (by simpa [Nat.blt_eq] using D) v)
def Yld(P:Program)(l:Nat)(vs:List Value)(w:World)(R:Value->World->Prop):Prop:=
  ∃fn tmps assign body,(Instr.yield l vs.toArray).run P w= .ok (.round l fn tmps assign body) w/\RoundIn (FZ none) 0 P l fn tmps assign body w fun e w'=>∃v,e= .returned v/\R v w'
theorem xyl{F:Nat}{D:Array Operand}{ts:Array TypeId}{vs:List Value}{z:Operand}{N:Next}(G:(Instr.yield F vs.toArray).run P w= .ok N w)(J:o.op= .call {callee:= .value z,args:=D,argTypes:=ts})(I:evL L z=some (.func (.yield F) #[] #[]))(O:UU L D vs):Runs P L w o N w:=fun ρ h=>by
 have h1:=O ρ h
 simp [execOp,J,resolve,h _ _ I,Deferred.ofValue,invoke,h1,G]
theorem hly{O:Nat}{J:Array Operand}{ts:Array TypeId}{vs:List Value}{z:Operand}{R:Value->World->Prop}(hY:Yld P O vs w R)(K:∀v w',R v w'->Hl P none n l Q rest ds ((d,v)::L) w')
   (U:o.op= .call {callee:= .value z,args:=J,argTypes:=ts}:=by exact rfl) (X:evL L z=some (.func (.yield O) #[] #[]):=by exact rfl) (Z:UU L J vs:=by repeat' first|exact ZbI|apply Wu rfl)
   (Y:gdB l L o=some true:=by exact rfl) (hd:o.dst=some d:=by exact rfl) (F:Nat.blt d n=true:=by exact rfl):Hl P none n l Q (o::rest) ds L w:=fun a I=>by
 obtain⟨fn,tmps,D,V,W,G⟩:=hY
 have hr:=xyl (P:=P) (L:=L) (o:=o) W U X Z
 unfold wpListIn
 rw [if_pos (U1 I Y)]
 refine⟨fun _ _=>trivial,?_⟩
 rw [WF (by unfold ndf;rw [U]),hr _ I.iu,Oper.uponIn_round]
 refine⟨fun h=>(by cases h),G.mono fun e w' ⟨v,he,G⟩=> ?_⟩
 subst he
 rw [hd]
 exact K v w' G _ (I.put (by simpa [Nat.blt_eq] using F) v)
theorem hln(K:He n Q .normal ds L w):Hl P r n l Q [] ds L w:=K
theorem hsq(h:Hc P r n (Exit.then (y.wpIn (FZ r) 0 P Q) Q) x ds L w):Hc P r n Q (.seq x y) ds L w:=fun a D=>wpIn_seq (h a D)
theorem hrg{id:Nat}(h:Hl P r n l Q l ds L w):Hc P r n Q (.region id l.toArray false) ds L w:=fun a D=>wpIn_region_lit (h a D)
def TK(Q:Exit->Act->World->Prop):Exit->Act->World->Prop:=fun e a w=>e= .normal/\Q .normal a w
theorem Zba:¬LetsOut (TK Q):=fun⟨_,_,h⟩=>by cases h.1
theorem ZhN{row:String}{args:Array Value}{R:Value->World->Prop}(h:Rows P row args w R):RowsIn (FZ r) 0 P row args w R:=fun c cs _=>by
 obtain⟨v,w',h1,D⟩:=h c cs
 exact⟨v,w',h1,(stepsIn_wide (P:=P)).2 D⟩
theorem WE {ops:Array Oper} {Qn:Exit->Act->World->Prop} (G:∀a w,Qn .normal a w->Q .normal a w) (F:∀U a w,¬Qn (.panic U) a w) (D:¬LetsOut Qn) (hn:ops.toList.all ndf=true):∀(is:List Nat) (a:Act) (w:World),wpOps P ops Qn is a w->wpOpsIn (FZ r) 0 P ops Q is a w
 | [],a,w,h=>G _ _ h
 | i ::is,a,w,h=>by
   unfold wpOps at h
   unfold wpOpsIn
   cases J:ops[i]? with
   |none=>simp only [J] at h⊢;exact WE G F D hn is a w h
   | some o=>
     simp only [J] at h⊢
     have V:ndf o=true:=List.all_eq_true.1 hn o (by
       obtain⟨hi,rfl⟩:=Array.getElem?_eq_some_iff.1 J
       simp)
     by_cases hw:Region.wanted o (yielded ops a.tmps)=true
     · rw [if_pos hw] at h⊢
       refine⟨fun _ _=>trivial,?_⟩
       rw [WF V]
       rcases h with h|h
       · unfold Oper.wp at h
         cases O:(execOp a.eval o).run P w with
         | ok N w1=>
           rw [O] at h
           cases N with
           |value v=>exact WE G F D hn is _ _ h
           |skip=>exact WE G F D hn is _ _ h
           |defer d=>exact WE G F D hn is _ _ h
           | enter f args=>
             refine⟨fun h=>(by cases h),Vi (Calls.mono h fun e w' I=> ?_)⟩
             cases e with
             |returned v=>exact WE G F D hn is _ _ I
             |panicked U=>exact absurd I (F _ _ _)
             |outgrown=>exact absurd I D
           | row rw args=>
             refine⟨fun h=>(by cases h),ZhN (Rows.mono h fun v w' I=>WE G F D hn is _ _ I)⟩
           |_=>exact h.elim
         | halt x w1=>
           rw [O] at h
           cases x with
           |panic v=>exact absurd h (F _ _ _)
           |_=>exact h.elim
       · exact absurd h.2 D
     · rw [if_neg hw] at h⊢
       exact⟨fun _ _=>trivial,WE G F D hn is _ _ h⟩
theorem Znh:∀a w,TK Q .normal a w->Q .normal a w:=fun _ _ h=>h.2
theorem Zng:∀D a w,¬TK Q (.panic D) a w:=fun _ _ _ h=>by cases h.1
theorem zh(h:Ge n ds Q .normal L w):Ge n ds (TK Q) .normal L w:=fun a D=>⟨rfl,h a D⟩
theorem Za5{ops:Array Oper}{a:Act}(h:wpList P ops Q ops.toList a w):wpOps P ops Q (List.range ops.size) a w:=by
 rw [List.range_eq_range',<-Array.length_toList,wpOps_eq_wpList ops.toList 0 (by simp)];exact h
theorem hrz{id:Nat}(h:Gl P n ds l (TK Q) l L w)(hn:l.all ndf=true:=by exact rfl):Hc P r n Q (.region id l.toArray false) ds L w:=fun a D=>
 wpIn_region (WE Znh Zng Zba (by simpa using hn) _ _ _ (Za5 (by have:=h a D;simpa using this)))
theorem hdst{w0:World}{id:Nat}{m m0 m1:List Ent}{fuel:Nat}(is D:List Nat)(brk:Nat)(V:P.follows .mixedOrders=true)(O:Sat w0 w m)(K:∀w',Sat w0 w' m->Gd P n ds l (TK Q) (fun w'=>Sat w0 w' m0) (fun w'=>Sat w0 w' m1) brk fuel (Array.replicate fuel false) L w')
   (Y:pkL m is=m0:=by exact rfl) (h1:pkL m D=m1:=by exact rfl) (I:is.Nodup:=by decide) (G:D.Nodup:=by decide) (hn:l.length=fuel:=by exact rfl) (F:l.all ndf=true:=by exact rfl):Hc P r n Q (.region id l.toArray true) ds L w:=fun a W=>by
 subst Y;subst h1;subst hn
 refine wpIn_region_draw fun t=>WE (Qn:=NoPanic (TK Q)) (fun _ _ h=>h.2) (fun _ _ _ h=>h.elim) (fun⟨_,_,h⟩=>by cases h.1) (by simpa using F) _ _ _ ?_
 simp only [Region.schedule,V,Bool.true_or,if_true]
 have J:Closed l.toArray (Array.replicate l.length false):=by have:=Closed.start (ops:=l.toArray);simpa using this
 have X:=VG _ _ _ _ (K w.drew O.draw J ⟨fun _=>O.draw.pk is I,O.draw.pk D G⟩ a W)
 have U:=wpAny_sound l.length t _ a _ X
 have e:l.toArray.size=l.length:=by simp
 first|exact U|(unfold Region.linearise;rw [e];exact U)
theorem Xq(F:p->Hc P r n Q x ds L w)(hf:¬p->Hc P r n Q y ds L w)(hc:evL L c=some (B p):=by exact rfl):Hc P r n Q (.cond c x y) ds L w:=fun a D=>by
 have:=D.iu _ _ hc
 by_cases hp:p
 · exact wpIn_cond_true (by rw [this,ZP hp]) (F hp a D)
 · exact wpIn_cond_false (by rw [this,B_false hp]) (hf hp a D)
theorem hct(h:Hc P r n Q x ds L w)(hc:evL L c=some (.bool true):=by exact rfl):Hc P r n Q (.cond c x y) ds L w:=fun a D=>wpIn_cond_true (D.iu _ _ hc) (h a D)
theorem hcf(h:Hc P r n Q y ds L w)(hc:evL L c=some (.bool false):=by exact rfl):Hc P r n Q (.cond c x y) ds L w:=fun a D=>wpIn_cond_false (D.iu _ _ hc) (h a D)
theorem hsk(h:He n Q .normal ds L w):Hc P r n Q .skip ds L w:=fun a D=>wpIn_skip (h a D)
theorem hrt(h:He n Q .ret ds L w):Hc P r n Q .ret ds L w:=fun a D=>wpIn_ret (h a D)
theorem hxt{id:Nat}(h:He n Q (.exit id) ds L w):Hc P r n Q (.exit id) ds L w:=fun a D=>wpIn_exit (h a D)
theorem hbk{id:Nat}(h:Hc P r n (Exit.inBlock id Q) x ds L w):Hc P r n Q (.block id x) ds L w:=fun a D=>wpIn_block (h a D)
theorem htn(h:Hc P r n Q y ds L w):He n (Exit.then (y.wpIn (FZ r) 0 P Q) Q') .normal ds L w:=h
theorem ZbZ {F:Fence} {nn:Nat} {D:Code} {a:Act} (I:Nat->Act->World->Prop) {m:Nat} (h0:I m a w) (W:∀m a w,I m a w->D.wpIn F nn P (Exit.then (fun Z w'=>∃m',m'<m/\I m' Z w') Q) a w):(Code.loop D).wpIn F nn P Q a w:=by
 intro b k cs ab hb hr
 have aa:∀m a w,I m a w->∃e Z w',Q e Z w'/\ArrivesIn (Machine.fenced P F) P (lone (b.atR a (.code D:: .inLoop D::k)) cs w) b k cs e Z w':=by
   intro m
   induction m using Nat.strongRecOn with
   | _ m ih=>
     intro a w hI
     obtain⟨e,J,G,V,U⟩:=W m a w hI b (.inLoop D::k) cs ab hb hr
     cases e with
     | normal=>
       obtain⟨m',hlt,Y⟩:=V
       obtain⟨e₂,a₂,w₂,X,O⟩:=ih m' hlt J G Y
       exact⟨e₂,a₂,w₂,X,.of_steps (StepsIn.trans U (.one (fenced_calm hb hr rfl) stepR_inLoop)) O⟩
     |exit id=>exact⟨_,J,G,V,.pass (x:= .inLoop D) rfl (fun _ _=> .inl (by simp)) U⟩
     |goto l=>exact⟨_,J,G,V,.pass (x:= .inLoop D) rfl (fun _ _=> .inl (by simp)) U⟩
     |ret=>exact⟨_,J,G,V,.pass (x:= .inLoop D) rfl (fun _ _=> .inl (by simp)) U⟩
     |panic ch=>exact⟨_,J,G,V,.pass (x:= .inLoop D) rfl (fun _ _=> .inl (by simp)) U⟩
     |outgrown=>exact⟨_,J,G,V,.pass (x:= .inLoop D) rfl (fun _ _=> .inl (by simp)) U⟩
 obtain⟨e,Z,w',V,U⟩:=aa m a w h0
 exact⟨e,Z,w',V,.of_steps (.one (fenced_calm hb hr rfl) stepR_loop) U⟩
theorem hlp(J:Nat->List (Nat×Value)->World->Prop){m:Nat}(O:J m M w)(D:∀m M w,J m M w->Hc P r n (Exit.then (fun a w=>∃G,G<m/\∃F,J G F w/\Frd a n ds F) Q) x ds M w)
   (hM:Sub L M:=by repeat' first|exact Tq|refine zpk rfl ?_):Hc P r n Q (.loop x) ds L w:=fun a I=>
 ZbZ (fun m a w=>∃M,J m M w/\Frd a n ds M) ⟨M,O,I.sub hM⟩ fun m a w ⟨F,hJ,hF'⟩=>D m F w hJ a hF'
theorem hlq{J:Nat->List (Nat×Value)->World->Prop}{m D:Nat}(G:J D M w)(hlt:D<m:=by omega)(hM:Sub L M:=by repeat' first|exact Tq|refine zpk rfl ?_):He n (Exit.then (fun a w=>∃D,D<m/\∃F,J D F w/\Frd a n ds F) Q) .normal ds L w:=
 fun a I=>⟨D,hlt,M,G,I.sub hM⟩
theorem Zie{f:FuncId}{fn:Func}{vs:List Value}{R:Ending->World->Prop}(hf:P.funcs[f]? =some fn)(hn:fn.ntmps=n)(K:∀w,Sat w0 w []->Hc P none n (bodyPostM (FZ none) 0 P fn R) x [] (num 0 vs) w)(F:fn.body=some x:=by exact rfl)(hv:Nat.ble vs.length n=true:=by exact rfl):Calls P f vs.toArray w0 R:=
 Kx (r:=none) (n:=0) (callsIn_of_wp_marks hf F trivial (by
   rw [hn]
   exact K _ (Sat.start w0) _ ((Fr.enter (vs:=vs.toArray) (by simpa using Nat.le_of_ble_eq_true hv) fun t v D=>by have:=(Zaa vs 0 t v D).2;simpa using this))))
theorem Zfp{f:FuncId}{fn:Func}{vs:List Value}{R:Ending->World->Prop}(hf:P.funcs[f]? =some fn)(hn:fn.ntmps=n)(K:Hc P none n (bodyPost P fn R) x [] (num 0 vs) w)(D:fn.body=some x:=by exact rfl)(hv:Nat.ble vs.length n=true:=by exact rfl):Calls P f vs.toArray w R:=
 enter hf D hn hv fun a F=>(wpIn_wide (n:=0)).1 (K a F)
theorem Zj9{fn:Func}{R:Ending->World->Prop}(h:Ge n [] (bodyPost P fn R) .ret L w):He n (bodyPostM (FZ none) 0 P fn R) .ret [] L w:=fun a D=>by
 obtain⟨_,v,h1,F⟩:=h a D
 have e:=D.defers
 show LeavesInM _ _ _ _ _ _ a.defers _ _
 rw [e]
 exact⟨v,h1,F⟩
def Frame.obj(g:Nat)(o:Obj):Frame where
  holds w:=w.heap[g]? =some o
  has k:=k=g
  keep h hk:=(hk g rfl).trans h
  lt h hg:=by rw [hg];exact(Array.getElem?_eq_some_iff.1 h).1
abbrev dfE(D:Nat)(b:Bool):Ent:= .sem (Frame.obj D (.deferred (if b then some [] else none)))
def mrk(D:Nat):Deferred:={target:= .collected D,args:= #[]}
theorem Sat.putObj{l1 l2:List Ent}{g:Nat}{o o':Obj}(h:Sat w0 w (l1++ .sem (Frame.obj g o)::l2)):Sat w0 (w.putObj g o') (l1++ .sem (Frame.obj g o')::l2):=by
 have F:w.heap[g]? =some o:=h.get
 refine h.turn (d:= .sem (Frame.obj g o)) (fun k _ D=>World.putObj_heap_other (fun e=>D e)) rfl rfl rfl (by simp) ?_ (fun _ h=> .inl h)
 exact World.putObj_heap_same (Array.getElem?_eq_some_iff.1 F).1
theorem Zci{fn:Func}{R:Ending->World->Prop}{E:List Ent}{D:Nat}(i:Nat)(G:Sat w0 w E)(K:∀w',Sat w0 w' (E.set i (dfE D false))->Ge n [] (bodyPost P fn R) .ret L w')(hi:E[i]? =some (dfE D true):=by exact rfl):He n (bodyPostM (FZ none) 0 P fn R) .ret [mrk D] L w:=fun a F=>by
 have e:=F.defers
 show LeavesInM _ _ _ _ _ _ a.defers _ _
 rw [e]
 have J:w.heap[D]? =some (.deferred (some [])):=G.holds _ (List.mem_of_getElem? hi)
 refine⟨by simp,.inl ⟨D,_,rfl,run_takeDeferred J,?_⟩⟩
 have h1:Sat w0 (w.putObj D (.deferred none)) (E.set i (dfE D false)):=by
   have I:=G
   rw [Yf hi] at I
   rw [YN hi]
   exact I.putObj
 obtain⟨_,v,U,O⟩:=K _ h1 {a with defers:= []} ⟨F.size,rfl,F.get⟩
 exact⟨v,U,O⟩
end
theorem Zfq{J:List (Nat×Value)->List Ent->Prop}{F:List Ent->List Ent}{Q:Exit->Act->World->Prop}{w w0:World}{n:Nat}{L M:List (Nat×Value)}{D:List Ent}(I:J M D)(G:Sat w0 w (F D))(hM:Sub L M:=by repeat' first|exact Tq|refine zpk rfl ?_):
 Ge n [] (Exit.then (fun a w'=>∃M D,J M D/\Frd a n [] M/\Sat w0 w' (F D)) Q) .normal L w:=fun a O=>⟨M,D,I,O.sub hM,G⟩
theorem Zm8{P:Program}{L:List (Nat×Value)}{w:World}{n:Nat}{fn:Func}{R:Ending->World->Prop}{W V:TypeId}{s1 D:Nat}{U a2:Addr}{I G:Value}(Y:ZR P W=true)(X:ZR P V=true)(c1:w.cell? U=some I)(c2:w.cell? a2=some G)(h:R (.returned (.tuple #[I,G])) w)
   (hr:fn.results= #[.cell s1 W,.cell D V]:=by exact rfl) (h1:lk L s1=some (.pointer (some U)):=by exact rfl) (h2:lk L D=some (.pointer (some a2)):=by exact rfl):Ge n [] (bodyPost P fn R) .ret L w:=fun a F=>by
 refine⟨F.defers,_,?_,h⟩
 obtain⟨⟨_,_,q1⟩,_⟩:=W6 (w:=w) Y
 obtain⟨⟨_,_,Z⟩,_⟩:=W6 (w:=w) X
 have O:=F.get s1 _ h1
 have J:=F.get D _ h2
 rw [Array.getD_eq_getD_getElem?] at O J
 simp [results,hr,O,J,asAddr,loadVar,q1,Z,c1,c2]
theorem Yr{l m:List Ent}(h:∀f:Ent->Nat,(l.map f).sum=(m.map f).sum):l.Perm m:=by
 classical
 rw [List.perm_iff_count]
 intro z
 have:=h (fun x=>if x=z then 1 else 0)
 have e:∀l:List Ent,(l.map fun x=>if x=z then 1 else 0).sum=l.count z:=fun l=>by
   induction l with
   |nil=>rfl
   | cons x l ih=>
     rw [List.map_cons,List.sum_cons,ih,List.count_cons]
     by_cases hx:x=z
     · subst hx;simp;omega
     · simp [hx]
 rw [e,e] at this
 exact this
section
variable {P:Program} {Q:Exit->Act->World->Prop} {w w' w0:World} {n:Nat} {L:List (Nat×Value)} {ds:List Deferred}
def ItC {St X Tt:Type} (P:Program) (w0:World) (gf:FuncId) (lb:List Value) (Sh:List Ent) (enc:X->List Value) (Pre:St->X->Frame->Prop) (Nx:St->X->St->Prop) (Sx:St->X->Tt->Prop) (s0:St) (Fin:St->Frame->Prop) (FinX:Tt->Frame->Prop):Prop:=
  ∀ (l:Nat) (C:St->Frame) (D:Tt->Frame) (w:World),Sat w0 w (.sem (C s0)::Sh)->
    (∀s x rest w,Pre s x rest->Sat w0 w (.sem (C s)::(Sh++ [.sem rest]))->Yld P l (enc x) w fun v w'=>
      (v= .bool true/\∃s',Nx s x s'/\Sat w0 w' (.sem (C s')::(Sh++ [.sem rest])))\/(v= .bool false/\∃t,Sx s x t/\Sat w0 w' (.sem (D t)::(Sh++ [.sem rest]))))->
    Calls P gf (.func (.yield l) #[] #[]::lb).toArray w fun e w'=>∃v,e= .returned v/\
      ((∃s rest,Fin s rest/\Sat w0 w' (.sem (C s)::(Sh++ [.sem rest])))\/(∃t rest,FinX t rest/\Sat w0 w' (.sem (D t)::(Sh++ [.sem rest]))))
def KC:List Nat->List Value->List (Nat×Value)->List (Nat×Value)
  |t::ts,v::vs,L=>KC ts vs ((t,v)::L)
  |_,_,L=>L
theorem KB{a:Act}:∀(ts:List Nat) (vs:List Value) (T:Array Value) {L:List (Nat×Value)},Frd {tmps:=T,defers:= []} n [] L->(ts.all fun t=>Nat.blt t n)=true->
   Frd {tmps:=(ts.zip vs).foldl (fun t (p:Nat×Value)=>t.setIfInBounds p.1 p.2) T,defers:= []} n [] (KC ts vs L)
 | [],vs,T,L,h,_=>by simpa [KC] using h
 |t::ts, [],T,L,h,_=>by simpa [KC] using h
 | t::ts,v::vs,T,L,h,hb=>by
   simp only [List.all_cons,Bool.and_eq_true] at hb
   have h1:=h.put (by simpa [Nat.blt_eq] using hb.1) v
   simp only [List.zip_cons_cons,List.foldl_cons,KC]
   exact KB (a:=a) ts vs _ h1 hb.2
def rdQ{St Tt:Type}(w0:World)(C:St->List Ent)(D:Tt->List Ent)(jc:Tt->Code)(Sh:List Ent)(N:St->Prop)(S:Tt->Prop)(rest:Frame):Exit->Act->World->Prop
  | .normal,_,w'=>∃s',N s'/\Sat w0 w' (C s'++(Sh++ [.sem rest]))
  | .ret,_,w'=>∃t,S t/\jc t= .ret/\Sat w0 w' (D t++(Sh++ [.sem rest]))
  | .exit id,_,w'=>∃t,S t/\jc t= .exit id/\Sat w0 w' (D t++(Sh++ [.sem rest]))
  |_,_,_=>False
theorem Zch{St Tt:Type}{w0 w:World}{C:St->List Ent}{D:Tt->List Ent}{I:Tt->Code}{G:List Ent}{N:St->Prop}{S:Tt->Prop}{rest:Frame}{n:Nat}{L:List (Nat×Value)}(F:St)(O:N F)(J:Sat w0 w (C F++(G++ [.sem rest]))):Ge n [] (rdQ w0 C D I G N S rest) .normal L w:=fun _ _=>⟨F,O,J⟩
theorem Zfo{St Tt:Type}{w0 w:World}{C:St->List Ent}{D:Tt->List Ent}{F:Tt->Code}{G:List Ent}{N:St->Prop}{S:Tt->Prop}{rest:Frame}{n:Nat}{L:List (Nat×Value)}(t:Tt)(O:S t)(I:F t= .ret)(J:Sat w0 w (D t++(G++ [.sem rest]))):Ge n [] (rdQ w0 C D F G N S rest) .ret L w:=fun _ _=>⟨t,O,I,J⟩
def ZfG:Code->Exit
  | .ret=> .ret
  | .exit id=> .exit id
  |_=> .normal
theorem Sat.il{l1 l2 l3:List Ent}(h:Sat w0 w (l1++ .sem (Frame.gm l2)::l3)):Sat w0 w (l1++(l2++l3)):=h.fx
theorem hrf {St X Tt:Type} {gf:FuncId} {lb:List Value} {g:Operand} {ps:Array Tmp} {assign body:Code} {O:List Ent} {enc:X->List Value} {ae:St->X->Frame->Prop} {Nx:St->X->St->Prop} {Sx:St->X->Tt->Prop} {aj:St->Frame->Prop} {aa:Tt->Frame->Prop}
   (C:St->List Ent) (D:Tt->List Ent) (jc:Tt->Code) (s0:St) (J:X->List (Nat×Value)->List Ent->Prop) (ap:ItC P w0 gf lb O enc ae Nx Sx s0 aj aa) (hS:Sat w0 w (C s0++O)) (Y:Zc P gf=true)
   (al:∀x,(enc x).length=ps.size) (ao:∀t,jc t= .ret\/∃id,jc t= .exit id)
   (z8:∀l s x rest w,ae s x rest->∀I,(∀w,I.holds w->rest.holds w)->Sat w0 w (C s++(O++ [.sem I]))->Hc P (some l) n (Exit.then (fun a w'=>∃M V,J x M V/\Frd a n [] M/\Sat w0 w' (C s++(O++(.sem I::V)))) (fun _ _ _=>False)) assign [] (KC ps.toList (enc x) L) w)
   (cN:∀l s x M V rest w,ae s x rest->J x M V->∀I,(∀w,I.holds w->rest.holds w)->Sat w0 w (C s++(O++(.sem I::V)))->Hc P (some l) n (rdQ w0 C D jc O (Nx s x) (Sx s x) I) body [] M w)
   (cI:∀Dk s rest w',aj s rest->Sat w0 w' (C s++(O++ [.sem rest,dfE Dk true]))->He n Q .normal (mrk Dk::ds) L w')
   (cj:∀Dk t rest w',aa t rest->Sat w0 w' (D t++(O++ [.sem rest,dfE Dk true]))->He n Q (ZfG (jc t)) (mrk Dk::ds) L w')
   (hg:evL L g=some (.func (.func gf) #[] lb.toArray):=by exact rfl) (am:(ps.toList.all fun t=>Nat.blt t n)=true:=by exact rfl):Hc P none n Q (.rangeFunc g ps assign body) ds L w:=by
 intro a hF
 refine wpIn_rangeFunc ?_
 intro fn a0
 obtain⟨F,xP⟩:∃F:LoopState->Option Code->Loop,F=fun Z pe=>{state:=Z,pending:=pe,fn,tmps:=a.tmps,params:=ps,assign,body,defers:=w.heap.size}:=⟨_,rfl⟩
 obtain⟨W1,ag⟩:∃W1,(w.alloc (.deferred (some []))).alloc (.loop (F .ready none))=W1:=⟨_,rfl⟩
 obtain⟨l,hl⟩:∃l,w.heap.size+1=l:=⟨_,rfl⟩
 obtain⟨Dk,ac⟩:∃Dk,w.heap.size=Dk:=⟨_,rfl⟩
 have ay:Sat w0 W1 ((C s0++O)++ [dfE Dk true]++ [.sem (Frame.obj l (.loop (F .ready none)))]):=by
   rw [<-ag]
   refine(hS.alloc _ (e:=dfE Dk true) ?_ ?_).alloc _ (e:= .sem (Frame.obj l (.loop (F .ready none)))) ?_ ?_
   · rw [<-ac];exact heap_alloc_new w _
   · intro g hg;rw [<-ac] at hg;exact hg
   · have:=heap_alloc_new (w.alloc (.deferred (some []))) (.loop (F .ready none))
     rw [World.size_alloc,hl] at this;exact this
   · intro g hg;rw [World.size_alloc,hl];exact hg
 have ai:a.eval g= .func (.func gf) #[] lb.toArray:=hF.iu _ _ hg
 have eo:∃U,P.funcs[gf]? =some U/\U.body.isSome=true/\(U.name== "runtime.NumGoroutine")=false:=by
   unfold Zc at Y
   cases hf:P.funcs[gf]? with
   |none=>simp [hf] at Y
   | some U=>
     simp only [hf,Bool.and_eq_true,Bool.not_eq_true'] at Y
     exact⟨U,rfl,Y.1,Y.2⟩
 obtain⟨U,au,af,ar⟩:=eo
 have ew:U.body≠none:=by intro e;rw [e] at af;simp at af
 have ev:U.name≠ "runtime.NumGoroutine" :=by simpa using ar
 let C':St->Frame:=fun s=>Frame.gm (C s++ [.sem (Frame.obj l (.loop (F .ready none))),dfE Dk true])
 let D':Tt->Frame:=fun t=>Frame.gm (D t++ [.sem (Frame.obj l (.loop (F .done (some (jc t))))),dfE Dk true])
 have ax:Sat w0 W1 (.sem (C' s0)::O):=by
   have h1:Sat w0 W1 (O++(C s0++ [.sem (Frame.obj l (.loop (F .ready none))),dfE Dk true])):=ay.perm (Yr fun f=>by simp only [List.map_append,List.map_cons,List.map_nil,List.sum_append,List.sum_cons,List.sum_nil];omega)
   have h2:=h1.gg
   exact h2.perm List.perm_append_comm
 refine⟨l, [mrk Dk],W1,{target:= .fn (.func gf) lb.toArray,args:= #[.func (.yield l) #[] #[]]},W1,gf, #[.func (.yield l) #[] #[]]++lb.toArray,W1,?_,?_,?_,?_,fun h=>(by cases h),?_⟩
 · rw [<-ag,xP,<-hl,<-ac];exact run_enterLoop_outer _ _ _ _ _
 · simp only [resolve,ai]
   simp [go_sem]
 · intro f' a2;trivial
 · simp [invoke,go_sem,callFunc,au,ew,ev]
 have ad:(#[.func (.yield l) #[] #[]]++lb.toArray:Array Value)=(.func (.yield l) #[] #[]::lb).toArray:=by simp
 rw [ad]
 refine Vi ((ap l C' D' W1 ax ?_).mono ?_)
 ·
   intro s x rest W qE aw
   have h1:Sat w0 W (C s++(O++ [.sem rest,.sem (Frame.obj l (.loop (F .ready none))),dfE Dk true])):=by
     have:=Sat.il (l1:= []) aw
     exact this.perm (Yr fun f=>by simp only [List.map_append,List.map_cons,List.map_nil,List.sum_append,List.sum_cons,List.sum_nil];omega)
   have ab:W.heap[l]? =some (.loop (F .ready none)):=h1.holds (.sem (Frame.obj l (.loop (F .ready none)))) (by simp)
   have hy:=run_yield (P:=P) (args:=(enc x).toArray) ab (by rw [xP];simp [al x])
   rw [xP] at hy
   refine⟨fn,_,assign,body,hy,roundIn_of_wpIn trivial ?_⟩
   clear hy
   let r1:Frame:=Frame.gm [.sem rest,.sem (Frame.obj l (.loop (F .ready none))),dfE Dk true]
   have h2:Sat w0 W (C s++(O++ [.sem r1])):=by
     rw [<-List.append_assoc] at h1⊢
     exact h1.gg
   have aq:Frd {tmps:=(ps.zip (enc x).toArray).foldl (fun t (p,v)=>t.setIfInBounds p v) a.tmps,defers:= []} n [] (KC ps.toList (enc x) L):=by
     have:=KB (a:=a) (n:=n) ps.toList (enc x) a.tmps (L:=L) ⟨hF.size,rfl,hF.get⟩ am
     have e:(ps.zip (enc x).toArray).foldl (fun t (p,v)=>t.setIfInBounds p v) a.tmps=(ps.toList.zip (enc x)).foldl (fun t (p:Nat×Value)=>t.setIfInBounds p.1 p.2) a.tmps:=by
       rw [<-Array.foldl_toList,Array.toList_zip]
     rw [e];exact this
   refine Go.wpIn_mono (z8 l s x rest W qE r1 (fun w h=>h.1 (.sem rest) (by simp)) h2 _ aq) ?_
   intro e a1 Wa hp
   cases e<;>try exact hp.elim
   obtain⟨M,V,hJ,az,av⟩:=hp
   have h3:Sat w0 Wa ((C s++(O++([.sem rest]++V))++ [dfE Dk true])++ .sem (Frame.obj l (.loop (F .ready none))):: []):=by
     have:=Sat.il (l1:=C s++O) (l3:=V) (by rw [List.append_assoc];exact av)
     exact this.perm (Yr fun f=>by simp only [List.map_append,List.map_cons,List.map_nil,List.sum_append,List.sum_cons,List.sum_nil];omega)
   have ab:Wa.heap[l]? =some (.loop (F .ready none)):=h3.get
   refine⟨_,run_beginRound ab (by rw [xP]),?_⟩
   have h4:=h3.putObj (o':= .loop {F .ready none with state:= .busy})
   let r2:Frame:=Frame.gm [.sem rest,.sem (Frame.obj l (.loop {F .ready none with state:= .busy})),dfE Dk true]
   have h5:Sat w0 (Wa.putObj l (.loop {F .ready none with state:= .busy})) (C s++(O++(.sem r2::V))):=by
     have h:Sat w0 (Wa.putObj l (.loop {F .ready none with state:= .busy})) ((C s++(O++V))++ [.sem rest,.sem (Frame.obj l (.loop {F .ready none with state:= .busy})),dfE Dk true]):=by
       exact h4.perm (Yr fun f=>by simp only [List.map_append,List.map_cons,List.map_nil,List.sum_append,List.sum_cons,List.sum_nil];omega)
     have hb:Sat w0 (Wa.putObj l (.loop {F .ready none with state:= .busy})) ((C s++(O++V))++ [.sem r2]):=h.gg
     exact hb.perm (Yr fun f=>by simp only [List.map_append,List.map_cons,List.map_nil,List.sum_append,List.sum_cons,List.sum_nil];omega)
   refine Go.wpIn_mono (cN l s x M V rest _ qE hJ r2 (fun w h=>h.1 (.sem rest) (by simp)) h5 _ az) ?_
   have fin:∀(G:Option Code) (A:List Ent) (W3:World),Sat w0 W3 (A++(O++ [.sem r2]))->
       (Instr.endRound l G).run P W3= .ok (.bool G.isNone) (W3.putObj l (.loop (F (if G.isNone then .ready else .done) G)))/\
       Sat w0 (W3.putObj l (.loop (F (if G.isNone then .ready else .done) G))) (.sem (Frame.gm (A++ [.sem (Frame.obj l (.loop (F (if G.isNone then .ready else .done) G))),dfE Dk true]))::(O++ [.sem rest])):=fun G A W3 hA=>by
     have h6:Sat w0 W3 ((O++ [.sem rest]++(A++ [dfE Dk true]))++ .sem (Frame.obj l (.loop {F .ready none with state:= .busy})):: []):=by
       have:=Sat.il (l1:=A++O) (l3:= []) (by rw [List.append_assoc];exact hA)
       exact this.perm (Yr fun f=>by simp only [List.map_append,List.map_cons,List.map_nil,List.sum_append,List.sum_cons,List.sum_nil];omega)
     have an:W3.heap[l]? =some (.loop {F .ready none with state:= .busy}):=h6.get
     have hr:=run_endRound (P:=P) G an
     have h7:=h6.putObj (o':= .loop (F (if G.isNone then .ready else .done) G))
     refine⟨by rw [xP] at hr⊢;exact hr,?_⟩
     have h8:Sat w0 (W3.putObj l (.loop (F (if G.isNone then .ready else .done) G))) ((O++ [.sem rest])++(A++ [.sem (Frame.obj l (.loop (F (if G.isNone then .ready else .done) G))),dfE Dk true])):=by
       exact h7.perm (Yr fun f=>by simp only [List.map_append,List.map_cons,List.map_nil,List.sum_append,List.sum_cons,List.sum_nil];omega)
     exact h8.gg.perm List.perm_append_comm
   intro e a3 W3 hp
   cases e with
   | normal=>
     obtain⟨s',hn,hA⟩:=hp
     obtain⟨hr,h6⟩:=fin none _ _ hA
     exact⟨_,_,hr,_,rfl,.inl ⟨rfl,s',hn,h6⟩⟩
   | ret=>
     obtain⟨t,hn,hj,hA⟩:=hp
     obtain⟨hr,h6⟩:=fin (some .ret) _ _ hA
     refine⟨_,_,hr,_,rfl,.inr ⟨rfl,t,hn,?_⟩⟩
     simp only [D',hj];exact h6
   | exit id=>
     obtain⟨t,hn,hj,hA⟩:=hp
     obtain⟨hr,h6⟩:=fin (some (.exit id)) _ _ hA
     refine⟨_,_,hr,_,rfl,.inr ⟨rfl,t,hn,?_⟩⟩
     simp only [D',hj];exact h6
   |goto t=>exact hp.elim
   |panic ch=>exact hp.elim
   |outgrown=>exact hp.elim
 ·
   have out:∀(Z:LoopState) (pe:Option Code) (A:List Ent) (rest:Frame) (W2:World),Z≠ .busy->Sat w0 W2 (.sem (Frame.gm (A++ [.sem (Frame.obj l (.loop (F Z pe))),dfE Dk true]))::(O++ [.sem rest]))->
       (Instr.endLoop l).run P W2= .ok pe (W2.putObj l (.loop {F Z pe with state:= .exhausted}))/\Sat w0 (W2.putObj l (.loop {F Z pe with state:= .exhausted})) (A++(O++ [.sem rest,dfE Dk true])):=fun Z pe A rest W2 ak h=>by
     have h1:=Sat.il (l1:= []) h
     have h2:Sat w0 W2 ((A++(O++ [.sem rest,dfE Dk true]))++ .sem (Frame.obj l (.loop (F Z pe))):: []):=by
       exact h1.perm (Yr fun f=>by simp only [List.map_append,List.map_cons,List.map_nil,List.sum_append,List.sum_cons,List.sum_nil];omega)
     have hl:W2.heap[l]? =some (.loop (F Z pe)):=h2.get
     have h3:=h2.putObj (o':= .loop {F Z pe with state:= .exhausted})
     refine⟨?_,h3.sub (List.sublist_append_left _ _)⟩
     have:=run_endLoop (P:=P) hl (by rw [xP];exact ak)
     rw [xP] at this⊢;exact this
   rintro e W2 ⟨v,rfl,h⟩
   have ah:∀{L'},Frd a n ds L'->Frd {a with defers:= [mrk Dk]++a.defers} n (mrk Dk::ds) L':=fun h=>⟨h.size,by rw [<-h.defers];rfl,h.get⟩
   rcases h with⟨s,rest,qP,h⟩|⟨t,rest,qP,h⟩
   · obtain⟨h1,h2⟩:=out .ready none _ rest W2 (by simp) h
     exact⟨none,_,h1,cI Dk s rest _ qP h2 _ (ah hF)⟩
   · obtain⟨h1,h2⟩:=out .done (some (jc t)) _ rest W2 (by simp) h
     refine⟨some (jc t),_,h1,?_⟩
     have h3:=cj Dk t rest _ qP h2 _ (ah hF)
     rcases ao t with hj|⟨id,hj⟩
     · rw [hj] at h3⊢;exact wpIn_ret h3
     · rw [hj] at h3⊢;exact wpIn_exit h3
end
end Go.Proofs.Gw
namespace Go.Proofs.YtkichmnjjblodaaGreat
open Go Go.RowKit Go.Proofs.Gw
theorem ZlD:Zc Oj 162=true:=Ob
theorem ZlC:Zc Oj 163=true:=Ob
theorem cl_164:Zc Oj 164=true:=Ob
theorem ZlB:Zc Oj 165=true:=Ob
theorem Zcn:ZV Oj 184=some (.agg #[Og,Og,Og,.int Oh 0,.int Oh 0,.int Oh 0],6,96):=Ob
theorem fd_141_1:Zv Oj 141 1=some 1:=Ob
theorem fd_184_0:Zv Oj 184 0=some 0:=Ob
theorem W9:Zv Oj 184 1=some 5:=Ob
theorem pl_49:ZR Oj 49=true:=Ob
theorem UD:ZC Oj 184=some 6:=Ob
structure CX where
  u:Int
  vP:Value
  vv:Int->Value
  ml:Oe
  mf:Of
  vX:Value
  vY:Value
  s:So
  e:Int
inductive CRn (p:Prob):Int->(Oe)->(Of)->Int->Prop
  |start {u e:Int} {ml:Oe} {mf:Of} (h:ZaD p u ml mf e):CRn p u ml mf e
  |go {u na worth f:Int} {ml:Oe} {mf:Of} {a:Oe} {s:So} (h:CRn p u ml mf 0) (hs:MSolveR p u ml mf s 0) (hp:US p s.m s.Y na a worth f) (hn:¬(f=0/\worth<=s.den)):CRn p (u+1) (gsn ml u na) (gsn mf u a) f
def Zhx(p:Prob)(s:So):Prop:=∃na a worth,US p s.m s.Y na a worth 0/\worth<=s.den
def ZoJ(x:CX):List Ent:= [.own x.vP 1 22 x.u x.vv,.sem (Frame.rows 3 x.u x.vv x.ml x.mf),.own x.vX 1 3 x.s.n (ints x.s.X),.own x.vY 1 3 x.s.m (ints x.s.Y)]
def Zjo(p:Prob)(s:List CX)(x:CX)(rest:Gw.Frame):Prop:=(∀y∈s,y.e=0)/\Slh x.vP x.u/\Slh x.vX x.s.n/\Slh x.vY x.s.m/\(x.e=0->Frame.gives rest (ZoJ x))/\
  ∃e,CRn p x.u x.ml x.mf e/\((e≠0/\x.e=e/\x.s=So.zero)\/(e=0/\MSolveR p x.u x.ml x.mf x.s x.e))
def ZoK(p:Prob)(s:List CX)(rest:Gw.Frame):Prop:=∃s' x,s=s'++ [x]/\Zjo p s' x rest/\(x.e=0->Zhx p x.s)
theorem MSolveR.lj{p:Prob}{u:Int}{ml:Oe}{mf:Of}{s:So}(h:MSolveR p u ml mf s 0):p.Ok/\u<=60/\s.m=p.m:=by
 rcases h with⟨_,_,h⟩|⟨_,_,_,h⟩|⟨_,_,_,_,_,_,h⟩|⟨h1,h2,h3,h4,h5,h6,h7⟩|⟨h1,h2,h3,h4,h5⟩
 · omega
 · omega
 · omega
 · exact⟨h1.1,h3,by rw [h6];rfl⟩
 · refine⟨h1.1,h3,?_⟩
   have:=(SolveR.chk (p:=Zd9 p u mf) (by have:=h1.1.m1;show 0<=p.m;omega) h5 rfl).m
   exact this
theorem Zhb {v:Value} {n:Int} {vv:Int->Value} (w0:World) (J:(Ent.own v 1 22 n vv).holds w0) (h1:∀k,0<=k->k<n->(vv k).oneCell'=true) (hn:n<=1000000):Calls Oj 163 [v].toArray w0 fun e w=>∃u,e= .returned u/\∃r,u=r/\Slh r n/\Sat w0 w [.own r 1 22 n vv]:=by
 have V:=J.row
 obtain⟨G,Y,⟨rfl,rfl⟩|⟨g,cap,cur,rfl,O,h2,h3,h4,h5⟩⟩:=J
 · refine(WW 0 0 w0).mono fun e w ⟨F,hw⟩=>⟨_,F,_,rfl,slh_nil,?_⟩
   rw [hw]
   exact(Sat.start w0).cg 1 22 vv
 · obtain⟨i,hi,W,I,Z⟩:=XJ Z9
   refine(VY i Og 1 24 hi W I Z rfl (by decide) (fun w=>by simp [sizeOf,typeInfo,hi,I]) g 0 n.toNat cap (cellsOf vv n.toNat) w0 (by rw [ZY];omega) (by unfold maxLen;omega) Oa (fun j u D=> ?_) (fun u X=> ?_)).mono fun e w ⟨r,F,hr,_,hB⟩=>⟨r,F,r,rfl,?_⟩
   · rw [cellsOf_get] at D
     split at D
     · rename_i hlt
       cases D
       have:=V.2 j Oa
       rw [<-this];simp [cad]
     · cases D
   · obtain⟨j,D⟩:=List.getElem?_of_mem X
     rw [cellsOf_get] at D
     split at D
     · cases D;exact h1 j Oa Oa
     · cases D
   · have U:(Ent.own r 1 22 n vv).holds w:=Ent.holds.ic G Oa (by rw [Nat.mul_one];exact hr)
     exact⟨U.row.cf,hB,fun e F=>by obtain rfl:=List.mem_singleton.1 F;exact U,fun e F g O=>by obtain rfl:=List.mem_singleton.1 F;exact(hr.lt g O).1,List.pairwise_singleton _ _⟩
theorem ZcF{vL vD:Value}{p:Prob}{gp:Nat}(w0:World)(h:PAt w0 vL vD p):ItC (St:=List CX) (X:=CX) (Tt:=CX) Oj w0 161 [Oq gp] [.blk gp [vL,vD,.int Oh p.b8,.int Oh p.bo]] (fun x=> [.agg #[x.vP,x.vX,x.vY,.int Oh x.s.val,.int Oh x.s.den,.int Oh x.e]]) (Zjo p) (fun s x s1=>s1=s++ [x]) (fun _ _ _=>False) ([]) (ZoK p) (fun _ _=>False):=by
 intro l C D w F hY
 obtain⟨hm,au,hd,hd1,hs,hk⟩:=h.Oo
 refine Zfp Tryz.func161 Tryz.ntmps161 ?_
 refine hsq<|hrz ?_
 refine zlv (xls 1 st_32 F) ?_
 refine zlc (xc0 ZlD) (ZgU (p:=p) w (h.below F.below)) ?_;rintro _ w ⟨bd,zd,ah,bf,bg,eF,rfl,zu,aI,G⟩
 replace F:Sat w0 w [.sem (C []),.blk gp [vL,vD,.int Oh p.b8,.int Oh p.bo],.own bd 1 22 zd ah,.sem (Frame.rows 3 zd ah bf bg)]:=F.comp G;clear G
 have dU:=fun k (U:0<=k) (O:k<zd)=>F.db 3 rfl U O
 refine zs5 ?_
 refine zln<|zh<|htn<|hbk<|hlp (fun mm M w=>∃(s:List CX) (u:Int) (Y:Value) (vv:Int->Value) (ml:Oe) (mf:Of) (e:Int),mm=((62-u).toNat)/\(CRn p u ml mf e)/\(∀y∈s,y.e=0)/\(Slh Y u)/\(u<=61)/\M= [(0,.func (.yield l) #[] #[]),(1,Oq gp),(3,Y),(4,.int Oh e)]/\Sat w0 w [.sem (C s),.blk gp [vL,vD,.int Oh p.b8,.int Oh p.bo],.own Y 1 22 u vv,.sem (Frame.rows 3 u vv ml mf)]) ⟨[],zd,bd,ah,bf,bg,eF,rfl,?_,?_,?_,?_,rfl,F⟩ ?_
 ·
  exact .start zu
 ·
  intro y V;cases V
 ·
  exact aI
 ·
  rcases zu with⟨_,h9,_⟩|⟨h9,h8,_⟩
  · omega
  · have:=Wy p p.m.toNat;have:=h9.m2;have:=h9.m1;omega
 clear F w
 rintro mm M w ⟨s,u,Y,vv,ml,mf,e,rfl,ab,qu,ag,jx,rfl,F⟩
 have aq:=fun k (U:0<=k) (O:k<u)=>F.db 3 rfl U O
 have ao:=ag.n0
 refine hbk<|hsq<|hrz ?_
 refine zlv xmv ?_
 refine zlc (xc0 ZlC) (Zhb w (F.holds _ (List.mem_of_getElem? (i:=2) rfl)) (fun k U O=>(F.db 3 rfl U O).one) Oa) ?_;rintro J w ⟨_,rfl,zk,G⟩
 replace F:Sat w0 w [.sem (C s),.blk gp [vL,vD,.int Oh p.b8,.int Oh p.bo],.own Y 1 22 u vv,.sem (Frame.rows 3 u vv ml mf),.own J 1 22 u vv]:=F.comp G;clear G
 refine zlv (xany (v:= .agg #[J,Og,Og,.int Oh 0,.int Oh 0]) (hr:=by obtain⟨_,_,_,_,rfl,_⟩:=zk;kernel_rfl)) ?_
 refine zlv xmv ?_
 refine zlv (xany (v:= .agg #[J,Og,Og,.int Oh 0,.int Oh 0,.int Oh e]) (hr:=by obtain⟨_,_,_,_,rfl,_⟩:=zk;kernel_rfl)) ?_
 refine zla (xal (cs:= [_,_,_,_,_,_]) Zcn F) ?_;rintro _ w ⟨g1,rfl,F⟩
 replace F:=F.n6
 refine zle (xsw 5 UD F (hd:=(Za zk.one (Za rfl (Za rfl (Za rfl (Za rfl (Za rfl Zh)))))))) ?_;clear F;rintro w F
 replace F:=F.n6
 refine zln<|zh<|htn<|hsq<|hsq<|hrz ?_
 refine zs2 ?_
 refine zln<|zh<|htn ?_
 refine Xq ?_ ?_<;>intro hc
 ·
  refine hrz ?_
  refine zlv (xls 1 st_32 F) ?_
  refine zlv xmv ?_
  refine zlc (xc0 cl_164) (c_msolve (p:=p) (u:=u) (ml:=ml) (mf:=mf) w (h.below F.below) (⟨(F.c7 2 rfl),fun k U O=>F.fq 3 rfl U O,fun k U O=>F.gb 3 rfl U O⟩:MAt _ Y u vv ml mf)) ?_;rintro _ w ⟨yy,yx,I,zI,rfl,yI,xq,xo,G⟩
  replace F:Sat w0 w [.sem (C s),.blk gp [vL,vD,.int Oh p.b8,.int Oh p.bo],.own Y 1 22 u vv,.sem (Frame.rows 3 u vv ml mf),.own J 1 22 u vv,.blk g1 [J,Og,Og,.int Oh 0,.int Oh 0,.int Oh e],.own yy 1 3 I.n (ints I.X),.own yx 1 3 I.m (ints I.Y)]:=F.comp G;clear G
  refine zs3 ?_
  refine zlv (xfb 0 fd_184_0) ?_
  refine zlv (xfb 1 fd_141_1) ?_
  refine zle (xsp 5 ZN F (hd:=(Za xq.one (Za xo.one (Za rfl (Za rfl Zh)))))) ?_;clear F;rintro w F
  replace F:=F.n8
  refine zlv (xfb 5 W9) ?_
  refine zle (xsb 5 pl_49 F) ?_;clear F;rintro w F
  replace F:=F.n8
  refine zln<|zh<|htn<|hsq<|hsq<|hrg ?_
  refine hlv xmv ?_
  refine hlv (xls 5 UD F) ?_
  have W:Zjo p s ⟨u,J,vv,ml,mf,yy,yx,I,zI⟩ (Frame.gm [.own Y 1 22 u vv,.sem (Frame.rows 3 u vv ml mf),.own J 1 22 u vv,.blk g1 [J,yy,yx,.int Oh I.val,.int Oh I.den,.int Oh zI],.own yy 1 3 I.n (ints I.X),.own yx 1 3 I.m (ints I.Y)]):=⟨qu,zk,xq,xo,fun _=>TS [2,1,4,5],e,ab,.inr ⟨by assumption,yI⟩⟩
  refine hly (hY s _ _ w W (Sat.gg (l1:= [_,_]) F)) ?_;rintro _ w (⟨rfl,ac,qL,F⟩|⟨rfl,ak,xQ,F⟩)
  ·
   replace F:=Sat.fx (l1:= [_,_]) (l3:= []) F
   replace F:=F.n8
   refine hlv xnt ?_
   refine hlv xmv ?_
   refine hlv (xfb 5 W9) ?_
   refine hlv (xlb 5 pl_49 F) ?_
   refine hlv YM ?_
   refine hlv xpf ?_
   refine hln<|htn ?_
   refine Xq ?_ ?_<;>intro hc
   ·
    refine hrt<|ztr<|zbr<|ztr<|zbr<|zf0 ⟨_,rfl,?_⟩
    subst qL
    exact .inl ⟨_,_,⟨s,_,rfl,⟨W.1,W.2.1,W.2.2.1,W.2.2.2.1,fun _=>TS [2,1,4,5],W.2.2.2.2.2⟩,by first|exact fun hh=>absurd hh (by assumption)|exact fun _=>⟨_,_,_,(by rw [show(0:Int)=zD by omega];exact zb),by show ba<=I.den;omega⟩⟩,Sat.gg (l1:= [_,_]) F⟩
   refine hsk<|htn<|hsq<|hrz ?_
   refine zlv (xls 1 st_32 F) ?_
   refine zlv (xfb 0 fd_184_0) ?_
   refine zlv (xfb 1 fd_141_1) ?_
   refine zlv (xfb 2 fd_139_1) ?_
   refine zlv (xlb 5 pl_22 F) ?_
   refine zlc (xc0 ZlB) (ZiR (p:=p) (n:=I.m) (y:=I.Y) w (h.below F.below) (F.c7 7 rfl)) ?_;rintro _ w ⟨Z,ai,ae,ba,zD,rfl,x8,yn,G⟩
   replace F:Sat w0 w [.sem (C ac),.blk gp [vL,vD,.int Oh p.b8,.int Oh p.bo],.own Y 1 22 u vv,.sem (Frame.rows 3 u vv ml mf),.own J 1 22 u vv,.blk g1 [J,yy,yx,.int Oh I.val,.int Oh I.den,.int Oh zI],.own yy 1 3 I.n (ints I.X),.own yx 1 3 I.m (ints I.Y),.own Z 1 3 ai (ints ae)]:=F.comp G;clear G
   refine zs2 ?_
   have aa:=yI;rw [show zI=0 by omega] at aa
   obtain⟨ar,c5,ap⟩:=aa.lj
   refine zs5 ?_
   refine zln<|zh<|htn<|hsq<|hsq<|hrz ?_
   refine zs3 ?_
   refine zlb 51 ?_ ?_<;>intro hc
   ·
    refine zlv xmv ?_
    refine zlv (xfb 0 fd_184_0) ?_
    refine zlv (xfb 1 fd_141_1) ?_
    refine zlv (xfb 4 fd_139_3) ?_
    refine zlv (xlb 5 pl_3 F) ?_
    refine zs2 ?_
    have zb:=x8
    refine zln<|zh<|htn ?_
    refine Xq ?_ ?_<;>intro hc
    ·
     refine hrt<|ztr<|zbr<|ztr<|zbr<|zf0 ⟨_,rfl,?_⟩
     subst qL
     exact .inl ⟨_,_,⟨s,_,rfl,⟨W.1,W.2.1,W.2.2.1,W.2.2.2.1,fun _=>TS [2,1,4,5],W.2.2.2.2.2⟩,by first|exact fun hh=>absurd hh (by assumption)|exact fun _=>⟨_,_,_,(by rw [show(0:Int)=zD by omega];exact zb),by show ba<=I.den;omega⟩⟩,Sat.gg (l1:= [_,_]) F⟩
    refine hsk<|htn<|hrz ?_
    refine zs2 ?_
    refine zla (xli (n:=1) (len:=1) (pv:= [(0,Z)]) (cs:= [Z]) (c:=(fun _=>Z)) Zi Z9 F (hf:=by obtain⟨_,_,_,_,rfl,_⟩:=yn;kernel_rfl)) ?_;rintro v1 w ⟨F,an⟩
    replace F:=F.n10
    refine zla (xap 2 (r:=u+1) Zi Z9 F (F.c7 9 rfl) (Xa _ _ _) (h1:=fun _ _ _=>yn.one)) ?_;rintro v2 w ⟨F,af⟩
    replace F:=F.n10
    replace F:=Sat.merge (l1:= [_,_,_]) (l2:= [_,_,_,_]) (l3:= [_]) F Oa
    have qG:=fun k (U:0<=k) (O:k<u+1)=>F.db 3 rfl U O
    replace F:=F.n9
    refine zs3 ?_
    refine zln<|zh<|zbn<|hlq ⟨ac,u+1,v2,gsn vv u Z,gsn ml u ai,gsn mf u ae,zD,rfl,?_,?_,?_,?_,rfl,F.pk [0,1,2,3]⟩
    ·
     exact .go (by rw [show(0:Int)=e by omega];exact ab) aa x8 Oa
    ·
     rw [qL];intro y V;rcases List.mem_append.1 V with V|V
     · exact qu y V
     · obtain rfl:=List.mem_singleton.1 V;show zI=0;omega
    ·
     exact af
    ·
     omega
   iterate 6 refine zlo ?_
   refine zlv xpf ?_
   have zb:=x8
   refine zln<|zh<|htn<|hcf<|hsk<|htn<|hrz ?_
   refine zs2 ?_
   refine zla (xli (n:=1) (len:=1) (pv:= [(0,Z)]) (cs:= [Z]) (c:=(fun _=>Z)) Zi Z9 F (hf:=by obtain⟨_,_,_,_,rfl,_⟩:=yn;kernel_rfl)) ?_;rintro v3 w ⟨F,am⟩
   replace F:=F.n10
   refine zla (xap 2 (r:=u+1) Zi Z9 F (F.c7 9 rfl) (Xa _ _ _) (h1:=fun _ _ _=>yn.one)) ?_;rintro v4 w ⟨F,ad⟩
   replace F:=F.n10
   replace F:=Sat.merge (l1:= [_,_,_]) (l2:= [_,_,_,_]) (l3:= [_]) F Oa
   have xd:=fun k (U:0<=k) (O:k<u+1)=>F.db 3 rfl U O
   replace F:=F.n9
   refine zs3 ?_
   refine zln<|zh<|zbn<|hlq ⟨ac,u+1,v4,gsn vv u Z,gsn ml u ai,gsn mf u ae,zD,rfl,?_,?_,?_,?_,rfl,F.pk [0,1,2,3]⟩
   ·
    exact .go (by rw [show(0:Int)=e by omega];exact ab) aa x8 Oa
   ·
    rw [qL];intro y V;rcases List.mem_append.1 V with V|V
    · exact qu y V
    · obtain rfl:=List.mem_singleton.1 V;show zI=0;omega
   ·
    exact ad
   ·
    omega
  ·
   replace F:=Sat.fx (l1:= [_,_]) (l3:= []) F
   replace F:=F.n8
   refine hlv xnf ?_
   refine hlv xmv ?_
   iterate 3 refine hlo ?_
   refine hlv xpt ?_
   refine hln<|htn<|hct<|hrt<|ztr<|zbr<|ztr<|zbr<|zf0 ⟨_,rfl,?_⟩
   exact xQ.elim
 refine hsk<|htn<|hsq<|hsq<|hrg ?_
 refine hlv xmv ?_
 refine hlv (xls 5 UD F) ?_
 have yG:Zjo p s ⟨u,J,vv,ml,mf,Og,Og,So.zero,e⟩ (Frame.gm [.own Y 1 22 u vv,.sem (Frame.rows 3 u vv ml mf),.own J 1 22 u vv,.blk g1 [J,Og,Og,.int Oh 0,.int Oh 0,.int Oh e]]):=⟨qu,zk,slh_nil,slh_nil,fun hh=>absurd hh (by assumption),e,ab,.inl ⟨by assumption,rfl,rfl⟩⟩
 refine hly (hY s _ _ w yG (Sat.gg (l1:= [_,_]) F)) ?_;rintro _ w (⟨rfl,al,jM,F⟩|⟨rfl,aj,jY,F⟩)
 ·
  replace F:=Sat.fx (l1:= [_,_]) (l3:= []) F
  replace F:=F.n6
  refine hlv xnt ?_
  refine hlv xmv ?_
  refine hlv (xfb 5 W9) ?_
  refine hlv (xlb 5 pl_49 F) ?_
  refine hlv YM ?_
  refine hlv xpf ?_
  refine hln<|htn ?_
  refine Xq ?_ ?_<;>intro hc
  ·
   refine hrt<|ztr<|zbr<|ztr<|zbr<|zf0 ⟨_,rfl,?_⟩
   subst jM
   exact .inl ⟨_,_,⟨s,_,rfl,⟨yG.1,yG.2.1,yG.2.2.1,yG.2.2.2.1,fun hh=>absurd hh (by assumption),yG.2.2.2.2.2⟩,by first|exact fun hh=>absurd hh (by assumption)|exact fun _=>⟨_,_,_,(by rw [show(0:Int)=zD by omega];exact zb),by show ba<=I.den;omega⟩⟩,Sat.gg (l1:= [_,_]) F⟩
  exfalso;omega
 ·
  replace F:=Sat.fx (l1:= [_,_]) (l3:= []) F
  replace F:=F.n6
  refine hlv xnf ?_
  refine hlv xmv ?_
  iterate 3 refine hlo ?_
  refine hlv xpt ?_
  refine hln<|htn<|hct<|hrt<|ztr<|zbr<|ztr<|zbr<|zf0 ⟨_,rfl,?_⟩
  exact jY.elim
theorem ZeD{vL vD:Value}{p:Prob}(w0:World)(h:PAt w0 vL vD p):
   Calls Oj 124 [.agg #[vL,vD,.int Oh p.b8,.int Oh p.bo]].toArray w0 fun e w=>∃v,e= .returned v/\∃g,v= .func (.func 161) #[] #[Oq g]/\Sat w0 w [.blk g [vL,vD,.int Oh p.b8,.int Oh p.bo]]:=by
 refine zenG Tryz.func124 Tryz.ntmps124 fun w D=> ?_
 refine zsr<|zla (xbx (cs:= [_,_,_,_]) D) ?_;rintro _ w ⟨F,rfl,D⟩
 refine(zP)<|zlz<|(zV xmf)<|(zP)<|zx1<|Oi ?_
 exact⟨_,rfl,D⟩
theorem Zl4:Zc Oj 124=true:=Ob
theorem ZlE:Zc Oj 161=true:=Ob
theorem Zco:ZV Oj 141=some (.agg #[Og,Og,Og,.int Oh 0,.int Oh 0],5,88):=Ob
theorem Xz:ZC Oj 141=some 5:=Ob
def CX.iq:CX:=⟨0,Og,fun _=>undef,fun _=>0,fun _ _=>0,Og,Og,So.zero,0⟩
def Uh(s:List CX):CX:=s.getLast?.getD CX.iq
theorem TR(s:List CX)(x:CX):Uh (s++ [x])=x:=by simp [Uh]
def ColR(p:Prob)(u:Int)(ml:Oe)(mf:Of)(s:So)(e:Int):Prop:=(¬p.Ok/\u=0/\s=So.zero/\e=1)\/
  (p.Ok/\e≠0/\u=0/\s=So.zero/\∃u1 ml1 mf1 e1,CRn p u1 ml1 mf1 e1/\((e1≠0/\e=e1)\/(e1=0/\∃s1,MSolveR p u1 ml1 mf1 s1 e)))\/(p.Ok/\e=0/\CRn p u ml mf 0/\MSolveR p u ml mf s 0/\Zhx p s)
theorem ZbE{vL vD:Value}{p:Prob}(w0:World)(h:PAt w0 vL vD p):
   Calls Oj 86 [.agg #[vL,vD,.int Oh p.b8,.int Oh p.bo]].toArray w0 fun e w=>∃v,e= .returned v/\∃vP vv vX vY u ml mf s e,v= .tuple #[.agg #[vP,vX,vY,.int Oh s.val,.int Oh s.den],.int Oh e]/\ColR p u ml mf s e/\Slh vP u/\Slh vX s.n/\Slh vY s.m/\Sat w0 w [.own vP 1 22 u vv,.sem (Frame.rows 3 u vv ml mf),.own vX 1 3 s.n (ints s.X),.own vY 1 3 s.m (ints s.Y)]:=by
 obtain⟨hm,ad,hd,hd1,hs,hk⟩:=h.Oo
 refine Zie Tryz.func86 Tryz.ntmps86 fun w D=> ?_
 refine hsq<|hrz ?_
 refine zla (xbx (cs:= [_,_,_,_]) D) ?_;rintro _ w ⟨g1,rfl,D⟩
 refine zla (xal (cs:= [_,_,_,_,_]) Zco D) ?_;rintro _ w ⟨g2,rfl,D⟩
 refine(zP)<|zln<|zh<|htn<|hsq<|hsq<|hrz ?_
 refine(zV (xls 0 st_32 D))<|zlc (xc0 XZ) (Yn (p:=p) w (h.below D.below)) ?_;rintro _ w ⟨rfl,O⟩
 replace D:=D.cmp O;clear O
 refine(zP)<|zln<|zh<|htn ?_
 refine Xq ?_ ?_<;>intro hc
 ·
  refine hsq<|hrz ?_
  refine(zV (xany (v:= .agg #[Og,Og,Og,.int Oh 0,.int Oh 0])))<|zle (xsw 1 Xz D) ?_;clear D;rintro w D
  refine(zP)<|zln<|zh<|htn<|hrt<|ztr<|Zj9<|ZS 1 Xz D ⟨_,rfl,?_⟩
  exact⟨_,fun _=>undef,_,_,0,fun _=>0,fun _ _=>0,So.zero,1,rfl,.inl ⟨‹¬p.Ok›,rfl,rfl,rfl⟩,slh_nil,slh_nil,slh_nil,((((D.sub (.cons _ (.cons _ .slnil))).cg 1 22 (fun _=>undef)).fa 3 (fun _=>undef) (fun _=>0) (fun _ _=>0)).cg 1 3 (ints So.zero.X)).cg 1 3 (ints So.zero.Y)⟩
 refine hsk<|htn<|hsq<|hrz ?_
 refine zla (xal (cs:= [_,_,_,_,_,_]) Zcn D) ?_;rintro _ w ⟨g3,rfl,D⟩
 refine zln<|zh<|htn<|hsq<|hsq<|hrz ?_
 refine zlv (xls 0 st_32 D) ?_
 have ab:p.Ok:=by first|assumption|exact Oc ‹_›
 refine zlc (xc0 Zl4) (ZeD (p:=p) w (h.below D.below)) ?_;rintro _ w ⟨g4,rfl,O⟩
 replace D:=(D.comp O).n4;clear O
 refine zln<|zh<|htn<|hbk<| ?_
 refine hrf (St:=List CX) (X:=CX) (Tt:=CX) (fun s=> [.blk g1 [vL,vD,.int Oh p.b8,.int Oh p.bo],.blk g2 [Og,Og,Og,.int Oh 0,.int Oh 0],.blk g3 [(Uh s).vP,(Uh s).vX,(Uh s).vY,.int Oh ((Uh s).s.val),.int Oh ((Uh s).s.den),.int Oh ((Uh s).e)]]) (fun t=> []) (fun _=> .ret) [] (fun x M es=>∃(g5:Nat),M= [(0,.agg #[vL,vD,.int Oh p.b8,.int Oh p.bo]),(1,Oq g1),(2,Oq g2),(3,.int Oh 0),(6,.agg #[vL,vD,.int Oh p.b8,.int Oh p.bo]),(7,B (p.Ok)),(8,B (¬(p.Ok))),(4,Oq g3),(10,.agg #[vL,vD,.int Oh p.b8,.int Oh p.bo]),(11,.func (.func 161) #[] #[Oq g4]),(12,.agg #[x.vP,x.vX,x.vY,.int Oh x.s.val,.int Oh x.s.den,.int Oh x.e]),(5,Oq g5)]/\es= [.blk g5 [x.vP,x.vX,x.vY,.int Oh x.s.val,.int Oh x.s.den,.int Oh x.e]]) (ZcF (gp:=g4) w0 h) (D) ZlE (fun _=>rfl) (fun _=> .inl rfl) ?_ ?_ ?_ ?_
 ·
  intro lq s x rest w F xb ac D
  have J:=F.2.1;have I:=F.2.2.1;have G:=F.2.2.2.1
  refine hrz ?_
  refine zla (xal (cs:= [_,_,_,_,_,_]) Zcn D) ?_;rintro _ w ⟨g5,rfl,D⟩
  refine zle (xsw 5 UD D (hd:=(Za J.one (Za I.one (Za G.one (Za rfl (Za rfl (Za rfl Zh)))))))) ?_;clear D;rintro w D
  refine zln<|zh<|Zfq ⟨g5,rfl,rfl⟩ D
 ·
  rintro lq s x _ _ rest w F ⟨g5,rfl,rfl⟩ xb ac D
  have J:=F.2.1;have I:=F.2.2.1;have G:=F.2.2.2.1
  refine hbk<|hrz ?_
  refine(zV (xls 5 UD D))<|zle (xsw 2 UD D (hd:=(Za J.one (Za I.one (Za G.one (Za rfl (Za rfl (Za rfl Zh)))))))) ?_;clear D;rintro w D
  refine zln<|zh<|zbn ?_
  obtain⟨s1,aa⟩:∃s1,s1=s++ [x]:=⟨_,rfl⟩
  have e1:Uh s1=x:=by rw [aa,TR]
  rw [<-e1] at D
  refine Zch s1 aa (D.pk [0,1,2,3,4])
 ·
  intro Dk s rest w qP D
  obtain⟨s9,x,rfl,F,gD⟩:=qP
  have J:=F.2.1;have I:=F.2.2.1;have G:=F.2.2.2.1
  rw [TR] at D
  refine zbn<|htn<|hsq<|hsq<|hrz ?_
  refine(zV (xfb 5 W9))<|(zV (xlb 2 pl_49 D))<|(zP)<|zln<|zh<|htn ?_
  refine Xq ?_ ?_<;>intro hc
  ·
   refine hsq ?_
   refine hdst [0,1,2,3,4,5] [0,2,3,4,5] 3 mx_ D ?_;clear D;intro w D
   refine(zDw 0 (xany (v:= .agg #[Og,Og,Og,.int Oh 0,.int Oh 0])))<|(zDw 1 (xfb 5 W9))<|(zDl 2 (fun w D=>(xlb 1 pl_49 D)))<|zde 3 (xsw 1 Xz D) ?_;clear D;rintro w D
   refine⟨⟨fun h=>absurd h (by decide),D.pk [0,2,3,4,5]⟩,?_⟩
   refine(zDw 4 xas)<|zdd<|zh<|htn<|hrt<|ztr<|Zci 5 D fun w D=>ZS 1 Xz D ⟨_,rfl,?_⟩
   obtain⟨e1,Z,Y⟩:=F.2.2.2.2.2
   exact⟨_,fun _=>undef,_,_,0,fun _=>0,fun _ _=>0,So.zero,x.e,rfl,.inr (.inl ⟨ab,by assumption,rfl,rfl,_,_,_,e1,Z,by rcases Y with⟨U,V,_⟩|⟨U,V⟩;exact .inl ⟨U,V⟩;exact .inr ⟨U,_,V⟩⟩),slh_nil,slh_nil,slh_nil,((((D.sub (.cons _ (.cons _ (.cons _ (.cons _ (.cons _ (.cons _ .slnil))))))).cg 1 22 (fun _=>undef)).fa 3 (fun _=>undef) (fun _=>0) (fun _ _=>0)).cg 1 3 (ints So.zero.X)).cg 1 3 (ints So.zero.Y)⟩
  refine hsk<|htn<|hsq<|hrz ?_
  refine(zV (xfb 0 fd_184_0))<|(zV (xlp 2 (ds:= [x.vP,x.vX,x.vY,.int Oh x.s.val,.int Oh x.s.den]) Xz D))<|zle (xsw 1 Xz D (hd:=(Za J.one (Za I.one (Za G.one (Za rfl (Za rfl Zh))))))) ?_;clear D;rintro w D
  refine(zP)<|zln<|zh<|htn<|hrt<|Zci 5 D fun w D=>ZS 1 Xz D ⟨_,rfl,?_⟩
  have W:x.e=0:=Oa
  obtain⟨e1,Z,Y⟩:=F.2.2.2.2.2
  obtain⟨U,V⟩:e1=0/\MSolveR p x.u x.ml x.mf x.s 0:=by rcases Y with⟨U,V,_⟩|⟨U,V⟩;exact absurd Oa U;exact⟨U,W▸V⟩
  subst U
  replace D:=D.given 4 (F.2.2.2.2.1 W)
  replace D:=Sat.fx (l1:= [_,_,_,_]) (l3:= [_]) D
  exact⟨_,x.vv,_,_,_,_,_,x.s,0,rfl,.inr (.inr ⟨ab,rfl,Z,V,gD W⟩),J,I,G,D.pk [4,5,6,7]⟩
 ·
  intro Dk t rest w qP D
  exact qP.elim
variable {ml y:Oe} {mf:Of}
theorem wc_top{p:Prob}(D:p.Ok){x:Oe}(I:∀i,0<=i->i<p.m->0<=x i/\x i<=p.D i)(J:ZI p x p.m.toNat<=p.b8+p.bo):Zf (fun i=>x i*y i) p.m.toNat<=WC p y:=by
 have O:=D.m1;have U:=D.k1
 refine Zm3 (t:=YY p y) (by show 0<=p.m;omega) (fun i G F=> ?_) I J
 have:=D.all i G F
 unfold Prob.each at this
 show 1<=p.L i+p.bo
 omega
theorem Zcp{p:Prob}(G:p.Ok){i:Int}(F:0<=i)(D:i<p.m):0<=p.D i/\p.D i<=1000/\1<=p.L i/\p.L i<=p.b8:=by
 have I:=G.all i F D
 unfold Prob.each at I;omega
theorem Zcc{p:Prob}(U:p.Ok)(J:∀i,0<=i->i<p.m->0<=y i){W q:Int}{u:Nat}{x:Oe}{f:Of}{D:Oe}(O:∀j,0<=j->j<(u:Int)->0<=x j)(X:∀j,0<=j->j<(u:Int)->Zf (fun k=>f j k*y k) p.m.toNat<=W)
   (V:∀k,0<=k->k<p.m->D k*q<=Zf (fun j=>f j k*x j) u):Zf (fun k=>D k*y k) p.m.toNat*q<=Zf x u*W:=by
 have hm:=U.m1
 have e1:Zf (fun k=>D k*y k) p.m.toNat*q=Zf (fun k=>D k*q*y k) p.m.toNat:=by
   rw [<-YU];exact Zj fun k _ _=>by grind
 have e2:Zf (fun k=>D k*q*y k) p.m.toNat<=Zf (fun k=>Zf (fun j=>f j k*x j) u*y k) p.m.toNat:=Yk fun k F Z=>Int.mul_le_mul_of_nonneg_right (V k F Oa) (J k F Oa)
 have e3:Zf (fun k=>Zf (fun j=>f j k*x j) u*y k) p.m.toNat=Zf (fun k=>Zf (fun j=>f j k*x j*y k) u) p.m.toNat:=Zj fun k _ _=>(YU _ _ _).symm
 have e4:Zf (fun k=>Zf (fun j=>f j k*x j*y k) u) p.m.toNat=Zf (fun j=>Zf (fun k=>f j k*x j*y k) p.m.toNat) u:=VJ (fun j k=>f j k*x j*y k) u p.m.toNat
 have Y:Zf (fun j=>Zf (fun k=>f j k*x j*y k) p.m.toNat) u<=Zf (fun j=>x j*W) u:=Yk fun j I G=>by
   have:Zf (fun k=>f j k*x j*y k) p.m.toNat=Zf (fun k=>f j k*y k) p.m.toNat*x j:=by
     rw [<-YU];exact Zj fun k _ _=>by grind
   rw [this,Int.mul_comm (x j)]
   exact Int.mul_le_mul_of_nonneg_right (X j I G) (O j I G)
 rw [YU] at Y
 omega
structure MOk (p:Prob) (u:Int) (ml:Oe) (mf:Of) (s:So):Prop where
  nh:Rh p u ml mf
  u0:0<=u
  n:s.n=u
  m:s.m=p.m
  d1:1<=s.den
  d2:s.den<=1073741824
  v:0<=s.val/\s.val<=1073741824
  X:∀j,0<=j->j<u->0<=s.X j/\s.X j<=1073741824
  Y:∀i,0<=i->i<p.m->0<=s.Y i/\s.Y i<=1073741824
  rows:∀k,0<=k->k<p.m->p.D k*s.den<=Zf (fun j=>mf j k*s.X j) u.toNat
  cols:∀j,0<=j->j<u->Zf (fun k=>mf j k*s.Y k) p.m.toNat<=s.den
  cX:Zf s.X u.toNat=s.val
  bY:Zf (fun k=>p.D k*s.Y k) p.m.toNat=s.val
theorem MSolveR.ok{p:Prob}{u:Int}{s:So}(O:0<=u)(h:MSolveR p u ml mf s 0):MOk p u ml mf s:=by
 rcases h with⟨_,_,h⟩|⟨_,_,_,h⟩|⟨_,_,_,_,_,_,h⟩|⟨h1,h2,h3,h4,h5,h6,h7⟩|⟨h1,h2,h3,h4,h5⟩
 · omega
 · omega
 · omega
 · have J:=h1.1.m1;have hd:=h1.1.d
   subst h6;subst h4
   have z:∀f:Oe,Zf (fun k=>f k*0) p.m.toNat=0:=fun f=>by rw [YU,Int.mul_zero]
   refine⟨h1,Oa,rfl,rfl,by show(1:Int)<=1;decide,by show(1:Int)<=1073741824;decide,⟨Int.le_refl _,by show(0:Int)<=1073741824;decide⟩,fun j a b=>Oa,fun i _ _=>⟨Int.le_refl _,by show(0:Int)<=1073741824;decide⟩,fun k D G=> ?_,fun j a b=>Oa,rfl,z p.D⟩
   have:=h5 k D Oa
   show p.D k*1<=0
   omega
 · have J:=h1.1.m1
   have hc:=SolveR.chk (p:=Zd9 p u mf) (by show 0<=p.m;omega) h5 rfl
   have hv:s.val=Zf s.X u.toNat:=by
     have:=hc.cX
     rw [<-this];exact Zj fun k _ _=>by show 1*s.X k=_;omega
   refine⟨h1,Oa,hc.n,hc.m,hc.d1,hc.d2,⟨?_,hc.v.2⟩,hc.X,hc.Y,fun k D G=> ?_,fun j F I=> ?_,hv.symm,hc.bY⟩
   · rw [hv];exact Yi fun j F I=>(hc.X j F (by show j<u;omega)).1
   · exact hc.rows k D G
   · have:=hc.cols j F I
     have e:(Zd9 p u mf).c j*s.den=s.den:=by show 1*s.den=_;omega
     rw [e] at this;exact this
theorem Zd0{p:Prob}{n:Int}{a:Oe}(h:ZU p n a):(∀i,0<=i->i<p.m->0<=a i/\a i<=p.D i)/\ZI p a p.m.toNat<=p.b8+p.bo:=
 ⟨fun i F D=>⟨(h.1.all i F D).1,h.2 i F (by rw [h.1.eq];exact D)⟩,h.1.used⟩
theorem MOk.bound{p:Prob}{u:Int}{s:So}(h:MOk p u ml mf s)(I:∀i,0<=i->i<p.m->0<=y i):Zf (fun k=>p.D k*y k) p.m.toNat*s.den<=s.val*WC p y:=by
 have F:=h.nh.1
 have O:=h.u0
 rw [<-h.cX]
 refine Zcc F I (fun j D G=>(h.X j D Oa).1) (fun j D G=> ?_) h.rows
 obtain⟨h1,J⟩:=Zd0 (h.nh.2 j D Oa)
 exact wc_top F h1 J
theorem ZfY{p:Prob}{s:So}(h:Zhx p s):WC p s.Y<=s.den:=by
 obtain⟨D,a,worth,h1,F⟩:=h
 rcases h1 with⟨_,_,_,h1⟩|⟨_,_,_,_,h1,_⟩
 · omega
 · omega
theorem MOk.own{p:Prob}{u:Int}{s:So}(h:MOk p u ml mf s)(hc:WC p s.Y<=s.den):s.val*s.den=s.val*WC p s.Y:=by
 have h1:=h.bound (y:=s.Y) fun i F D=>(h.Y i F D).1
 rw [h.bY] at h1
 have:=Int.mul_le_mul_of_nonneg_left hc h.v.1
 omega
theorem MOk.prc{p:Prob}{u:Int}{s:So}(h:MOk p u ml mf s):ZaC p s.m s.Y:=⟨h.nh.1,h.m,fun k F D=>h.Y k F D⟩
theorem ColR.nt{p:Prob}{u e:Int}{s:So}(D:0<=u)(h:ColR p u ml mf s e)(F:e=0):MOk p u ml mf s/\WC p s.Y<=s.den:=by
 rcases h with⟨_,_,_,h⟩|⟨_,h,_⟩|⟨_,_,_,h1,h2⟩
 · omega
 · exact absurd F h
 · exact⟨h1.ok D,ZfY h2⟩
end Go.Proofs.YtkichmnjjblodaaGreat
namespace Go.Proofs.Gw
open Go Go.RowKit
def skp(i k:Int):Int:=if k<i then k else k+1
def alt(i:Int):Int:=if i%2=0 then 1 else-1
def det:Nat->(Of)->Int
  |0,_=>1
  |n+1,A=>Zf (fun i=>alt i*A i 0*det n (fun k m=>A (skp i k) (m+1))) (n+1)
def frm(p:Lp)(q m:Int):Int:=if q<p.n then(if m=q+1 then 1 else 0) else if m=0 then-p.b (q-p.n) else p.A (q-p.n) (m-1)
def cst(p:Lp)(m:Int):Int:=if m=0 then 0 else p.c (m-1)
def slt(p:Lp)(t:Tb)(k m:Int):Int:=if k=0 then(if m=0 then 1 else 0) else frm p (t.F (k-1)) m
def lft(p:Lp)(t:Tb)(i m:Int):Int:=if i=0 then cst p m else frm p (t.B (i-1)) m
end Go.Proofs.Gw
namespace Go.Proofs.YtkichmnjjblodaaGreat
open Go Go.RowKit Go.Proofs.Gw
theorem ZhY{x:Oe}{n:Nat}{k:Int}(F:0<=k)(D:k<(n:Int))(h:∀j,0<=j->j<(n:Int)->j≠k->x j=0):Zf x n=x k:=by
 rw [Xf (s:=k) F D]
 have:Zf (fun j=>if j=k then 0 else x j) n=Zf (fun _=>0) n:=Zj fun j I G=>by
   by_cases e:j=k
   · rw [if_pos e]
   · rw [if_neg e,h j I G e]
 rw [this,Yd];omega
theorem Zfa{p:Prob}(D:p.Ok){i:Int}(J:0<=i)(O:i<p.m):ZU p p.m (WX p i)/\(0<p.D i->1<=WX p i i):=by
 have W:=D.m1;have X:=D.k1;have U:=D.s1
 have hd:=Zcp D J O
 have V:=YV (a:=p.b8+p.bo) (b:=p.L i+p.bo) Oa Oa
 have h0:0<=(p.b8+p.bo).tdiv (p.L i+p.bo):=Int.tdiv_nonneg Oa Oa
 have h1:1<=(p.b8+p.bo).tdiv (p.L i+p.bo):=by
   rw [Int.tdiv_eq_ediv_of_nonneg Oa]
   exact(Int.le_ediv_iff_mul_le Oa).2 Oa
 have hv:WX p i i=min (p.D i) ((p.b8+p.bo).tdiv (p.L i+p.bo)):=if_pos rfl
 have F:∀j,j≠i->WX p i j=0:=fun j e=>if_neg e
 refine⟨⟨⟨D,rfl,fun j I G=> ?_,?_⟩,fun j I G=> ?_⟩,fun h=>by rw [hv];omega⟩
 · by_cases e:j=i
   · rw [e,hv];omega
   · rw [F j e];omega
 · have e:ZI p (WX p i) p.m.toNat=WX p i i*(p.L i+p.bo):=ZhY (x:=fun j=>WX p i j*(p.L j+p.bo)) J Oa fun j _ _ e=>by show WX p i j*_=0;rw [F j e,Int.zero_mul]
   rw [e,hv]
   have Z:=Int.mul_le_mul_of_nonneg_right (show min (p.D i) ((p.b8+p.bo).tdiv (p.L i+p.bo))<=(p.b8+p.bo).tdiv (p.L i+p.bo) by omega) (show 0<=p.L i+p.bo by omega)
   have Y:(p.b8+p.bo).tdiv (p.L i+p.bo)*(p.L i+p.bo)<=p.b8+p.bo:=by
     rw [Int.tdiv_eq_ediv_of_nonneg Oa]
     exact Int.ediv_mul_le _ Oa
   omega
 · by_cases e:j=i
   · rw [e,hv];omega
   · rw [F j e];exact(Zcp D I G).1
theorem ZeS {p:Prob} (I:p.Ok):∀k:Nat,(k:Int)<=p.m->(∀j,0<=j->j<stN p k->ZU p (stL p k j) (stG p k j))/\∀i,0<=i->i<(k:Int)->0<p.D i->∃j,0<=j/\j<stN p k/\1<=stG p k j i
 |0,_=>⟨fun j a b=>by simp only [stN] at b;omega,fun i a b=>Oa⟩
 | k + 1,hk=>by
   obtain⟨h1,J⟩:=ZeS I k Oa
   have hr:=(Wy p k).1
   simp only [stN,stL,stG]
   by_cases e:0<p.D k
   · rw [if_pos e,if_pos e,if_pos e]
     obtain⟨U,O⟩:=Zfa I (i:=(k:Int)) Oa Oa
     constructor
     · intro j D G
       by_cases e2:j<stN p k
       · rw [Zp e2,Zp e2];exact h1 j D e2
       · rw [Zq e2,Zq e2];exact U
     · intro i F V hi
       by_cases e2:i=k
       · subst e2
         refine⟨stN p k,hr,Oa,?_⟩
         rw [Zq Oa];exact O e
       · obtain⟨j,D,G,W⟩:=J i F Oa hi
         refine⟨j,D,Oa,?_⟩
         rw [Zp G];exact W
   · rw [if_neg e,if_neg e,if_neg e]
     refine⟨h1,fun i F V hi=>J i F ?_ hi⟩
     by_cases e2:i=k
     · subst e2;omega
     · omega
theorem Zb8{p:Prob}{n G worth e:Int}{y a:Oe}(h:US p n y G a worth e)(X:e=0):ZU p G a:=by
 rcases h with⟨_,_,_,h⟩|⟨⟨hp,hn,hy⟩,rfl,rfl,⟨x,hx⟩,_,_⟩
 · omega
 · have V:=hp.m1;have W:=hp.k1;have U:=hp.s1
   have I:=Zhj Oa hx
   have O:=(hx.ng Oa (by show 0<=p.m;omega)).1
   have J:∀i,0<=i->i<p.m->0<=aC p y i/\aC p y i<=p.D i:=fun i D F=>by
     have h1:=hx i D F
     rw [<-I i D F];exact⟨h1.1,h1.2.1⟩
   refine⟨⟨hp,rfl,fun i D F=> ?_,?_⟩,fun i D F=>(J i D F).2⟩
   · have:=J i D F;have:=Zcp hp D F;omega
   · refine Int.le_trans (Int.le_of_eq ?_) O
     show Zf (fun i=>aC p y i*(p.L i+p.bo)) p.m.toNat=Zf (fun i=>x i*(p.L i+p.bo)) p.m.toNat
     exact Zj fun i D F=>by rw [I i D Oa]
theorem Zdu{p:Prob}(D:p.Ok){u e:Int}{ml:Oe}{mf:Of}(h:CRn p u ml mf e):e=0/\Rh p u ml mf/\0<=u/\∀i,0<=i->i<p.m->0<p.D i->∃j,0<=j/\j<u/\1<=mf j i:=by
 have hm:=D.m1
 induction h with
 | start h=>
   rcases h with⟨h,_⟩|⟨_,h1,O,J,I⟩
   · exact absurd D h
   · subst h1;subst O;subst J
     obtain⟨X,W⟩:=ZeS D p.m.toNat Oa
     exact⟨I,⟨D,X⟩,(Wy p _).1,fun i F U=>W i F Oa⟩
 | go h hs hp hn ih=>
   rename_i V Y w1 f1 Z aa a1 s1
   obtain⟨_,O,J,I⟩:=ih
   have G:=(hs.ok J).prc
   have hf:f1=0:=by
     rcases hp with⟨q,_⟩|⟨_,_,_,_,_,q⟩
     · exact absurd G q
     · exact q
   refine⟨hf,⟨D,fun k k0 k1=> ?_⟩,Oa,fun i F U hi=> ?_⟩
   · by_cases e:k<V
     · rw [Zp e,Zp e];exact O.2 k k0 e
     · rw [Zq e,Zq e];exact Zb8 hp hf
   · obtain⟨j,j0,j1,hj⟩:=I i F U hi
     exact⟨j,j0,Oa,by rw [Zp j1];exact hj⟩
end Go.Proofs.YtkichmnjjblodaaGreat
namespace Go.Proofs.Gw
variable {b c e hi i j k lo m mid x y z:Int} {a t:Oe}
def PermOn(lo hi:Int)(a b:Oe):Prop:=∃p q:Oe,(∀k,p (q k)=k/\q (p k)=k)/\(∀k,¬(lo<=k/\k<hi)->p k=k)/\∀k,b k=a (p k)
theorem PermOn.refl(lo hi:Int)(a:Oe):PermOn lo hi a a:=⟨id,id,fun _=>⟨rfl,rfl⟩,fun _ _=>rfl,fun _=>rfl⟩
theorem PermOn.trans{b c:Oe}(h:PermOn lo hi a b)(k:PermOn lo hi b c):PermOn lo hi a c:=by
 obtain⟨p,q,h1,V,U⟩:=h
 obtain⟨D,F,G,O,J⟩:=k
 refine⟨fun x=>p (D x),fun x=>F (q x),fun x=>⟨?_,?_⟩,fun x I=> ?_,fun x=> ?_⟩
 · show p (D (F (q x)))=x
   rw [(G _).1,(h1 _).1]
 · show F (q (p (D x)))=x
   rw [(h1 _).2,(G _).2]
 · show p (D x)=x
   rw [O x I,V x I]
 · rw [J,U]
theorem PermOn.mono{D F:Int}{b:Oe}(h:PermOn lo hi a b)(U:D<=lo)(h1:hi<=F):PermOn D F a b:=by
 obtain⟨p,q,J,I,G⟩:=h
 exact⟨p,q,J,fun k O=>I k Oa,G⟩
theorem PermOn.out{b:Oe}(h:PermOn lo hi a b)(D:¬(lo<=k/\k<hi)):b k=a k:=by
 obtain⟨p,q,I,G,F⟩:=h
 rw [F,G k D]
theorem PermOn.fr{b:Oe}(h:PermOn lo hi a b)(G:lo<=k)(F:k<hi):∃j,lo<=j/\j<hi/\b k=a j:=by
 obtain⟨p,q,D,U,O⟩:=h
 by_cases hj:lo<=p k/\p k<hi
 · exact⟨p k,hj.1,hj.2,O k⟩
 · have J:=U (p k) hj
   have I:p k=k:=by
     have:=congrArg q J
     rw [(D _).2,(D _).2] at this;exact this
   rw [I] at hj
   exact absurd ⟨G,F⟩ hj
theorem PermOn.symm{lo hi:Int}{a b:Oe}(h:PermOn lo hi a b):PermOn lo hi b a:=by
 obtain⟨p,q,D,I,G⟩:=h
 refine⟨q,p,fun k=>⟨(D k).2,(D k).1⟩,fun k F=> ?_,fun k=> ?_⟩
 · have:=congrArg q (I k F)
   rw [(D k).2] at this;exact this.symm
 · rw [G,(D k).1]
def swp(a:Oe)(i j:Int):Oe:=fun k=>if k=i then a j else if k=j then a i else a k
theorem Tz(I:lo<=i)(G:i<hi)(F:lo<=j)(D:j<hi):PermOn lo hi a (swp a i j):=by
 have e:∀k,(fun k=>if k=i then j else if k=j then i else k:Oe) ((fun k=>if k=i then j else if k=j then i else k:Oe) k)=k:=fun k=>by
   dsimp only;split<;>(try split)<;>(try split)<;>(try split)<;>omega
 refine⟨fun k=>if k=i then j else if k=j then i else k,fun k=>if k=i then j else if k=j then i else k,fun k=>⟨e k,e k⟩,fun k J=> ?_,fun k=> ?_⟩
 · dsimp only;rw [if_neg Oa,if_neg Oa]
 · unfold swp;dsimp only;split
   · rfl
   · split<;>rfl
def Srt(R:Int->Int->Prop)(lo hi:Int)(a:Oe):Prop:=∀i j,lo<=i->i<j->j<hi->R (a i) (a j)
theorem Srt.mono{R:Int->Int->Prop}{D F:Int}(h:Srt R lo hi a)(O:lo<=D)(h1:F<=hi):Srt R D F a:=fun i j J G I=>h i j Oa G Oa
theorem Srt.congr{R:Int->Int->Prop}{b:Oe}(h:Srt R lo hi a)(e:∀k,lo<=k->k<hi->b k=a k):Srt R lo hi b:=fun i j F G D=>by
 rw [e i F Oa,e j Oa D];exact h i j F G D
def Tie(lt:Int->Int->Prop):Int->Int->Prop:=fun x y=>lt x y\/(¬lt y x/\x<y)
structure Swo (lt:Int->Int->Prop):Prop where
  asym:∀x y,lt x y->¬lt y x
  trans:∀x y z,lt x y->lt y z->lt x z
  inc:∀x y z,¬lt x y->¬lt y z->¬lt x z
theorem Tie.trans{lt:Int->Int->Prop}(h:Swo lt){x y z:Int}(a:Tie lt x y)(b:Tie lt y z):Tie lt x z:=by
 rcases a with a|⟨F,a2⟩<;>rcases b with b|⟨D,G⟩
 · exact .inl (h.trans _ _ _ a b)
 · left;exact Classical.byContradiction fun hn=>h.inc _ _ _ hn D a
 · left;exact Classical.byContradiction fun hn=>h.inc _ _ _ F hn b
 · exact .inr ⟨h.inc _ _ _ D F,Oa⟩
theorem Tie.of{lt:Int->Int->Prop}(h:Swo lt)(D:x<y)(hn:¬lt y x):Tie lt x y:=by
 by_cases hl:lt x y
 · exact .inl hl
 · exact .inr ⟨hn,D⟩
def Parted(lo c hi:Int)(a:Oe):Prop:=∀i j,lo<=i->i<c->c<=j->j<hi->a i<a j
def Tc(lo hi:Int)(a:Oe):Prop:=∀i j,lo<=i->i<j->j<hi->a i<a j
structure Ins (lt:Int->Int->Prop) (lo i j:Int) (a b:Oe):Prop where
  perm:PermOn lo (i+1) a b
  rest:∀p q,lo<=p->p<q->q<=i->p≠j->q≠j->Tie lt (b p) (b q)
  less:∀q,j<q->q<=i->Tie lt (b j) (b q)
  big:∀p,lo<=p->p<j->b p<b j
theorem Ins.start{lt:Int->Int->Prop}(W:lo<=i)(I:Srt (Tie lt) lo i a)(J:∀p,lo<=p->p<i->a p<a i):Ins lt lo i i a a:=
 ⟨.refl _ _ _,fun p q G F D V O=>I p q G F Oa,fun q U D=>Oa,J⟩
theorem Ins.step{lt:Int->Int->Prop}{b:Oe}(j0:lo<j)(j1:j<=i)(h:Ins lt lo i j a b)(W:lt (b j) (b (j-1))):Ins lt lo i (j-1) a (swp b j (j-1)):=by
 have I:swp b j (j-1) j=b (j-1):=by unfold swp;rw [if_pos rfl]
 have O:swp b j (j-1) (j-1)=b j:=by unfold swp;rw [if_neg Oa,if_pos rfl]
 have D:∀k,k≠j->k≠j-1->swp b j (j-1) k=b k:=fun k h1 X=>by unfold swp;rw [if_neg h1,if_neg X]
 refine⟨h.perm.trans (Tz Oa Oa Oa Oa),fun p q G U F V J=> ?_,fun q Y F=> ?_,fun p G Z=> ?_⟩
 · by_cases hp:p=j
   · rw [hp,I,D q Oa J];exact h.rest (j-1) q Oa Oa F Oa Oa
   · rw [D p hp V]
     by_cases hq:q=j
     · rw [hq,I];exact h.rest p (j-1) G Oa Oa hp Oa
     · rw [D q hq J];exact h.rest p q G U F hp hq
 · rw [O]
   by_cases hq:q=j
   · rw [hq,I];exact .inl W
   · rw [D q hq Oa];exact h.less q Oa F
 · rw [O,D p Oa Oa];exact h.big p G Oa
theorem Ins.fin{lt:Int->Int->Prop}(I:Swo lt){b:Oe}(W:lo<=j)(V:j<=i)(h:Ins lt lo i j a b)(F:j=lo\/¬lt (b j) (b (j-1))):Srt (Tie lt) lo (i+1) b:=fun p q D J O=>by
 have G:∀p,lo<=p->p<j->Tie lt (b p) (b j):=fun p D U=>by
   rcases F with F|F
   · omega
   · have h1:Tie lt (b (j-1)) (b j):=Tie.of I (h.big (j-1) Oa Oa) F
     by_cases hp:p=j-1
     · rw [hp];exact h1
     · exact(h.rest p (j-1) D Oa Oa Oa Oa).trans I h1
 by_cases hp:p=j
 · rw [hp];exact h.less q Oa Oa
 · by_cases hq:q=j
   · rw [hq];exact G p D Oa
   · exact h.rest p q D J Oa hp hq
def swr(a:Oe)(x y n:Int):Oe:=fun k=>if x<=k/\k<x+n then a (k-x+y) else if y<=k/\k<y+n then a (k-y+x) else a k
theorem ZaM(a:Oe)(x y:Int):swr a x y 0=a:=by
 funext k;unfold swr;rw [if_neg Oa,if_neg Oa]
theorem ZaN (F:0<=i) (h:x+i<y\/y+i<x) (hd:x+i<y\/y+i<x) (D:x<=y):swp (swr a x y i) (x+i) (y+i)=swr a x y (i+1):=by
 funext k;unfold swp swr
 by_cases h1:k=x+i
 · subst h1
   rw [if_pos rfl,if_neg Oa,if_neg Oa,if_pos Oa];congr 1<;>omega
 · rw [if_neg h1]
   by_cases h2:k=y+i
   · subst h2
     rw [if_pos rfl,if_neg Oa,if_neg Oa,if_neg Oa,if_pos Oa];congr 1<;>omega
   · rw [if_neg h2]
     by_cases h3:x<=k/\k<x+i
     · rw [if_pos h3,if_pos Oa]
     · rw [if_neg h3]
       by_cases h4:y<=k/\k<y+i
       · rw [if_pos h4,if_neg Oa,if_pos Oa]
       · rw [if_neg h4,if_neg Oa,if_neg Oa]
def rot(a:Oe)(lo c hi:Int):Oe:=fun k=>if lo<=k/\k<lo+(hi-c) then a (k+(c-lo)) else if lo+(hi-c)<=k/\k<hi then a (k-(hi-c)) else a k
theorem V3 (D:1<=j) (h:j<i):rot (swr a (c-i) c j) (c-i+j) c (c+j)=rot a (c-i) c (c+j):=by
 funext k;unfold rot swr
 by_cases h1:c-i<=k/\k<c-i+j
 · rw [if_neg Oa,if_neg Oa,if_pos h1,if_pos Oa];congr 1<;>omega
 · by_cases h2:c-i+j<=k/\k<c-i+j+j
   · rw [if_pos Oa,if_neg (show¬(c-i<=k/\k<c-i+(c+j-c)) by omega),if_pos (show c-i+(c+j-c)<=k/\k<c+j by omega)]
     by_cases h3:c-i<=k+(c-(c-i+j))/\k+(c-(c-i+j))<c-i+j
     · exfalso;omega
     · rw [if_neg h3]
       by_cases h4:c<=k+(c-(c-i+j))/\k+(c-(c-i+j))<c+j
       · rw [if_pos h4];congr 1<;>omega
       · exfalso;omega
   · by_cases h3:c-i+j+j<=k/\k<c+j
     · rw [if_neg (by(try omega)),if_pos (by(try omega)),if_neg (by(try omega)),if_neg (by(try omega)),if_neg (by(try omega)),if_pos (by(try omega))]
     · rw [if_neg Oa,if_neg Oa,if_neg Oa,if_neg Oa,if_neg Oa,if_neg Oa]
theorem Vo(D:1<=i)(h:i<j):rot (swr a (c-i) (c+j-i) i) (c-i) c (c+j-i)=rot a (c-i) c (c+j):=by
 funext k;unfold rot swr
 by_cases h1:c-i<=k/\k<c+j-i-i
 · rw [if_pos Oa,if_neg Oa,if_neg Oa,if_pos Oa]
 · by_cases h2:c+j-i-i<=k/\k<c+j-i
   · by_cases h5:k<c-i
     · exfalso;omega
     · rw [if_neg Oa,if_pos Oa,if_pos Oa,if_pos Oa];congr 1<;>omega
   · by_cases h3:c+j-i<=k/\k<c+j
     · rw [if_neg Oa,if_neg Oa,if_neg Oa,if_pos Oa,if_neg Oa,if_pos Oa];congr 1<;>omega
     · rw [if_neg Oa,if_neg Oa,if_neg Oa,if_neg Oa,if_neg Oa,if_neg Oa]
theorem ZaY(D:0<=i):swr a (c-i) c i=rot a (c-i) c (c+i):=by
 funext k;unfold rot swr
 by_cases h1:c-i<=k/\k<c
 · rw [if_pos Oa,if_pos Oa];congr 1<;>omega
 · by_cases h2:c<=k/\k<c+i
   · rw [if_neg Oa,if_pos Oa,if_neg Oa,if_pos Oa];congr 1<;>omega
   · rw [if_neg Oa,if_neg Oa,if_neg Oa,if_neg Oa]
theorem YD(F:lo<=c)(h1:c<=hi):PermOn lo hi a (rot a lo c hi):=by
 refine⟨fun k=>if lo<=k/\k<lo+(hi-c) then k+(c-lo) else if lo+(hi-c)<=k/\k<hi then k-(hi-c) else k,fun k=>if lo<=k/\k<c then k+(hi-c) else if c<=k/\k<hi then k-(c-lo) else k,fun k=>⟨?_,?_⟩,fun k D=> ?_,fun k=> ?_⟩
 · dsimp only
   by_cases g1:lo<=k/\k<c
   · rw [if_pos g1,if_neg Oa,if_pos Oa];omega
   · rw [if_neg g1]
     by_cases g2:c<=k/\k<hi
     · rw [if_pos g2,if_pos Oa];omega
     · rw [if_neg g2,if_neg Oa,if_neg Oa]
 · dsimp only
   by_cases g1:lo<=k/\k<lo+(hi-c)
   · rw [if_pos g1,if_neg Oa,if_pos Oa];omega
   · rw [if_neg g1]
     by_cases g2:lo+(hi-c)<=k/\k<hi
     · rw [if_pos g2,if_pos Oa];omega
     · rw [if_neg g2,if_neg Oa,if_neg Oa]
 · dsimp only;rw [if_neg Oa,if_neg Oa]
 · unfold rot;dsimp only;split
   · rfl
   · split<;>rfl
theorem ZaT(a:Oe)(lo:Int):rot a lo (lo+1) (lo+1)=a:=by
 funext k;unfold rot
 by_cases h:lo<=k/\k<lo+1
 · rw [if_neg Oa,if_pos Oa];congr 1<;>omega
 · rw [if_neg Oa,if_neg Oa]
theorem ZaU(h:lo<=k):swp (rot a lo (lo+1) (k+1)) k (k+1)=rot a lo (lo+1) (k+1+1):=by
 funext j;unfold swp rot
 by_cases h1:j=k
 · subst h1
   rw [if_pos rfl,if_neg Oa,if_neg Oa,if_pos Oa];congr 1<;>omega
 · rw [if_neg h1]
   by_cases h2:j=k+1
   · subst h2
     rw [if_pos rfl,if_neg Oa,if_pos Oa,if_neg Oa,if_pos Oa];congr 1<;>omega
   · rw [if_neg h2]
     by_cases h3:lo<=j/\j<k
     · rw [if_pos Oa,if_pos Oa]
     · rw [if_neg Oa,if_neg Oa,if_neg Oa,if_neg Oa]
theorem ZaR(a:Oe)(c:Int):rot a c c (c+1)=a:=by
 funext k;unfold rot
 by_cases h:c<=k/\k<c+1
 · rw [if_pos Oa];congr 1<;>omega
 · rw [if_neg Oa,if_neg Oa]
theorem ZaS(h:k<=c):swp (rot a k c (c+1)) k (k-1)=rot a (k-1) c (c+1):=by
 funext j;unfold swp rot
 by_cases h1:j=k
 · subst h1
   rw [if_pos rfl,if_neg Oa,if_neg Oa,if_neg Oa,if_pos Oa];congr 1<;>omega
 · rw [if_neg h1]
   by_cases h2:j=k-1
   · subst h2
     rw [if_pos rfl,if_pos Oa,if_pos Oa];congr 1<;>omega
   · rw [if_neg h2]
     by_cases h3:k+1<=j/\j<c+1
     · rw [if_neg Oa,if_pos Oa,if_neg Oa,if_pos Oa]
     · rw [if_neg Oa,if_neg Oa,if_neg Oa,if_neg Oa]
theorem RV {lt:Int->Int->Prop} (J:Swo lt) {a:Int} {s:Oe} (D:Srt (Tie lt) (a+1) b s) (hb:∀j,a+1<=j->j<b->s a<s j) (W:a+1<=e) (e1:e<=b)
   (h1:e=a+1\/lt (s (e-1)) (s a)) (G:e=b\/¬lt (s e) (s a)):Srt (Tie lt) a b (rot s a (a+1) e):=fun i j Z Y I=>by
 have U:∀k,a<=k->k<e-1->rot s a (a+1) e k=s (k+1):=fun k X k1=>by unfold rot;rw [if_pos Oa];congr 1<;>omega
 have O:rot s a (a+1) e (e-1)=s a:=by unfold rot;rw [if_neg Oa,if_pos Oa];congr 1<;>omega
 have F:∀k,e<=k->rot s a (a+1) e k=s k:=fun k X=>by unfold rot;rw [if_neg Oa,if_neg Oa]
 by_cases hi:i<e-1
 · rw [U i Z hi]
   by_cases hj:j<e-1
   · rw [U j Oa hj];exact D _ _ Oa Oa Oa
   · by_cases hj2:j=e-1
     · rw [hj2,O]
       rcases h1 with h1|h1
       · omega
       · by_cases hie:i+1=e-1
         · rw [hie];exact .inl h1
         · exact(D (i+1) (e-1) Oa Oa Oa).trans J (.inl h1)
     · rw [F j Oa];exact D _ _ Oa Oa I
 · by_cases hi2:i=e-1
   · rw [hi2,O,F j Oa]
     rcases G with G|G
     · omega
     · have V:Tie lt (s a) (s e):=Tie.of J (hb e W Oa) G
       by_cases hje:j=e
       · rw [hje];exact V
       · exact V.trans J (D e j W Oa I)
   · rw [F i Oa,F j Oa];exact D i j Oa Y I
theorem TN {lt:Int->Int->Prop} (O:Swo lt) {a:Int} {s:Oe} (F:Srt (Tie lt) a m s) (Z:∀i,a<=i->i<m->s i<s m) (e0:a<=e) (e1:e<=m)
   (h1:e=a\/¬lt (s m) (s (e-1))) (G:e=m\/lt (s m) (s e)):Srt (Tie lt) a (m+1) (rot s e m (m+1)):=fun i j D Y J=>by
 have V:∀k,k<e->rot s e m (m+1) k=s k:=fun k X=>by unfold rot;rw [if_neg Oa,if_neg Oa]
 have U:rot s e m (m+1) e=s m:=by unfold rot;rw [if_pos Oa];congr 1<;>omega
 have I:∀k,e<k->k<m+1->rot s e m (m+1) k=s (k-1):=fun k X k1=>by unfold rot;rw [if_neg Oa,if_pos Oa];congr 1<;>omega
 have hlo:∀i,a<=i->i<e->Tie lt (s i) (s m):=fun i D i1=>by
   rcases h1 with h1|h1
   · omega
   · have W:Tie lt (s (e-1)) (s m):=Tie.of O (Z (e-1) Oa Oa) h1
     by_cases hie:i=e-1
     · rw [hie];exact W
     · exact(F i (e-1) D Oa Oa).trans O W
 by_cases hi:i<e
 · rw [V i hi]
   by_cases hj:j<e
   · rw [V j hj];exact F i j D Y Oa
   · by_cases hj2:j=e
     · rw [hj2,U];exact hlo i D hi
     · rw [I j Oa J];exact F i (j-1) D Oa Oa
 · by_cases hi2:i=e
   · rw [hi2,U,I j Oa J]
     rcases G with G|G
     · omega
     · by_cases hje:j-1=e
       · rw [hje];exact .inl G
       · exact Tie.trans O (.inl G) (F e (j-1) e0 Oa Oa)
   · rw [I i Oa Oa,I j Oa J];exact F (i-1) (j-1) Oa Oa Oa
structure Halves (lt:Int->Int->Prop) (a s mid e b:Int) (t:Oe):Prop where
  l1:Srt (Tie lt) a s t
  l2:Srt (Tie lt) s mid t
  r1:Srt (Tie lt) mid e t
  r2:Srt (Tie lt) e b t
  pl:Parted a s mid t
  pr:Parted mid e b t
  nj:∀i j,a<=i->i<mid->mid<=j->j<b->Tie lt (t i) (t j)
theorem Ud {lt:Int->Int->Prop} (V:Swo lt) {a s:Int} (h1:Srt (Tie lt) a m t) (X:Srt (Tie lt) m b t) (hp:Parted a m b t) (he:s+e=mid+m) (s0:a<=s) (s1:s<=m) (e0:m<=e) (e1:e<=b)
   (Y:s=a\/e=b\/¬lt (t e) (t (s-1))) (J:s=m\/e=m\/lt (t (e-1)) (t s)):Halves lt a s mid e b (rot t s m e):=by
 have r0:∀k,k<s->rot t s m e k=t k:=fun k k0=>by unfold rot;rw [if_neg Oa,if_neg Oa]
 have Z:∀k,s<=k->k<mid->rot t s m e k=t (k+(m-s)):=fun k k0 k1=>by unfold rot;rw [if_pos Oa]
 have U:∀k,mid<=k->k<e->rot t s m e k=t (k-(e-m)):=fun k k0 k1=>by unfold rot;rw [if_neg Oa,if_pos Oa]
 have O:∀k,e<=k->rot t s m e k=t k:=fun k k0=>by unfold rot;rw [if_neg Oa,if_neg Oa]
 have c1:∀i j,a<=i->i<s->e<=j->j<b->Tie lt (t i) (t j):=fun i j D I G F=>by
   rcases Y with Y|Y|Y
   · omega
   · omega
   · have h3:Tie lt (t (s-1)) (t e):=Tie.of V (hp (s-1) e Oa Oa e0 Oa) Y
     have W:Tie lt (t i) (t e):=by
       by_cases hi:i=s-1
       · rw [hi];exact h3
       · exact(h1 i (s-1) D Oa Oa).trans V h3
     by_cases hj:j=e
     · rw [hj];exact W
     · exact W.trans V (X e j e0 Oa F)
 have c2:∀i j,m<=i->i<e->s<=j->j<m->Tie lt (t i) (t j):=fun i j D I G F=>by
   rcases J with J|J|J
   · omega
   · omega
   · have W:Tie lt (t i) (t s):=by
       by_cases hi:i=e-1
       · rw [hi];exact .inl J
       · exact(X i (e-1) D Oa Oa).trans V (.inl J)
     by_cases hj:j=s
     · rw [hj];exact W
     · exact W.trans V (h1 s j Oa Oa F)
 refine⟨fun i j D ij F=> ?_,fun i j D ij F=> ?_,fun i j D ij F=> ?_,fun i j D ij F=> ?_,fun i j D I G F=> ?_,fun i j D I G F=> ?_,fun i j D I G F=> ?_⟩
 · rw [r0 i Oa,r0 j F];exact h1 i j D ij Oa
 · rw [Z i D Oa,Z j Oa F];exact X _ _ Oa Oa Oa
 · rw [U i D Oa,U j Oa F];exact h1 _ _ Oa Oa Oa
 · rw [O i D,O j Oa];exact X _ _ Oa Oa Oa
 · rw [r0 i I,Z j G F];exact hp _ _ D Oa Oa Oa
 · rw [U i D I,O j G];exact hp _ _ Oa Oa Oa Oa
 · by_cases hi:i<s
   · rw [r0 i hi]
     by_cases hj:j<e
     · rw [U j G hj];exact h1 _ _ Oa Oa Oa
     · rw [O j Oa];exact c1 i j D hi Oa F
   · rw [Z i Oa I]
     by_cases hj:j<e
     · rw [U j G hj];exact c2 _ _ Oa Oa Oa Oa
     · rw [O j Oa];exact X _ _ Oa Oa Oa
theorem Halves.left{lt:Int->Int->Prop}{a s:Int}(h:Halves lt a s mid e b t)(hn:¬(a<s/\s<mid))(s0:a<=s)(s1:s<=mid):Srt (Tie lt) a mid t:=by
 by_cases h1:a<s
 · obtain rfl:s=mid:=Oa
   exact h.l1
 · obtain rfl:a=s:=Oa
   exact h.l2
theorem Halves.right{lt:Int->Int->Prop}{a s:Int}(h:Halves lt a s mid e b t)(hn:¬(mid<e/\e<b))(s0:mid<=e)(s1:e<=b):Srt (Tie lt) mid b t:=by
 by_cases h1:mid<e
 · obtain rfl:e=b:=Oa
   exact h.r1
 · obtain rfl:mid=e:=Oa
   exact h.r2
theorem Halves.keep{lt:Int->Int->Prop}{a s:Int}{u:Oe}(h:Halves lt a s mid e b t)(D:PermOn a mid t u):Srt (Tie lt) mid e u/\Srt (Tie lt) e b u/\Parted mid e b u\/e<mid:=by
 by_cases he:mid<=e
 · refine .inl ⟨h.r1.congr fun k G F=>D.out Oa,h.r2.congr fun k G F=>D.out Oa,fun i j U O J I=> ?_⟩
   rw [D.out Oa,D.out Oa];exact h.pr i j U O J I
 · exact .inr Oa
theorem Halves.join{lt:Int->Int->Prop}(hw:Swo lt){a s:Int}{u v:Oe}(h:Halves lt a s mid e b t)(a0:a<=mid)(b0:mid<=b)(h1:PermOn a mid t u)(V:Srt (Tie lt) a mid u)(D:PermOn mid b u v)(U:Srt (Tie lt) mid b v):Srt (Tie lt) a b v:=fun i j I G F=>by
 by_cases hj:j<mid
 · rw [D.out Oa,D.out Oa];exact V i j I G hj
 · by_cases hi:i<mid
   · rw [D.out Oa]
     obtain⟨O,Y,X,W⟩:=h1.fr I hi
     obtain⟨J,f0,f1,Z⟩:=D.fr (show mid<=j by omega) F
     rw [W,Z,h1.out Oa]
     exact h.nj O J Y X f0 f1
   · exact U i j Oa G F
theorem Parted.keep{b:Oe}(h:Parted lo c hi a)(D:PermOn x y a b)(x0:lo<=x)(y0:y<=hi)(hc:y<=c\/c<=x):Parted lo c hi b:=fun i j O J I G=>by
 have V:∃i',lo<=i'/\i'<c/\b i=a i':=by
   by_cases hx:x<=i/\i<y
   · obtain⟨i',X,W,F⟩:=D.fr hx.1 hx.2
     exact⟨i',Oa,Oa,F⟩
   · exact⟨i,O,J,D.out hx⟩
 have U:∃j',c<=j'/\j'<hi/\b j=a j':=by
   by_cases hx:x<=j/\j<y
   · obtain⟨j',X,W,F⟩:=D.fr hx.1 hx.2
     exact⟨j',Oa,Oa,F⟩
   · exact⟨j,I,G,D.out hx⟩
 obtain⟨i',a1,a2,a3⟩:=V
 obtain⟨j',b1,Z,Y⟩:=U
 rw [a3,Y];exact h i' j' a1 a2 b1 Z
def Runs_(lt:Int->Int->Prop)(s n x y:Int)(t:Oe):Prop:=∀c,x<=c->c<y->s∣c->Srt (Tie lt) c (min (c+s) n) t/\Parted 0 c n t
theorem Runs_.keep{lt:Int->Int->Prop}{s n x y p q:Int}{t u:Oe}(h:Runs_ lt s n x y t)(D:PermOn p q t u)(J:0<=p)(I:q<=n)(hc:∀c,x<=c->c<y->s∣c->min (c+s) n<=p/\c<=p\/q<=c):Runs_ lt s n x y u:=fun c G F cd=>by
 have h1:=h c G F cd
 have V:=hc c G F cd
 exact⟨h1.1.congr fun k U O=>D.out Oa,h1.2.keep D J I Oa⟩
theorem Tl{s a:Int}(F:0<s)(h1:s∣c)(D:s∣a)(h:c<a):c+s<=a:=by
 have:=Int.le_of_dvd (show 0<a-c by omega) (Int.dvd_sub D h1)
 omega
theorem PermOn.ir{n N:Int}{b:Oe}(h:PermOn lo hi a b)(O:0<=lo)(h1:hi<=n\/n<=lo)(hd:∀k,0<=k->k<n->0<=a k/\a k<N):∀k,0<=k->k<n->0<=b k/\b k<N:=fun k F D=>by
 by_cases hk:lo<=k/\k<hi
 · obtain⟨j,J,I,G⟩:=h.fr hk.1 hk.2
   rw [G];exact hd j Oa Oa
 · rw [h.out hk];exact hd k F D
theorem Zc7{a:Int}{s:Oe}(D:PermOn a i s t)(F:Tc a b s)(hi:i<b):∀p,a<=p->p<i->t p<t i:=fun p I G=>by
 obtain⟨j,U,O,J⟩:=D.fr I G
 rw [J,D.out Oa];exact F j i U O hi
theorem V2(D:x<=m)(h1:m<=e)(h:¬(x<m/\m<e)):rot a x m e=a:=by
 funext k;unfold rot
 by_cases g1:x<=k/\k<x+(e-m)
 · rw [if_pos g1];congr 1;omega
 · rw [if_neg g1]
   by_cases g2:x+(e-m)<=k/\k<e
   · rw [if_pos g2];congr 1;omega
   · rw [if_neg g2]
theorem WA{lt:Int->Int->Prop}{n a:Int}{s u:Oe}(O:0<z)(I:Tc 0 n s)(hr:Runs_ lt z n 0 a t)(a0:0<=a)(hd:z∣a)(F:PermOn 0 a s t)(D:PermOn a b t u)(hs:Srt (Tie lt) a b u)(hb:b=a+z/\b<=n\/b=n/\n<a+z)(ab:a<=b):Runs_ lt z n 0 b u:=fun c W V cd=>by
 by_cases hc:c<a
 · exact(hr.keep D a0 Oa (fun c W V cd=> .inl (by have:=Tl O cd hd V;omega))) c W hc cd
 · have G:c=a:=by
     by_cases h:a<c
     · have:=Tl O hd cd h;omega
     · omega
   subst G
   refine⟨hs.mono Oa Oa,fun i j i0 i1 Y X=> ?_⟩
   obtain⟨J,U,g1,g2⟩:=F.fr i0 i1
   rw [D.out Oa,g2]
   by_cases hj:j<b
   · obtain⟨Z,f0,f1,f2⟩:=D.fr Y hj
     rw [f2,F.out Oa];exact I J Z U Oa Oa
   · rw [D.out Oa,F.out Oa];exact I J j U Oa X
theorem V0{lt:Int->Int->Prop}{n a:Int}(O:0<z)(W:0<=a)(hd:z∣a)(h:Runs_ lt z n a n t)(U:a+z<b)(V:b<=a+2*z)(hn:b<=n):Srt (Tie lt) a (a+z) t/\Srt (Tie lt) (a+z) b t/\Parted a (a+z) b t:=by
 have h1:=h a (Int.le_refl _) Oa hd
 have D:=h (a+z) Oa Oa (Int.dvd_add hd (Int.dvd_refl z))
 exact⟨h1.1.mono Oa Oa,D.1.mono Oa Oa,fun i j J G F I=>D.2 i j Oa G F Oa⟩
theorem Yz {lt:Int->Int->Prop} {n a:Int} {u:Oe} (Y:0<z) (J:0<=a) (hd:2*z∣a) (V:Runs_ lt (2*z) n 0 a t) (h1:Runs_ lt z n a n t) (D:PermOn a b t u) (U:Srt (Tie lt) a b u) (Z:b=a+2*z/\b<=n\/b=n/\n<a+2*z) (ab:a<b):Runs_ lt (2*z) n 0 b u/\Runs_ lt z n b n u:=by
 refine⟨fun c I F cd=> ?_,fun c I F cd=> ?_⟩
 · by_cases hc:c<a
   · exact(V.keep D J Oa (fun c I F cd=> .inl (by have:=Tl Oa cd hd F;omega))) c I hc cd
   · have G:c=a:=by
       by_cases h:a<c
       · have:=Tl Oa hd cd h;omega
       · omega
     subst G
     exact⟨U.mono Oa Oa,(h1 c Oa Oa (Int.dvd_trans (Int.dvd_mul_left 2 z) cd)).2.keep D J Oa (.inr (Int.le_refl _))⟩
 · have O:=h1 c Oa F cd
   exact⟨O.1.congr fun k X W=>D.out Oa,O.2.keep D J Oa (.inl Oa)⟩
theorem ZaX{lt:Int->Int->Prop}{n:Int}(h:Runs_ lt z n 0 n t)(I:n<=z):Srt (Tie lt) 0 n t:=fun i j F D G=>by
 exact(h 0 (Int.le_refl _) Oa (Int.dvd_zero z)).1 i j F D Oa
theorem Halves.after{lt:Int->Int->Prop}{a s:Int}{u:Oe}(h:Halves lt a s mid e b t)(D:PermOn a mid t u)(W:Srt (Tie lt) a mid u)(e0:mid<=e)(e1:e<=b):Halves lt a a mid e b u:=by
 refine⟨fun i j G ij F=>Oa,W,h.r1.congr fun k U O=>D.out Oa,h.r2.congr fun k U O=>D.out Oa,fun i j G J I F=>Oa,fun i j G J I F=> ?_,fun i j G J I F=> ?_⟩
 · rw [D.out Oa,D.out Oa];exact h.pr i j G J I F
 · obtain⟨V,Z,Y,X⟩:=D.fr G J
   rw [X,D.out (k:=j) Oa];exact h.nj V j Z Y I F
theorem Vx{a n:Int}{s:Oe}(D:PermOn 0 a s t)(h:Tc 0 n s)(O:0<=a)(J:a<=lo)(h1:hi<=n):Tc lo hi t:=fun i j I F G=>by
 rw [D.out Oa,D.out Oa];exact h i j Oa F Oa
theorem V1{lt:Int->Int->Prop}{n a:Int}(F:0<z)(G:0<=a)(hd:2*z∣a)(D:Runs_ lt (2*z) n 0 a t)(h1:Runs_ lt z n a n t)(J:a<=n)(I:n<=a+z):Runs_ lt (2*z) n 0 n t:=by
 by_cases h:a<n
 · exact(Yz F G hd D h1 (.refl _ _ _) ((h1 a (Int.le_refl _) h (Int.dvd_trans (Int.dvd_mul_left 2 z) hd)).1.mono (Int.le_refl _) Oa) (.inr ⟨rfl,Oa⟩) h).1
 · obtain rfl:a=n:=Oa
   exact D
end Go.Proofs.Gw
namespace Go.Proofs.Gw
variable {m:Int} {cnt f g ln:Oe} {pt:Of} {a b:List Int}
def lst(n:Int)(f:Oe):List Int:=(List.range n.toNat).map fun(k:Nat)=>f (k:Int)
theorem Xp(n:Int)(f:Oe):(lst n f).length=n.toNat:=by simp [lst]
theorem lst_get(n:Int)(f:Oe)(k:Nat):(lst n f)[k]? =if(k:Int)<n then some (f k) else none:=by
 unfold lst
 by_cases h:(k:Int)<n
 · rw [if_pos h,List.getElem?_map,List.getElem?_range Oa];rfl
 · rw [if_neg h];simp;omega
theorem VP{n:Int}(n0:0<=n)(J:0<=m):lst n f=lst m g↔n=m/\∀k,0<=k->k<n->f k=g k:=by
 constructor
 · intro h
   have I:=congrArg List.length h
   rw [Xp,Xp] at I
   refine⟨by omega,fun k G F=> ?_⟩
   have h1:=congrArg (fun l=>l[k.toNat]?) h
   simp only [lst_get] at h1
   rw [Int.toNat_of_nonneg G,if_pos F,if_pos Oa] at h1
   injection h1
 · rintro⟨rfl,h⟩
   apply List.ext_getElem?
   intro k
   rw [lst_get,lst_get]
   by_cases D:(k:Int)<n
   · rw [if_pos D,if_pos D,h k Oa D]
   · rw [if_neg D,if_neg D]
theorem Z5{n:Int}(h:∀k,0<=k->k<n->f k=g k):lst n f=lst n g:=by
 apply List.ext_getElem?
 intro k
 rw [lst_get,lst_get]
 by_cases hk:(k:Int)<n
 · rw [if_pos hk,if_pos hk,h k Oa hk]
 · rw [if_neg hk,if_neg hk]
def olt:Option Int->Option Int->Prop
  |none,some _=>True
  |some x,some y=>x<y
  |_,_=>False
theorem K7:∀a,¬olt a a
 |none=>id
 |some x=>by simp [olt]
theorem RP:∀{a b c},olt a b->olt b c->olt a c
 |none,some _,some _,_,_=>trivial
 |some x,some y,some z,h,k=>by simp only [olt] at*;omega
theorem Zh0:∀{a b:Option Int},a≠b->olt a b\/olt b a
 |none,none,h=>absurd rfl h
 |none,some _,_=> .inl trivial
 |some _,none,_=> .inr trivial
 |some x,some y,h=>by simp only [olt];have:x≠y:=fun e=>h (by rw [e]);omega
def ahd(a b:List Int):Prop:=∃j:Nat,(∀k<j,a[k]? =b[k]?)/\olt b[j]? a[j]?
theorem ahd_asym(h:ahd a b):¬ahd b a:=by
 rintro⟨j,h1,D⟩
 obtain⟨i,G,F⟩:=h
 rcases Nat.lt_trichotomy i j with h|h|h
 · rw [h1 i h] at F;exact K7 _ F
 · subst h;exact K7 _ (RP F D)
 · rw [G j h] at D;exact K7 _ D
theorem UP{c:List Int}(h:ahd a b)(k:ahd b c):ahd a c:=by
 obtain⟨i,F,I⟩:=h
 obtain⟨j,h1,G⟩:=k
 rcases Nat.lt_trichotomy i j with h|h|h
 · exact⟨i,fun k D=>(F k D).trans (h1 k Oa),by rw [<-h1 i h];exact I⟩
 · subst h;exact⟨i,fun k D=>(F k D).trans (h1 k D),RP G I⟩
 · exact⟨j,fun k D=>(F k Oa).trans (h1 k D),by rw [F j h];exact G⟩
theorem Zaz(h:a≠b):ahd a b\/ahd b a:=by
 have I:∃k:Nat,a[k]? ≠b[k]? :=Classical.byContradiction fun hn=>h (List.ext_getElem? fun k=>Classical.byContradiction fun F=>hn ⟨k,F⟩)
 have J:∃k:Nat,a[k]? ≠b[k]? /\∀j<k,a[j]? =b[j]? :=by
   obtain⟨k,F⟩:=I
   induction k using Nat.strongRecOn with
   | ind k ih=>
     by_cases hb:∃j,j<k/\a[j]? ≠b[j]?
     · obtain⟨j,G,D⟩:=hb;exact ih j G D
     · exact⟨k,F,fun j G=>Classical.byContradiction fun D=>hb ⟨j,G,D⟩⟩
 obtain⟨k,F,hlt⟩:=J
 rcases Zh0 F with h1|h1
 · exact .inr ⟨k,fun j G=>(hlt j G).symm,h1⟩
 · exact .inl ⟨k,hlt,h1⟩
theorem Zjj(a:List Int):¬ahd a a:=fun h=>ahd_asym h h
theorem ahd_gt{n:Int}{j:Int}(G:0<=j)(D:j<n)(F:j<m)(I:∀k,0<=k->k<j->f k=g k)(h:g j<f j):ahd (lst n f) (lst m g):=by
 refine⟨j.toNat,fun k J=> ?_,?_⟩
 · rw [lst_get,lst_get,if_pos Oa,if_pos Oa,I k Oa Oa]
 · rw [lst_get,lst_get,Int.toNat_of_nonneg G,if_pos D,if_pos F];exact h
theorem Vf{n:Int}(D:0<=m)(h:m<n)(F:∀k,0<=k->k<m->f k=g k):ahd (lst n f) (lst m g):=by
 refine⟨m.toNat,fun k G=> ?_,?_⟩
 · rw [lst_get,lst_get,if_pos Oa,if_pos Oa,F k Oa Oa]
 · rw [lst_get,lst_get,Int.toNat_of_nonneg D,if_neg Oa,if_pos h];trivial
theorem ZbK{n:Int}(D:∀k,0<=k->k<n->f k=g k):¬ahd (lst n f) (lst n g):=by
 rw [Z5 D];exact Zjj _
abbrev Us:=List (List Int×Int)
def plL(n:Int)(ln:Oe)(pt:Of)(cnt:Oe):Us:=(List.range n.toNat).map fun(i:Nat)=>(lst (ln (i:Int)) (pt (i:Int)),cnt (i:Int))
theorem plL_len(n:Int)(ln:Oe)(pt:Of)(cnt:Oe):(plL n ln pt cnt).length=n.toNat:=by simp [plL]
theorem plL_get(n:Int)(ln:Oe)(pt:Of)(cnt:Oe)(k:Nat):(plL n ln pt cnt)[k]? =if(k:Int)<n then some (lst (ln k) (pt k),cnt k) else none:=by
 unfold plL
 by_cases h:(k:Int)<n
 · rw [if_pos h,List.getElem?_map,List.getElem?_range Oa];rfl
 · rw [if_neg h];simp;omega
theorem Vr{n:Int}{ln':Oe}{D:Of}{cnt':Oe}(h:∀k,0<=k->k<n->ln k=ln' k/\cnt k=cnt' k/\∀j,0<=j->j<ln k->pt k j=D k j):plL n ln pt cnt=plL n ln' D cnt':=by
 apply List.ext_getElem?
 intro k
 rw [plL_get,plL_get]
 by_cases hk:(k:Int)<n
 · obtain⟨h1,G,F⟩:=h k Oa hk
   rw [if_pos hk,if_pos hk,G,<-h1,Z5 F]
 · rw [if_neg hk,if_neg hk]
theorem XV{i:Int}(D:0<=i):plL (i+1) ln pt cnt=plL i ln pt cnt++ [(lst (ln i) (pt i),cnt i)]:=by
 unfold plL
 rw [show(i+1).toNat=i.toNat+1 by omega,List.range_succ,List.map_append,List.map_singleton,Int.toNat_of_nonneg D]
theorem V8{n:Int}{ln':Oe}{F:Of}{D:Oe}(n0:0<=n)(h:∀k,0<=k->k<n->ln' k=ln k/\D k=cnt k/\F k=pt k){l c:Int}{p:Oe}(h1:ln' n=l)(O:D n=c)(J:F n=p):plL (n+1) ln' F D=plL n ln pt cnt++ [(lst l p,c)]:=by
 rw [XV n0,h1,O,J]
 congr 1
 exact Vr fun k I G=>⟨(h k I G).1,(h k I G).2.1,fun j _ _=>by rw [(h k I G).2.2]⟩
def XK:Us->List Int×Int->Us
  | [],u=> [u]
  |v::r,u=>if v.1=u.1 then(v.1,v.2+u.2)::r else v::XK r u
def Wh(l:Us):Us:=l.foldl XK []
theorem ZbM:∀{a:Us} {u:List Int×Int},(∀v∈a,v.1≠u.1)->XK a u=a++ [u]
 | [],_,_=>rfl
 | v::r,u,h=>by
   rw [XK,if_neg (h v (by simp)),ZbM fun w D=>h w (by simp [D])];rfl
theorem ZdP:∀{a:Us} {u:List Int×Int} {j:Nat} {v:List Int×Int},a[j]? =some v->v.1=u.1->(∀k<j,∀w,a[k]? =some w->w.1≠u.1)->XK a u=a.set j (v.1,v.2+u.2)
 | [],_,_,_,h,_,_=>by simp at h
 | w::r,u,0,v,h,e,_=>by
   simp at h;subst h
   rw [XK,if_pos e];rfl
 | w::r,u,j+1,v,h,e,hk=>by
   simp at h
   rw [XK,if_neg (hk 0 Oa w (by simp)),ZdP h e fun k F x D=>hk (k+1) Oa x (by simpa using D)];rfl
theorem UQ:∀{a:Us} {u:List Int×Int},∀x∈XK a u,x.1=u.1\/∃y∈a,y.1=x.1
 | [],u,x,h=>by simp [XK] at h;exact .inl (by rw [h])
 | v ::r,u,x,h=>by
   rw [XK] at h
   split at h
   · rcases List.mem_cons.1 h with h|h
     · right;exact⟨v,by simp,by rw [h]⟩
     · right;exact⟨x,by simp [h],rfl⟩
   · rcases List.mem_cons.1 h with h|h
     · right;exact⟨v,by simp,by rw [h]⟩
     · rcases UQ x h with h|⟨y,D,e⟩
       · exact .inl h
       · exact .inr ⟨y,by simp [D],e⟩
theorem Ks:∀{a:Us} {u:List Int×Int},a.Pairwise (fun x y=>x.1≠y.1)->(XK a u).Pairwise (fun x y=>x.1≠y.1)
 | [],u,_=>by simp [XK]
 | v ::r,u,h=>by
   have h1:=List.pairwise_cons.1 h
   rw [XK]
   split
   · exact List.pairwise_cons.2 ⟨h1.1,h1.2⟩
   · rename_i D
     refine List.pairwise_cons.2 ⟨fun x G=> ?_,Ks h1.2⟩
     rcases UQ x G with e|⟨y,F,e⟩
     · rw [e];exact D
     · rw [<-e];exact h1.1 y F
theorem TT:∀(l a:Us),a.Pairwise (fun x y=>x.1≠y.1)->(l.foldl XK a).Pairwise (fun x y=>x.1≠y.1)
 | [],_,h=>h
 |u::l,a,h=>TT l _ (Ks h)
theorem Rz(l:Us):(Wh l).Pairwise (fun x y=>x.1≠y.1):=TT l [] .nil
theorem Rx(l:Us)(u:List Int×Int):Wh (l++ [u])=XK (Wh l) u:=by simp [Wh]
theorem ZbL:∀{a:Us} {u:List Int×Int},(∀x∈a,1<=x.2)->1<=u.2->∀x∈XK a u,1<=x.2
 | [],u,_,hu,x,h=>by simp [XK] at h;rw [h];exact hu
 | v ::r,u,ha,hu,x,h=>by
   have hv:=ha v (by simp)
   rw [XK] at h
   split at h
   · rcases List.mem_cons.1 h with h|h
     · rw [h];dsimp only;omega
     · exact ha x (by simp [h])
   · rcases List.mem_cons.1 h with h|h
     · rw [h];exact hv
     · exact ZbL (fun y D=>ha y (by simp [D])) hu x h
theorem R8:∀(l a:Us),(∀x∈a,1<=x.2)->(∀x∈l,1<=x.2)->∀x∈l.foldl XK a,1<=x.2
 | [],_,h,_=>h
 |u::l,a,h,hl=>R8 l _ (ZbL h (hl u (by simp))) fun x D=>hl x (by simp [D])
theorem ZeQ{l:Us}(h:∀x∈l,1<=x.2):∀x∈Wh l,1<=x.2:=R8 l [] (by simp) h
def wsum(f:List Int->Int):Us->Int
  | []=>0
  |u::l=>f u.1*u.2+wsum f l
theorem WY(f:List Int->Int):∀a b:Us,wsum f (a++b)=wsum f a+wsum f b
 | [],b=>by simp [wsum]
 |u::a,b=>by simp only [List.cons_append,wsum,WY f a b];omega
theorem Rr(f:List Int->Int):∀(a:Us) (u:List Int×Int),wsum f (XK a u)=wsum f a+f u.1*u.2
 | [],u=>by simp [XK,wsum]
 | v ::r,u=>by
   rw [XK]
   split
   · rename_i e
     simp only [wsum,e,Int.mul_add];omega
   · simp only [wsum,Rr f r u];omega
theorem Ts(f:List Int->Int):∀(l a:Us),wsum f (l.foldl XK a)=wsum f a+wsum f l
 | [],a=>by simp [wsum]
 |u::l,a=>by rw [List.foldl_cons,Ts f l,Rr,wsum];omega
theorem ZdT(f:List Int->Int)(l:Us):wsum f (Wh l)=wsum f l:=by rw [Wh,Ts];simp [wsum]
theorem ZdU(f:List Int->Int){a b:Us}(h:a.Perm b):wsum f a=wsum f b:=by
 induction h with
 |nil=>rfl
 |cons x _ ih=>simp only [wsum,ih]
 |swap x y l=>simp only [wsum];omega
 |trans _ _ i1 i2=>rw [i1,i2]
def NormR(l out:Us):Prop:=out.Perm (Wh l)/\out.Pairwise (fun u v=>ahd u.1 v.1)
theorem NormR.iy{l a:Us}(h:NormR l a)(f:List Int->Int):wsum f a=wsum f l:=(ZdU f h.1).trans (ZdT f l)
theorem NormR.pos{l a:Us}(h:NormR l a)(F:∀x∈l,1<=x.2):∀x∈a,1<=x.2:=fun x D=>ZeQ F x (h.1.mem_iff.1 D)
theorem Ry:∀(l a:Us),∀x∈l.foldl XK a,(∃y∈a,y.1=x.1)\/∃y∈l,y.1=x.1
 | [],a,x,h=> .inl ⟨x,h,rfl⟩
 | u ::l,a,x,h=>by
   rcases Ry l _ x h with⟨y,hy,e⟩|⟨y,hy,e⟩
   · rcases UQ y hy with D|⟨z,F,D⟩
     · exact .inr ⟨u,by simp,by rw [<-D,e]⟩
     · exact .inl ⟨z,F,by rw [D,e]⟩
   · exact .inr ⟨y,by simp [hy],e⟩
theorem NormR.keys{l a:Us}(h:NormR l a):∀x∈a,∃y∈l,y.1=x.1:=fun x D=>by
 rcases Ry l [] x (h.1.mem_iff.1 D) with⟨y,hy,_⟩|h
 · simp at hy
 · exact h
theorem Zce {α:Type} {n:Int} {t:Oe} (n0:0<=n) (h:PermOn 0 n (fun k=>k) t) (G:Int->α):((List.range n.toNat).map fun(i:Nat)=>G (t (i:Int))).Perm ((List.range n.toNat).map fun(i:Nat)=>G (i:Int)):=by
 have h1:((List.range n.toNat).map fun(i:Nat)=>t (i:Int)).Perm ((List.range n.toNat).map fun(i:Nat)=>(i:Int)):=by
   obtain⟨p,q,I,O,D⟩:=h
   refine(List.perm_ext_iff_of_nodup ?_ ?_).2 fun x=> ?_
   · refine List.pairwise_map.2 (List.Pairwise.imp (R:=fun a b=>a≠b) (fun {a b} hab hh=> ?_) List.nodup_range)
     rw [D,D] at hh
     have:=congrArg q hh
     simp only [(I _).2] at this
     omega
   · exact List.pairwise_map.2 (List.Pairwise.imp (R:=fun a b=>a≠b) (fun {a b} hab hh=>Oa) List.nodup_range)
   · simp only [List.mem_map,List.mem_range]
     constructor
     · rintro⟨a,V,rfl⟩
       obtain⟨j,J,U,F⟩:=PermOn.fr (a:=fun k=>k) (b:=t) ⟨p,q,I,O,D⟩ (show(0:Int)<=(a:Int) by omega) (show(a:Int)<n by omega)
       exact⟨j.toNat,Oa,by rw [F];omega⟩
     · rintro⟨a,V,rfl⟩
       obtain⟨j,J,U,F⟩:=PermOn.fr (PermOn.symm (a:=fun k=>k) (b:=t) ⟨p,q,I,O,D⟩) (show(0:Int)<=(a:Int) by omega) (show(a:Int)<n by omega)
       exact⟨j.toNat,Oa,by rw [Int.toNat_of_nonneg J,<-F]⟩
 have W:=h1.map G
 simpa [List.map_map,Function.comp_def] using W
theorem ZhD(f:Int->List Int):Swo (fun x y=>ahd (f x) (f y)):=
 ⟨fun x y h=>ahd_asym h,fun x y z h k=>UP h k,fun x y z h k D=>by
   by_cases e:f x=f y
   · rw [e] at D;exact k D
   · rcases Zaz e with h1|h1
     · exact h h1
     · exact k (UP h1 D)⟩
theorem NormR.km {l:Us} {n:Int} {t:Oe} (n0:0<=n) (V:plL n ln pt cnt=Wh l) (I:PermOn 0 n (fun k=>k) t) (ho:Srt (Tie (fun x y=>ahd (lst (ln x) (pt x)) (lst (ln y) (pt y)))) 0 n t):
   NormR l (plL n (fun k=>ln (t k)) (fun k=>pt (t k)) (fun k=>cnt (t k))):=by
 refine⟨?_,?_⟩
 · rw [<-V]
   exact Zce n0 I fun x=>(lst (ln x) (pt x),cnt x)
 · rw [List.pairwise_iff_getElem]
   intro i j hi hj aa
   rw [plL_len] at hi hj
   have g:∀(k:Nat) (F:k<(plL n (fun k=>ln (t k)) (fun k=>pt (t k)) (fun k=>cnt (t k))).length),(plL n (fun k=>ln (t k)) (fun k=>pt (t k)) (fun k=>cnt (t k)))[k]=(lst (ln (t k)) (pt (t k)),cnt (t k)):=fun k F=>by
     have h1:=plL_get n (fun k=>ln (t k)) (fun k=>pt (t k)) (fun k=>cnt (t k)) k
     rw [plL_len] at F
     rw [if_pos Oa,List.getElem?_eq_getElem (by rw [plL_len];exact F)] at h1
     injection h1
   rw [g,g]
   have h1:=ho i j Oa Oa Oa
   rcases h1 with h1|⟨h1,h2⟩
   · exact h1
   · obtain⟨a,a0,a1,a2⟩:=I.fr (show(0:Int)<=(i:Int) by omega) (show(i:Int)<n by omega)
     obtain⟨b,b0,b1,G⟩:=I.fr (show(0:Int)<=(j:Int) by omega) (show(j:Int)<n by omega)
     have hd:=Rz l
     rw [<-V,List.pairwise_iff_getElem] at hd
     have Y:∀(k:Int) (U:0<=k) (F:k<n),∃h:k.toNat<(plL n ln pt cnt).length,(plL n ln pt cnt)[k.toNat]=(lst (ln k) (pt k),cnt k):=fun k U F=>by
       have h1:=plL_get n ln pt cnt k.toNat
       have D:k.toNat<(plL n ln pt cnt).length:=by rw [plL_len];omega
       rw [Int.toNat_of_nonneg U,if_pos F,List.getElem?_eq_getElem D] at h1
       exact⟨D,by injection h1⟩
     have O:a≠b:=fun e=>by rw [<-a2,<-G] at*;omega
     obtain⟨X,ea⟩:=Y a a0 a1
     obtain⟨W,Z⟩:=Y b b0 b1
     have J:lst (ln a) (pt a)≠lst (ln b) (pt b):=by
       rcases Int.lt_or_gt_of_ne O with D|D
       · have:=hd a.toNat b.toNat X W Oa;rw [ea,Z] at this;exact this
       · have:=hd b.toNat a.toNat W X Oa;rw [ea,Z] at this;exact fun e=>this e.symm
     rcases Zaz J with D|D
     · dsimp only at a2 G⊢;rw [a2,G];exact D
     · exact absurd (by dsimp only at a2 G⊢;rw [a2,G];exact D) h1
end Go.Proofs.Gw
namespace Go.Proofs.Gw
open Go Go.RowKit
section
variable {P:Program} {L:List (Nat×Value)} {w w0:World} {o:Oper} {x y:Operand} {T T':TypeId} {l:List Ent}
theorem UV{m r:Int}(G:o.op= .binOp .shr T x y T':=by exact rfl)(F:evL L x=some (.int .u64 m):=by exact rfl)(D:evL L y=some (.int .u64 1):=by exact rfl)(e:r=m/2:=by exact rfl):Runs P L w o (.value (.int .u64 r)) w:=fun ρ h=>by
 subst e
 simp [execOp,G,h _ _ F,h _ _ D,go_sem]
theorem Zgt(v:Value)(k:Int)(D:0<=k):(cad v k).add 1=cad v (k+1)\/∀a len cap,v≠ .slice (some a) len cap:=by
 cases v with
 | slice a len cap=>cases a with
   |none=>right;intro a len cap h;cases h
   | some a=>
     left
     have:(k+1).toNat=k.toNat+1:=Oa
     simp [cad,Addr.add,this,Nat.add_assoc]
 |_=>right;intro a len cap h;cases h
theorem xso2 (j:Nat) {v J O:Value} {E:TypeId} {n k:Int} {c d:Int->Value} (ht:ZC P T=some 2) (hS:Sat w0 w l) (e:upd (upd c k J) (k+1) O=d) (ho:o.op= .store T x y:=by exact rfl) (hi:l[j]? =some (.own v 2 E n c):=by exact rfl) (hx:evL L x=some (.pointer (some (cad v k))):=by exact rfl) (hy:evL L y=some (.agg #[J,O]):=by exact rfl)
   (hv:J.oneCell'=true:=by exact rfl) (hu:O.oneCell'=true:=by exact rfl) (Y:0<=k:=by omega) (h1:k+1<n*2:=by omega):∃w',Runs P L w o .skip w'/\Sat w0 w' (l.set j (.own v 2 E n d)):=by
 subst e
 obtain⟨_,U⟩:=Xy (w:=w) ht
 have F:=hS
 rw [Yf hi] at F
 have D:=F.get.row
 have eB:(cad v k).add 1=cad v (k+1):=by
   rcases Zgt v k Y with h|h
   · exact h
   · exfalso
     obtain⟨q0,Z,a,cap,rfl,G⟩:=D.cf
     rcases G with G|⟨b,off,rfl⟩
     · omega
     · exact h _ _ _ rfl
 have gW:(cad v k).add 0=cad v k:=by simp [Addr.add]
 have c0:=D.cell Y Oa
 have f0:w.frozen? (cad v k)=false:=by
   rcases F.get.freeRow k with h|h
   · exact absurd h (by
       obtain⟨q0,Z,a,cap,rfl,G⟩:=D.cf
       rcases G with G|⟨b,off,rfl⟩
       · omega
       · intro W;cases W)
   · exact h
 have I:=F.j7 k Y Oa J
 have V:=I.get.row
 have c1:=V.cell (k:=k+1) Oa Oa
 have f1:(w.setCell (cad v k) J).frozen? (cad v (k+1))=false:=by
   rcases I.get.freeRow (k+1) with h|h
   · exact absurd h (by
       obtain⟨q0,Z,a,cap,rfl,G⟩:=D.cf
       rcases G with G|⟨b,off,rfl⟩
       · omega
       · intro W;cases W)
   · exact h
 have X:=I.j7 (k+1) Oa Oa O
 rw [YN hi]
 refine⟨_,fun ρ h=> ?_,X⟩
 simp [execOp,ho,h _ _ hx,h _ _ hy,Instr.storeAt,Instr.sureAddr,storeVar,Value.cells,U,storeCells,gW,eB,run_store P w _ J _ hv,c0,f0,run_store P _ _ O _ hu,c1,f1]
end
theorem X8(pv:Int->Value)(cnt:Oe){i k:Int}(s:Value)(x:Int)(h:k=2*i):upd (upd (Zd pv cnt) k s) (k+1) (.int Oh x)=Zd (fun q=>if q=i then s else pv q) (fun q=>if q=i then x else cnt q):=by
 subst h
 funext q
 unfold upd Zd
 by_cases h1:q=2*i+1
 · subst h1;rw [if_pos rfl,if_neg Oa];dsimp only;rw [if_pos Oa]
 · rw [if_neg h1]
   by_cases h2:q=2*i
   · subst h2;rw [if_pos rfl,if_pos Oa];dsimp only;rw [if_pos Oa]
   · rw [if_neg h2]
     by_cases h3:q%2=0
     · rw [if_pos h3,if_pos h3];dsimp only;rw [if_neg Oa]
     · rw [if_neg h3,if_neg h3];dsimp only;rw [if_neg Oa]
theorem Wx(pv:Int->Value)(cnt s:Oe)(i j:Int):Zd (fun q=>if q=j then pv (s i) else(fun q=>if q=i then pv (s j) else(fun k=>pv (s k)) q) q) (fun q=>if q=j then cnt (s i) else(fun q=>if q=i then cnt (s j) else(fun k=>cnt (s k)) q) q)=Zd (fun k=>pv (swp s i j k)) (fun k=>cnt (swp s i j k)):=by
 congr 1
 · funext q;unfold swp;dsimp only
   by_cases h1:q=j
   · rw [if_pos h1]
     by_cases h2:q=i
     · rw [if_pos h2];congr 2;omega
     · rw [if_neg h2,if_pos h1]
   · rw [if_neg h1]
     by_cases h2:q=i
     · rw [if_pos h2,if_pos h2]
     · rw [if_neg h2,if_neg h2,if_neg h1]
 · funext q;unfold swp;dsimp only
   by_cases h1:q=j
   · rw [if_pos h1]
     by_cases h2:q=i
     · rw [if_pos h2];congr 2;omega
     · rw [if_neg h2,if_pos h1]
   · rw [if_neg h1]
     by_cases h2:q=i
     · rw [if_pos h2,if_pos h2]
     · rw [if_neg h2,if_neg h2,if_neg h1]
theorem Ui(s:Oe)(i j:Int):upd (upd (ints s) i (.int Oh (s j))) j (.int Oh (s i))=ints (swp s i j):=by
 funext q;unfold upd ints swp
 by_cases h1:q=j
 · rw [if_pos h1]
   by_cases h2:q=i
   · rw [if_pos h2];congr 2;omega
   · rw [if_neg h2,if_pos h1]
 · rw [if_neg h1]
   by_cases h2:q=i
   · rw [if_pos h2,if_pos h2]
   · rw [if_neg h2,if_neg h2,if_neg h1]
theorem PermOn.inj{lo hi:Int}{t:Oe}(h:PermOn lo hi (fun k=>k) t){i j:Int}(e:t i=t j):i=j:=by
 obtain⟨p,q,F,G,D⟩:=h
 rw [D,D] at e
 have:=congrArg q e
 rwa [(F _).2,(F _).2] at this
theorem Sat.l4{w0 w:World}{l:List Ent}(h:Sat w0 w l)(i:Nat){E:TypeId}{n:Int}{vv:Int->Value}{ln:Oe}{f:Of}{t:Oe}(I:PermOn 0 n (fun k=>k) t)(hi:l[i]? =some (.sem (Frame.rows E n vv ln f)):=by exact rfl):
   Sat w0 w (l.set i (.sem (Frame.rows E n (fun k=>vv (t k)) (fun k=>ln (t k)) (fun k=>f (t k))))):=
 h.iw i hi (fun⟨h1,h2⟩=>⟨fun k O J=>by
     obtain⟨j,G,F,D⟩:=I.fr O J
     have e:t k=j:=D
     show(Ent.own (vv (t k)) 1 E (ln (t k)) (ints (f (t k)))).holds w
     rw [e];exact h1 j G F,fun a b Y X b0 b1 W g V U=>by
     obtain⟨j,G,F,D⟩:=I.fr Y X
     obtain⟨k,O,J,Z⟩:=I.fr b0 b1
     exact h2 (t a) (t b) (by rw [D];exact G) (by rw [D];exact F) (by rw [Z];exact O) (by rw [Z];exact J) (fun e=>W (I.inj e)) g V U⟩)
   (fun g ⟨a,Y,X,V⟩=>by
     obtain⟨j,G,F,D⟩:=I.fr Y X
     exact⟨t a,by rw [D];exact G,by rw [D];exact F,V⟩)
theorem Wf{f:Int->Value}{n:Int}{x:Value}(h:∀k,(f k).oneCell'=true)(D:x.oneCell'=true):∀k,(gsn f n x k).oneCell'=true:=fun k=>by
 unfold gsn;split
 · exact h k
 · exact D
end Go.Proofs.Gw
