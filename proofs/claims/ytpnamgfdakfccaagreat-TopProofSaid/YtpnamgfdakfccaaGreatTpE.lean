import Derived.Test.YtpnamgfdakfccaaGreatTpD
set_option linter.unusedVariables false
set_option linter.unusedSimpArgs false
set_option maxRecDepth 20000
set_option maxHeartbeats 4000000
namespace Go.Proofs.YtpnamgfdakfccaaGreat
open Go Go.RowKit Go.Proofs.Gw
theorem ZjZ:Zc Om 77=true:=Oc
theorem ZjY:Zc Om 78=true:=Oc
theorem Zoh:Zc Om 79=true:=Oc
theorem ZjX:Zc Om 80=true:=Oc
theorem ZnF{w:World}{v a b:Value}(h:Row w v 1 2 (fun k=> [a,b].getD k.toNat undef)):Row w v 1 2 (ZW a b):=⟨h.1,fun k hk=>by
 have:=h.2 k hk
 rcases k with _|_|k
 · exact this
 · exact this
 · simp at hk;omega⟩
theorem VAt.cat{w:World}{v v1 v2:Value}{n1 n2:Int}{pv1 pv2:Int->Value}{ln1 ln2 c1 c2:Of}{pt1 pt2:Og}(hr:Row w v 2 (n1+n2) (Ze (cat n1 pv1 pv2) (cat n1 c1 c2)))(h1:VAt w v1 n1 pv1 ln1 pt1 c1)(h2:VAt w v2 n2 pv2 ln2 pt2 c2)(n10:0<=n1):VAt w v (n1+n2) (cat n1 pv1 pv2) (cat n1 ln1 ln2) (cat n1 pt1 pt2) (cat n1 c1 c2):=by
 refine⟨hr,fun i i0 i1=> ?_,fun i i0 i1=> ?_⟩
 · unfold Gw.cat
   by_cases h:i<n1
   · rw [if_pos h,if_pos h,if_pos h];exact h1.p i i0 h
   · rw [if_neg h,if_neg h,if_neg h];exact h2.p (i-n1) Oa Oa
 · unfold Gw.cat
   by_cases h:i<n1
   · rw [if_pos h];exact h1.room i i0 h
   · rw [if_neg h];exact h2.room (i-n1) Oa Oa
theorem ZoA(n m:Int)(p q:Int->Value){k:Int}(k0:0<=k)(k1:k<n+m):Zaw (ZW n m) (ZW p q) 2 k=cat n p q k:=by
 simp only [Zaw,tot,ZW,Gw.cat]
 by_cases h:k<n
 · simp [h];omega
 · simp [h]
theorem R7(n m:Int)(p q:Of){k:Int}(k0:0<=k)(k1:k<n+m):Vd (ZW n m) (ZW p q) 2 k=cat n p q k:=by
 simp only [Vd,tot,ZW,Gw.cat]
 by_cases h:k<n
 · simp [h];omega
 · simp [h]
def DownR(p:Prob)(u:Int)(ml:Of)(mf:Og)(s:So)(out:Us)(e:Int):Prop:=
  (e≠0/\out= []/\∃n ln pt cnt,WholeR p u ml mf s n ln pt cnt e)\/(∃n1 ln1 pt1 yR n2 ln2 pt2 qg,WholeR p u ml mf s n1 ln1 pt1 yR 0/\0<=n1/\0<=n2/\NormR (T0 (YM p.m (p.stock+p.kerf) (szP p) (pcsTo (Yu p (ZD n1 pt1 yR)) p.m 0))) (plL n2 ln2 pt2 qg)/\TrimR p (n1+n2) (cat n1 ln1 ln2) (cat n1 pt1 pt2) (cat n1 yR qg) out e)
theorem Zm7{vL vD:Value}{p:Prob}{vM:Value}{u:Int}{mv:Int->Value}{ml:Of}{mf:Og}{vX vY:Value}{s:So}(w0:World)(h:PAt w0 vL vD p)(hM:MAt w0 vM u mv ml mf)(hX:Row w0 vX 1 s.n (ints s.X))(hY:Row w0 vY 1 s.m (ints s.Y))(xZ:s.n<=1000):
   Calls Om 38 [.agg #[vL,vD,.int Oi p.stock,.int Oi p.kerf],.agg #[vM,vX,vY,.int Oi s.val,.int Oi s.den]].toArray w0 fun e w=>∃v,e= .returned v/\∃r n pv ln pt cnt e,v= .tuple #[r,.int Oi e]/\DownR p u ml mf s (plL n ln pt cnt) e/\(∀k,0<=k->k<n->1<=cnt k/\cnt k<=1000000000)/\n<=1000000/\Slh r n/\Sat w0 w [.own r 2 97 n (Ze pv cnt),.sem (Frame.rows 3 n pv ln pt)]:=by
 obtain⟨hm,hm1,hd,hd1,hs,hk⟩:=h.Oq
 have hu:=hM.row.slh.n0;have hu1:=hM.row.slh.n1;have hn:=hX.slh.n0;have hn1:=hX.slh.n1
 refine zenG Tryz.func38 Tryz.ntmps38 fun w hS=> ?_
 refine zsr<|zla (xbx (cs:= [_,_,_,_]) hS) ?_;rintro _ w ⟨g1,rfl,hS⟩
 refine zla (xbx (cs:= [_,_,_,_,_]) hS) ?_;rintro _ w ⟨g2,rfl,hS⟩
 refine(On)<|zlz<|(zV (xls 0 st_27 hS))<|(zV (xls 1 X1 hS))<|zlc (xc0 ZjZ) (ZdR (p:=p) (u:=u) (ml:=ml) (mf:=mf) (s:=s) w (h.below hS.below) (hM.below hS.below) (hX.below hS.below) (hY.below hS.below) xZ) ?_;rintro _ w ⟨qV,qd,qC,xe,qQ,qE,bm,rfl,xq,zf,hS'⟩
 replace hS:=(hS.comp hS').n4;clear hS'
 have aL:=fun k (k0:0<=k) (k1:k<qd)=>hS.slhIn 3 rfl k0 k1
 refine zs5 ?_
 refine zx5<|(On)<|zlt<|Zf ?_ ?_<;>intro hc
 ·
  refine zsr<|(Oo)<|zx14<|zf2 ⟨_,rfl,?_⟩
  exact⟨_,0,fun _=>undef,fun _=>0,fun _ _=>0,fun _=>0,_,rfl,.inl ⟨by omega,rfl,_,_,_,_,xq⟩,fun k k0 k1=>Oa,Oa,slh_nil,((hS.sub (.cons _ (.cons _ (.cons _ (.cons _ .slnil))))).addnil 2 97 (Ze (fun _=>undef) (fun _=>0))).addrows 3 (fun _=>undef) (fun _=>0) (fun _ _=>0)⟩
 refine ZY<|zlv (xls 0 st_27 hS) ?_
 obtain⟨qY,xg,aH,eP,aP,aS⟩:=xq.ok Oa hu
 have xM:=qY
 refine(zP)<|zlc (xc0 ZdL) (U1 (u:=qd) (pv:=qC) (ln:=xe) (pt:=qQ) (cnt:=qE) (p:=p) w (⟨(hS.rowN 2 rfl),fun k k0 k1=>hS.rowIn 3 rfl k0 k1,fun k k0 k1=>hS.roomIn 3 rfl k0 k1⟩:VAt _ qV qd qC xe qQ qE) (h.below hS.below)) ?_;rintro _ w ⟨qz,ql,qe,y9,rfl,qT,qx,hS'⟩
 replace hS:=(hS.comp hS').n5;clear hS'
 obtain⟨bB,zx⟩:ql=p.m/\qe=ZD qd qQ qE:=by rcases qT with⟨g1,_⟩|⟨_,g2,g3,_⟩;exact absurd aP g1;exact⟨g2,g3⟩
 have aZ:∀k,0<=k->k<p.m->0<=qe k/\qe k<=2000000000:=fun k k0 k1=>by rw [zx];have h9:=X7 aP.2.2 aS (Int.le_refl _) k0 k1;omega
 have ac:=fun k (k0:0<=k) (k1:k<p.m)=>(aZ k k0 k1).1
 have htl:=Ui qY ac p.m.toNat (by have:=qY.m1;omega)
 refine zs5 ?_
 refine zx7<|zdst [0,1,2,3,4] [0,1,2,3,4] 1000 mx_ hS ?_;clear hS;intro w hS
 refine(zDl 0 (fun w hS=>(xls 0 st_27 hS)))<|(zDw 1 xmv)<|(zDl 2 (fun w hS=>(xls 0 st_27 hS)))<|(zDw 3 xmv)<|zdc 4 (xc0 ZjX) (Zhj (p:=p) (f:=qe) w (h.below hS.below) qY (bB▸(hS.rowN 4 rfl)) aZ) ?_;rintro _ w ⟨xn,xd,rfl,ya,yD,hS'⟩
 replace hS:=(hS.comp hS').n7;clear hS'
 refine⟨⟨fun _=>hS.pk [0,1,2,3,4],hS.pk [0,1,2,3,4]⟩,?_⟩
 refine zdc 5 (xc0 Zj0) (TO (p:=(⟨p.m,p.L,p.d,(Yu p qe),p.stock,p.kerf⟩:Prob)) w (⟨(hS.rowN 5 rfl),(hS.rowN 6 rfl),h.iL,(Zew qY ac),(by(try dsimp only);omega),(by(try dsimp only);omega)⟩:PAt _ _ _ (⟨p.m,p.L,p.d,(Yu p qe),p.stock,p.kerf⟩:Prob)) (ZfQ qY ac) (by show psum (fun _=>1) (Yu p _) p.m.toNat<=1000;omega)) ?_;rintro xx w ⟨_,qD,xp,xY,x5,xt,rfl,xm,xo,yy,xU,xA,hS'⟩
 replace hS:=(hS.comp hS').n9;clear hS'
 have yi:=fun k (k0:0<=k) (k1:k<qD)=>hS.slhIn 8 rfl k0 k1
 refine⟨⟨fun _=>hS.pk [0,1,2,3,4],hS.pk [0,1,2,3,4]⟩,?_⟩
 refine zda 6 (xli (n:=2) (len:=2) (pv:= [(0,qV),(1,xx)]) (cs:= [qV,xx]) (c:=fun k=>([(qV:Value),(xx:Value)]).getD k.toNat undef) Tf ZjW hS (hf:=by obtain⟨_,_,_,_,rfl,_⟩:=zf;obtain⟨_,_,_,_,rfl,_⟩:=xA;kernel_rfl)) ?_;rintro v1 w ⟨hS,hv1⟩
 refine⟨⟨fun _=>hS.pk [0,1,2,3,4],hS.pk [0,1,2,3,4]⟩,?_⟩
 have hna:=Zo4 (w:=w) (n:=qd) (m:=qD) (pa:=qC) (pb:=xp) (ca:=qE) (cb:=xt) (ZnF (hS.rowN 9 rfl)) (hS.rowN 2 rfl) (hS.rowN 7 rfl) (fun k k0 k1=>(aL k k0 k1).one) (fun k k0 k1=>(yi k k0 k1).one)
 have htt:∀k:Int,0<=k->k<=2->tot (ZW qd qD) k.toNat<=10000000:=fun k k0 k1=>by
   have:k=0\/k=1\/k=2:=Oa
   rcases this with rfl|rfl|rfl
   · simp [tot]
   · simp [tot,ZW];omega
   · have e2:=ZhW qd qD;rw [show(2:Int).toNat=2 from rfl,e2];omega
 refine zdc 7 (xc0 Zoh) (ZeZ w hna htt) ?_;rintro vq1 w ⟨_,rfl,qb,hS'⟩
 rw [show(2:Int).toNat=2 from rfl,ZhW] at qb hS'
 replace hS':=hS'.recont 0 rfl (d:=Ze (cat qd qC xp) (cat qd qE xt)) (fun k k0 k1=>by unfold Ze;rw [ZoA _ _ _ _ Oa Oa,R7 _ _ _ _ Oa Oa])
 replace hS:Sat w0 w [.blk g1 [vL,vD,.int Oi p.stock,.int Oi p.kerf],.blk g2 [vM,vX,vY,.int Oi s.val,.int Oi s.den],.own qV 2 97 qd (Ze qC qE),.sem (Frame.rows 3 qd qC xe qQ),.own qz 1 3 ql (ints qe),.own xn 1 3 p.m (ints p.L),.own xd 1 3 p.d (ints (Yu p qe)),.own xx 2 97 qD (Ze xp xt),.sem (Frame.rows 3 qD xp xY x5),.own v1 1 29 2 (fun k=>([(qV:Value),(xx:Value)]).getD k.toNat undef),.own vq1 2 97 (qd+qD) (Ze (cat qd qC xp) (cat qd qE xt))]:=hS.comp hS'
 clear hS'
 refine⟨⟨fun _=>hS.pk [0,1,2,3,4],hS.pk [0,1,2,3,4]⟩,?_⟩
 refine zdc 8 (xc0 ZjY) (Zg0 (u:=(qd+qD)) (pv:=(cat qd qC xp)) (ln:=(cat qd xe xY)) (pt:=(cat qd qQ x5)) (cnt:=(cat qd qE xt)) (p:=p) w (VAt.cat (hS.rowN 10 rfl) (⟨(hS.rowN 2 rfl),fun k k0 k1=>hS.rowIn 3 rfl k0 k1,fun k k0 k1=>hS.roomIn 3 rfl k0 k1⟩:VAt _ qV qd qC xe qQ qE) (⟨(hS.rowN 7 rfl),fun k k0 k1=>hS.rowIn 8 rfl k0 k1,fun k k0 k1=>hS.roomIn 8 rfl k0 k1⟩:VAt _ xx qD xp xY x5 xt) Oa) (h.below hS.below)) ?_;rintro _ w ⟨dA,ar,dQ,dZ,fo,fC,fv,rfl,zk,zn,zm,zg,hS'⟩
 replace hS:=(hS.comp hS').n13;clear hS'
 have cU:=fun k (k0:0<=k) (k1:k<ar)=>hS.slhIn 12 rfl k0 k1
 refine⟨⟨fun _=>hS.pk [0,1,2,3,4],hS.pk [0,1,2,3,4]⟩,?_⟩
 refine(zDw 9 xex)<|(zDw 10 xex)<|(zDw 11 xas)<|(zDw 12 xas)<|zdd<|ztn<|zrt<|zf2 ⟨_,rfl,?_⟩
 exact⟨_,_,_,_,_,_,_,rfl,.inr ⟨_,_,_,_,_,_,_,_,(by rw [show(0:Int)=bm by omega];exact xq),aS,xo,(by rw [<-zx];exact xm),zk⟩,zn,zm,zg,hS.pk [11,12]⟩
variable {a b nm:Int} {gs:Nat} {vd:Value}
theorem Zml:Zc Om 154=true:=Oc
theorem ZgO:Zc Om 227=true:=Oc
theorem Zas:Zc Om 228=true:=Oc
theorem ZlI:Zc Om 283=true:=Oc
theorem ZcP:Zc Om 309=true:=Oc
theorem ZdJ:Zc Om 82=true:=Oc
theorem ZcY{n:Int}{s:Of}{F:Gw.Frame}{m:Int}(w0 w:World)(hS:Sat w0 w [.own vd 1 3 n (ints s),.sem F])(hsl:Slh vd n)(hn8:n<=100000000)(a0:0<=a)(m0:0<=m)(ab:a+m<=b)(bn:b+m<=n):
   Calls Om 309 [vd,.int Oi a,.int Oi b,.int Oi m,.func (.func 82) #[] #[(Or gs)]].toArray w fun e w=>∃v,e= .returned v/\v= .tuple #[]/\Sat w0 w [.own vd 1 3 n (ints (swr s a b m)),.sem F]:=by
 refine zenF Tryz.func309 Tryz.ntmps309 ?_
 refine zsr<|(zP)<|zx6<|zlp (fun mm M w=>∃(t:Of) (i:Int),mm=((m-i).toNat)/\(0<=i)/\(i<=m)/\(t=swr s a b i)/\M= [(0,vd),(1,.int Oi a),(2,.int Oi b),(3,.int Oi m),(10,.int Oi i)]/\Sat w0 w [.own vd 1 3 n (ints t),.sem F]) ⟨s,0,rfl,Oa,Oa,?_,rfl,hS⟩ ?_
 ·
  exact(ZaR s a b).symm
 clear hS w
 rintro mm M w ⟨t,i,rfl,i0,i1,ht,rfl,hS⟩
 refine zsq<|zsr<|(Oo)<|zlt<|Zf ?_ ?_<;>intro hc
 ·
  refine zsk<|ztn<|zsq<|zbk<|zdst [0,1] [1] 21 mx_ hS ?_;clear hS;intro w hS
  refine(zDw 0 xmv)<|(zDw 1 xmv)<|(zDw 2 xmv)<|(zDw 3 (Zg (r:=a+i)))<|(zDw 4 xmv)<|(zDw 5 xmv)<|(zDw 6 xmv)<|(zDw 7 (Zg (r:=b+i)))<|(zDw 8 xmv)<|(zDw 9 xmv)<|(zDw 10 xmv)<|(zDw 11 (Zg (r:=b+i)))<|(zDw 12 (xix (kk:=b+i) Zb hsl))<|zdl 13 (fun w hS=>(xlr (u:= .int Oi (t (b+i))) pl_3 (hS.rowN 0 rfl))) ?_
  refine(zDw 14 xmv)<|(zDw 15 xmv)<|(zDw 16 xmv)<|(zDw 17 (Zg (r:=a+i)))<|(zDw 18 (xix (kk:=a+i) Zb hsl))<|zdl 19 (fun w hS=>(xlr (u:= .int Oi (t (a+i))) pl_3 (hS.rowN 0 rfl))) ?_
  refine(zDw 20 (xix (kk:=a+i) Zb hsl))<|zde 21 (xso 0 pl_3 hS rfl) ?_;clear hS;rintro w hS
  refine⟨⟨fun h=>absurd h (by decide),hS.pk [1]⟩,?_⟩
  refine(zDw 22 (xix (kk:=b+i) Zb hsl))<|zde 23 (xso 0 pl_3 hS (VQ t (a+i) (b+i))) ?_;clear hS;rintro w hS
  refine⟨⟨fun h=>absurd h (by decide),hS.pk [1]⟩,?_⟩
  refine zdd<|zbn<|ztn<|zrg ?_
  refine(zP)<|(zV (Zg (r:=i+1)))<|(zP)<|zln<|zlq ⟨swp t (a+i) (b+i),i+1,rfl,Oa,Oa,?_,rfl,hS⟩
  ·
   rw [ht];exact ZaS i0 Oa Oa Oa
 refine zxt<|ztx<|ztx<|zbh<|XA ⟨_,rfl,?_⟩
 obtain rfl:i=m:=Oa
 subst ht
 exact⟨rfl,hS⟩
theorem ZmJ{n:Int}{s:Of}{F:Gw.Frame}{m:Int}(w0 w:World)(hS:Sat w0 w [.own vd 1 3 n (ints s),.sem F])(hsl:Slh vd n)(hn8:n<=100000000)(a0:0<=a)(am:a<m)(mb:m<b)(bn:b<=n):
   Calls Om 283 [vd,.int Oi a,.int Oi m,.int Oi b,.func (.func 82) #[] #[(Or gs)]].toArray w fun e w=>∃v,e= .returned v/\v= .tuple #[]/\Sat w0 w [.own vd 1 3 n (ints (rot s a m b)),.sem F]:=by
 refine zenF Tryz.func283 Tryz.ntmps283 ?_
 refine zsr<|(On)<|(zV (Zp (r:=m-a)))<|(zP)<|zlz<|(On)<|(zV (Zp (r:=b-m)))<|(zP)<|zlt<|zsq<|zbk<|zlp (fun mm M w=>∃(t:Of) (i:Int) (j:Int),mm=((i+j).toNat)/\(1<=i)/\(1<=j)/\(a<=m-i)/\(m+j<=b)/\(rot t (m-i) m (m+j)=rot s a m b)/\M= [(0,vd),(2,.int Oi m),(4,.func (.func 82) #[] #[(Or gs)]),(10,.int Oi i),(11,.int Oi j)]/\Sat w0 w [.own vd 1 3 n (ints t),.sem F]) ⟨s,m-a,b-m,rfl,Oa,Oa,Oa,Oa,?_,rfl,hS⟩ ?_
 ·
  rw [show m-(m-a)=a by omega,show m+(b-m)=b by omega]
 clear hS w
 rintro mm M w ⟨t,i,j,rfl,i0,j0,ia,jb,hr,rfl,hS⟩
 refine zsq<|zsr<|(Oo)<|zlt<|Zf ?_ ?_<;>intro hc
 ·
  refine zsk<|ztn<|zbk<|zsr<|(Oo)<|zlt<|Zf ?_ ?_<;>intro hc
  ·
   refine zsr<|(Oo)<|(zV (Zp (r:=m-i)))<|(Oo)<|zlc (xc0 ZcP) (ZcY (s:=t) (a:=m-i) (b:=m) (m:=j) w0 w hS hsl hn8 Oa Oa Oa Oa) ?_;rintro _ w ⟨rfl,hS⟩
   refine zlt<|zrg<|(On)<|(zV (Zp (r:=i-j)))<|(zP)<|zln<|zbn<|zlq ⟨(swr t (m-i) m j),i-j,j,rfl,Oa,Oa,Oa,Oa,?_,rfl,hS⟩
   ·
    first|(rw [<-hr,show m-(i-j)=m-i+j by omega];exact VF Oa Oa)|(rw [<-hr,show m+(j-i)=m+j-i by omega];exact WW Oa Oa)
  refine zsr<|(Oo)<|(zV (Zp (r:=m-i)))<|(On)<|(zV (Zg (r:=m+j)))<|(zP)<|(zV (Zp (r:=m+j-i)))<|(On)<|zlc (xc0 ZcP) (ZcY (s:=t) (a:=m-i) (b:=m+j-i) (m:=i) w0 w hS hsl hn8 Oa Oa Oa Oa) ?_;rintro _ w ⟨rfl,hS⟩
  refine zlt<|zrg<|(On)<|(zV (Zp (r:=j-i)))<|(zP)<|zln<|zbn<|zlq ⟨(swr t (m-i) (m+j-i) i),i,j-i,rfl,Oa,Oa,Oa,Oa,?_,rfl,hS⟩
  ·
   first|(rw [<-hr,show m-(i-j)=m-i+j by omega];exact VF Oa Oa)|(rw [<-hr,show m+(j-i)=m+j-i by omega];exact WW Oa Oa)
 refine zxt<|ztx<|ztx<|zbh<|ztn<|zrg<|(Oo)<|(zV (Zp (r:=m-i)))<|(Oo)<|zlc (xc0 ZcP) (ZcY (s:=t) (a:=m-i) (b:=m) (m:=i) w0 w hS hsl hn8 Oa Oa Oa Oa) ?_;rintro _ w ⟨rfl,hS⟩
 refine zln<|XA ⟨_,rfl,?_⟩
 have hz:(swr t (m-i) m i)=rot s a m b:=by
   rw [<-hr,show j=i by omega];exact Za5 Oa
 rw [hz] at hS
 exact⟨rfl,hS⟩
theorem Zhq {n:Int} {s:Of} {lt:Int->Int->Prop} {F:Gw.Frame} (w0 w:World) (hS:Sat w0 w [.own vd 1 3 n (ints s),.sem F]) (hsl:Slh vd n) (hn8:n<=100000000) (qv:∀(w:World) (x y:Int),0<=x->x<nm->0<=y->y<nm->Below w0.heap.size w0 w->F.holds w->Calls Om 82 [.int Oi x,.int Oi y,(Or gs)].toArray w fun e w'=>∃v,e= .returned v/\∃c:Int,v= .int Oi c/\(c<0↔lt x y)/\Sat w w' []) (hd:∀k,0<=k->k<n->0<=s k/\s k<nm) (hw:Swo lt) (a0:0<=a) (ab:a<=b) (bn:b<=n) (qN:UP a b s):
   Calls Om 227 [vd,.int Oi a,.int Oi b,.func (.func 82) #[] #[(Or gs)]].toArray w fun e w=>∃v,e= .returned v/\v= .tuple #[]/\∃t:Of,PermOn a b s t/\Srt (Tie lt) a b t/\Sat w0 w [.own vd 1 3 n (ints t),.sem F]:=by
 refine zenF Tryz.func227 Tryz.ntmps227 ?_
 refine zsr<|(zP)<|(zV (Zg (r:=a+1)))<|(zP)<|zx6<|zlp (fun mm M w=>∃(t:Of) (i:Int),mm=((b-i).toNat)/\(a+1<=i)/\(i<=b\/i=a+1)/\(PermOn a i s t)/\(Srt (Tie lt) a i t)/\(∀k,0<=k->k<n->0<=t k/\t k<nm)/\M= [(0,vd),(1,.int Oi a),(2,.int Oi b),(3,.func (.func 82) #[] #[(Or gs)]),(8,.int Oi i)]/\Sat w0 w [.own vd 1 3 n (ints t),.sem F]) ⟨s,a+1,rfl,Oa,Oa,?_,?_,?_,rfl,hS⟩ ?_
 ·
  exact .refl _ _ _
 ·
  intro p q p0 pq q1;omega
 ·
  exact hd
 clear hS w
 rintro mm M w ⟨t,i,rfl,i0,i1,hp,hs,hd1,rfl,hS⟩
 refine zsq<|zsr<|(Oo)<|zlt<|Zf ?_ ?_<;>intro hc
 ·
  refine zx3<|(On)<|zx6<|zlp (fun mm M w=>∃(t2:Of) (j:Int),mm=((j-a).toNat)/\(a<=j)/\(j<=i)/\(Ins lt a i j t t2)/\(∀k,0<=k->k<n->0<=t2 k/\t2 k<nm)/\M= [(0,vd),(1,.int Oi a),(2,.int Oi b),(3,.func (.func 82) #[] #[(Or gs)]),(8,.int Oi i),(9,.int Oi j)]/\Sat w0 w [.own vd 1 3 n (ints t2),.sem F]) ⟨t,i,rfl,Oa,Oa,?_,?_,rfl,hS⟩ ?_
  ·
   exact Ins.start Oa hs (Zds hp qN Oa)
  ·
   exact hd1
  clear hS w
  rintro mm M w ⟨t2,j,rfl,j0,j1,hI,hd2,rfl,hS⟩
  refine zsq<|zsq<|zdst [0,1] [0,1] 1000 mx_ hS ?_;clear hS;intro w hS
  refine(zDw 0 xmv)<|(zDw 1 xmv)<|(zDw 2 Yx)<|(zDw 3 xmv)<|zdb 21 ?_ ?_<;>intro hc
  ·
   refine(zDw 4 xmv)<|(zDw 5 xmv)<|(zDw 6 xmv)<|(zDw 7 (xix (kk:=j) Zb hsl))<|(zDl 8 (fun w hS=>(xlr (u:= .int Oi (t2 j)) pl_3 (hS.rowN 0 rfl))))<|(zDw 9 xmv)<|(zDw 10 xmv)<|(zDw 11 (Zp (r:=j-1)))<|(zDw 12 (xix (kk:=j-1) Zb hsl))<|(zDl 13 (fun w hS=>(xlr (u:= .int Oi (t2 (j-1))) pl_3 (hS.rowN 0 rfl))))<|zdc 14 (xcc (vs:= [_,_]) ZdJ) (qv w (t2 j) (t2 (j-1)) (hd2 j Oa Oa).1 (hd2 j Oa Oa).2 (hd2 (j-1) Oa Oa).1 (hd2 (j-1) Oa Oa).2 hS.below (hS.holds _ (List.mem_of_getElem? (i:=1) rfl))) ?_;rintro _ w ⟨c1,rfl,hc1,hS'⟩
   replace hS:=hS.cmp hS';clear hS'
   refine⟨⟨fun _=>hS,hS⟩,?_⟩
   refine(zDw 15 Z9)<|(zDw 16 xpt)<|zdd<|ztn ?_
   refine Zf ?_ ?_<;>intro hc
   ·
    refine zsk<|ztn<|zsq<|zbk<|zdst [0,1] [1] 15 mx_ hS ?_;clear hS;intro w hS
    refine(zDw 0 xmv)<|(zDw 1 xmv)<|(zDw 2 xmv)<|(zDw 3 xmv)<|(zDw 4 (Zp (r:=j-1)))<|(zDw 5 xmv)<|(zDw 6 xmv)<|(zDw 7 (Zp (r:=j-1)))<|(zDw 8 (xix (kk:=j-1) Zb hsl))<|zdl 9 (fun w hS=>(xlr (u:= .int Oi (t2 (j-1))) pl_3 (hS.rowN 0 rfl))) ?_
    refine(zDw 10 xmv)<|(zDw 11 xmv)<|(zDw 12 (xix (kk:=j) Zb hsl))<|zdl 13 (fun w hS=>(xlr (u:= .int Oi (t2 j)) pl_3 (hS.rowN 0 rfl))) ?_
    refine(zDw 14 (xix (kk:=j) Zb hsl))<|zde 15 (xso 0 pl_3 hS rfl) ?_;clear hS;rintro w hS
    refine⟨⟨fun h=>absurd h (by decide),hS.pk [1]⟩,?_⟩
    refine(zDw 16 (xix (kk:=j-1) Zb hsl))<|zde 17 (xso 0 pl_3 hS (VQ t2 j (j-1))) ?_;clear hS;rintro w hS
    refine⟨⟨fun h=>absurd h (by decide),hS.pk [1]⟩,?_⟩
    refine zdd<|zbn<|ztn<|zrg ?_
    refine(zP)<|(zV (Zp (r:=j-1)))<|(zP)<|zln<|zlq ⟨swp t2 j (j-1),j-1,rfl,Oa,Oa,?_,?_,rfl,hS⟩
    ·
     exact hI.step Oa Oa (hc1.1 ‹c1<0›)
    ·
     exact(Ta (lo:=a) (hi:=n) Oa Oa Oa Oa).dom a0 (.inl Oa) hd2
   refine zxt<|ztx<|ztx<|zbh<|zbn<|ztn<|zrg<|(zP)<|(zV (Zg (r:=i+1)))<|(zP)<|zln<|zlq ⟨t2,i+1,rfl,Oa,Oa,?_,?_,?_,rfl,hS⟩
   ·
    exact(hp.mono Oa Oa).trans hI.perm
   ·
    exact hI.fin hw Oa Oa (by first|exact .inl Oa|exact .inr fun h=>absurd (hc1.2 h) ‹¬c1<0›)
   ·
    exact hd2
  refine(zDo 4)<|(zDo 5)<|(zDo 6)<|(zDo 7)<|(zDo 8)<|(zDo 9)<|(zDo 10)<|(zDo 11)<|(zDo 12)<|(zDo 13)<|(zDo 14)<|(zDo 15)<|(zDw 16 xpf)<|zdd<|ztn<|zcf<|zxt<|ztx<|ztx<|zbh<|zbn<|ztn<|zrg ?_
  refine(zP)<|(zV (Zg (r:=i+1)))<|(zP)<|zln<|zlq ⟨t2,i+1,rfl,Oa,Oa,?_,?_,?_,rfl,hS⟩
  ·
   exact(hp.mono Oa Oa).trans hI.perm
  ·
   exact hI.fin hw Oa Oa (by first|exact .inl Oa|exact .inr fun h=>absurd (hc1.2 h) ‹¬c1<0›)
  ·
   exact hd2
 refine zxt<|ztx<|ztx<|zbh<|XA ⟨_,rfl,?_⟩
 refine⟨rfl,t,?_,?_,hS⟩
 · by_cases hab:i<=b
   · exact hp.mono Oa Oa
   · obtain⟨p_,q_,e1,e2,e3⟩:=hp
     exact⟨p_,q_,e1,fun k hk=>by
       by_cases hka:k=a
       · subst hka
         apply Classical.byContradiction;intro hne
         have h5:=e2 (p_ k) Oa
         have h6:=congrArg q_ h5
         rw [(e1 _).2,(e1 _).2] at h6;exact hne h6
       · exact e2 k Oa,e3⟩
 · exact hs.mono Oa Oa
theorem Zg2 {n:Int} {lt:Int->Int->Prop} {F:Gw.Frame} (hsl:Slh vd n) (hn8:n<=100000000) (hw:Swo lt) (N:Nat):∀{s:Of} {a m b:Int} (w0 w:World) (hS:Sat w0 w [.own vd 1 3 n (ints s),.sem F]) (qv:∀(w:World) (x y:Int),0<=x->x<nm->0<=y->y<nm->Below w0.heap.size w0 w->F.holds w->Calls Om 82 [.int Oi x,.int Oi y,(Or gs)].toArray w fun e w'=>∃v,e= .returned v/\∃c:Int,v= .int Oi c/\(c<0↔lt x y)/\Sat w w' []) (hd:∀k,0<=k->k<n->0<=s k/\s k<nm) (a0:0<=a) (am:a<m) (mb:m<b) (bn:b<=n) (h1:Srt (Tie lt) a m s) (h2:Srt (Tie lt) m b s) (hp:Parted a m b s) (hN:(b-a).toNat<N),
   Calls Om 228 [vd,.int Oi a,.int Oi m,.int Oi b,.func (.func 82) #[] #[(Or gs)]].toArray w fun e w=>∃v,e= .returned v/\v= .tuple #[]/\∃t:Of,PermOn a b s t/\Srt (Tie lt) a b t/\Sat w0 w [.own vd 1 3 n (ints t),.sem F]:=by
 induction N with
 |zero=>intros;omega
 | succ N ih=>
   intro s a m b w0 w hS qv hd a0 am mb bn h1 h2 hp hN
   refine zenF Tryz.func228 Tryz.ntmps228 ?_
   refine zsq<|zsr<|(On)<|(zV (Zp (r:=m-a)))<|(zP)<|zlt<|Zf ?_ ?_<;>intro hc
   ·
    refine zsr<|(On)<|zlz<|(On)<|zlt<|zsq<|zbk<|zlp (fun mm M w=>∃(i:Int) (j:Int),mm=((j-i).toNat)/\(m<=i)/\(i<=j)/\(j<=b)/\(i=a+1\/lt (s (i-1)) (s a))/\(j=b\/¬lt (s j) (s a))/\M= [(0,vd),(1,.int Oi a),(2,.int Oi m),(3,.int Oi b),(4,.func (.func 82) #[] #[(Or gs)]),(10,.int Oi i),(11,.int Oi j)]/\Sat w0 w [.own vd 1 3 n (ints s),.sem F]) ⟨m,b,rfl,Oa,Oa,Oa,?_,?_,rfl,hS⟩ ?_
    ·
     exact .inl Oa
    ·
     exact .inl rfl
    clear hS w
    rintro mm M w ⟨i,j,rfl,i0,ij,j1,hi,hj,rfl,hS⟩
    refine zsq<|zsr<|(Oo)<|zlt<|Zf ?_ ?_<;>intro hc
    ·
     refine zsk<|ztn<|zbk<|zsr<|(On)<|(zV (Zg (r:=i+j)))<|(zV (xcv TW XZ))<|(zV (Uz (r:=((i+j)/2))))<|(zV (xcv Wk KY))<|(zP)<|zx7<|zdst [0,1] [0,1] 1000 mx_ hS ?_;clear hS;intro w hS
     refine(zDw 0 xmv)<|(zDw 1 xmv)<|(zDw 2 xmv)<|(zDw 3 (xix (kk:=((i+j)/2)) Zb hsl))<|(zDl 4 (fun w hS=>(xlr (u:= .int Oi (s ((i+j)/2))) pl_3 (hS.rowN 0 rfl))))<|(zDw 5 xmv)<|(zDw 6 xmv)<|(zDw 7 (xix (kk:=a) Zb hsl))<|(zDl 8 (fun w hS=>(xlr (u:= .int Oi (s a)) pl_3 (hS.rowN 0 rfl))))<|zdc 9 (xcc (vs:= [_,_]) ZdJ) (qv w (s ((i+j)/2)) (s a) (hd ((i+j)/2) Oa Oa).1 (hd ((i+j)/2) Oa Oa).2 (hd a Oa Oa).1 (hd a Oa Oa).2 hS.below (hS.holds _ (List.mem_of_getElem? (i:=1) rfl))) ?_;rintro _ w ⟨c1,rfl,hc1,hS'⟩
     replace hS:=hS.cmp hS';clear hS'
     refine⟨⟨fun _=>hS,hS⟩,?_⟩
     refine(zDw 10 Z9)<|zdd<|ztn ?_
     refine Zf ?_ ?_<;>intro hc
     ·
      refine zrg<|(zP)<|(zV (Zg (r:=((i+j)/2)+1)))<|(zP)<|zln<|zbn<|zlq ⟨((i+j)/2)+1,j,rfl,Oa,Oa,Oa,?_,?_,rfl,hS⟩
      ·
       first|exact hi|(right;rw [show(i+j)/2+1-1=(i+j)/2 by omega];exact hc1.1 ‹c1<0›)
      ·
       first|exact hj|exact .inr fun h=>absurd (hc1.2 h) ‹¬c1<0›
     refine zrg<|(On)<|zln<|zbn<|zlq ⟨i,((i+j)/2),rfl,Oa,Oa,Oa,?_,?_,rfl,hS⟩
     ·
      first|exact hi|(right;rw [show(i+j)/2+1-1=(i+j)/2 by omega];exact hc1.1 ‹c1<0›)
     ·
      first|exact hj|exact .inr fun h=>absurd (hc1.2 h) ‹¬c1<0›
    refine zx18<|(On)<|zx6<|zlp (fun mm M w=>∃(t:Of) (k:Int),mm=((i-1-k).toNat)/\(a<=k)/\(k<=i-1)/\(t=rot s a (a+1) (k+1))/\M= [(0,vd),(1,.int Oi a),(2,.int Oi m),(3,.int Oi b),(4,.func (.func 82) #[] #[(Or gs)]),(10,.int Oi i),(13,.int Oi k)]/\Sat w0 w [.own vd 1 3 n (ints t),.sem F]) ⟨s,a,rfl,Oa,Oa,?_,rfl,hS⟩ ?_
    ·
     exact(Za1 s a).symm
    clear hS w
    rintro mm M w ⟨t,k,rfl,k0,k1,ht,rfl,hS⟩
    refine zsq<|zsr<|(On)<|(zV (Zp (r:=i-1)))<|(zP)<|zlt<|Zf ?_ ?_<;>intro hc
    ·
     refine zsk<|ztn<|zsq<|zbk<|zdst [0,1] [1] 15 mx_ hS ?_;clear hS;intro w hS
     refine(zDw 0 xmv)<|(zDw 1 xmv)<|(zDw 2 xmv)<|(zDw 3 xmv)<|(zDw 4 (Zg (r:=k+1)))<|(zDw 5 xmv)<|(zDw 6 xmv)<|(zDw 7 (Zg (r:=k+1)))<|(zDw 8 (xix (kk:=k+1) Zb hsl))<|zdl 9 (fun w hS=>(xlr (u:= .int Oi (t (k+1))) pl_3 (hS.rowN 0 rfl))) ?_
     refine(zDw 10 xmv)<|(zDw 11 xmv)<|(zDw 12 (xix (kk:=k) Zb hsl))<|zdl 13 (fun w hS=>(xlr (u:= .int Oi (t k)) pl_3 (hS.rowN 0 rfl))) ?_
     refine(zDw 14 (xix (kk:=k) Zb hsl))<|zde 15 (xso 0 pl_3 hS rfl) ?_;clear hS;rintro w hS
     refine⟨⟨fun h=>absurd h (by decide),hS.pk [1]⟩,?_⟩
     refine(zDw 16 (xix (kk:=k+1) Zb hsl))<|zde 17 (xso 0 pl_3 hS (VQ t k (k+1))) ?_;clear hS;rintro w hS
     refine⟨⟨fun h=>absurd h (by decide),hS.pk [1]⟩,?_⟩
     refine zdd<|zbn<|ztn<|zrg ?_
     refine(zP)<|(zV (Zg (r:=k+1)))<|(zP)<|zln<|zlq ⟨swp t k (k+1),k+1,rfl,Oa,Oa,?_,rfl,hS⟩
     ·
      rw [ht];exact Za2 Oa
    refine zxt<|ztx<|ztx<|zbh<|ztn<|zrt<|ztr<|zf0 ⟨_,rfl,?_⟩
    have hki:k+1=i:=Oa
    rw [hki] at ht
    refine⟨rfl,t,?_,?_,hS⟩
    · rw [ht];exact(Yp Oa Oa).mono Oa Oa
    · rw [ht];obtain rfl:m=a+1:=Oa
      exact RD hw h2 (fun j j0 j1=>hp a j Oa Oa j0 j1) Oa Oa hi (by rw [show i=j by omega];exact hj)
   refine zsk<|ztn<|zsq<|zsr<|(On)<|(zV (Zp (r:=b-m)))<|(zP)<|zlt<|Zf ?_ ?_<;>intro hc
   ·
    refine zsr<|(On)<|zlz<|(On)<|zlt<|zsq<|zbk<|zlp (fun mm M w=>∃(i:Int) (j:Int),mm=((j-i).toNat)/\(a<=i)/\(i<=j)/\(j<=m)/\(i=a\/¬lt (s m) (s (i-1)))/\(j=m\/lt (s m) (s j))/\M= [(0,vd),(1,.int Oi a),(2,.int Oi m),(3,.int Oi b),(4,.func (.func 82) #[] #[(Or gs)]),(14,.int Oi i),(15,.int Oi j)]/\Sat w0 w [.own vd 1 3 n (ints s),.sem F]) ⟨a,m,rfl,Oa,Oa,Oa,?_,?_,rfl,hS⟩ ?_
    ·
     exact .inl rfl
    ·
     exact .inl rfl
    clear hS w
    rintro mm M w ⟨i,j,rfl,i0,ij,j1,hi,hj,rfl,hS⟩
    refine zsq<|zsr<|(Oo)<|zlt<|Zf ?_ ?_<;>intro hc
    ·
     refine zsk<|ztn<|zbk<|zsr<|(On)<|(zV (Zg (r:=i+j)))<|(zV (xcv TW XZ))<|(zV (Uz (r:=((i+j)/2))))<|(zV (xcv Wk KY))<|(zP)<|zx7<|zdst [0,1] [0,1] 1000 mx_ hS ?_;clear hS;intro w hS
     refine(zDw 0 xmv)<|(zDw 1 xmv)<|(zDw 2 xmv)<|(zDw 3 (xix (kk:=m) Zb hsl))<|(zDl 4 (fun w hS=>(xlr (u:= .int Oi (s m)) pl_3 (hS.rowN 0 rfl))))<|(zDw 5 xmv)<|(zDw 6 xmv)<|(zDw 7 (xix (kk:=((i+j)/2)) Zb hsl))<|(zDl 8 (fun w hS=>(xlr (u:= .int Oi (s ((i+j)/2))) pl_3 (hS.rowN 0 rfl))))<|zdc 9 (xcc (vs:= [_,_]) ZdJ) (qv w (s m) (s ((i+j)/2)) (hd m Oa Oa).1 (hd m Oa Oa).2 (hd ((i+j)/2) Oa Oa).1 (hd ((i+j)/2) Oa Oa).2 hS.below (hS.holds _ (List.mem_of_getElem? (i:=1) rfl))) ?_;rintro _ w ⟨c1,rfl,hc1,hS'⟩
     replace hS:=hS.cmp hS';clear hS'
     refine⟨⟨fun _=>hS,hS⟩,?_⟩
     refine(zDw 10 Z9)<|(zDw 11 YE)<|zdd<|ztn ?_
     refine Zf ?_ ?_<;>intro hc
     ·
      refine zrg<|(zP)<|(zV (Zg (r:=((i+j)/2)+1)))<|(zP)<|zln<|zbn<|zlq ⟨((i+j)/2)+1,j,rfl,Oa,Oa,Oa,?_,?_,rfl,hS⟩
      ·
       first|exact hi|(right;rw [show(i+j)/2+1-1=(i+j)/2 by omega];exact fun h=>absurd (hc1.2 h) ‹¬c1<0›)
      ·
       first|exact hj|exact .inr (hc1.1 (Od ‹_›))
     refine zrg<|(On)<|zln<|zbn<|zlq ⟨i,((i+j)/2),rfl,Oa,Oa,Oa,?_,?_,rfl,hS⟩
     ·
      first|exact hi|(right;rw [show(i+j)/2+1-1=(i+j)/2 by omega];exact fun h=>absurd (hc1.2 h) ‹¬c1<0›)
     ·
      first|exact hj|exact .inr (hc1.1 (Od ‹_›))
    refine zx18<|(On)<|zx6<|zlp (fun mm M w=>∃(t:Of) (k:Int),mm=((k-i).toNat)/\(i<=k)/\(k<=m)/\(t=rot s k m (m+1))/\M= [(0,vd),(1,.int Oi a),(2,.int Oi m),(3,.int Oi b),(4,.func (.func 82) #[] #[(Or gs)]),(14,.int Oi i),(17,.int Oi k)]/\Sat w0 w [.own vd 1 3 n (ints t),.sem F]) ⟨s,m,rfl,Oa,Oa,?_,rfl,hS⟩ ?_
    ·
     exact(ZaZ s m).symm
    clear hS w
    rintro mm M w ⟨t,k,rfl,k0,k1,ht,rfl,hS⟩
    refine zsq<|zsr<|(Oo)<|zlt<|Zf ?_ ?_<;>intro hc
    ·
     refine zsk<|ztn<|zsq<|zbk<|zdst [0,1] [1] 15 mx_ hS ?_;clear hS;intro w hS
     refine(zDw 0 xmv)<|(zDw 1 xmv)<|(zDw 2 xmv)<|(zDw 3 xmv)<|(zDw 4 (Zp (r:=k-1)))<|(zDw 5 xmv)<|(zDw 6 xmv)<|(zDw 7 (Zp (r:=k-1)))<|(zDw 8 (xix (kk:=k-1) Zb hsl))<|zdl 9 (fun w hS=>(xlr (u:= .int Oi (t (k-1))) pl_3 (hS.rowN 0 rfl))) ?_
     refine(zDw 10 xmv)<|(zDw 11 xmv)<|(zDw 12 (xix (kk:=k) Zb hsl))<|zdl 13 (fun w hS=>(xlr (u:= .int Oi (t k)) pl_3 (hS.rowN 0 rfl))) ?_
     refine(zDw 14 (xix (kk:=k) Zb hsl))<|zde 15 (xso 0 pl_3 hS rfl) ?_;clear hS;rintro w hS
     refine⟨⟨fun h=>absurd h (by decide),hS.pk [1]⟩,?_⟩
     refine(zDw 16 (xix (kk:=k-1) Zb hsl))<|zde 17 (xso 0 pl_3 hS (VQ t k (k-1))) ?_;clear hS;rintro w hS
     refine⟨⟨fun h=>absurd h (by decide),hS.pk [1]⟩,?_⟩
     refine zdd<|zbn<|ztn<|zrg ?_
     refine(zP)<|(zV (Zp (r:=k-1)))<|(zP)<|zln<|zlq ⟨swp t k (k-1),k-1,rfl,Oa,Oa,?_,rfl,hS⟩
     ·
      rw [ht];exact Za0 Oa
    refine zxt<|ztx<|ztx<|zbh<|ztn<|zrt<|ztr<|zf0 ⟨_,rfl,?_⟩
    have hki:k=i:=Oa
    rw [hki] at ht
    refine⟨rfl,t,?_,?_,hS⟩
    · rw [ht];exact(Yp Oa Oa).mono Oa Oa
    · rw [ht];obtain rfl:b=m+1:=Oa
      exact Ts hw h1 (fun i i0 i1=>hp i m i0 i1 Oa Oa) Oa Oa hi (by rw [show i=j by omega];exact hj)
   refine ZY<|(On)<|(zV (Zg (r:=a+b)))<|(zV (xcv TW XZ))<|(zV (Uz (r:=((a+b)/2))))<|(zV (xcv Wk KY))<|(zP)<|zlz<|(On)<|(zV (Zg (r:=((a+b)/2)+m)))<|(zP)<|zlz<|(On)<|zx7 ?_
   refine Vx (fun M w=>∃(mid:Int) (s0:Int) (r0:Int),(mid=((a+b)/2))/\((mid<m/\s0=mid+m-b/\r0=mid)\/(m<=mid/\s0=a/\r0=m))/\M= [(0,vd),(1,.int Oi a),(2,.int Oi m),(3,.int Oi b),(4,.func (.func 82) #[] #[(Or gs)]),(25,.int Oi m),(26,.int Oi a),(27,.int Oi (m-a)),(28,B (m-a=1)),(77,.int Oi b),(78,.int Oi m),(79,.int Oi (b-m)),(80,B (b-m=1)),(129,.int Oi a),(130,.int Oi b),(131,.int Oi (a+b)),(132,.int .u64 (a+b)),(133,.int .u64 ((a+b)/2)),(134,.int Oi ((a+b)/2)),(18,.int Oi mid),(135,.int Oi ((a+b)/2)),(136,.int Oi m),(137,.int Oi (((a+b)/2)+m)),(19,.int Oi (mid+m)),(20,.int Oi s0),(21,.int Oi r0)]/\Sat w0 w [.own vd 1 3 n (ints s),.sem F]) ?_ ?_
   ·
    refine zsr<|(Oo)<|zlt<|Zf ?_ ?_<;>intro hc
    ·
     refine zsr<|(On)<|(zV (Zp (r:=((a+b)/2)+m-b)))<|(zP)<|zlt<|zrg<|(On)<|zln<|zgj ⟨((a+b)/2),(((a+b)/2)+m-b),((a+b)/2),rfl,Oa,rfl,hS⟩
    refine zsr<|(On)<|zlt<|zrg<|(On)<|zln<|zgj ⟨((a+b)/2),a,m,rfl,Oa,rfl,hS⟩
   clear hS w;rintro M w ⟨mid,s0,r0,gE,hq,rfl,hS⟩
   refine ztn<|zsr<|(zP)<|(zV (Zp (r:=mid+m-1)))<|(zP)<|zlt<|zsq<|zbk<|zlp (fun mm M w=>∃(x:Int) (y:Int),mm=((y-x).toNat)/\(s0<=x)/\(x<=y)/\(y<=r0)/\(x=s0\/¬lt (s (mid+m-x)) (s (x-1)))/\(y=r0\/lt (s (mid+m-y-1)) (s y))/\M= [(0,vd),(1,.int Oi a),(2,.int Oi m),(3,.int Oi b),(4,.func (.func 82) #[] #[(Or gs)]),(18,.int Oi mid),(19,.int Oi (mid+m)),(20,.int Oi x),(21,.int Oi y),(22,.int Oi (mid+m-1))]/\Sat w0 w [.own vd 1 3 n (ints s),.sem F]) ⟨s0,r0,rfl,Oa,Oa,Oa,?_,?_,rfl,hS⟩ ?_
   ·
    exact .inl rfl
   ·
    exact .inl rfl
   clear hS w
   rintro mm M w ⟨x,y,rfl,x0,xy,y1,hx,hy,rfl,hS⟩
   refine zsq<|zsr<|(Oo)<|zlt<|Zf ?_ ?_<;>intro hc
   ·
    refine zsk<|ztn<|zbk<|zsr<|(On)<|(zV (Zg (r:=x+y)))<|(zV (xcv TW XZ))<|(zV (Uz (r:=((x+y)/2))))<|(zV (xcv Wk KY))<|(zP)<|zx7<|zdst [0,1] [0,1] 1000 mx_ hS ?_;clear hS;intro w hS
    refine(zDw 0 xmv)<|(zDw 1 xmv)<|(zDw 2 xmv)<|(zDw 3 xmv)<|(zDw 4 (Zp (r:=mid+m-((x+y)/2)-1)))<|(zDw 5 (xix (kk:=mid+m-((x+y)/2)-1) Zb hsl))<|(zDl 6 (fun w hS=>(xlr (u:= .int Oi (s (mid+m-((x+y)/2)-1))) pl_3 (hS.rowN 0 rfl))))<|(zDw 7 xmv)<|(zDw 8 xmv)<|(zDw 9 (xix (kk:=((x+y)/2)) Zb hsl))<|(zDl 10 (fun w hS=>(xlr (u:= .int Oi (s ((x+y)/2))) pl_3 (hS.rowN 0 rfl))))<|zdc 11 (xcc (vs:= [_,_]) ZdJ) (qv w (s (mid+m-((x+y)/2)-1)) (s ((x+y)/2)) (hd (mid+m-((x+y)/2)-1) Oa Oa).1 (hd (mid+m-((x+y)/2)-1) Oa Oa).2 (hd ((x+y)/2) Oa Oa).1 (hd ((x+y)/2) Oa Oa).2 hS.below (hS.holds _ (List.mem_of_getElem? (i:=1) rfl))) ?_;rintro _ w ⟨c1,rfl,hc1,hS'⟩
    replace hS:=hS.cmp hS';clear hS'
    refine⟨⟨fun _=>hS,hS⟩,?_⟩
    refine(zDw 12 Z9)<|(zDw 13 YE)<|zdd<|ztn ?_
    refine Zf ?_ ?_<;>intro hc
    ·
     refine zrg<|(zP)<|(zV (Zg (r:=((x+y)/2)+1)))<|(zP)<|zln<|zbn<|zlq ⟨((x+y)/2)+1,y,rfl,Oa,Oa,Oa,?_,?_,rfl,hS⟩
     ·
      first|exact hx|(right;rw [show mid+m-((x+y)/2+1)=mid+m-(x+y)/2-1 by omega,show(x+y)/2+1-1=(x+y)/2 by omega];exact fun h=>absurd (hc1.2 h) ‹¬c1<0›)
     ·
      first|exact hy|exact .inr (hc1.1 (Od ‹_›))
    refine zrg<|(On)<|zln<|zbn<|zlq ⟨x,((x+y)/2),rfl,Oa,Oa,Oa,?_,?_,rfl,hS⟩
    ·
     first|exact hx|(right;rw [show mid+m-((x+y)/2+1)=mid+m-(x+y)/2-1 by omega,show(x+y)/2+1-1=(x+y)/2 by omega];exact fun h=>absurd (hc1.2 h) ‹¬c1<0›)
    ·
     first|exact hy|exact .inr (hc1.1 (Od ‹_›))
   refine zx8<|(On)<|(zV (Zp (r:=mid+m-x)))<|(zP)<|zx7 ?_
   refine Vx (fun M w=>∃(t:Of),(t=rot s x m (mid+m-x))/\M= [(0,vd),(1,.int Oi a),(2,.int Oi m),(3,.int Oi b),(4,.func (.func 82) #[] #[(Or gs)]),(18,.int Oi mid),(19,.int Oi (mid+m)),(20,.int Oi x),(21,.int Oi y),(22,.int Oi (mid+m-1)),(149,.int Oi x),(150,.int Oi y),(151,B (x<y)),(175,.int Oi (mid+m)),(176,.int Oi x),(177,.int Oi (mid+m-x)),(24,.int Oi (mid+m-x))]/\Sat w0 w [.own vd 1 3 n (ints t),.sem F]) ?_ ?_
   ·
    refine zsr<|zs4 ?_
    refine zlb 181 ?_ ?_<;>intro hc
    ·
     refine zs4 ?_
     refine zlt<|Zf ?_ ?_<;>intro hc
     ·
      refine zrg<|zs5 ?_
      refine zlc (xc0 ZlI) (ZmJ (s:=s) (a:=x) (m:=m) (b:=mid+m-x) w0 w hS hsl hn8 Oa Oa Oa Oa) ?_;rintro _ w ⟨rfl,hS⟩
      refine zln<|zgj ⟨(rot s x m (mid+m-x)),rfl,rfl,hS⟩
     refine zsk<|zgj ⟨s,(VE Oa Oa Oa).symm,rfl,hS⟩
    iterate 3 refine zlo ?_
    refine(zP)<|zlt<|zcf<|zsk<|zgj ⟨s,(VE Oa Oa Oa).symm,rfl,hS⟩
   clear hS w;rintro M w ⟨t,ht,rfl,hS⟩
   have hdt:=(Yp (a:=s) (lo:=x) (c:=m) (hi:=mid+m-x) Oa Oa).dom (n:=n) (N:=nm) Oa (.inl Oa) hd
   rw [<-ht] at hdt
   have hH:=VM hw h1 h2 hp (s:=x) (mid:=mid) (e:=mid+m-x) Oa Oa Oa Oa Oa (by rcases hq with hq|hq<;>rcases hx with hx|hx<;>first|exact .inl Oa|exact .inr (.inl Oa)|exact .inr (.inr hx)) (by rcases hq with hq|hq<;>rcases hy with hy|hy<;>first|exact .inl Oa|exact .inr (.inl Oa)|(refine .inr (.inr ?_);rw [show x=y by omega];exact hy))
   rw [<-ht] at hH
   refine ztn<|zsq<| ?_
   refine Vx (fun M w=>∃(t1:Of),(PermOn a mid t t1)/\(Srt (Tie lt) a mid t1)/\(∀k,0<=k->k<n->0<=t1 k/\t1 k<nm)/\M= [(0,vd),(1,.int Oi a),(2,.int Oi m),(3,.int Oi b),(4,.func (.func 82) #[] #[(Or gs)]),(18,.int Oi mid),(19,.int Oi (mid+m)),(20,.int Oi x),(21,.int Oi y),(22,.int Oi (mid+m-1)),(149,.int Oi x),(150,.int Oi y),(151,B (x<y)),(175,.int Oi (mid+m)),(176,.int Oi x),(177,.int Oi (mid+m-x)),(24,.int Oi (mid+m-x))]/\Sat w0 w [.own vd 1 3 n (ints t1),.sem F]) ?_ ?_
   ·
    refine zsr<|zs4 ?_
    refine zlb 195 ?_ ?_<;>intro hc
    ·
     refine zs4 ?_
     refine zlt<|Zf ?_ ?_<;>intro hc
     ·
      refine zrg<|zs5 ?_
      refine zlc (xc0 Zas) (ih (s:=t) (a:=a) (m:=x) (b:=mid) w0 w hS qv hdt Oa Oa Oa Oa (hH.l1) (hH.l2) (hH.pl) Oa) ?_;rintro _ w ⟨rfl,u1,qq,qZ,hS⟩
      have xQ:=qq.dom Oa (.inl Oa) hdt
      refine zln<|zgj ⟨u1,qq,qZ,xQ,rfl,hS⟩
     refine zsk<|zgj ⟨t,(.refl _ _ _),(hH.left (by first|omega|(rintro⟨h3,h4⟩;omega)) Oa Oa),hdt,rfl,hS⟩
    iterate 3 refine zlo ?_
    refine(zP)<|zlt<|zcf<|zsk<|zgj ⟨t,(.refl _ _ _),(hH.left (by first|omega|(rintro⟨h3,h4⟩;omega)) Oa Oa),hdt,rfl,hS⟩
   clear hS w;rintro M w ⟨t1,hq1,hq2,bc,rfl,hS⟩
   have hH2:Halves lt a a mid (mid+m-x) b t1:=Halves.after hH hq1 hq2 Oa Oa
   refine ztn<|zsr<|zs4 ?_
   refine zlb 209 ?_ ?_<;>intro hc
   ·
    refine zs4 ?_
    refine zlt<|Zf ?_ ?_<;>intro hc
    ·
     refine zrg<|zs5 ?_
     refine zlc (xc0 Zas) (ih (s:=t1) (a:=mid) (m:=mid+m-x) (b:=b) w0 w hS qv bc Oa Oa Oa Oa (hH2.r1) (hH2.r2) (hH2.pr) Oa) ?_;rintro _ w ⟨rfl,u1,qq,qZ,hS⟩
     have xQ:=qq.dom Oa (.inl Oa) bc
     refine zln<|XA ⟨_,rfl,?_⟩
     refine⟨rfl,u1,((((Yp (a:=s) (lo:=x) (c:=m) (hi:=mid+m-x) Oa Oa).mono Oa Oa:PermOn a b s _)).trans (ht▸hq1.mono Oa Oa)).trans (qq.mono Oa Oa),?_,hS⟩
     exact hH.join hw Oa Oa hq1 hq2 qq qZ
    refine zsk<|XA ⟨_,rfl,?_⟩
    refine⟨rfl,t1,(((Yp (a:=s) (lo:=x) (c:=m) (hi:=mid+m-x) Oa Oa).mono Oa Oa:PermOn a b s _)).trans (ht▸hq1.mono Oa Oa),?_,hS⟩
    exact hH.join hw Oa Oa hq1 hq2 (.refl _ _ _) (hH2.right (by first|omega|(rintro⟨h3,h4⟩;omega)) Oa Oa)
   iterate 3 refine zlo ?_
   refine(zP)<|zlt<|zcf<|zsk<|XA ⟨_,rfl,?_⟩
   refine⟨rfl,t1,(((Yp (a:=s) (lo:=x) (c:=m) (hi:=mid+m-x) Oa Oa).mono Oa Oa:PermOn a b s _)).trans (ht▸hq1.mono Oa Oa),?_,hS⟩
   exact hH.join hw Oa Oa hq1 hq2 (.refl _ _ _) (hH2.right (by first|omega|(rintro⟨h3,h4⟩;omega)) Oa Oa)
theorem ZeR{n:Int}{s:Of}{lt:Int->Int->Prop}{F:Gw.Frame}(w0 w:World)(hS:Sat w0 w [.own vd 1 3 n (ints s),.sem F])(hsl:Slh vd n)(hn8:n<=100000000)(qv:∀(w:World) (x y:Int),0<=x->x<nm->0<=y->y<nm->Below w0.heap.size w0 w->F.holds w->Calls Om 82 [.int Oi x,.int Oi y,(Or gs)].toArray w fun e w'=>∃v,e= .returned v/\∃c:Int,v= .int Oi c/\(c<0↔lt x y)/\Sat w w' [])(hd:∀k,0<=k->k<n->0<=s k/\s k<nm)(hw:Swo lt)(qN:UP 0 n s):
   Calls Om 154 [vd,.int Oi n,.func (.func 82) #[] #[(Or gs)]].toArray w fun e w=>∃v,e= .returned v/\v= .tuple #[]/\∃t:Of,PermOn 0 n s t/\Srt (Tie lt) 0 n t/\Sat w0 w [.own vd 1 3 n (ints t),.sem F]:=by
 have hn0:=hsl.n0
 refine zenF Tryz.func154 Tryz.ntmps154 ?_
 refine zsr<|(zP)<|zlz<|(Oo)<|zlt<|zsq<|zbk<|zlp (fun mm M w=>∃(t:Of) (a:Int) (b:Int),mm=((n-a).toNat)/\(0<=a)/\(a<=n)/\(b=a+20)/\((20:Int)∣a)/\(PermOn 0 a s t)/\(Runs_ lt 20 n 0 a t)/\(∀k,0<=k->k<n->0<=t k/\t k<nm)/\M= [(0,vd),(1,.int Oi n),(2,.func (.func 82) #[] #[(Or gs)]),(6,.int Oi 20),(7,.int Oi a),(8,.int Oi b)]/\Sat w0 w [.own vd 1 3 n (ints t),.sem F]) ⟨s,0,20,rfl,Oa,Oa,Oa,?_,?_,?_,?_,rfl,hS⟩ ?_
 ·
  exact Int.dvd_zero 20
 ·
  exact .refl _ _ _
 ·
  intro c c0 c1;omega
 ·
  exact hd
 clear hS w
 rintro mm M w ⟨t,a,b,rfl,a0,a1,hb,hda,hp,hr,hd1,rfl,hS⟩
 refine zsq<|zsr<|(Oo)<|zlt<|Zf ?_ ?_<;>intro hc
 ·
  refine zsk<|ztn<|zbk<|zsr<|zs4 ?_
  refine zlc (xc0 ZgO) (Zhq (s:=t) (a:=a) (b:=b) w0 w hS hsl hn8 qv hd1 hw Oa Oa Oa (W7 hp qN Oa Oa Oa)) ?_;rintro _ w ⟨rfl,u1,qq,qZ,hS⟩
  have xQ:=qq.dom Oa (.inl Oa) hd1
  refine zlz<|(On)<|zlt<|zrg<|(On)<|(zV (Zg (r:=b+20)))<|(zP)<|zln<|zbn<|zlq ⟨u1,b,b+20,rfl,Oa,Oa,Oa,?_,?_,?_,?_,rfl,hS⟩
  ·
   rw [hb];exact Int.dvd_add hda (Int.dvd_refl 20)
  ·
   exact(hp.mono Oa Oa).trans (qq.mono Oa Oa)
  ·
   exact Wm Oa qN hr a0 hda hp qq qZ (.inl ⟨hb,Oa⟩) Oa
  ·
   exact xQ
 refine zx8<|zs4 ?_
 refine zlc (xc0 ZgO) (Zhq (s:=t) (a:=a) (b:=n) w0 w hS hsl hn8 qv hd1 hw Oa Oa Oa (W7 hp qN Oa Oa Oa)) ?_;rintro _ w ⟨rfl,u1,qq,qZ,hS⟩
 have xQ:=qq.dom Oa (.inl Oa) hd1
 refine zx6<|zlp (fun mm M w=>∃(t2:Of) (z:Int),mm=((n-z).toNat)/\(20<=z)/\(z<=2*n+20)/\(PermOn 0 n s t2)/\(Runs_ lt z n 0 n t2)/\(∀k,0<=k->k<n->0<=t2 k/\t2 k<nm)/\M= [(0,vd),(1,.int Oi n),(2,.func (.func 82) #[] #[(Or gs)]),(6,.int Oi z)]/\Sat w0 w [.own vd 1 3 n (ints t2),.sem F]) ⟨u1,20,rfl,Oa,Oa,?_,?_,?_,rfl,hS⟩ ?_
 ·
  exact(hp.mono Oa Oa).trans (qq.mono Oa Oa)
 ·
  exact Wm Oa qN hr a0 hda hp qq qZ (.inr ⟨rfl,Oa⟩) Oa
 ·
  exact xQ
 clear hS w
 rintro mm M w ⟨t2,z,rfl,z0,z1,hp2,hr2,hd2,rfl,hS⟩
 refine zsq<|zsr<|(Oo)<|zlt<|Zf ?_ ?_<;>intro hc
 ·
  refine zsk<|ztn<|zbk<|zsr<|(zP)<|(zV (Yf (r:=2*z)))<|(On)<|zlt<|zsq<|zbk<|zlp (fun mm M w=>∃(t3:Of) (a3:Int) (b3:Int),mm=((n-a3).toNat)/\(0<=a3)/\(a3<=n)/\(b3=a3+2*z)/\(2*z∣a3)/\(PermOn 0 n s t3)/\(Runs_ lt (2*z) n 0 a3 t3)/\(Runs_ lt z n a3 n t3)/\(∀k,0<=k->k<n->0<=t3 k/\t3 k<nm)/\M= [(0,vd),(1,.int Oi n),(2,.func (.func 82) #[] #[(Or gs)]),(6,.int Oi z),(7,.int Oi a3),(8,.int Oi b3)]/\Sat w0 w [.own vd 1 3 n (ints t3),.sem F]) ⟨t2,0,2*z,rfl,Oa,Oa,Oa,?_,?_,?_,?_,?_,rfl,hS⟩ ?_
  ·
   exact Int.dvd_zero _
  ·
   exact hp2
  ·
   intro c c0 c1;omega
  ·
   exact hr2
  ·
   exact hd2
  clear hS w
  rintro mm M w ⟨t3,a3,b3,rfl,a30,a31,hb3,xc,hp3,hA,hB,hd3,rfl,hS⟩
  refine zsq<|zsr<|(Oo)<|zlt<|Zf ?_ ?_<;>intro hc
  ·
   refine zsk<|ztn<|zbk<|zsr<|zs4 ?_
   refine(zV (Zg (r:=a3+z)))<|zs2 ?_
   have hk:=VB (lt:=lt) (z:=z) (n:=n) (a:=a3) (b:=b3) (t:=t3) Oa a30 (Int.dvd_trans (Int.dvd_mul_left 2 z) xc) hB Oa Oa Oa
   refine zlc (xc0 Zas) (Zg2 (nm:=nm) (lt:=lt) hsl hn8 hw _ (s:=t3) (a:=a3) (m:=a3+z) (b:=b3) w0 w hS qv hd3 Oa Oa Oa Oa hk.1 hk.2.1 hk.2.2 (Nat.lt_succ_self _)) ?_;rintro _ w ⟨rfl,u2,qS,yc,hS⟩
   have yO:=qS.dom Oa (.inl Oa) hd3
   refine zlz<|(On)<|zlt<|zrg<|(On)<|(zV (Yf (r:=2*z)))<|(zV (Zg (r:=b3+2*z)))<|(zP)<|zln<|zbn<|zlq ⟨u2,b3,b3+2*z,rfl,Oa,Oa,Oa,?_,?_,?_,?_,?_,rfl,hS⟩
   ·
    rw [hb3];exact Int.dvd_add xc (Int.dvd_refl _)
   ·
    exact hp3.trans (qS.mono Oa Oa)
   ·
    exact(Yl Oa a30 xc hA hB qS yc (.inl ⟨hb3,Oa⟩) Oa).1
   ·
    exact(Yl Oa a30 xc hA hB qS yc (.inl ⟨hb3,Oa⟩) Oa).2
   ·
    exact yO
  refine zx18<|(On)<|(zV (Zg (r:=a3+z)))<|(zP)<|zlz<|(Oo)<|zlt<|Zf ?_ ?_<;>intro hc
  ·
   refine zrg<|zs5 ?_
   have hk:=VB (lt:=lt) (z:=z) (n:=n) (a:=a3) (b:=n) (t:=t3) Oa a30 (Int.dvd_trans (Int.dvd_mul_left 2 z) xc) hB Oa Oa Oa
   refine zlc (xc0 Zas) (Zg2 (nm:=nm) (lt:=lt) hsl hn8 hw _ (s:=t3) (a:=a3) (m:=a3+z) (b:=n) w0 w hS qv hd3 Oa Oa Oa Oa hk.1 hk.2.1 hk.2.2 (Nat.lt_succ_self _)) ?_;rintro _ w ⟨rfl,u2,qS,yc,hS⟩
   have yO:=qS.dom Oa (.inl Oa) hd3
   refine zlt<|zrg<|(zP)<|(zV (Yf (r:=2*z)))<|(zP)<|zln<|zbn<|zlq ⟨u2,2*z,rfl,Oa,Oa,?_,?_,?_,rfl,hS⟩
   ·
    first|exact hp3.trans (qS.mono Oa Oa)|exact hp3
   ·
    first|exact(Yl Oa a30 xc hA hB qS yc (.inr ⟨rfl,Oa⟩) Oa).1|exact VC Oa a30 xc hA hB Oa Oa
   ·
    first|exact yO|exact hd3
  refine zsk<|ztn<|zrg<|(zP)<|(zV (Yf (r:=2*z)))<|(zP)<|zln<|zbn<|zlq ⟨t3,2*z,rfl,Oa,Oa,?_,?_,?_,rfl,hS⟩
  ·
   first|exact hp3.trans (qS.mono Oa Oa)|exact hp3
  ·
   first|exact(Yl Oa a30 xc hA hB qS yc (.inr ⟨rfl,Oa⟩) Oa).1|exact VC Oa a30 xc hA hB Oa Oa
  ·
   first|exact yO|exact hd3
 refine zxt<|ztx<|ztx<|zbh<|XA ⟨_,rfl,?_⟩
 exact⟨rfl,t2,hp2,Za4 hr2 Oa,hS⟩
theorem Zg4{n:Int}{s:Of}{lt:Int->Int->Prop}{F:Gw.Frame}(w0 w:World)(hS:Sat w0 w [.own vd 1 3 n (ints s),.sem F])(hsl:Slh vd n)(hn8:n<=100000000)(qv:∀(w:World) (x y:Int),0<=x->x<nm->0<=y->y<nm->Below w0.heap.size w0 w->F.holds w->Calls Om 82 [.int Oi x,.int Oi y,(Or gs)].toArray w fun e w'=>∃v,e= .returned v/\∃c:Int,v= .int Oi c/\(c<0↔lt x y)/\Sat w w' [])(hd:∀k,0<=k->k<n->0<=s k/\s k<nm)(hw:Swo lt)(qN:UP 0 n s):
   Calls Om 81 [vd,.func (.func 82) #[] #[(Or gs)]].toArray w fun e w=>∃v,e= .returned v/\v= .tuple #[]/\∃t:Of,PermOn 0 n s t/\Srt (Tie lt) 0 n t/\Sat w0 w [.own vd 1 3 n (ints t),.sem F]:=by
 refine zenF Tryz.func81 Tryz.ntmps81 ?_
 refine zrg<|(On)<|(zV (xln Zb hsl))<|(zP)<|zlc (xc0 Zml) (ZeR (s:=s) w0 w hS hsl hn8 qv hd hw qN) ?_;rintro _ w ⟨rfl,u1,qq,qZ,hS⟩
 refine zln<|XA ⟨_,rfl,?_⟩
 exact⟨rfl,u1,qq,qZ,hS⟩
end Go.Proofs.YtpnamgfdakfccaaGreat
namespace Go.Proofs.YtpnamgfdakfccaaGreat
open Go Go.RowKit Go.Proofs.Gw
theorem Zjb{x y:Int}{vX vY:Value}{s:So}{gs:Nat}(w0:World)(hG:(Ent.blk gs [vX,vY,.int Oi s.val,.int Oi s.den]).holds w0)(hX:Row w0 vX 1 s.n (ints s.X))(hY:Row w0 vY 1 s.m (ints s.Y))(hsd:YZ s)(x0:0<=x)(x1:x<s.n)(y0:0<=y)(y1:y<s.n):
   Calls Om 82 [.int Oi x,.int Oi y,Or gs].toArray w0 fun e w=>∃v,e= .returned v/\∃c:Int,v= .int Oi c/\(c<0↔(s.X y).tmod s.den<(s.X x).tmod s.den)/\Sat w0 w []:=by
 obtain⟨⟨d1,d2⟩,⟨d3,d4⟩,d5⟩:=id hsd
 have hxx:=d5 x x0 x1;have hxy:=d5 y y0 y1
 have hq1:=U8 (a:=s.X x) (d:=s.den) hxx.1 Oa;have hq2:=U8 (a:=s.X y) (d:=s.den) hxy.1 Oa
 refine zenG Tryz.func82 Tryz.ntmps82 fun w hS=> ?_
 refine zsr<|(zP)<|zx7<|zdst [] [] 1000 mx_ hS ?_;clear hS;intro w hS
 refine(zDw 0 (xfb 0 fd_54_0))<|(zDl 1 (fun w hS=>(xlf pl_22 (Ent.holds.cell hG (o:=0) rfl) hS)))<|(zDw 2 xmv)<|(zDw 3 (xix (kk:=y) Zb hX.slh))<|(zDl 4 (fun w hS=>(xlr (u:= .int Oi (s.X y)) pl_3 (hX.below hS.below))))<|(zDw 5 (xfb 3 fd_54_3))<|(zDl 6 (fun w hS=>(xlf pl_3 (Ent.holds.cell hG (o:=3) rfl) hS)))<|(zDw 7 (Ze6 (r:=(Int.tmod (s.X y) s.den))))<|(zDw 8 (xfb 0 fd_54_0))<|(zDl 9 (fun w hS=>(xlf pl_22 (Ent.holds.cell hG (o:=0) rfl) hS)))<|(zDw 10 xmv)<|(zDw 11 (xix (kk:=x) Zb hX.slh))<|(zDl 12 (fun w hS=>(xlr (u:= .int Oi (s.X x)) pl_3 (hX.below hS.below))))<|(zDw 13 (xfb 3 fd_54_3))<|YB 14 (fun w hS=>(xlf pl_3 (Ent.holds.cell hG (o:=3) rfl) hS)) ?_
 refine(zDw 15 (Ze6 (r:=(Int.tmod (s.X x) s.den))))<|(zDw 16 (Zp (r:=(Int.tmod (s.X y) s.den)-(Int.tmod (s.X x) s.den))))<|(zDw 17 xas)<|zdd<|ztn<|zrt<|Oj ?_
 exact⟨_,rfl,Oa,hS⟩
variable {i j m:Int} {g t:Of}
def frN(s:So):Nat->Int
  |0=>0
  |k+1=>if(s.X k).tmod s.den=0 then frN s k else frN s k+1
def frF(s:So):Nat->Int->Int
  |0=>fun _=>0
  |k+1=>if(s.X k).tmod s.den=0 then frF s k else snoc (frF s k) (frN s k) k
theorem ZbA(s:So)(h:0<=i):frN s (i+1).toNat=if(s.X i).tmod s.den=0 then frN s i.toNat else frN s i.toNat+1:=by
 obtain⟨k,rfl⟩:=Int.eq_ofNat_of_zero_le h;rw [show((k:Int)+1).toNat=k+1 by omega,Int.toNat_natCast];rfl
theorem ZbB(s:So)(h:0<=i):frF s (i+1).toNat=if(s.X i).tmod s.den=0 then frF s i.toNat else snoc (frF s i.toNat) (frN s i.toNat) i:=by
 obtain⟨k,rfl⟩:=Int.eq_ofNat_of_zero_le h;rw [show((k:Int)+1).toNat=k+1 by omega,Int.toNat_natCast];rfl
theorem Zf8 (s:So):∀n:Nat,0<=frN s n/\frN s n<=n/\(∀k,0<=k->k<frN s n->0<=frF s n k/\frF s n k<n/\(s.X (frF s n k)).tmod s.den≠0)/\UP 0 (frN s n) (frF s n)/\∀q,0<=q->q<(n:Int)->(s.X q).tmod s.den≠0->∃k,0<=k/\k<frN s n/\frF s n k=q
 |0=>⟨by simp [frN],by simp [frN],fun k k0 k1=>by simp [frN] at k1;omega,fun i j i0 ij j1=>by simp [frN] at j1;omega,fun q q0 q1=>Oa⟩
 | n + 1 =>by
   obtain⟨h1,h2,h3,h4,h5⟩:=Zf8 s n
   simp only [frN,frF]
   by_cases h:(s.X n).tmod s.den=0
   · rw [if_pos h,if_pos h]
     refine⟨h1,Oa,fun k k0 k1=> ?_,h4,fun q q0 q1 hq=> ?_⟩
     · have:=h3 k k0 k1;exact⟨this.1,Oa,this.2.2⟩
     · by_cases e:q=n
       · rw [e] at hq;exact absurd h hq
       · exact h5 q q0 Oa hq
   · rw [if_neg h,if_neg h]
     refine⟨by omega,Oa,fun k k0 k1=> ?_,fun i j i0 ij j1=> ?_,fun q q0 q1 hq=> ?_⟩
     · by_cases e:k<frN s n
       · rw [Zt e];have:=h3 k k0 e;exact⟨this.1,Oa,this.2.2⟩
       · rw [Zu e];exact⟨by omega,Oa,h⟩
     · by_cases e:j<frN s n
       · rw [Zt e,Zt (show i<frN s n by omega)];exact h4 i j i0 ij e
       · rw [Zu e,Zt (show i<frN s n by omega)];have:=h3 i i0 Oa;omega
     · by_cases e:q=n
       · exact⟨frN s n,h1,Oa,by rw [Zu Oa,e]⟩
       · obtain⟨k,k0,k1,hk⟩:=h5 q q0 Oa hq
         exact⟨k,k0,Oa,by rw [Zt k1];exact hk⟩
def Zfb(a r:List Int):Bool:=(List.zipWith (fun x y=>if 0<x/\0<y then(1:Int) else 0) a r).any fun x=>decide (0<x)
def Zc9(m:Int)(mf:Og)(st:List Int×Us)(k:Int):List Int×Us:=
  if Zfb (lst m (mf k)) st.1 then(List.zipWith (fun x y=>max 0 (y-x)) (lst m (mf k)) st.1,st.2++ [(lst m (mf k),1)]) else st
def Kw(m:Int)(mf:Og)(r0:List Int)(L0:Us)(h:List Int):List Int×Us:=h.foldl (Zc9 m mf) (r0,L0)
theorem ZfN{n:Int}{f:Of}(n0:0<=n):lst (n+1) f=lst n f++ [f n]:=by
 unfold lst
 rw [show(n+1).toNat=n.toNat+1 by omega,List.range_succ,List.map_append,List.map_singleton,Int.toNat_of_nonneg n0]
theorem Rc(m:Int)(mf:Og)(r0:List Int)(L0:Us)(j0:0<=j):Kw m mf r0 L0 (lst (j+1) t)=Zc9 m mf (Kw m mf r0 L0 (lst j t)) (t j):=by
 rw [ZfN j0];simp [Kw]
theorem Re{f:Of}:Zfb (lst m f) (lst m g)=true↔∃i,0<=i/\i<m/\0<f i/\0<g i:=by
 unfold Zfb
 rw [XN,V2]
 constructor
 · rintro⟨k,k0,k1,h⟩
   refine⟨k,k0,k1,?_⟩
   by_cases hh:0<f k/\0<g k
   · exact hh
   · rw [if_neg hh] at h;omega
 · rintro⟨k,k0,k1,h⟩
   exact⟨k,k0,k1,by rw [if_pos h];omega⟩
theorem uNo{n:Int}{mf:Og}{r0:List Int}{L0:Us}{ln cnt:Of}{pt:Og}(j0:0<=j)(h:(lst m g,plL n ln pt cnt)=Kw m mf r0 L0 (lst j t))(hn:¬∃i,0<=i/\i<m/\0<mf (t j) i/\0<g i):(lst m g,plL n ln pt cnt)=Kw m mf r0 L0 (lst (j+1) t):=by
 rw [Rc _ _ _ _ j0,<-h]
 unfold Zc9
 rw [if_neg fun hh=>hn (Re.1 hh)]
theorem ZnD{n:Int}{mf:Og}{r0:List Int}{L0:Us}{g2 ln cnt ln2 qg:Of}{pt pt2:Og}(j0:0<=j)(n0:0<=n)(h:(lst m g,plL n ln pt cnt)=Kw m mf r0 L0 (lst j t))(hn:∃i,0<=i/\i<m/\0<mf (t j) i/\0<g i)(hg:∀k,0<=k->k<m->g2 k=max 0 (g k-mf (t j) k))
   (h1:∀k,0<=k->k<n->ln2 k=ln k/\qg k=cnt k/\pt2 k=pt k) (h2:ln2 n=m) (h3:qg n=1) (h4:pt2 n=mf (t j)):(lst m g2,plL (n+1) ln2 pt2 qg)=Kw m mf r0 L0 (lst (j+1) t):=by
 rw [Rc _ _ _ _ j0,<-h]
 unfold Zc9
 dsimp only
 rw [if_pos (Re.2 hn),XN,Tn n0 h1 h2 h3 h4,Yh (f:=g2) (g:=fun k=>max 0 (g k-mf (t j) k)) hg]
def UpR (p:Prob) (u:Int) (ml:Of) (mf:Og) (s:So) (out:Us) (e:Int):Prop:=
  (e≠0/\out= []/\∃n ln pt cnt,WholeR p u ml mf s n ln pt cnt e)\/(∃n1 ln1 pt1 yR t n ln pt cnt,WholeR p u ml mf s n1 ln1 pt1 yR 0/\0<=n1/\0<=n/\PermOn 0 (frN s u.toNat) (frF s u.toNat) t/\Srt (Tie fun x y=>(s.X y).tmod s.den<(s.X x).tmod s.den) 0 (frN s u.toNat) t/\
    plL n ln pt cnt=(Kw p.m mf (lst p.m (Yu p (ZD n1 pt1 yR))) (plL n1 ln1 pt1 yR) (lst (frN s u.toNat) t)).2/\TrimR p n ln pt cnt out e)
theorem Kv{mf:Of}{us us2:Prop}(i0:0<=i)(h:us↔∃q,0<=q/\q<i/\0<mf q/\0<g q)(h2:us2↔(us\/(0<mf i/\0<g i))):us2↔∃q,0<=q/\q<i+1/\0<mf q/\0<g q:=by
 rw [h2,h]
 constructor
 · rintro(⟨q,q0,q1,q2⟩|hh)
   · exact⟨q,q0,Oa,q2⟩
   · exact⟨i,i0,Oa,hh⟩
 · rintro⟨q,q0,q1,q2⟩
   by_cases e:q=i
   · subst e;exact .inr q2
   · exact .inl ⟨q,q0,Oa,q2⟩
theorem Zfc(s:So):Swo (fun x y=>(s.X y).tmod s.den<(s.X x).tmod s.den):=
 ⟨fun x y h=>Oa,fun x y z h k=>Oa,fun x y z h k=>Oa⟩
end Go.Proofs.YtpnamgfdakfccaaGreat
namespace Go.Proofs.YtpnamgfdakfccaaGreat
open Go Go.RowKit Go.Proofs.Gw
theorem Zof:Zc Om 81=true:=Oc
theorem Zpj{vL vD:Value}{p:Prob}{vM:Value}{u:Int}{mv:Int->Value}{ml:Of}{mf:Og}{vX vY:Value}{s:So}(w0:World)(h:PAt w0 vL vD p)(hM:MAt w0 vM u mv ml mf)(hX:Row w0 vX 1 s.n (ints s.X))(hY:Row w0 vY 1 s.m (ints s.Y))(xZ:s.n<=1000):
   Calls Om 39 [.agg #[vL,vD,.int Oi p.stock,.int Oi p.kerf],.agg #[vM,vX,vY,.int Oi s.val,.int Oi s.den]].toArray w0 fun e w=>∃v,e= .returned v/\∃r n pv ln pt cnt e,v= .tuple #[r,.int Oi e]/\UpR p u ml mf s (plL n ln pt cnt) e/\(∀k,0<=k->k<n->1<=cnt k/\cnt k<=1000000000)/\n<=1000000/\Slh r n/\Sat w0 w [.own r 2 97 n (Ze pv cnt),.sem (Frame.rows 3 n pv ln pt)]:=by
 obtain⟨hm,hm1,hd,hd1,hs,hk⟩:=h.Oq
 have hu:=hM.row.slh.n0;have hu1:=hM.row.slh.n1;have hn:=hX.slh.n0;have hn1:=hX.slh.n1
 refine zenG Tryz.func39 Tryz.ntmps39 fun w hS=> ?_
 refine zsr<|zla (xbx (cs:= [_,_,_,_]) hS) ?_;rintro _ w ⟨g1,rfl,hS⟩
 refine zla (xbx (cs:= [_,_,_,_,_]) hS) ?_;rintro _ w ⟨g2,rfl,hS⟩
 refine(On)<|zlz<|(zV (xls 0 st_27 hS))<|(zV (xls 1 X1 hS))<|zlc (xc0 ZjZ) (ZdR (p:=p) (u:=u) (ml:=ml) (mf:=mf) (s:=s) w (h.below hS.below) (hM.below hS.below) (hX.below hS.below) (hY.below hS.below) xZ) ?_;rintro _ w ⟨qV,qd,qC,xe,qQ,qE,bm,rfl,xq,zf,hS'⟩
 replace hS:=(hS.comp hS').n4;clear hS'
 have aL:=fun k (k0:0<=k) (k1:k<qd)=>hS.slhIn 3 rfl k0 k1
 refine zs5 ?_
 refine zx5<|(On)<|zlt<|Zf ?_ ?_<;>intro hc
 ·
  refine zsr<|(Oo)<|zx14<|zf2 ⟨_,rfl,?_⟩
  exact⟨_,0,fun _=>undef,fun _=>0,fun _ _=>0,fun _=>0,_,rfl,.inl ⟨by omega,rfl,_,_,_,_,xq⟩,fun k k0 k1=>Oa,Oa,slh_nil,((hS.sub (.cons _ (.cons _ (.cons _ (.cons _ .slnil))))).addnil 2 97 (Ze (fun _=>undef) (fun _=>0))).addrows 3 (fun _=>undef) (fun _=>0) (fun _ _=>0)⟩
 refine ZY<|zlv (xls 0 st_27 hS) ?_
 obtain⟨qY,xg,aH,eP,aP,aS⟩:=xq.ok Oa hu
 have xM:=qY
 have hsd:=xg.1
 obtain⟨⟨d1,d2⟩,⟨d3,d4⟩,d5⟩:=id hsd
 have hun:=xg.2.1
 have hu6:=xg.2.2.1
 have aO:=qY.m1;have qX:=qY.m2;have hpd:=qY.d
 refine(zP)<|zlc (xc0 ZdL) (U1 (u:=qd) (pv:=qC) (ln:=xe) (pt:=qQ) (cnt:=qE) (p:=p) w (⟨(hS.rowN 2 rfl),fun k k0 k1=>hS.rowIn 3 rfl k0 k1,fun k k0 k1=>hS.roomIn 3 rfl k0 k1⟩:VAt _ qV qd qC xe qQ qE) (h.below hS.below)) ?_;rintro _ w ⟨qz,ql,qe,y9,rfl,qT,qx,hS'⟩
 replace hS:=(hS.comp hS').n5;clear hS'
 obtain⟨bB,zx⟩:ql=p.m/\qe=ZD qd qQ qE:=by rcases qT with⟨g1,_⟩|⟨_,g2,g3,_⟩;exact absurd aP g1;exact⟨g2,g3⟩
 have aZ:∀k,0<=k->k<p.m->0<=qe k/\qe k<=2000000000:=fun k k0 k1=>by rw [zx];have h9:=X7 aP.2.2 aS (Int.le_refl _) k0 k1;omega
 have ac:=fun k (k0:0<=k) (k1:k<p.m)=>(aZ k k0 k1).1
 have htl:=Ui qY ac p.m.toNat (by have:=qY.m1;omega)
 refine zs5 ?_
 refine zlz<|(zV (xls 0 st_27 hS))<|(zP)<|zlc (xc0 ZjX) (Zhj (p:=p) (f:=qe) w (h.below hS.below) qY (bB▸(hS.rowN 4 rfl)) aZ) ?_;rintro _ w ⟨xn,xd,rfl,ya,yD,hS'⟩
 replace hS:=(hS.comp hS').n7;clear hS'
 refine(zV (xany (v:=xd)))<|(zP)<|zlz<|(zV (xfb 1 fd_56_1))<|(zV (xlp 1 (ds:= [vX,vY,.int Oi s.val,.int Oi s.den]) ZV hS))<|zla (xal (cs:= [_,_,_,_]) VX hS) ?_;rintro _ w ⟨g3,rfl,hS⟩
 refine zle (xsw 7 ZV hS (hd:=(Za hX.slh.one (Za hY.slh.one (Za rfl (Za rfl Zh)))))) ?_;clear hS;rintro w hS
 refine zlz<|(zP)<|zx5<|(zV (xfb 0 fd_54_0))<|(zV (xlb 7 pl_22 hS))<|(zV (xln Zb hX.slh))<|(zP)<|zx6 ?_
 replace hS:=hS.addnil 1 3 (ints (fun _=>0))
 refine zlp (fun mm M w=>∃(nO:Int) (fO:Of) (i:Int) (vO:Value),mm=((s.n-i).toNat)/\(0<=i)/\(i<=s.n)/\(nO=frN s i.toNat)/\(fO=frF s i.toNat)/\(0<=nO/\nO<=i)/\(Slh vO nO)/\M= [(2,Or g1),(3,Or g2),(4,Oh),(5,.int Oi 0),(6,qV),(10,xd),(11,Or g3),(12,vO),(45,vX),(46,.int Oi s.n),(47,.int Oi i)]/\Sat w0 w [.blk g1 [vL,vD,.int Oi p.stock,.int Oi p.kerf],.blk g2 [vM,vX,vY,.int Oi s.val,.int Oi s.den],.own qV 2 97 qd (Ze qC qE),.sem (Frame.rows 3 qd qC xe qQ),.own qz 1 3 ql (ints qe),.own xn 1 3 p.m (ints p.L),.own xd 1 3 p.d (ints (Yu p qe)),.blk g3 [vX,vY,.int Oi s.val,.int Oi s.den],.own vO 1 3 nO (ints fO)]) ⟨0,(fun _=>0),0,Oh,rfl,Oa,Oa,?_,?_,Oa,?_,rfl,hS⟩ ?_
 ·
  rfl
 ·
  rfl
 ·
  exact slh_nil
 clear hS w
 rintro mm M w ⟨nO,fO,i,vO,rfl,h0,h1,hfN,hfF,hnO,hvO,rfl,hS⟩
 refine zsr<|(zP)<|zx7<|Zf ?_ ?_<;>intro hc
 ·
  refine zx3<|(zP)<|(zV (xix (kk:=i) Zb hX.slh))<|zlv (xlr (u:= .int Oi (s.X i)) pl_3 (hX.below hS.below)) ?_
  have hXi:=d5 i h0 Oa
  have hti:=U8 hXi.1 d1
  refine(On)<|zlz<|(zP)<|(zV (xfb 3 fd_54_3))<|(zV (xlb 7 pl_3 hS))<|(zV (Ze6 (r:=(Int.tmod (s.X i) s.den))))<|(zP)<|zlt<|Zf ?_ ?_<;>intro hc
  ·
   refine zrg<|(On)<|zla (xli (n:=1) (len:=1) (pv:= [(0,.int Oi i)]) (cs:= [.int Oi i]) (c:=ints (fun _=>i)) Zb ZG hS) ?_;rintro v1 w ⟨hS,hv1⟩
   refine zla (xap 8 (r:=nO+1) Zb ZG hS (hS.rowN 9 rfl) (We _ _ _)) ?_;rintro v2 w ⟨hS,hv2⟩
   refine(zP)<|zx10<|(zV (Zg (r:=i+1)))<|(zP)<|zln<|zlq ⟨nO+1,(snoc fO nO i),i+1,v2,rfl,Oa,Oa,?_,?_,Oa,?_,rfl,hS.pk [0,1,2,3,4,5,6,7,8]⟩
   ·
    rw [ZbA s h0,<-hfN];first|rw [if_pos Oa]|rw [if_neg Oa]
   ·
    rw [ZbB s h0,<-hfN,<-hfF];first|rw [if_pos Oa]|rw [if_neg Oa]
   ·
    exact hv2
  refine zx4<|(zV (Zg (r:=i+1)))<|(zP)<|zln<|zlq ⟨nO,fO,i+1,vO,rfl,Oa,Oa,?_,?_,Oa,?_,rfl,hS⟩
  ·
   rw [ZbA s h0,<-hfN];first|rw [if_pos Oa]|rw [if_neg Oa]
  ·
   rw [ZbB s h0,<-hfN,<-hfF];first|rw [if_pos Oa]|rw [if_neg Oa]
  ·
   exact hvO
 refine zx8<|zlv xmv ?_
 have hiN:i=u:=Oa
 rw [hiN] at hfN hfF
 obtain⟨hr1,hr2,hr3,hr4,hr5⟩:=Zf8 s u.toNat
 have hdO:∀k,0<=k->k<nO->0<=fO k/\fO k<s.n:=fun k k0 k1=>by rw [hfF];have:=hr3 k k0 Oa;omega
 have hIO:UP 0 nO fO:=by rw [hfN,hfF];exact hr4
 refine(zV xmf)<|zlc (xc0 Zof) (Zg4 (gs:=g3) (vd:=vO) (n:=nO) (nm:=s.n) (s:=fO) (lt:=fun x y=>(s.X y).tmod s.den<(s.X x).tmod s.den) (F:=Frame.bun [.blk g1 [vL,vD,.int Oi p.stock,.int Oi p.kerf],.blk g2 [vM,vX,vY,.int Oi s.val,.int Oi s.den],.own qV 2 97 qd (Ze qC qE),.sem (Frame.rows 3 qd qC xe qQ),.own qz 1 3 ql (ints qe),.own xn 1 3 p.m (ints p.L),.own xd 1 3 p.d (ints (Yu p qe)),.blk g3 [vX,vY,.int Oi s.val,.int Oi s.den]]) w0 w (Sat.bundle (l1:= [_]) (hS.pk [8,0,1,2,3,4,5,6,7])) hvO Oa (fun w x y x0 x1 y0 y1 hb hF=>Zjb w (hF.1 _ (List.mem_of_getElem? (i:=7) rfl)) (hX.below hb) (hY.below hb) hsd x0 x1 y0 y1) hdO (Zfc s) hIO) ?_;rintro _ w ⟨rfl,t1,zZ,cP,hS⟩
 replace hS:=Sat.unbundle (l1:= [_]) (l3:= []) hS
 refine zx5<|zlv xmv ?_
 have htd:∀k,0<=k->k<nO->0<=t1 k/\t1 k<s.n:=fun k k0 k1=>by obtain⟨q,q0,q1,q2⟩:=zZ.fr k0 k1;rw [show t1 k=fO q from q2];exact hdO q q0 q1
 have hlf:∀k,0<=k->k<p.m->0<=Yu p qe k/\Yu p qe k<=1000:=fun k k0 k1=>by have h9:=TJ qY k0 k1;have h8:=ac k k0 k1;unfold Yu;rw [if_pos ⟨k0,k1⟩];omega
 refine(zV (xln Zb hvO))<|(zP)<|zx6<|zlp (fun mm M w=>∃(nC:Int) (wv:Int->Value) (lC:Of) (gC:Og) (cC:Of) (gR:Of) (j:Int) (wC:Value),mm=((nO-j).toNat)/\(0<=j)/\(j<=nO)/\(0<=nC)/\(nC<=60+j)/\((lst p.m gR,plL nC lC gC cC)=Kw p.m mf (lst p.m (Yu p qe)) (plL qd xe qQ qE) (lst j t1))/\(∀k,0<=k->k<p.m->0<=gR k/\gR k<=1000)/\(Slh wC nC)/\M= [(2,Or g1),(3,Or g2),(4,Oh),(5,.int Oi 0),(6,wC),(10,xd),(65,vO),(66,.int Oi nO),(67,.int Oi j)]/\Sat w0 w [.own vO 1 3 nO (ints t1),.blk g1 [vL,vD,.int Oi p.stock,.int Oi p.kerf],.blk g2 [vM,vX,vY,.int Oi s.val,.int Oi s.den],.own wC 2 97 nC (Ze wv cC),.sem (Frame.rows 3 nC wv lC gC),.own qz 1 3 ql (ints qe),.own xn 1 3 p.m (ints p.L),.own xd 1 3 p.d (ints gR),.blk g3 [vX,vY,.int Oi s.val,.int Oi s.den]]) ⟨qd,qC,xe,qQ,qE,(Yu p qe),0,qV,rfl,Oa,Oa,Oa,Oa,?_,?_,?_,rfl,hS⟩ ?_
 ·
  rfl
 ·
  exact hlf
 ·
  exact zf
 clear hS w
 rintro mm M w ⟨nC,wv,lC,gC,cC,gR,j,wC,rfl,j0,j1,cY,kI,hUr,hGR,hwC,rfl,hS⟩
 have xl:=fun k (k0:0<=k) (k1:k<nC)=>hS.slhIn 4 rfl k0 k1
 refine zsr<|(zP)<|zx7<|Zf ?_ ?_<;>intro hc
 ·
  refine zx3<|(zV (xix (kk:=j) Zb hvO))<|zlv (xlr (u:= .int Oi (t1 j)) pl_3 (hS.rowN 0 rfl)) ?_
  have htj:=htd j j0 Oa
  obtain⟨hmk,hak⟩:=VH (xg.2.2.2.1 (t1 j) htj.1 Oa).1
  refine(zP)<|zlz<|(zV (xfb 0 UY))<|(zV (xlb 2 ZK hS))<|(zP)<|(zV (xix (kk:=(t1 j)) Zk hM.row.slh))<|(zV (xlr (u:=(mv (t1 j))) pl_22 (hM.row.below hS.below)))<|(zP)<|zlz<|(zP)<|zx5<|(zP)<|(zV (xln Zb (hM.p (t1 j) Oa Oa).slh))<|(zP)<|zx6<|zlp (fun mm M w=>∃(useful:Prop) (i2:Int),mm=((ml (t1 j)-i2).toNat)/\(0<=i2)/\(i2<=ml (t1 j))/\(useful↔∃q,0<=q/\q<i2/\0<mf (t1 j) q/\0<gR q)/\M= [(2,Or g1),(3,Or g2),(4,Oh),(5,.int Oi 0),(6,wC),(10,xd),(17,(mv (t1 j))),(18,B (useful)),(65,vO),(66,.int Oi nO),(67,.int Oi j),(76,(mv (t1 j))),(77,.int Oi (ml (t1 j))),(78,.int Oi i2)]/\Sat w0 w [.own vO 1 3 nO (ints t1),.blk g1 [vL,vD,.int Oi p.stock,.int Oi p.kerf],.blk g2 [vM,vX,vY,.int Oi s.val,.int Oi s.den],.own wC 2 97 nC (Ze wv cC),.sem (Frame.rows 3 nC wv lC gC),.own qz 1 3 ql (ints qe),.own xn 1 3 p.m (ints p.L),.own xd 1 3 p.d (ints gR),.blk g3 [vX,vY,.int Oi s.val,.int Oi s.den]]) ⟨False,0,rfl,Oa,Oa,?_,rfl,hS⟩ ?_ (hM:=by repeat' first|exact Kn|refine zpk rfl ?_|refine zpk (congrArg some (Zy not_false).symm) ?_|refine zpk (congrArg some (ZS trivial).symm) ?_)
  ·
   exact⟨fun h=>h.elim,fun⟨q,q0,q1,_⟩=>Oa⟩
  clear hS w
  rintro mm M w ⟨useful,i2,rfl,i20,i21,hus,rfl,hS⟩
  refine zsr<|(zP)<|zx7<|Zf ?_ ?_<;>intro hc
  ·
   refine zx3<|(zP)<|(zV (xix (kk:=i2) Zb (hM.p (t1 j) Oa Oa).slh))<|zlv (xlr (u:= .int Oi ((mf (t1 j)) i2)) pl_3 ((hM.p (t1 j) Oa Oa).below hS.below)) ?_
   have haq:=hak i2 i20 Oa
   refine(On)<|zlt<|zrg<|(On)<|zlb 84 ?_ ?_<;>intro hc
   ·
    iterate 9 refine zlo ?_
    refine(On)<|zx10<|(zV (Zg (r:=i2+1)))<|(zP)<|zln<|zlq ⟨True,i2+1,rfl,Oa,Oa,?_,rfl,hS⟩ (hM:=by repeat' first|exact Kn|refine zpk rfl ?_|refine zpk (congrArg some (Zy not_false).symm) ?_|refine zpk (congrArg some (ZS trivial).symm) ?_)
    ·
     refine Kv i20 hus ?_
     first
     |exact⟨fun _=> .inl ‹useful›,fun _=>trivial⟩
     |exact⟨fun h9=> .inr ⟨‹0<mf (t1 j) i2›,h9⟩,fun h9=>h9.elim (fun h8=>absurd h8 ‹¬useful›) (·.2)⟩
     |exact⟨fun h9=>h9.elim,fun h9=>h9.elim (fun h8=>absurd h8 ‹¬useful›) (fun h8=>absurd h8.1 ‹¬0<mf (t1 j) i2›)⟩
   refine(Oo)<|zlb 87 ?_ ?_<;>intro hc
   ·
    refine(On)<|(zV (xix (kk:=i2) Zb yD))<|(zV (xlr (u:= .int Oi (gR i2)) pl_3 (hS.rowN 7 rfl)))<|zs4 ?_
    refine zx10<|(zV (Zg (r:=i2+1)))<|(zP)<|zln<|zlq ⟨0<gR i2,i2+1,rfl,Oa,Oa,?_,rfl,hS⟩
    ·
     refine Kv i20 hus ?_
     first
     |exact⟨fun _=> .inl ‹useful›,fun _=>trivial⟩
     |exact⟨fun h9=> .inr ⟨‹0<mf (t1 j) i2›,h9⟩,fun h9=>h9.elim (fun h8=>absurd h8 ‹¬useful›) (·.2)⟩
     |exact⟨fun h9=>h9.elim,fun h9=>h9.elim (fun h8=>absurd h8 ‹¬useful›) (fun h8=>absurd h8.1 ‹¬0<mf (t1 j) i2›)⟩
   iterate 5 refine zlo ?_
   refine(Oo)<|zx10<|(zV (Zg (r:=i2+1)))<|(zP)<|zln<|zlq ⟨False,i2+1,rfl,Oa,Oa,?_,rfl,hS⟩ (hM:=by repeat' first|exact Kn|refine zpk rfl ?_|refine zpk (congrArg some (Zy not_false).symm) ?_|refine zpk (congrArg some (ZS trivial).symm) ?_)
   ·
    refine Kv i20 hus ?_
    first
    |exact⟨fun _=> .inl ‹useful›,fun _=>trivial⟩
    |exact⟨fun h9=> .inr ⟨‹0<mf (t1 j) i2›,h9⟩,fun h9=>h9.elim (fun h8=>absurd h8 ‹¬useful›) (·.2)⟩
    |exact⟨fun h9=>h9.elim,fun h9=>h9.elim (fun h8=>absurd h8 ‹¬useful›) (fun h8=>absurd h8.1 ‹¬0<mf (t1 j) i2›)⟩
  refine zx18<|(On)<|zlt<|Zf ?_ ?_<;>intro hc
  ·
   refine zxt<|ztx<|zbh<|ztn<|zrg<|(zV (Zg (r:=j+1)))<|(zP)<|zln<|zlq ⟨nC,wv,lC,gC,cC,gR,j+1,wC,rfl,Oa,Oa,Oa,Oa,?_,?_,?_,rfl,hS⟩
   ·
    first|exact uNo j0 hUr (fun⟨q,q0,q1,q2⟩=>absurd (hus.2 ⟨q,q0,Oa,q2⟩) ‹_›)|exact ZnD j0 cY hUr (by obtain⟨q,q0,q1,q2⟩:=hus.1 Oe;exact⟨q,q0,Oa,q2⟩) (fun k k0 k1=>(hg4 k k0 k1).trans (if_pos Oa)) (fun k k0 k1=>⟨Zv k1,Zt k1,Zv k1⟩) ((ZF Oa).trans hmk) (Zu Oa) (ZF Oa)
   ·
    first|exact hGR|(intro k k0 k1;have h9:=hg4 k k0 k1;rw [if_pos Oa] at h9;have h8:=hGR k k0 k1;have h7:=hak k k0 k1;omega)
   ·
    exact hwC
  refine ZY<|(On)<|zlc (xc0 cl_66) (c_clone (n:=(ml (t1 j))) (f:=(mf (t1 j))) w ((hM.p (t1 j) Oa Oa).below hS.below) Oa) ?_;rintro vq1 w ⟨_,rfl,qb,hS'⟩
  replace hS:=(hS.comp hS').n10;clear hS'
  refine zlv (xany (v:= .agg #[vq1,.int Oi 1]) (hr:=by obtain⟨_,_,_,_,rfl,_⟩:=qb;kernel_rfl)) ?_
  refine zla (xli (n:=1) (len:=1) (pv:= [(0,.agg #[vq1,.int Oi 1])]) (cs:= [vq1,.int Oi 1]) (c:=Ze (fun _=>vq1) (fun _=>1)) ZQ YW hS (hf:=by obtain⟨_,_,_,_,rfl,_⟩:=qb;kernel_rfl)) ?_;rintro v3 w ⟨hS,hv3⟩
  refine zla (xap 3 (r:=nC+1) ZQ YW hS (hS.rowN 10 rfl) (Xg _ _ _ _ _) (h1:=fun k _ _=>Xb (fun _=>qb.one) k)) ?_;rintro v4 w ⟨hS,hv4⟩
  replace hS:=Sat.merge (l1:= [_,_,_,_]) (l2:= [_,_,_,_]) (l3:= [_]) hS Oa
  have y4:=fun k (k0:0<=k) (k1:k<nC+1)=>hS.slhIn 4 rfl k0 k1
  refine(zP)<|zlz<|(zP)<|(zV (xln Zb (hM.p (t1 j) Oa Oa).slh))<|(zP)<|zx6<|zlp (fun mm M w=>∃(g4:Of) (i4:Int),mm=((ml (t1 j)-i4).toNat)/\(0<=i4)/\(i4<=ml (t1 j))/\(∀k,0<=k->k<p.m->g4 k=if k<i4 then max 0 (gR k-mf (t1 j) k) else gR k)/\M= [(2,Or g1),(3,Or g2),(4,Oh),(5,.int Oi 0),(6,v4),(10,xd),(65,vO),(66,.int Oi nO),(67,.int Oi j),(104,(mv (t1 j))),(105,.int Oi (ml (t1 j))),(106,.int Oi i4)]/\Sat w0 w [.own vO 1 3 nO (ints t1),.blk g1 [vL,vD,.int Oi p.stock,.int Oi p.kerf],.blk g2 [vM,vX,vY,.int Oi s.val,.int Oi s.den],.own v4 2 97 (nC+1) (Ze (gsn wv nC vq1) (snoc cC nC 1)),.sem (Frame.rows 3 (nC+1) (gsn wv nC vq1) (gsn lC nC (ml (t1 j))) (gsn gC nC (mf (t1 j)))),.own qz 1 3 ql (ints qe),.own xn 1 3 p.m (ints p.L),.own xd 1 3 p.d (ints g4),.blk g3 [vX,vY,.int Oi s.val,.int Oi s.den],.own v3 2 97 1 (Ze (fun _=>vq1) (fun _=>1))]) ⟨gR,0,rfl,Oa,Oa,?_,rfl,hS⟩ ?_
  ·
   intro k k0 k1;rw [if_neg Oa]
  clear hS w
  rintro mm M w ⟨g4,i4,rfl,i40,i41,hg4,rfl,hS⟩
  refine zsr<|(zP)<|zx7<|Zf ?_ ?_<;>intro hc
  ·
   refine zx3<|(zP)<|(zV (xix (kk:=i4) Zb (hM.p (t1 j) Oa Oa).slh))<|zlv (xlr (u:= .int Oi ((mf (t1 j)) i4)) pl_3 ((hM.p (t1 j) Oa Oa).below hS.below)) ?_
   have haq:=hak i4 i40 Oa
   have hgq:=hGR i4 i40 Oa
   have hgi:=hg4 i4 i40 Oa
   rw [if_neg Oa] at hgi
   refine(On)<|zlt<|zrg<|zs4 ?_
   refine(zV (xix (kk:=i4) Zb yD))<|(zV (xlr (u:= .int Oi (g4 i4)) pl_3 (hS.rowN 7 rfl)))<|(zP)<|(zV (Zp (r:=g4 i4-((mf (t1 j)) i4))))<|(zV (Ze8 (r:=(max 0 (g4 i4-((mf (t1 j)) i4))))))<|(zV (xix (kk:=i4) Zb yD))<|zle (xso 7 pl_3 hS (ZA _ _ _)) ?_;clear hS;rintro w hS
   refine zx10<|(zV (Zg (r:=i4+1)))<|(zP)<|zln<|zlq ⟨(upd g4 i4 (max 0 (g4 i4-((mf (t1 j)) i4)))),i4+1,rfl,Oa,Oa,?_,rfl,hS⟩
   ·
    intro k k0 k1;unfold upd;by_cases e:k=i4
    · rw [if_pos e,if_pos Oa,e];omega
    · rw [if_neg e,hg4 k k0 k1];by_cases e2:k<i4
      · rw [if_pos e2,if_pos Oa]
      · rw [if_neg e2,if_neg Oa]
  refine zxt<|ztx<|ztx<|zbh<|zbn<|ztn<|zrg<|(zV (Zg (r:=j+1)))<|(zP)<|zln<|zlq ⟨nC+1,gsn wv nC vq1,gsn lC nC (ml (t1 j)),gsn gC nC (mf (t1 j)),(snoc cC nC 1),g4,j+1,v4,rfl,Oa,Oa,Oa,Oa,?_,?_,?_,rfl,hS.pk [0,1,2,3,4,5,6,7,8]⟩
  ·
   first|exact uNo j0 hUr (fun⟨q,q0,q1,q2⟩=>absurd (hus.2 ⟨q,q0,Oa,q2⟩) ‹_›)|exact ZnD j0 cY hUr (by obtain⟨q,q0,q1,q2⟩:=hus.1 Oe;exact⟨q,q0,Oa,q2⟩) (fun k k0 k1=>(hg4 k k0 k1).trans (if_pos Oa)) (fun k k0 k1=>⟨Zv k1,Zt k1,Zv k1⟩) ((ZF Oa).trans hmk) (Zu Oa) (ZF Oa)
  ·
   first|exact hGR|(intro k k0 k1;have h9:=hg4 k k0 k1;rw [if_pos Oa] at h9;have h8:=hGR k k0 k1;have h7:=hak k k0 k1;omega)
  ·
   exact hv4
 refine zx8<|(zV (xls 1 st_27 hS))<|(zP)<|zlc (xc0 ZjY) (Zg0 (u:=nC) (pv:=wv) (ln:=lC) (pt:=gC) (cnt:=cC) (p:=p) w (⟨(hS.rowN 3 rfl),fun k k0 k1=>hS.rowIn 4 rfl k0 k1,fun k k0 k1=>hS.roomIn 4 rfl k0 k1⟩:VAt _ wC nC wv lC gC cC) (h.below hS.below)) ?_;rintro _ w ⟨dA,ar,dQ,dZ,fo,fC,fv,rfl,zk,zn,zm,zg,hS'⟩
 replace hS:=(hS.comp hS').n11;clear hS'
 have cU:=fun k (k0:0<=k) (k1:k<ar)=>hS.slhIn 10 rfl k0 k1
 refine zs4 ?_
 refine zx1<|zf2 ⟨_,rfl,?_⟩
 have hjN:j=frN s u.toNat:=Oa
 rw [hjN] at hUr
 exact⟨_,_,_,_,_,_,_,rfl,.inr ⟨_,_,_,_,_,_,_,_,_,(by rw [show(0:Int)=bm by omega];exact xq),aS,cY,(by rw [<-hfN,<-hfF];exact zZ),(by rw [<-hfN];exact cP),(by rw [<-zx,<-hUr]),zk⟩,zn,zm,zg,hS.pk [9,10]⟩
variable {cnt ln:Of} {pt:Og}
theorem Vm{F G c d:Of}:∀{m:Nat},(∀k:Nat,k<m->F k=G k/\c k=d k)->psum F c m=psum G d m
 |0,_=>rfl
 |m+1,h=>by simp only [psum];rw [Vm fun k hk=>h k Oa,(h m Oa).1,(h m Oa).2]
theorem XH{n:Int}{f:Of}{j:Int}(j0:0<=j)(j1:j<n):(lst n f).getD j.toNat 0=f j:=by
 rw [List.getD_eq_getElem?_getD,lst_get,Int.toNat_of_nonneg j0,if_pos j1];rfl
theorem Zbs{m:Int}{l:List Int}(h:l.length=m.toNat):l=lst m fun k=>l.getD k.toNat 0:=by
 apply List.ext_getElem?
 intro k
 rw [lst_get]
 by_cases hk:(k:Int)<m
 · rw [if_pos hk,List.getD_eq_getElem?_getD,Int.toNat_natCast,List.getElem?_eq_getElem Oa];rfl
 · rw [if_neg hk];simp;omega
def mkU(j:Int)(L:Us):Int:=wsum (fun l=>l.getD j.toNat 0) L
theorem Zir{n:Int}(n0:0<=n){j:Int}(j0:0<=j)(hl:∀k,0<=k->k<n->j<ln k):ZD n pt cnt j=mkU j (plL n ln pt cnt):=by
 unfold mkU ZD
 rw [Z5 _ n0]
 exact Vm fun k hk=>⟨(XH j0 (hl k Oa Oa)).symm,rfl⟩
theorem Zfv{p:Prob}{u:Int}(h:PlanOk p u ln pt cnt):∀x∈plL u ln pt cnt,1<=x.2:=fun x hx=>by
 obtain⟨j,hj⟩:=List.mem_iff_getElem?.1 hx
 rw [plL_get] at hj
 split at hj
 · injection hj with hj;rw [<-hj];exact(h.2.2 j Oa (by assumption)).1
 · cases hj
def ZaJ(p:Prob)(l:List Int):Prop:=∃f,FitsP p p.m f/\l=lst p.m f
theorem UE{p:Prob}{n m:Int}{f g:Of}(h:FitsP p n f)(hn:n=m)(he:∀k,0<=k->k<p.m->g k=f k):FitsP p m g:=by
 subst hn
 refine⟨h.ok,h.eq,fun i i0 i1=>by rw [he i i0 i1];exact h.all i i0 i1,?_⟩
 have hm:=h.ok.m1
 have e:ZL p g p.m.toNat=ZL p f p.m.toNat:=Zj fun i i0 i1=>by rw [he i i0 Oa]
 rw [e];exact h.used
theorem Zbb{p:Prob}{n:Int}(hok:p.Ok)(hn:n<=1000)(hl:∀k,0<=k->k<n->0<=ln k)(hL:∀x∈plL n ln pt cnt,(1<=x.2/\x.2<=1000)/\ZaJ p x.1):PlanOk p n ln pt cnt:=by
 refine⟨hok,hn,fun k k0 k1=> ?_⟩
 have hm:(lst (ln k) (pt k),cnt k)∈plL n ln pt cnt:=List.mem_iff_getElem?.2 ⟨k.toNat,by rw [plL_get,Int.toNat_of_nonneg k0,if_pos k1]⟩
 obtain⟨⟨h1,h2⟩,f,h3,h4⟩:=hL _ hm
 have hm1:=hok.m1
 obtain⟨q1,q2⟩:=(Uh (hl k k0 k1) Oa).1 h4
 exact⟨h1,h2,UE h3 q1.symm fun i i0 i1=>q2 i i0 Oa⟩
theorem Vn{p:Prob}{n:Int}(h:PlanOk p n ln pt cnt):∀x∈plL n ln pt cnt,(1<=x.2/\x.2<=1000)/\ZaJ p x.1:=fun x hx=>by
 obtain⟨j,hj⟩:=List.mem_iff_getElem?.1 hx
 rw [plL_get] at hj
 split at hj
 · injection hj with hj
   obtain⟨h1,h2,h3⟩:=h.2.2 j Oa (by assumption)
   rw [<-hj]
   exact⟨⟨h1,h2⟩,pt j,UE h3 h3.eq fun _ _ _=>rfl,by have:=h3.eq;dsimp only;rw [this]⟩
 · cases hj
end Go.Proofs.YtpnamgfdakfccaaGreat
namespace Go.Proofs.YtpnamgfdakfccaaGreat
open Go Go.RowKit Go.Proofs.Gw
variable {j:Int}
theorem Kl{p:Prob}{qc:List Int}{s:Us}(hok:p.Ok)(h:FFOk p.m (p.stock+p.kerf) (szP p) qc s){b:List Int×Int}(hb:b∈s)(j0:0<=j)(j1:j<p.m):0<=b.1.getD j.toNat 0/\b.1.getD j.toNat 0<=p.stock+p.kerf:=by
 obtain⟨h2,h3,h4⟩:=h.ok _ hb
 have h5:=h.nn _ hb
 have h6:=KK h5 (sz:=szP p) (fun k hk=>(Zcm hok Oa Oa).1) (j:=j.toNat) Oa
 refine⟨?_,Oa⟩
 rw [List.getD_eq_getElem?_getD,List.getElem?_eq_getElem Oa]
 exact h5 _ (List.getElem_mem _)
theorem Rs(p:Prob)(d:Of):∀n:Nat,psum (szP p) d n=ZL p d n
 |0=>rfl
 | n +1=>by
   have h1:ZL p d (n+1)=ZL p d n+d n*(p.L n+p.kerf):=by
     have:=ZP (fun i=>d i*(p.L i+p.kerf)) (i:=(n:Int)) Oa
     rw [show((n:Int)+1).toNat=n+1 by omega,Int.toNat_natCast] at this
     exact this
   rw [h1,psum,Rs p d n,Int.mul_comm]
theorem Zdn{a b A B:Int}(a0:0<=a)(a1:a<=A)(b0:0<=b)(b1:b<=B):0<=a*b/\a*b<=A*B:=
 ⟨Int.mul_nonneg a0 b0,Int.mul_le_mul a1 b1 b0 Oa⟩
theorem VI{p:Prob}{n:Int}{ln cnt:Of}{pt:Og}(hok:p.Ok)(hn:n<=1000)(hL:∀x∈plL n ln pt cnt,(1<=x.2/\x.2<=1000)/\ZaJ p x.1):PlanOk p n ln pt cnt:=by
 refine Zbb hok hn (fun k k0 k1=> ?_) hL
 obtain⟨_,f,h3,h4⟩:=hL (lst (ln k) (pt k),cnt k) (List.mem_iff_getElem?.2 ⟨k.toNat,by rw [plL_get,Int.toNat_of_nonneg k0,if_pos k1]⟩)
 have h5:=congrArg List.length h4
 dsimp only at h5
 rw [YR,YR] at h5
 have:=hok.m1
 omega
theorem PlanOk.mk{p:Prob}{n:Int}{ln cnt:Of}{pt:Og}(h:PlanOk p n ln pt cnt)(n0:0<=n)(j0:0<=j)(j1:j<p.m):ZD n pt cnt j=mkU j (plL n ln pt cnt):=
 Zir n0 j0 fun k k0 k1=>by have:=(h.2.2 k k0 k1).2.2.eq;omega
theorem Zc6{f g:List Int->Int}:∀{L:Us},(∀x∈L,0<=x.2)->(∀x∈L,f x.1<=g x.1)->wsum f L<=wsum g L
 | [],_,_=>Int.le_refl _
 | x::L,h,k=>by
   have h1:=Zc6 (f:=f) (g:=g) (L:=L) (fun y hy=>h y (by simp [hy])) fun y hy=>k y (by simp [hy])
   have h2:=Int.mul_le_mul_of_nonneg_right (k x (by simp)) (h x (by simp))
   simp only [wsum];omega
theorem ZcN:∀{L:Us},(∀x∈L,1<=x.2)->(L.length:Int)<=wsum (fun _=>1) L/\∀x∈L,x.2<=wsum (fun _=>1) L
 | [],_=>⟨by simp [wsum],by simp⟩
 | y ::L,h=>by
   obtain⟨h1,h2⟩:=ZcN (L:=L) fun x hx=>h x (by simp [hx])
   have h3:=h y (by simp)
   simp only [wsum]
   refine⟨by rw [List.length_cons];push_cast;omega,fun x hx=> ?_⟩
   rcases List.mem_cons.1 hx with e|e
   · rw [e];have:(0:Int)<=L.length:=Oa
     omega
   · have:=h2 x e;omega
theorem ZkV{p:Prob}{qc:List Int}{s:Us}(hok:p.Ok)(h:FFOk p.m (p.stock+p.kerf) (szP p) qc s){b:List Int×Int}(hb:b∈s):ZaJ p b.1:=by
 obtain⟨h2,h3,h4⟩:=h.ok _ hb
 have h5:=h.nn _ hb
 have hm:=hok.m1
 have hl:=Zbs (m:=p.m) h2
 have e:Wn (szP p) b.1=ZL p (fun k=>b.1.getD k.toNat 0) p.m.toNat:=by
   rw [hl,Rr _ _ Oa,Rs]
   refine Zj fun i i0 i1=> ?_
   dsimp only
   rw [<-hl]
 refine⟨fun k=>b.1.getD k.toNat 0,⟨hok,rfl,fun i i0 i1=> ?_,Oa⟩,hl⟩
 obtain⟨g1,g2⟩:=Kl hok h hb i0 i1
 refine⟨g1,?_⟩
 have h6:(b.1.getD i.toNat 0)*(1+p.kerf)<=p.stock+p.kerf:=by
   have hs:=hok.all i i0 i1
   unfold Prob.each at hs
   have h7:(b.1.getD i.toNat 0)*(p.L i+p.kerf)<=ZL p (fun k=>b.1.getD k.toNat 0) p.m.toNat:=Xw (f:=fun i=>b.1.getD i.toNat 0*(p.L i+p.kerf)) i0 Oa fun k k0 k1=>by
     have hk:=hok.all k k0 Oa
     unfold Prob.each at hk
     exact Int.mul_nonneg (Kl hok h hb k0 Oa).1 (by have:=hok.k1;omega)
   have h8:=Int.mul_le_mul_of_nonneg_left (show 1+p.kerf<=p.L i+p.kerf by omega) g1
   omega
 have hk1:=hok.k1
 have hs2:=hok.s2
 refine Classical.byContradiction fun hc=> ?_
 have h9:=Int.mul_le_mul_of_nonneg_right (show(2001:Int)<=b.1.getD i.toNat 0 by omega) (show 0<=1+p.kerf by omega)
 omega
def ZcA(j:Int):Of:=fun k=>if k=j then 1 else 0
theorem Tm{d:Of}{j:Int}(j0:0<=j):∀n:Nat,psum (ZcA j) d n=if j<(n:Int) then d j else 0
 |0=>by rw [if_neg Oa];rfl
 | n +1=>by
   simp only [psum]
   rw [Tm j0 n]
   unfold ZcA
   by_cases h:(n:Int)=j
   · rw [if_neg Oa,if_pos h,if_pos Oa,h];omega
   · rw [if_neg h]
     by_cases h2:j<(n:Int)
     · rw [if_pos h2,if_pos Oa];omega
     · rw [if_neg h2,if_neg Oa];omega
theorem Zfu{m:Int}{l:List Int}(hl:l.length=m.toNat)(j0:0<=j)(j1:j<m):Wn (ZcA j) l=l.getD j.toNat 0:=by
 have h:=Zbs (m:=m) hl
 have h1:Wn (ZcA j) l=Wn (ZcA j) (lst m fun k=>l.getD k.toNat 0):=by rw [<-h]
 rw [h1,Rr _ _ Oa,Tm j0,if_pos Oa]
theorem Zgb{p:Prob}{d:Of}(hok:p.Ok)(hd:∀k,0<=k->k<p.m->0<=d k){N:Us}(hN:NormR (T0 (YM p.m (p.stock+p.kerf) (szP p) (pcsTo d p.m 0))) N):
   (∀x∈N,1<=x.2/\ZaJ p x.1)/\wsum (fun _=>1) N<=psum (fun _=>1) d p.m.toNat/\∀j,0<=j->j<p.m->mkU j N=d j:=by
 have hm:=hok.m1
 obtain⟨hp1,hp2⟩:=To (d:=d) (m:=p.m) (i:=p.m) (c:=0) hd Oa Oa Oa (fun h=>Oa) fun _=>rfl
 have hF:=ZdA hok hp1
 have qk:∀x∈T0 (YM p.m (p.stock+p.kerf) (szP p) (pcsTo d p.m 0)),∃b∈YM p.m (p.stock+p.kerf) (szP p) (pcsTo d p.m 0),x=(b.1,1):=fun x hx=>by
   unfold T0 at hx
   obtain⟨b,hb,rfl⟩:=List.mem_map.1 hx
   exact⟨b,hb,rfl⟩
 refine⟨fun x hx=>⟨hN.pos (fun y hy=>by obtain⟨b,_,rfl⟩:=qk y hy;exact Int.le_refl _) x hx,?_⟩,?_,fun j j0 j1=> ?_⟩
 · obtain⟨y,hy,e⟩:=hN.keys x hx
   obtain⟨b,hb,rfl⟩:=qk y hy
   rw [<-e];exact ZkV (b:=b) hok hF hb
 · rw [hN.wsum,V5]
   have h1:=hF.ln
   have h2:((YM p.m (p.stock+p.kerf) (szP p) (pcsTo d p.m 0)).map fun _=>(1:Int)).sum=(YM p.m (p.stock+p.kerf) (szP p) (pcsTo d p.m 0)).length:=by
     generalize YM p.m (p.stock+p.kerf) (szP p) (pcsTo d p.m 0)=l
     induction l with
     |nil=>rfl
     |cons a l ih=>rw [List.map_cons,List.sum_cons,ih,List.length_cons];push_cast;omega
   omega
 · unfold mkU
   rw [hN.wsum,V5]
   have h1:=hF.ct (ZcA j)
   rw [Ry _ _ Oa Oa hd,Tm j0,if_pos Oa] at h1
   have h2:((YM p.m (p.stock+p.kerf) (szP p) (pcsTo d p.m 0)).map fun b=>b.1.getD j.toNat 0)=(YM p.m (p.stock+p.kerf) (szP p) (pcsTo d p.m 0)).map fun b=>Wn (ZcA j) b.1:=
     List.map_congr_left fun b hb=>(Zfu (hF.ok b hb).1 j0 j1).symm
   rw [h2,h1];omega
end Go.Proofs.YtpnamgfdakfccaaGreat
namespace Go.Proofs.YtpnamgfdakfccaaGreat
open Go Go.RowKit Go.Proofs.Gw
variable {e:Int}
structure ExU (p:Prob) (N:Us):Prop where
  pat:∀x∈N,1<=x.2/\ZaJ p x.1
  few:wsum (fun _=>1) N<=psum (fun _=>1) p.D p.m.toNat
  mks:∀j,0<=j->j<p.m->mkU j N=p.D j
theorem FFitR.ex{p:Prob}{N:Us}(hok:p.Ok)(h:FFitR p N e)(he:e=0):ExU p N:=by
 obtain⟨h1,h2,h3⟩:=Zgb hok (fun k k0 k1=>(TJ hok k0 k1).1) (h.2.1 he)
 exact⟨h1,h2,h3⟩
theorem ZbZ(f:List Int->Int):∀{N:Us},(∀x∈N,0<=x.2)->((Ur N).map f).sum=wsum f N
 | [],_=>rfl
 | u ::N,h=>by
   have h1:=ZbZ f (N:=N) fun x hx=>h x (by simp [hx])
   have h2:=h u (by simp)
   unfold Ur at h1⊢
   rw [List.reverse_cons,List.flatMap_append,List.map_append,List.sum_append,h1]
   simp only [List.flatMap_cons,List.flatMap_nil,List.append_nil,List.map_replicate,wsum]
   have h3:∀n:Nat,(List.replicate n (f u.1)).sum=f u.1*n:=fun n=>by
     induction n with
     |zero=>simp
     |succ n ih=>rw [List.replicate_succ,List.sum_cons,ih];push_cast;rw [Int.mul_add];omega
   rw [h3,Int.toNat_of_nonneg h2];omega
theorem ZhB{N:Us}:∀a∈Ur N,∃x∈N,a=x.1:=fun a ha=>by
 unfold Ur at ha
 obtain⟨x,hx,h⟩:=List.mem_flatMap.1 ha
 exact⟨x,List.mem_reverse.1 hx,(List.mem_replicate.1 h).2⟩
theorem ZcM{m:Int}{j:Int}(j0:0<=j)(j1:j<m):∀(h:List (List Int)),(∀a∈h,∃f:Of,(∀k,0<=k->k<m->0<=f k)/\a=lst m f)->0<=(h.map fun a=>a.getD j.toNat 0).sum
 | [],_=>by simp
 | a::h,ha=>by
   have h1:=ZcM j0 j1 h fun b hb=>ha b (by simp [hb])
   obtain⟨f,hf,rfl⟩:=ha a (by simp)
   have:=hf j j0 j1
   rw [List.map_cons,List.sum_cons,XH j0 j1];omega
theorem U9 {m:Int}:∀(h:List (List Int)) (M:Of) (L:Us),(∀a∈h,∃f:Of,(∀k,0<=k->k<m->0<=f k)/\a=lst m f)->(∀k,0<=k->k<m->0<=M k)->
   (∃M':Of,(h.foldl WD (lst m M,L)).1=lst m M'/\∀j,0<=j->j<m->M' j=max 0 (M j-(h.map fun a=>a.getD j.toNat 0).sum)/\mkU j (h.foldl WD (lst m M,L)).2=mkU j L+(h.map fun a=>a.getD j.toNat 0).sum-(M j-M' j))/\
   ∀x∈(h.foldl WD (lst m M,L)).2,x∈L\/∃(f g:Of),lst m f∈h/\x=(lst m g,1)/\(∀k,0<=k->k<m->0<=g k/\g k<=f k)/\∃k,0<=k/\k<m/\0<g k
 | [],M,L,_,hM=>⟨⟨M,rfl,fun j j0 j1=>by have:=hM j j0 j1;simp only [List.foldl_nil,List.map_nil,List.sum_nil];omega⟩,fun x hx=> .inl hx⟩
 | a :: h, M,L,ha,hM=>by
   obtain⟨f,hf,rfl⟩:=ha a (by simp)
   have e1:tM (lst m f) (lst m M)=lst m fun k=>M k-min (f k) (M k):=XN _ _ _ _
   have e2:tA (lst m f) (lst m M)=lst m fun k=>f k-min (f k) (M k):=XN _ _ _ _
   have hM1:∀k,0<=k->k<m->0<=M k-min (f k) (M k):=fun k k0 k1=>Oa
   have ha1:∀a∈h,∃f:Of,(∀k,0<=k->k<m->0<=f k)/\a=lst m f:=fun b hb=>ha b (by simp [hb])
   rw [List.foldl_cons]
   by_cases hn:(lst m fun k=>f k-min (f k) (M k)).any (fun x=>decide (0<x))=true
   · have e:WD (lst m M,L) (lst m f)=(lst m fun k=>M k-min (f k) (M k),L++ [(lst m fun k=>f k-min (f k) (M k),1)]):=by
       unfold WD;dsimp only;rw [e1,e2,if_pos hn]
     rw [e]
     obtain⟨⟨M',h1,h2⟩,h3⟩:=U9 h (fun k=>M k-min (f k) (M k)) (L++ [(lst m fun k=>f k-min (f k) (M k),1)]) ha1 hM1
     refine⟨⟨M',h1,fun j j0 j1=> ?_⟩,fun x hx=> ?_⟩
     · obtain⟨g1,g2⟩:=h2 j j0 j1
       rw [List.map_cons,List.sum_cons,XH j0 j1]
       have g3:mkU j (L++ [(lst m fun k=>f k-min (f k) (M k),1)])=mkU j L+(f j-min (f j) (M j)):=by
         unfold mkU;rw [WA];simp only [wsum];rw [XH j0 j1];omega
       rw [g3] at g2
       have:=hf j j0 j1;have:=hM j j0 j1;have:=ZcM j0 j1 h ha1
       omega
     · rcases h3 x hx with h4|⟨f',g,h4,h5⟩
       · rcases List.mem_append.1 h4 with h4|h4
         · exact .inl h4
         · obtain⟨k,k0,k1,hk⟩:=V2.1 hn
           exact .inr ⟨f,_,by simp,by simpa using h4,fun k k0 k1=>by have:=hf k k0 k1;have:=hM k k0 k1;omega,k,k0,k1,hk⟩
       · exact .inr ⟨f',g,by simp [h4],h5⟩
   · have e:WD (lst m M,L) (lst m f)=(lst m fun k=>M k-min (f k) (M k),L):=by
       unfold WD;dsimp only;rw [e1,e2,if_neg hn]
     rw [e]
     obtain⟨⟨M',h1,h2⟩,h3⟩:=U9 h (fun k=>M k-min (f k) (M k)) L ha1 hM1
     refine⟨⟨M',h1,fun j j0 j1=> ?_⟩,fun x hx=> ?_⟩
     · obtain⟨g1,g2⟩:=h2 j j0 j1
       rw [List.map_cons,List.sum_cons,XH j0 j1]
       have hz:¬0<f j-min (f j) (M j):=fun hh=>hn (V2.2 ⟨j,j0,j1,hh⟩)
       have:=hf j j0 j1;have:=hM j j0 j1;have:=ZcM j0 j1 h ha1
       omega
     · rcases h3 x hx with h4|⟨f',g,h4,h5⟩
       · exact .inl h4
       · exact .inr ⟨f',g,by simp [h4],h5⟩
theorem Rt(d:Of):∀n:Nat,psum (fun k=>d k) (fun _=>1) n=psum (fun _=>1) d n
 |0=>rfl
 |n+1=>by simp only [psum];rw [Rt d n];omega
theorem ZaL(f g:List Int->Int):∀L:Us,wsum (fun l=>f l+g l) L=wsum f L+wsum g L
 | []=>rfl
 |x::L=>by simp only [wsum];rw [ZaL f g L,Int.add_mul];omega
theorem T9:∀L:Us,wsum (fun _=>0) L=0
 | []=>rfl
 |x::L=>by simp only [wsum];rw [T9 L];omega
theorem Zc5(L:Us):∀n:Nat,wsum (fun l=>psum (fun k=>l.getD k.toNat 0) (fun _=>1) n) L=psum (fun k=>mkU k L) (fun _=>1) n
 |0=>T9 L
 | n +1=>by
   have h:=ZaL (fun l=>psum (fun k=>l.getD k.toNat 0) (fun _=>1) n) (fun l=>l.getD n 0) L
   simp only [psum]
   rw [Zc5 L n] at h
   have e:(fun l:List Int=>psum (fun k=>l.getD k.toNat 0) (fun _=>1) n+l.getD (n:Int).toNat 0*1)=fun l=>psum (fun k=>l.getD k.toNat 0) (fun _=>1) n+l.getD n 0:=by
     funext l;rw [Int.toNat_natCast];omega
   rw [e,h]
   unfold mkU
   rw [Int.toNat_natCast];omega
theorem Zgc{p:Prob}{n:Int}{f g:Of}(h:FitsP p n f)(hn:n=p.m)(hg:∀k,0<=k->k<p.m->0<=g k/\g k<=f k):FitsP p p.m g:=by
 refine⟨h.ok,rfl,fun i i0 i1=>by have:=h.all i i0 i1;have:=hg i i0 i1;omega,Int.le_trans (Z6 fun i i0 i1=> ?_) h.used⟩
 have hm:=h.ok.m1
 have h1:=hg i i0 Oa
 have h2:=h.ok.all i i0 Oa
 unfold Prob.each at h2
 exact Int.mul_le_mul_of_nonneg_right h1.2 (by have:=h.ok.k1;omega)
theorem TrimR.ex {p:Prob} {u:Int} {ln cnt:Of} {pt:Og} {out:Us} (h:TrimR p u ln pt cnt out e) (he:e=0) (u0:0<=u):ExU p out:=by
 rcases h with⟨_,_,h⟩|⟨_,_,_,h⟩|⟨h1,h2,_,N,hN,hO⟩
 · omega
 · omega
 · have hok:=h1.1
   have hm:=hok.m1
   have z6:=fun x hx=>hN.pos (Zfv h1) x hx
   have fe:∀x∈N,ZaJ p x.1:=fun x hx=>by
     obtain⟨y,hy,ey⟩:=hN.keys x hx
     rw [<-ey];exact(Vn h1 y hy).2
   have fj:∀a∈Ur N,ZaJ p a:=fun a ha=>by
     obtain⟨x,hx,rfl⟩:=ZhB a ha
     exact fe x hx
   have eQ:∀j,0<=j->j<p.m->ZD u pt cnt j=((Ur N).map fun a=>a.getD j.toNat 0).sum:=fun j j0 j1=>by
     rw [ZbZ _ fun x hx=>by have:=z6 x hx;omega,h1.mk u0 j0 j1]
     exact(hN.wsum _).symm
   obtain⟨⟨M',_,hc⟩,xN⟩:=U9 (m:=p.m) (Ur N) (fun j=>ZD u pt cnt j-p.D j) [] (fun a ha=>by
     obtain⟨f,hf,rfl⟩:=fj a ha
     exact⟨f,fun k k0 k1=>(hf.all k k0 k1).1,rfl⟩) fun k k0 k1=>by have:=h2 k k0 k1;omega
   have hT:∀x∈(V7 (lst p.m fun j=>ZD u pt cnt j-p.D j) (Ur N)).2,1<=x.2/\ZaJ p x.1/\(∀k,0<=k->k<p.m->0<=x.1.getD k.toNat 0)/\∃k,0<=k/\k<p.m/\0<x.1.getD k.toNat 0:=fun x hx=>by
     rcases xN x hx with h|⟨f,g,hf,rfl,hg,k,k0,k1,hk⟩
     · cases h
     · obtain⟨f',hf',ef⟩:=fj _ hf
       have e1:=((Uh Oa Oa).1 ef).2
       refine⟨Int.le_refl _,⟨g,Zgc hf' rfl fun k k0 k1=>by have:=hg k k0 k1;rw [<-e1 k k0 k1];exact this,rfl⟩,fun k k0 k1=> ?_,k,k0,k1,?_⟩
       · dsimp only;rw [XH k0 k1];exact(hg k k0 k1).1
       · dsimp only;rw [XH k0 k1];exact hk
   have hmk:∀j,0<=j->j<p.m->mkU j (V7 (lst p.m fun j=>ZD u pt cnt j-p.D j) (Ur N)).2=p.D j:=fun j j0 j1=>by
     obtain⟨g1,g2⟩:=hc j j0 j1
     rw [<-eQ j j0 j1] at g1 g2
     have g3:mkU j ([]:Us)=0:=rfl
     have hd:=(TJ hok j0 j1).1
     unfold V7
     have:=h2 j j0 j1
     omega
   refine⟨fun x hx=>⟨hO.pos (fun y hy=>(hT y hy).1) x hx,?_⟩,?_,fun j j0 j1=> ?_⟩
   · obtain⟨y,hy,ey⟩:=hO.keys x hx
     rw [<-ey];exact(hT y hy).2.1
   · rw [hO.wsum]
     refine Int.le_trans (Zc6 (g:=fun l=>psum (fun k=>l.getD k.toNat 0) (fun _=>1) p.m.toNat) (fun x hx=>by have:=(hT x hx).1;omega) fun x hx=> ?_) ?_
     · obtain⟨_,_,h3,k,k0,k1,hk⟩:=hT x hx
       have h4:=WZ (d:=fun _=>1) (f:=fun k=>x.1.getD k.toNat 0) (i:=(k+1).toNat) (n:=p.m.toNat) Oa fun q hq=>by have:=h3 q Oa Oa;omega
       rw [YJ _ _ k0] at h4
       have h5:=WZ (d:=fun _=>1) (f:=fun k=>x.1.getD k.toNat 0) (i:=0) (n:=k.toNat) Oa fun q hq=>by have:=h3 q Oa Oa;omega
       have h6:psum (fun k=>x.1.getD k.toNat 0) (fun _=>1) 0=0:=rfl
       omega
     · rw [Zc5,<-Rt]
       refine Int.le_of_eq (Vm fun k hk=>⟨hmk k Oa Oa,rfl⟩)
   · unfold mkU;rw [hO.wsum];exact hmk j j0 j1
theorem KQ(pt:Og)(cnt:Of)(j:Int):∀n:Nat,X0 pt cnt n j=psum (fun k=>pt k j) cnt n
 |0=>rfl
 | n+1=>by
   have:=ZP (fun i=>pt i j*cnt i) (i:=(n:Int)) Oa
   rw [show((n:Int)+1).toNat=n+1 by omega,Int.toNat_natCast] at this
   unfold X0
   rw [this]
   have h:=KQ pt cnt j n
   unfold X0 at h
   rw [h];rfl
theorem ExU.sound{p:Prob}{n:Int}{ln cnt:Of}{pt:Og}(h:ExU p (plL n ln pt cnt))(hok:p.Ok)(ht:psum (fun _=>1) p.D p.m.toNat<=1000)(n0:0<=n):SoundP p n ln pt cnt/\∀j,0<=j->j<p.m->X0 pt cnt n.toNat j=p.D j:=by
 obtain⟨h1,h2⟩:=ZcN (L:=plL n ln pt cnt) fun x hx=>(h.pat x hx).1
 have h3:=h.few
 rw [plL_len] at h1
 have hP:PlanOk p n ln pt cnt:=VI hok Oa fun x hx=>⟨⟨(h.pat x hx).1,by have:=h2 x hx;omega⟩,(h.pat x hx).2⟩
 refine⟨⟨hok,Oa,fun i i0 i1=> ?_⟩,fun j j0 j1=> ?_⟩
 · obtain⟨g1,g2,g3⟩:=hP.2.2 i i0 i1
   exact⟨g3,g1,g2⟩
 · rw [KQ]
   have:=hP.mk n0 j0 j1
   unfold ZD at this
   rw [this];exact h.mks j j0 j1
theorem DownR.ex{p:Prob}{u:Int}{ml:Of}{mf:Og}{s:So}{out:Us}{e:Int}(h:DownR p u ml mf s out e)(he:e=0):ExU p out:=by
 rcases h with⟨h,_⟩|⟨n1,ln1,pt1,yR,n2,ln2,pt2,qg,hw,n10,n20,hN,hT⟩
 · exact absurd he h
 · exact hT.ex he Oa
theorem UpR.ex{p:Prob}{u:Int}{ml:Of}{mf:Og}{s:So}{out:Us}{e:Int}(h:UpR p u ml mf s out e)(he:e=0):ExU p out:=by
 rcases h with⟨h,_⟩|⟨n1,ln1,pt1,yR,t,n,ln,pt,cnt,hw,n10,n0,hp,_,hU,hT⟩
 · exact absurd he h
 · exact hT.ex he n0
end Go.Proofs.YtpnamgfdakfccaaGreat
namespace Go.Proofs.YtpnamgfdakfccaaGreat
open Go Go.RowKit Go.Proofs.Gw
variable {ml:Of} {mf:Og}
theorem ZdN:Zc Om 14=true:=Oc
theorem Zj8:Zc Om 16=true:=Oc
theorem Zor:Zc Om 37=true:=Oc
theorem Zn4:ZM Om 94=some (.nilFunc,1,8):=Oc
theorem ZnG:ZB Om 94=true:=Oc
theorem Zfn:Zr Om 95=some (94,1):=Oc
def VJ(b x:Us)(e:Int):Us:=if e=0/\wsum (fun _=>1) x<wsum (fun _=>1) b then x else b
def ZhJ(i:Int)(p:Prob)(u:Int)(ml:Of)(mf:Og)(s:So)(out:Us)(e:Int):Prop:=if i=0 then DownR p u ml mf s out e else UpR p u ml mf s out e
def BRun(p:Prob)(u:Int)(ml:Of)(mf:Og)(s:So)(l:Us)(i:Int)(cur:Us):Prop:=
  (i=0/\cur=l)\/(i=1/\∃x e,DownR p u ml mf s x e/\cur=VJ l x e)\/(i=2/\∃x e y f,DownR p u ml mf s x e/\UpR p u ml mf s y f/\cur=VJ (VJ l x e) y f)
theorem BRun.next{p:Prob}{u:Int}{s:So}{l cur x:Us}{i e:Int}(h:BRun p u ml mf s l i cur)(i2:i<2)(hx:ZhJ i p u ml mf s x e):BRun p u ml mf s l (i+1) (VJ cur x e):=by
 unfold ZhJ at hx
 rcases h with⟨rfl,rfl⟩|⟨rfl,y,f,h1,rfl⟩|⟨h,_⟩
 · exact .inr (.inl ⟨rfl,x,e,by simpa using hx,rfl⟩)
 · exact .inr (.inr ⟨rfl,y,f,x,e,h1,by simpa using hx,rfl⟩)
 · omega
def BestR(p:Prob)(out:Us)(e:Int):Prop:=
  (e≠0/\FFitR p [] e/\out= [])\/(e=0/\∃l,FFitR p l 0/\∃u ml mf s ec,0<=u/\ColR p u ml mf s ec/\((ec≠0/\out=l)\/(ec=0/\BRun p u ml mf s l 2 out)))
theorem ColR.n60{p:Prob}{u:Int}{s:So}{e:Int}(h:ColR p u ml mf s e)(he:e=0)(u0:0<=u):u<=60/\s.n<=60:=by
 have hk:=(h.okS u0 he).1.n
 rcases h with⟨_,_,_,h⟩|⟨_,h,_⟩|⟨_,_,_,h1,_⟩
 · omega
 · exact absurd he h
 · have:=h1.few.2.1;omega
theorem Zlw(i:Int):Zc Om (if i=0 then 38 else 39)=true:=by split<;>kernel_rfl
theorem ZoB(i:Int){vL vD:Value}{p:Prob}{vM:Value}{u:Int}{mv:Int->Value}{vX vY:Value}{s:So}(w0:World)(h:PAt w0 vL vD p)(hM:MAt w0 vM u mv ml mf)(hX:Row w0 vX 1 s.n (ints s.X))(hY:Row w0 vY 1 s.m (ints s.Y))(xZ:s.n<=1000):
   Calls Om (if i=0 then 38 else 39) [.agg #[vL,vD,.int Oi p.stock,.int Oi p.kerf],.agg #[vM,vX,vY,.int Oi s.val,.int Oi s.den]].toArray w0 fun e w=>∃v,e= .returned v/\∃r n pv ln pt cnt e,v= .tuple #[r,.int Oi e]/\ZhJ i p u ml mf s (plL n ln pt cnt) e/\(∀k,0<=k->k<n->1<=cnt k/\cnt k<=1000000000)/\n<=1000000/\Slh r n/\Sat w0 w [.own r 2 97 n (Ze pv cnt),.sem (Frame.rows 3 n pv ln pt)]:=by
 by_cases hi:i=0
 · rw [if_pos hi]
   refine(Zm7 w0 h hM hX hY xZ).mono fun e w he=> ?_
   unfold ZhJ;simp only [if_pos hi];exact he
 · rw [if_neg hi]
   refine(Zpj w0 h hM hX hY xZ).mono fun e w he=> ?_
   unfold ZhJ;simp only [if_neg hi];exact he
theorem Zhx{vL vD:Value}{p:Prob}(w0:World)(h:PAt w0 vL vD p):
   Calls Om 13 [.agg #[vL,vD,.int Oi p.stock,.int Oi p.kerf]].toArray w0 fun e w=>∃v,e= .returned v/\∃r n pv ln pt cnt e,v= .tuple #[r,.int Oi e]/\BestR p (plL n ln pt cnt) e/\(∀k,0<=k->k<n->1<=cnt k/\cnt k<=1000000000)/\n<=1000000/\Slh r n/\Sat w0 w [.own r 2 97 n (Ze pv cnt),.sem (Frame.rows 3 n pv ln pt)]:=by
 obtain⟨hm,hm1,hd,hd1,hs,hk⟩:=h.Oq
 refine zenG Tryz.func13 Tryz.ntmps13 fun w hS=> ?_
 refine zsr<|zla (xbx (cs:= [_,_,_,_]) hS) ?_;rintro _ w ⟨g1,rfl,hS⟩
 refine(On)<|zlz<|(zV (xls 0 st_27 hS))<|zlc (xc0 Zor) (Zm6 (p:=p) w (h.below hS.below)) ?_;rintro _ w ⟨dC,au,dR,bM,co,cr,cq,rfl,yN,aY,gL,aB,hS'⟩
 replace hS:=(hS.comp hS').n3;clear hS'
 have f9:=fun k (k0:0<=k) (k1:k<au)=>hS.slhIn 2 rfl k0 k1
 refine zs5 ?_
 refine zx5<|(On)<|zlt<|Zf ?_ ?_<;>intro hc
 ·
  refine zsr<|(Oo)<|zx14<|zf2 ⟨_,rfl,?_⟩
  exact⟨_,0,fun _=>undef,fun _=>0,fun _ _=>0,fun _=>0,_,rfl,.inl ⟨by omega,(by rw [<-yN.2.2 Oa];exact yN),rfl⟩,fun k k0 k1=>Oa,Oa,slh_nil,((hS.sub (.cons _ (.cons _ (.cons _ .slnil)))).addnil 2 97 (Ze (fun _=>undef) (fun _=>0))).addrows 3 (fun _=>undef) (fun _=>0) (fun _ _=>0)⟩
 refine ZY<|(zV (xls 0 st_27 hS))<|zlc (xc0 Zj8) (ZbY (p:=p) w (h.below hS.below)) ?_;rintro _ w ⟨zD,zA,ak,zC,yT,yV,yW,xG,dt,rfl,xR,xi,zj,xJ,hS'⟩
 replace hS:=(hS.comp hS').n7;clear hS'
 have cT:=fun k (k0:0<=k) (k1:k<yT)=>hS.slhIn 4 rfl k0 k1
 refine(Oo)<|zla (xal (cs:= [_,_,_,_,_]) Zgv hS) ?_;rintro _ w ⟨g2,rfl,hS⟩
 refine zle (xsw 7 X1 hS (hd:=(Za xi.one (Za zj.one (Za xJ.one (Za rfl (Za rfl Zh))))))) ?_;clear hS;rintro w hS
 refine(zP)<|zx5<|(On)<|zlt<|Zf ?_ ?_<;>intro hc
 ·
  refine zsr<|(Oo)<|zx14<|zf2 ⟨_,rfl,?_⟩
  exact⟨_,_,_,_,_,_,0,rfl,.inr ⟨rfl,_,(by rw [show(0:Int)=cq by omega];exact yN),_,_,_,_,_,xi.n0,xR,.inl ⟨by omega,rfl⟩⟩,fun k k0 k1=>by have:=aY k k0 k1;omega,Oa,aB,hS.pk [1,2]⟩
 refine zsk<|ztn<|zsq<|zsr<|zla (xli (n:=2) (len:=2) (pv:= [(0,.func (.func 38) #[] #[]),(1,.func (.func 39) #[] #[])]) (cs:= [.func (.func 38) #[] #[],.func (.func 39) #[] #[]]) (c:=(fun k=>Value.func (.func (if k=0 then 38 else 39)) #[] #[])) Zfn Zn4 hS) ?_;rintro v1 w ⟨hS,hv1⟩
 refine(zV (xln Zfn hv1))<|(zP)<|zx6<|zlp (fun mm M w=>∃(nC:Int) (wv:Int->Value) (lC:Of) (gC:Og) (cC:Of) (i:Int) (wC:Value),mm=((2-i).toNat)/\(0<=i)/\(i<=2)/\(∀k,0<=k->k<nC->1<=cC k/\cC k<=1000000000)/\(nC<=1000000)/\(BRun p yT yV yW xG (plL au bM co cr) i (plL nC lC gC cC))/\(Slh wC nC)/\M= [(1,Or g1),(2,Oh),(3,.int Oi 0),(4,wC),(6,Or g2),(27,v1),(28,.int Oi 2),(29,.int Oi i)]/\Sat w0 w [.blk g1 [vL,vD,.int Oi p.stock,.int Oi p.kerf],.own wC 2 97 nC (Ze wv cC),.sem (Frame.rows 3 nC wv lC gC),.own zD 1 22 yT zA,.sem (Frame.rows 3 yT zA yV yW),.own ak 1 3 xG.n (ints xG.X),.own zC 1 3 xG.m (ints xG.Y),.blk g2 [zD,ak,zC,.int Oi xG.val,.int Oi xG.den],.own v1 1 94 2 (fun k=>Value.func (.func (if k=0 then 38 else 39)) #[] #[])]) ⟨au,dR,bM,co,cr,0,dC,rfl,Oa,Oa,?_,Oa,?_,?_,rfl,hS⟩ ?_
 ·
  intro k k0 k1;have:=aY k k0 k1;omega
 ·
  exact .inl ⟨rfl,rfl⟩
 ·
  exact aB
 clear hS w
 rintro mm M w ⟨nC,wv,lC,gC,cC,i,wC,rfl,i0,i1,hcB,hnB,hBR,hwC,rfl,hS⟩
 have xl:=fun k (k0:0<=k) (k1:k<nC)=>hS.slhIn 2 rfl k0 k1
 obtain⟨fR,jJ⟩:=xR.n60 Oa xi.n0
 refine zsr<|(zP)<|zx7<|Zf ?_ ?_<;>intro hc
 ·
  refine zx3<|(zV (xix (kk:=i) Zfn hv1))<|(zV (xlr (u:= .func (.func (if i=0 then 38 else 39)) #[] #[]) ZnG (hS.rowN 8 rfl)))<|(zP)<|zlz<|(zP)<|(zV (xls 0 st_27 hS))<|(zV (xls 7 X1 hS))<|zlc (xc0 (Zlw i)) (ZoB i (p:=p) (u:=yT) (ml:=yV) (mf:=yW) (s:=xG) w (h.below hS.below) (⟨(hS.rowN 3 rfl),fun k k0 k1=>hS.rowIn 4 rfl k0 k1,fun k k0 k1=>hS.roomIn 4 rfl k0 k1⟩:MAt _ zD yT zA yV yW) (hS.rowN 5 rfl) (hS.rowN 6 rfl) Oa) ?_;rintro _ w ⟨bG,zG,aq,ax,bl,bo,kf,rfl,zp,y7,jT,yE,hS'⟩
  replace hS:=(hS.comp hS').n11;clear hS'
  have f7:=fun k (k0:0<=k) (k1:k<zG)=>hS.slhIn 10 rfl k0 k1
  refine zs5 ?_
  refine zlz<|(Oo)<|zlb 42 ?_ ?_<;>intro hc
  ·
   refine(zP)<|zlc (xc0 ZdN) (U2 (u:=zG) (pv:=aq) (ln:=ax) (pt:=bl) (cnt:=bo) w (⟨(hS.rowN 9 rfl),fun k k0 k1=>hS.rowIn 10 rfl k0 k1,fun k k0 k1=>hS.roomIn 10 rfl k0 k1⟩:VAt _ bG zG aq ax bl bo) Oa (fun k k0 k1=>by first|(have h8:=hcB k k0 k1;omega)|(have h8:=y7 k k0 k1;omega))) ?_;rintro _ w ⟨rfl,hS'⟩
   replace hS:=hS.cmp hS';clear hS'
   refine(zP)<|zlc (xc0 ZdN) (U2 (u:=nC) (pv:=wv) (ln:=lC) (pt:=gC) (cnt:=cC) w (⟨(hS.rowN 1 rfl),fun k k0 k1=>hS.rowIn 2 rfl k0 k1,fun k k0 k1=>hS.roomIn 2 rfl k0 k1⟩:VAt _ wC nC wv lC gC cC) Oa (fun k k0 k1=>by first|(have h8:=hcB k k0 k1;omega)|(have h8:=y7 k k0 k1;omega))) ?_;rintro _ w ⟨rfl,hS'⟩
   replace hS:=hS.cmp hS';clear hS'
   refine(On)<|zlt<|Zf ?_ ?_<;>intro hc
   ·
    refine zrg<|(On)<|zx10<|(zV (Zg (r:=i+1)))<|(zP)<|zln<|zlq ⟨zG,aq,ax,bl,bo,i+1,bG,rfl,Oa,Oa,?_,Oa,?_,?_,rfl,hS.pk [0,9,10,3,4,5,6,7,8]⟩
    ·
     first|exact hcB|exact y7
    ·
     have hnx:=hBR.next Oa zp
     unfold VJ at hnx
     rw [Z5 _ yE.n0,Z5 _ hwC.n0] at hnx
     first|(rw [if_pos ⟨by omega,by assumption⟩] at hnx;exact hnx)|(rw [if_neg (by first|(intro hh;exact absurd hh.1 Oa)|(intro hh;exact absurd hh.2 (by assumption))|(rintro⟨q1,q2⟩;omega))] at hnx;exact hnx)
    ·
     exact yE
   refine zx4<|(zV (Zg (r:=i+1)))<|(zP)<|zln<|zlq ⟨nC,wv,lC,gC,cC,i+1,wC,rfl,Oa,Oa,?_,Oa,?_,?_,rfl,hS.pk [0,1,2,3,4,5,6,7,8]⟩
   ·
    first|exact hcB|exact y7
   ·
    have hnx:=hBR.next Oa zp
    unfold VJ at hnx
    rw [Z5 _ yE.n0,Z5 _ hwC.n0] at hnx
    first|(rw [if_pos ⟨by omega,by assumption⟩] at hnx;exact hnx)|(rw [if_neg (by first|(intro hh;exact absurd hh.1 Oa)|(intro hh;exact absurd hh.2 (by assumption))|(rintro⟨q1,q2⟩;omega))] at hnx;exact hnx)
   ·
    exact hwC
  iterate 5 refine zlo ?_
  refine(zP)<|zlt<|zcf<|zsk<|zbn<|ztn<|zrg ?_
  refine(zV (Zg (r:=i+1)))<|(zP)<|zln<|zlq ⟨nC,wv,lC,gC,cC,i+1,wC,rfl,Oa,Oa,?_,Oa,?_,?_,rfl,hS.pk [0,1,2,3,4,5,6,7,8]⟩
  ·
   first|exact hcB|exact y7
  ·
   have hnx:=hBR.next Oa zp
   unfold VJ at hnx
   rw [Z5 _ yE.n0,Z5 _ hwC.n0] at hnx
   first|(rw [if_pos ⟨by omega,by assumption⟩] at hnx;exact hnx)|(rw [if_neg (by first|(intro hh;exact absurd hh.1 Oa)|(intro hh;exact absurd hh.2 (by assumption))|(rintro⟨q1,q2⟩;omega))] at hnx;exact hnx)
  ·
   exact hwC
 refine zx8<|(Oo)<|zx1<|zf2 ⟨_,rfl,?_⟩
 exact⟨_,_,_,_,_,_,0,rfl,.inr ⟨rfl,_,(by rw [show(0:Int)=cq by omega];exact yN),_,_,_,_,_,xi.n0,xR,.inr ⟨by omega,by rw [show(2:Int)=i by omega];exact hBR⟩⟩,hcB,Oa,hwC,hS.pk [1,2]⟩
end Go.Proofs.YtpnamgfdakfccaaGreat
namespace Go.Proofs.YtpnamgfdakfccaaGreat
open Go Go.RowKit Go.Proofs.Gw
theorem Zbc{p:Prob}{b x:Us}{e:Int}(hb:ExU p b)(hx:e=0->ExU p x):ExU p (VJ b x e):=by
 unfold VJ
 by_cases h:e=0/\wsum (fun _=>1) x<wsum (fun _=>1) b
 · rw [if_pos h];exact hx h.1
 · rw [if_neg h];exact hb
variable {y:Of} {vD vy:Value}
theorem Zmu:Zc Om 144=true:=Oc
theorem Zos:Zc Om 36=true:=Oc
theorem Zoj:Zc Om 73=true:=Oc
theorem Zoi:Zc Om 74=true:=Oc
theorem fd_43_0:Zs Om 43 0=some 0:=Oc
theorem fd_43_1:Zs Om 43 1=some 1:=Oc
theorem st_43:Zw Om 43=some 2:=Oc
def out(n:Int):Prop:=n<0\/1073741824<n
theorem ZoI(n:Int)(w0:World):
   Calls Om 144 [.int Oi n].toArray w0 fun e w=>∃v,e= .returned v/\v=B (out n)/\Sat w0 w []:=by
 refine zenG Tryz.func144 Tryz.ntmps144 fun w hS=> ?_
 refine zsr<|(zP)<|zlz<|(Oo)<|zlb 5 ?_ ?_<;>intro hc
 ·
  refine(zO)<|(zO)<|(On)<|zx1<|Oj ?_
  exact⟨YA (by unfold out;omega),hS⟩
 refine zs4 ?_
 refine zx1<|Oj ?_
 exact⟨Zm (by unfold out;omega),hS⟩
theorem Zjq{s:Value}{n:Int}{f:Of}(w0:World)(h:Row w0 s 1 n (ints f)):
   Calls Om 147 [s,.func (.func 144) #[] #[]].toArray w0 fun e w=>∃v,e= .returned v/\∃r:Int,v= .int Oi r/\((r= -1/\∀k,0<=k->k<n->¬out (f k))\/(0<=r/\r<n/\out (f r)))/\Sat w0 w []:=by
 have hn:=h.slh.n0;have hn1:=h.slh.n1
 refine zenG Tryz.func147 Tryz.ntmps147 fun w hS=> ?_
 refine zsr<|(zP)<|zx5<|(zP)<|(zV (xln Zb h.slh))<|(zP)<|zx6<|zlp (fun mm M w=>∃(i:Int),mm=((n-i).toNat)/\(0<=i)/\(i<=n)/\(∀k,0<=k->k<i->¬out (f k))/\M= [(0,s),(1,.func (.func 144) #[] #[]),(7,.int Oi n),(8,.int Oi i)]/\Sat w0 w []) ⟨0,rfl,Oa,Oa,?_,rfl,hS⟩ ?_
 ·
  intro k h0 h1;omega
 clear hS w
 rintro mm M w ⟨i,rfl,h0,h1,qa,rfl,hS⟩
 refine zsr<|(zP)<|zx7<|Zf ?_ ?_<;>intro hc
 ·
  refine zx3<|(On)<|zlz<|(Oo)<|(zV (xix (kk:=i) Zb h.slh))<|(zV (xlr (u:= .int Oi (f i)) pl_3 (h.below hS.below)))<|zlc (xc0 Zmu) (ZoI (f i) w) ?_;rintro _ w ⟨rfl,hS'⟩
  replace hS:=hS.cmp hS';clear hS'
  refine zlt<|Zf ?_ ?_<;>intro hc
  ·
   refine zsr<|(On)<|zx2<|Oj ?_
   exact⟨i,rfl,.inr ⟨by omega,Oa,‹out _›⟩,hS⟩
  refine zx4<|(zV (Zg (r:=i+1)))<|(zP)<|zln<|zlq ⟨i+1,rfl,Oa,Oa,?_,rfl,hS⟩
  ·
   intro k h0' h1';rcases Int.lt_or_eq_of_le (show k<=i by omega) with hk|hk;exact qa k h0' hk;rw [hk];assumption
 refine zx8<|(zP)<|zx1<|Oj ?_
 exact⟨-1,rfl,.inl ⟨rfl,fun k h0 h1=>qa k h0 Oa⟩,hS⟩
theorem Zjy{s:Value}{n:Int}{f:Of}(w0:World)(h:Row w0 s 1 n (ints f)):
   Calls Om 90 [s,.func (.func 144) #[] #[]].toArray w0 fun e w=>∃v,e= .returned v/\v=B (∃k,0<=k/\k<n/\out (f k))/\Sat w0 w []:=by
 refine zenG Tryz.func90 Tryz.ntmps90 fun w hS=> ?_
 refine zsr<|(zP)<|zlz<|(On)<|zlc (xc0 WN) (Zjq w (h.below hS.below)) ?_;rintro _ w ⟨r1,rfl,hr1,hS'⟩
 replace hS:=hS.cmp hS';clear hS'
 refine(On)<|zx1<|Oj ?_
 exact⟨Zm (by
  rcases hr1 with⟨h1,h2⟩|⟨h1,h2,h3⟩
  · exact⟨fun h=>Oa,fun⟨k,h4,h5,h6⟩=>absurd h6 (h2 k h4 h5)⟩
  · exact⟨fun _=>⟨_,h1,h2,h3⟩,fun _=>h1⟩),hS⟩
theorem Zhr{n q:Int}(w0:World)(h:Row w0 vy 1 n (ints y))(hq: -9223372036854775808<=q/\q<=9223372036854775807):
   Calls Om 73 [.agg #[vy,.int Oi q]].toArray w0 fun e w=>∃v,e= .returned v/\v=B (Formed n y q)/\Sat w0 w []:=by
 refine zenG Tryz.func73 Tryz.ntmps73 fun w hS=> ?_
 refine zsr<|zla (xbx (cs:= [_,_]) hS) ?_;rintro _ w ⟨g1,rfl,hS⟩
 refine(zP)<|zlz<|(zV (xfb 1 fd_43_1))<|(zV (xlb 0 pl_3 hS))<|(On)<|zlb 6 ?_ ?_<;>intro hc
 ·
  refine(zV (xfb 1 fd_43_1))<|(zV (xlb 0 pl_3 hS))<|(Oo)<|zlb 11 ?_ ?_<;>intro hc
  ·
   refine(zV (xfb 0 fd_43_0))<|(zV (xlb 0 pl_22 hS))<|zlc (xc0 UH) (Zjy w (h.below hS.below)) ?_;rintro _ w ⟨rfl,hS'⟩
   replace hS:=hS.cmp hS';clear hS'
   refine(Oo)<|zx1<|Oj ?_
   exact⟨Zm (by constructor;intro h4;exact⟨by omega,Oa,fun k h1 h2=>by have:¬out (y k):=fun h5=>h4 ⟨k,h1,h2,h5⟩;unfold out at this;omega⟩;rintro⟨h1,h2,h3⟩ ⟨k,h4,h5,h6⟩;have:=h3 k h4 h5;unfold out at h6;omega),hS.nl⟩
  iterate 4 refine zlo ?_
  refine(On)<|zx1<|Oj ?_
  exact⟨Zi (by intro h;obtain⟨h1,h2,h3⟩:=h;omega),hS.nl⟩
 iterate 3 refine zlo ?_
 refine zs2 ?_
 iterate 4 refine zlo ?_
 refine(On)<|zx1<|Oj ?_
 exact⟨Zi (by intro h;obtain⟨h1,h2,h3⟩:=h;omega),hS.nl⟩
theorem ZeX{vL:Value}{p:Prob}{n:Int}(w0:World)(h:PAt w0 vL vD p)(hp:p.Ok)(hY:Row w0 vy 1 n (ints y))(hn:n=p.m)(hy:Vw p y):
   Calls Om 74 [.agg #[vL,vD,.int Oi p.stock,.int Oi p.kerf],vy].toArray w0 fun e w=>∃v,e= .returned v/\v= .int Oi (Vf p y)/\Sat w0 w []:=by
 subst hn;have hm:=hp.m1;have hm2:=hp.m2;have hd:=hp.d;have hs1:=hp.s1;have hs2:=hp.s2;have hk1:=hp.k1;have hk2:=hp.k2
 refine zenG Tryz.func74 Tryz.ntmps74 fun w hS=> ?_
 refine zsr<|zla (xbx (cs:= [_,_,_,_]) hS) ?_;rintro _ w ⟨g1,rfl,hS⟩
 refine(zP)<|zlz<|(zV (xfb 2 fd_27_2))<|(zV (xlb 0 pl_3 hS))<|(zV (xfb 3 fd_27_3))<|(zV (xlb 0 pl_3 hS))<|(zV (Zg (r:=p.stock+p.kerf)))<|(zV (Zg (r:=p.stock+p.kerf+1)))<|zla (xmk Zb ZG hS) ?_;rintro v1 w ⟨hS,hv1⟩
 refine(zP)<|zx5<|(zV (xfb 0 fd_27_0))<|(zV (xlb 0 pl_22 hS))<|(zV (xln Zb h.L.slh))<|(zP)<|zx6<|zlp (fun mm M w=>∃(i:Int) (f:Of),mm=((p.m-i).toNat)/\(0<=i)/\(i<=p.m)/\(∀j,0<=j->j<=p.stock+p.kerf->f j=Tab p y i.toNat j)/\M= [(1,vy),(2,Or g1),(4,.int Oi 0),(5,v1),(18,vL),(19,.int Oi p.m),(20,.int Oi i)]/\Sat w0 w [.blk g1 [vL,vD,.int Oi p.stock,.int Oi p.kerf],.own v1 1 3 (p.stock+p.kerf+1) (ints f)]) ⟨0,(fun _=>0),rfl,Oa,Oa,?_,rfl,hS⟩ ?_
 ·
  intro j _ _;rfl
 clear hS w
 rintro mm M w ⟨i,f,rfl,h0,h1,hf,rfl,hS⟩
 refine zsr<|(zP)<|zx7<|Zf ?_ ?_<;>intro hc
 ·
  refine zx3<|zlv xmv ?_
  have he:=hp.all i Oa Oa;unfold Prob.each at he;have hyi:=hy i Oa Oa
  refine(zV (xix (kk:=i) Zb h.L.slh))<|zlv (xlr (u:= .int Oi (p.L i)) pl_3 (h.L.below hS.below)) ?_
  have hbv:=h.iL i
  refine(On)<|zlz<|(zP)<|(zV (xfb 3 fd_27_3))<|(zV (xlb 0 pl_3 hS))<|(zV (Zg (r:=p.L i+p.kerf)))<|(zP)<|zx7<|zdst [0,1] [0,1] 1000 mx_ hS ?_;clear hS;intro w hS
  refine(zDw 0 (xfb 1 fd_27_1))<|(zDl 1 (fun w hS=>(xlb 0 pl_22 hS)))<|(zDw 2 xmv)<|(zDw 3 (xix (kk:=i) Zb h.D.slh))<|YB 4 (fun w hS=>(xlr (u:= .int Oi (p.D i)) pl_3 (h.D.below hS.below))) ?_
  have hbv:=h.iD i
  refine(zDw 5 xmv)<|(zDw 6 (xln Zb hv1))<|(zDw 7 (Zp (r:=p.stock+p.kerf)))<|(zDw 8 xmv)<|zDrv 9 (UK (r:=(Int.tdiv (p.stock+p.kerf) (p.L i+p.kerf))) (hn:=Oa) (hr:=(by have hq:=YI (a:=p.stock+p.kerf) (b:=p.L i+p.kerf) Oa Oa;unfold I64;omega))) ?_
  have hq:=YI (a:=p.stock+p.kerf) (b:=p.L i+p.kerf) Oa Oa
  refine(zDw 10 (TU (r:=(min (p.D i) (Int.tdiv (p.stock+p.kerf) (p.L i+p.kerf))))))<|(zDw 11 xmv)<|zdd<|ztn<|zbk<|zlp (fun mm M w=>∃(k:Int) (f2:Of),mm=((min (p.D i) (Int.tdiv (p.stock+p.kerf) (p.L i+p.kerf))-k).toNat)/\(0<=k)/\(k<=min (p.D i) (Int.tdiv (p.stock+p.kerf) (p.L i+p.kerf)))/\(∀j,0<=j->j<=p.stock+p.kerf->f2 j=R (Tab p y i.toNat) (p.L i+p.kerf) (y i) k.toNat j)/\M= [(1,vy),(2,Or g1),(4,.int Oi 0),(5,v1),(6,.int Oi i),(8,.int Oi (p.L i+p.kerf)),(18,vL),(19,.int Oi p.m),(20,.int Oi i),(39,.int Oi (min (p.D i) (Int.tdiv (p.stock+p.kerf) (p.L i+p.kerf)))),(40,.int Oi k)]/\Sat w0 w [.blk g1 [vL,vD,.int Oi p.stock,.int Oi p.kerf],.own v1 1 3 (p.stock+p.kerf+1) (ints f2)]) ⟨0,f,rfl,Oa,Oa,?_,rfl,hS⟩ ?_
  ·
   intro j hj0 hj1;rw [hf j hj0 hj1];rfl
  clear hS w
  rintro mm M w ⟨k,f2,rfl,k0,k1,hf2,rfl,hS⟩
  refine zsr<|(zP)<|zx7<|Zf ?_ ?_<;>intro hc
  ·
   refine zx3<|(zP)<|(zV (xln Zb hv1))<|(zV (Zp (r:=p.stock+p.kerf)))<|(zP)<|zx6<|zlp (fun mm M w=>∃(c:Int) (f3:Of),mm=((c-(p.L i+p.kerf)+1).toNat)/\(p.L i+p.kerf-1<=c)/\(c<=p.stock+p.kerf)/\(∀j,c<j->j<=p.stock+p.kerf->f3 j=R (Tab p y i.toNat) (p.L i+p.kerf) (y i) (k.toNat+1) j)/\(∀j,0<=j->j<=c->f3 j=R (Tab p y i.toNat) (p.L i+p.kerf) (y i) k.toNat j)/\M= [(1,vy),(2,Or g1),(4,.int Oi 0),(5,v1),(6,.int Oi i),(8,.int Oi (p.L i+p.kerf)),(9,.int Oi c),(18,vL),(19,.int Oi p.m),(20,.int Oi i),(39,.int Oi (min (p.D i) (Int.tdiv (p.stock+p.kerf) (p.L i+p.kerf)))),(40,.int Oi k)]/\Sat w0 w [.blk g1 [vL,vD,.int Oi p.stock,.int Oi p.kerf],.own v1 1 3 (p.stock+p.kerf+1) (ints f3)]) ⟨p.stock+p.kerf,f2,rfl,Oa,Oa,?_,?_,rfl,hS⟩ ?_
   ·
    intro j hj0 hj1;omega
   ·
    intro j hj0 hj1;exact hf2 j hj0 Oa
   clear hS w
   rintro mm M w ⟨c,f3,rfl,c0,c1,ha3,hb3,rfl,hS⟩
   refine zsq<|zsr<|(Oo)<|zlt<|Zf ?_ ?_<;>intro hc
   ·
    refine zsk<|ztn<|zsq<|zbk<|zdst [0,1] [0] 19 mx_ hS ?_;clear hS;intro w hS
    refine(zDw 0 xmv)<|(zDw 1 xmv)<|(zDw 2 xmv)<|(zDw 3 xmv)<|(zDw 4 (xix (kk:=c) Zb hv1))<|zdl 5 (fun w hS=>(xlr (u:= .int Oi (f3 c)) pl_3 (hS.rowN 1 rfl))) ?_
    refine(zDw 6 xmv)<|(zDw 7 xmv)<|(zDw 8 xmv)<|(zDw 9 (Zp (r:=c-p.L i-p.kerf)))<|(zDw 10 (xix (kk:=c-p.L i-p.kerf) Zb hv1))<|zdl 11 (fun w hS=>(xlr (u:= .int Oi (f3 (c-p.L i-p.kerf))) pl_3 (hS.rowN 1 rfl))) ?_
    refine(zDw 12 xmv)<|(zDw 13 xmv)<|(zDw 14 (xix (kk:=i) Zb hY.slh))<|(zDl 15 (fun w hS=>(xlr (u:= .int Oi (y i)) pl_3 (hY.below hS.below))))<|zDrv 16 (Zg (r:=f3 (c-p.L i-p.kerf)+(y i)) (hr:=(by have e:=hb3 (c-p.L i-p.kerf) Oa Oa;have b:=ZoT hp hy h0 Oa k.toNat (c:=c-p.L i-p.kerf) Oa;unfold I64;omega))) ?_
    refine(zDw 17 (Ze8 (r:=(max (f3 c) (f3 (c-p.L i-p.kerf)+(y i))))))<|(zDw 18 (xix (kk:=c) Zb hv1))<|zde 19 (xso 1 pl_3 hS (ZA _ _ _)) ?_;clear hS;rintro w hS
    refine⟨⟨fun h=>absurd h (by decide),hS.pk [0]⟩,?_⟩
    refine zdd<|zbn<|ztn<|zrg ?_
    refine(zP)<|(zV (Zp (r:=c-1)))<|(zP)<|zln<|zlq ⟨c-1,(upd f3 c (max (f3 c) (f3 (c-p.L i-p.kerf)+(y i)))),rfl,Oa,Oa,?_,?_,rfl,hS⟩
    ·
     intro j hj0 hj1;by_cases hj:j=c
     · rw [hj,Zz];exact ZjL hp y h0 Oa Oa hb3 rfl
     · rw [upd_ne _ _ hj];exact ha3 j Oa hj1
    ·
     intro j hj0 hj1;rw [upd_ne _ _ Oa];exact hb3 j hj0 Oa
   refine zxt<|ztx<|ztx<|zbh<|zbn<|ztn<|zrg<|(zV (Zg (r:=k+1)))<|(zP)<|zln<|zlq ⟨k+1,f3,rfl,Oa,Oa,?_,rfl,hS⟩
   ·
    intro j hj0 hj1;have e:(k+1).toNat=k.toNat+1:=Oa
    rw [e];by_cases hj:c<j
    · exact ha3 j hj hj1
    · rw [hb3 j hj0 Oa];exact ZoU hp y h0 Oa _ hj0 Oa
  refine zxt<|ztx<|ztx<|zbh<|zbn<|ztn<|zrg<|(zV (Zg (r:=i+1)))<|(zP)<|zln<|zlq ⟨i+1,f2,rfl,Oa,Oa,?_,rfl,hS⟩
  ·
   intro j hj0 hj1;rw [hf2 j hj0 hj1];exact Tab_next hp y h0 Oa k0 Oa Oa hj0 hj1
 refine zx8<|(On)<|(zV (xln Zb hv1))<|(zV (Zp (r:=p.stock+p.kerf)))<|(zV (xix (kk:=p.stock+p.kerf) Zb hv1))<|(zV (xlr (u:= .int Oi (f (p.stock+p.kerf))) pl_3 (hS.rowN 1 rfl)))<|(zP)<|zx1<|Oj ?_
 obtain rfl:i=p.m:=Oa
 exact⟨congrArg (Value.int .i64) (by rw [hf _ Oa Oa];rfl),hS.nl⟩
theorem ZjB{vL:Value}{p:Prob}{n q:Int}(w0:World)(h:PAt w0 vL vD p)(hY:Row w0 vy 1 n (ints y))(hq: -9223372036854775808<=q/\q<=9223372036854775807):
   Calls Om 36 [.agg #[vL,vD,.int Oi p.stock,.int Oi p.kerf],.agg #[vy,.int Oi q]].toArray w0 fun e w=>∃v,e= .returned v/\v= .int Oi (Chk p n y q)/\Sat w0 w []:=by
 have hn:=hY.slh.n0;have hn1:=hY.slh.n1
 refine zenG Tryz.func36 Tryz.ntmps36 fun w hS=> ?_
 refine zsr<|zla (xbx (cs:= [_,_,_,_]) hS) ?_;rintro _ w ⟨g1,rfl,hS⟩
 refine zla (xbx (cs:= [_,_]) hS) ?_;rintro _ w ⟨g2,rfl,hS⟩
 refine(zP)<|zlt<|zsq<|zbk<|zsr<|(zV (xls 0 st_27 hS))<|zlc (xc0 XJ) (Z8 (p:=p) w (h.below hS.below)) ?_;rintro _ w ⟨rfl,hS'⟩
 replace hS:=hS.cmp hS';clear hS'
 refine(On)<|zlb 9 ?_ ?_<;>intro hc;rotate_left
 refine(zV (xls 1 st_43 hS))<|zlc (xc0 Zoj) (Zhr w (hY.below hS.below) Oa) ?_;rintro _ w ⟨rfl,hS'⟩
 replace hS:=hS.cmp hS';clear hS'
 refine(Oo)<|zlb 14 ?_ ?_<;>intro hc;rotate_left
 refine(zV (xfb 0 fd_43_0))<|(zV (xlb 1 pl_22 hS))<|(zV (xln Zb hY.slh))<|(zV (xfb 0 fd_27_0))<|(zV (xlb 0 pl_22 hS))<|(zV (xln Zb h.L.slh))<|(Oo)<|zlt<|Zf ?_ ?_<;>intro hc
 ·
  refine zsr<|(zP)<|zlt<|zrt<|zbr<|ztr<|Oj ?_
  exact⟨congrArg (Value.int .i64) (Eq.symm (by first|exact ZeM (.inl ‹¬p.Ok›)|exact ZeM (.inr (.inl ‹¬Formed n y q›))|exact ZeM (.inr (.inr Oa)))),hS.nl⟩
 refine zsq<|zdst [0,1] [0,1] 1000 mx_ hS ?_;clear hS;intro w hS
 refine(zDl 0 (fun w hS=>(xls 0 st_27 hS)))<|(zDw 1 (xfb 0 fd_43_0))<|(zDl 2 (fun w hS=>(xlb 1 pl_22 hS)))<|(zDw 4 (xfb 1 fd_43_1))<|(zDl 5 (fun w hS=>(xlb 1 pl_3 hS)))<|zdc 3 (xc0 Zoi) (ZeX (p:=p) w (h.below hS.below) (Od ‹¬¬(p.Ok)›) (hY.below hS.below) Oa (Formed.priced (Od ‹¬¬(Formed n y q)›) Oa)) ?_;rintro _ w ⟨rfl,hS'⟩
 replace hS:=hS.cmp hS';clear hS'
 refine⟨⟨fun _=>hS,hS⟩,?_⟩
 refine(zDw 6 Yx)<|(zDw 7 xas)<|zdd<|ztn ?_
 refine Zf ?_ ?_<;>intro hc
 ·
  refine zsr<|(zP)<|zlt<|zrt<|zbr<|ztr<|Oj ?_
  exact⟨congrArg (Value.int .i64) (Eq.symm (by exact Zkd (Od ‹¬¬(p.Ok)›) (Od ‹¬¬(Formed n y q)›) Oa ‹_›)),hS.nl⟩
 refine zsk<|zbn<|ztn<|zsr<|(zP)<|zx1<|Oj ?_
 exact⟨congrArg (Value.int .i64) (Eq.symm (by exact ZmC (Od ‹¬¬(p.Ok)›) (Od ‹¬¬(Formed n y q)›) Oa ‹_›)),hS.nl⟩
 all_goals
  refine zOps ?_
  refine zlt<|zct<|zsr ?_
  refine zOps ?_
  refine zlt<|zrt<|zbr<|ztr<|Oj ?_
  exact⟨congrArg (Value.int .i64) (Eq.symm (by first|exact ZeM (.inl ‹¬p.Ok›)|exact ZeM (.inr (.inl ‹¬Formed n y q›))|exact ZeM (.inr (.inr Oa)))),hS.nl⟩
theorem ZdX{vL:Value}{p:Prob}{n q:Int}(w0:World)(h:PAt w0 vL vD p)(hY:Row w0 vy 1 n (ints y))(hq: -9223372036854775808<=q/\q<=9223372036854775807):
   Calls Om 12 [.agg #[vL,vD,.int Oi p.stock,.int Oi p.kerf],.agg #[vy,.int Oi q]].toArray w0 fun e w=>∃v,e= .returned v/\v= .tuple #[.int Oi (Y0 p n y q),.int Oi (Chk p n y q)]/\Sat w0 w []:=by
 have hn:=hY.slh.n0;have hn1:=hY.slh.n1
 refine zenG Tryz.func12 Tryz.ntmps12 fun w hS=> ?_
 refine zsr<|zla (xbx (cs:= [_,_,_,_]) hS) ?_;rintro _ w ⟨g1,rfl,hS⟩
 refine zla (xbx (cs:= [_,_]) hS) ?_;rintro _ w ⟨g2,rfl,hS⟩
 refine(On)<|zx5<|(zV (xls 0 st_27 hS))<|(zV (xls 1 st_43 hS))<|zlc (xc0 Zos) (ZjB (p:=p) w (h.below hS.below) (hY.below hS.below) Oa) ?_;rintro _ w ⟨rfl,hS'⟩
 replace hS:=hS.cmp hS';clear hS'
 refine(zP)<|zlz<|(On)<|zlt<|Zf ?_ ?_<;>intro hc
 ·
  refine zsr<|(Oo)<|zx14<|zf2 ⟨_,rfl,?_⟩
  exact⟨by rw [Znm ‹_›],hS.nl⟩
 refine ZY<|(zP)<|zx5<|zlv (xfb 1 fd_27_1) ?_
 obtain⟨hp,hfm,hnm,hw⟩:=WO (by omega:Chk p n y q=0);have hq1:=hfm.1;have hq2:=hfm.2.1;have hd:=hp.d;have hm1:=hp.m1;have hm2:=hp.m2;have hpr:=hfm.priced hnm
 refine(zV (xlb 0 pl_22 hS))<|(zV (xln Zb h.D.slh))<|(zP)<|zx6<|zlp (fun mm M w=>∃(t:Int) (i:Int),mm=((p.m-i).toNat)/\(0<=i)/\(i<=p.m)/\(t=Tot p.D y i.toNat)/\M= [(3,Or g2),(4,.int Oi 0),(5,.int Oi 0),(7,.int Oi t),(17,vD),(18,.int Oi p.d),(19,.int Oi i)]/\Sat w0 w [.blk g1 [vL,vD,.int Oi p.stock,.int Oi p.kerf],.blk g2 [vy,.int Oi q]]) ⟨0,0,rfl,Oa,Oa,?_,rfl,hS⟩ ?_
 ·
  rfl
 clear hS w
 rintro mm M w ⟨t,i,rfl,h0,h1,ht,rfl,hS⟩
 refine zsr<|(zP)<|zx7<|Zf ?_ ?_<;>intro hc
 ·
  refine zx3<|(zP)<|(zV (xix (kk:=i) Zb h.D.slh))<|zlv (xlr (u:= .int Oi (p.D i)) pl_3 (h.D.below hS.below)) ?_
  have hbv:=h.iD i
  refine(On)<|zlt<|zrg<|zlv xmv ?_
  have hb1:=Zcj hp hpr i h0 Oa;have hb2:=Zdb hp hpr i h0 Oa
  refine(zP)<|(zV (xfb 0 fd_43_0))<|(zV (xlb 1 pl_22 hS))<|(zP)<|(zV (xix (kk:=i) Zb hY.slh))<|(zV (xlr (u:= .int Oi (y i)) pl_3 (hY.below hS.below)))<|zlv (Yf (r:=((p.D i)*(y i))) (e:=rfl) (hr:=(by unfold I64;omega))) ?_
  refine(zV (Zg (r:=t+((p.D i)*(y i)))))<|(zP)<|zx10<|(zV (Zg (r:=i+1)))<|(zP)<|zln<|zlq ⟨t+((p.D i)*(y i)),i+1,rfl,Oa,Oa,?_,rfl,hS⟩
  ·
   rw [ZhI _ _ h0,<-ht]
 refine zx8<|zlv xmv ?_
 have hb1:=Zcj hp hpr i h0 Oa;have hq3:=YI (a:=t+q-1) (b:=q) Oa Oa
 refine(zV (xfb 1 fd_43_1))<|(zV (xlb 1 pl_3 hS))<|(zV (Zg (r:=t+q)))<|(zV (Zp (r:=t+q-1)))<|(zV (xfb 1 fd_43_1))<|(zV (xlb 1 pl_3 hS))<|zlv (UK (r:=(Int.tdiv (t+q-1) q)) (hn:=Oa) (hr:=(by unfold I64;omega))) ?_
 refine(On)<|zx1<|zf2 ⟨_,rfl,?_⟩
 obtain rfl:i=p.m:=Oa
 have hz:Chk p n y q=0:=Oa
 exact⟨by rw [hz,Ye hz];unfold Bnd;rw [<-ht],hS.nl⟩
end Go.Proofs.YtpnamgfdakfccaaGreat
namespace Go.Proofs.YtpnamgfdakfccaaGreat
open Go Go.RowKit Go.Proofs.Gw
variable {e i:Int} {f:Of} {vD:Value}
theorem UF:ZM Om 43=some (.agg #[Oh,.int Oi 0],2,32):=Oc
structure Ct where
  n:Int
  y:Of
  q:Int
def Ct.zer:Ct:=⟨0,fun _=>0,0⟩
def VN(p:Prob):Ct:=⟨p.m,fun k=>p.L k+p.kerf,p.stock+p.kerf⟩
def UD(p:Prob):Of:=fun k=>if p.stock+p.kerf<2*(p.L k+p.kerf) then 1 else 0
def Zf2(p:Prob):Ct:=⟨p.m,UD p,1⟩
def MakeR(p:Prob)(c:Ct)(e:Int):Prop:=∃u ml mf s,0<=u/\ColR p u ml mf s e/\((e≠0/\c=Ct.zer)\/(e=0/\c=⟨s.m,s.Y,s.den⟩))
def MatCR(p:Prob)(c:Ct)(e:Int):Prop:=(¬p.Ok/\c=Ct.zer/\e=1)\/(p.Ok/\c=VN p/\e=0)
def HalfR(p:Prob)(c:Ct)(e:Int):Prop:=(¬p.Ok/\c=Ct.zer/\e=1)\/(p.Ok/\c=Zf2 p/\e=0)
theorem MakeR.q{p:Prob}{c:Ct}{e:Int}(h:MakeR p c e):0<=c.q/\c.q<=1073741824:=by
 obtain⟨u,ml,mf,s,hu,h1,⟨_,rfl⟩|⟨h2,rfl⟩⟩:=h
 · exact⟨Int.le_refl _,by show(0:Int)<=_;omega⟩
 · obtain⟨h3,_⟩:=h1.okS hu h2
   exact⟨by have:=h3.d1;show 0<=s.den;omega,h3.d2⟩
theorem ZkA{p:Prob}(hp:p.Ok):1<=(VN p).q/\(VN p).q<=2100:=by
 have:=hp.s1;have:=hp.s2;have:=hp.k1;have:=hp.k2
 unfold VN;dsimp only;omega
theorem MatCR.q{p:Prob}{c:Ct}{e:Int}(h:MatCR p c e):0<=c.q/\c.q<=1073741824:=by
 rcases h with⟨_,rfl,_⟩|⟨hp,rfl,_⟩
 · exact⟨Int.le_refl _,by show(0:Int)<=_;omega⟩
 · have:=ZkA hp;omega
theorem HalfR.q{p:Prob}{c:Ct}{e:Int}(h:HalfR p c e):0<=c.q/\c.q<=1073741824:=by
 rcases h with⟨_,rfl,_⟩|⟨hp,rfl,_⟩
 · exact⟨Int.le_refl _,by show(0:Int)<=_;omega⟩
 · exact⟨by show(0:Int)<=1;omega,by show(1:Int)<=_;omega⟩
theorem Zhi{vL:Value}{p:Prob}(w0:World)(h:PAt w0 vL vD p):
   Calls Om 33 [.agg #[vL,vD,.int Oi p.stock,.int Oi p.kerf]].toArray w0 fun e w=>∃v,e= .returned v/\∃r c e,v= .tuple #[.agg #[r,.int Oi (Ct.q c)],.int Oi e]/\MakeR p c e/\Slh r c.n/\Sat w0 w [.own r 1 3 c.n (ints c.y)]:=by
 obtain⟨hm,hm1,hd,hd1,hs,hk⟩:=h.Oq
 refine zenG Tryz.func33 Tryz.ntmps33 fun w hS=> ?_
 refine zsr<|zla (xbx (cs:= [_,_,_,_]) hS) ?_;rintro _ w ⟨g1,rfl,hS⟩
 refine zla (xal (cs:= [_,_]) UF hS) ?_;rintro _ w ⟨g2,rfl,hS⟩
 refine(zP)<|zlz<|(zV (xls 0 st_27 hS))<|zlc (xc0 Zj8) (ZbY (p:=p) w (h.below hS.below)) ?_;rintro _ w ⟨zD,zA,ak,zC,yT,yV,yW,xG,dt,rfl,xR,xi,zj,xJ,hS'⟩
 replace hS:=(hS.comp hS').n6;clear hS'
 have cT:=fun k (k0:0<=k) (k1:k<yT)=>hS.slhIn 3 rfl k0 k1
 refine(Oo)<|zla (xal (cs:= [_,_,_,_,_]) Zgv hS) ?_;rintro _ w ⟨g3,rfl,hS⟩
 refine zle (xsw 6 X1 hS (hd:=(Za xi.one (Za zj.one (Za xJ.one (Za rfl (Za rfl Zh))))))) ?_;clear hS;rintro w hS
 refine(zP)<|zx5<|(On)<|zlt<|Zf ?_ ?_<;>intro hc
 ·
  refine zsr<|(zV (xany (v:= .agg #[Oh,.int Oi 0])))<|(zP)<|zle (xsw 1 st_43 hS) ?_;clear hS;rintro w hS
  refine(zP)<|zx14<|Yk 1 st_43 hS ⟨_,rfl,?_⟩
  exact⟨_,Ct.zer,dt,rfl,⟨_,_,_,_,xi.n0,xR,.inl ⟨by omega,rfl⟩⟩,slh_nil,(hS.sub (.cons _ (.cons _ (.cons _ (.cons _ (.cons _ (.cons _ (.cons _ .slnil)))))))).addnil 1 3 (ints Ct.zer.y)⟩
 refine ZY<|(zV (xfb 1 fd_56_1))<|(zV (xfb 2 fd_54_1))<|(zV (xlb 6 pl_22 hS))<|(zV (xfb 1 fd_56_1))<|(zV (xfb 4 fd_54_3))<|(zV (xlb 6 pl_3 hS))<|zlv (xany (v:= .agg #[zC,.int Oi xG.den]) (hr:=by obtain⟨_,_,_,_,rfl,_⟩:=xJ;kernel_rfl)) ?_
 refine zle (xsw 1 st_43 hS (hd:=(Za xJ.one (Za rfl Zh)))) ?_;clear hS;rintro w hS
 refine(zP)<|zx1<|Yk 1 st_43 hS ⟨_,rfl,?_⟩
 exact⟨_,⟨xG.m,xG.Y,xG.den⟩,0,rfl,⟨_,_,_,_,xi.n0,(by rw [show(0:Int)=dt by omega];exact xR),.inr ⟨rfl,rfl⟩⟩,xJ,hS.pk [5]⟩
theorem Zhh{vL:Value}{p:Prob}(w0:World)(h:PAt w0 vL vD p):
   Calls Om 34 [.agg #[vL,vD,.int Oi p.stock,.int Oi p.kerf]].toArray w0 fun e w=>∃v,e= .returned v/\∃r c e,v= .tuple #[.agg #[r,.int Oi (Ct.q c)],.int Oi e]/\MatCR p c e/\Slh r c.n/\Sat w0 w [.own r 1 3 c.n (ints c.y)]:=by
 obtain⟨hm,hm1,hd,hd1,hs,hk⟩:=h.Oq
 refine zenG Tryz.func34 Tryz.ntmps34 fun w hS=> ?_
 refine zsr<|zla (xbx (cs:= [_,_,_,_]) hS) ?_;rintro _ w ⟨g1,rfl,hS⟩
 refine zla (xal (cs:= [_,_]) UF hS) ?_;rintro _ w ⟨g2,rfl,hS⟩
 refine(zP)<|zx5<|(zV (xls 0 st_27 hS))<|zlc (xc0 XJ) (Z8 (p:=p) w (h.below hS.below)) ?_;rintro _ w ⟨rfl,hS'⟩
 replace hS:=hS.cmp hS';clear hS'
 refine(zP)<|zlt<|Zf ?_ ?_<;>intro hc
 ·
  refine zsr<|(zV (xany (v:= .agg #[Oh,.int Oi 0])))<|zle (xsw 1 st_43 hS) ?_;clear hS;rintro w hS
  refine(zP)<|zx14<|Yk 1 st_43 hS ⟨_,rfl,?_⟩
  exact⟨_,Ct.zer,1,rfl,.inl ⟨‹¬p.Ok›,rfl,rfl⟩,slh_nil,(hS.sub (.cons _ (.cons _ .slnil))).addnil 1 3 (ints Ct.zer.y)⟩
 refine ZY<|zlv (xfb 2 fd_27_2) ?_
 have hp:p.Ok:=by first|assumption|exact Od ‹_›
 have hpm:=hp.m1;have qX:=hp.m2;have hpd:=hp.d;have hs1:=hp.s1;have hs2:=hp.s2;have hk1:=hp.k1;have hk2:=hp.k2
 refine(zV (xlb 0 pl_3 hS))<|(zV (xfb 3 fd_27_3))<|(zV (xlb 0 pl_3 hS))<|(zV (Zg (r:=p.stock+p.kerf)))<|(zV (xany (v:= .agg #[Oh,.int Oi (p.stock+p.kerf)])))<|zla (xal (cs:= [_,_]) UF hS) ?_;rintro _ w ⟨g3,rfl,hS⟩
 refine zle (xsw 2 st_43 hS) ?_;clear hS;rintro w hS
 refine zx5<|(zV (xfb 0 fd_27_0))<|(zV (xlb 0 pl_22 hS))<|(zV (xln Zb h.L.slh))<|(zP)<|zx6 ?_
 replace hS:=hS.addnil 1 3 (ints (fun _=>0))
 refine zlp (fun mm M w=>∃(i:Int) (vb:Value) (f:Of),mm=((p.m-i).toNat)/\(0<=i)/\(i<=p.m)/\(∀k,0<=k->k<i->f k=p.L k+p.kerf)/\(Slh vb i)/\M= [(1,Or g1),(2,Or g2),(3,.int Oi 0),(4,Or g3),(18,vL),(19,.int Oi p.m),(20,.int Oi i)]/\Sat w0 w [.blk g1 [vL,vD,.int Oi p.stock,.int Oi p.kerf],.blk g2 [Oh,.int Oi 0],.blk g3 [vb,.int Oi (p.stock+p.kerf)],.own vb 1 3 i (ints f)]) ⟨0,Oh,(fun _=>0),rfl,Oa,Oa,?_,?_,rfl,hS⟩ ?_
 ·
  intro k k0 k1;omega
 ·
  exact slh_nil
 clear hS w
 rintro mm M w ⟨i,vb,f,rfl,h0,h1,hf,hvb,rfl,hS⟩
 refine zsr<|(zP)<|zx7<|Zf ?_ ?_<;>intro hc
 ·
  refine zx3<|(zV (xix (kk:=i) Zb h.L.slh))<|zlv (xlr (u:= .int Oi (p.L i)) pl_3 (h.L.below hS.below)) ?_
  have hbv:=h.iL i
  have he:=hp.all i h0 Oa;unfold Prob.each at he
  refine(zP)<|zlt<|zrg<|(zV (xfb 0 fd_43_0))<|(zV (xlb 2 pl_22 hS))<|(zP)<|(zV (xfb 3 fd_27_3))<|(zV (xlb 0 pl_3 hS))<|(zV (Zg (r:=p.L i+p.kerf)))<|zla (xli (n:=1) (len:=1) (pv:= [(0,.int Oi (p.L i+p.kerf))]) (cs:= [.int Oi (p.L i+p.kerf)]) (c:=ints (fun _=>p.L i+p.kerf)) Zb ZG hS) ?_;rintro v1 w ⟨hS,hv1⟩
  refine zla (xap 3 (r:=i+1) Zb ZG hS (hS.rowN 4 rfl) (We _ _ _)) ?_;rintro v2 w ⟨hS,hv2⟩
  refine(zV (xfb 0 fd_43_0))<|zle (xsb 2 pl_22 hS (hv:=hv2.one)) ?_;clear hS;rintro w hS
  refine zx10<|(zV (Zg (r:=i+1)))<|(zP)<|zln<|zlq ⟨i+1,v2,(snoc f i (p.L i+p.kerf)),rfl,Oa,Oa,?_,?_,rfl,hS.pk [0,1,2,3]⟩
  ·
   exact Zfl hf rfl
  ·
   exact hv2
 refine zx8<|(zV (xls 2 st_43 hS))<|zle (xsw 1 st_43 hS (hd:=(Za hvb.one (Za rfl Zh)))) ?_;clear hS;rintro w hS
 refine(zP)<|zx1<|Yk 1 st_43 hS ⟨_,rfl,?_⟩
 have him:i=p.m:=Oa
 subst him
 replace hS:=hS.recont 3 rfl (d:=ints (VN p).y) (fun k k0 k1=>congrArg (Value.int .i64) (hf k k0 Oa))
 exact⟨_,VN p,0,rfl,.inr ⟨hp,rfl,rfl⟩,hvb,hS.pk [3]⟩
theorem Zdw{p:Prob}(hf:∀k,0<=k->k<i->f k=UD p k)(h:p.stock+p.kerf<2*(p.L i+p.kerf)):∀k,0<=k->k<i+1->upd f i 1 k=UD p k:=fun k k0 k1=>by
 unfold upd
 by_cases e:k=i
 · rw [if_pos e,e];unfold UD;rw [if_pos h]
 · rw [if_neg e];exact hf k k0 Oa
theorem Zdv{p:Prob}(hf:∀k,0<=k->k<i->f k=UD p k)(hz:∀k,i<=k->f k=0)(h:¬p.stock+p.kerf<2*(p.L i+p.kerf)):∀k,0<=k->k<i+1->f k=UD p k:=fun k k0 k1=>by
 by_cases e:k=i
 · rw [e,hz i (Int.le_refl _)];unfold UD;rw [if_neg h]
 · exact hf k k0 Oa
theorem Zf1(hz:∀k,i<=k->f k=0):∀k,i+1<=k->upd f i 1 k=0:=fun k hk=>by
 unfold upd;rw [if_neg Oa];exact hz k Oa
theorem ZeU{vL:Value}{p:Prob}(w0:World)(h:PAt w0 vL vD p):
   Calls Om 35 [.agg #[vL,vD,.int Oi p.stock,.int Oi p.kerf]].toArray w0 fun e w=>∃v,e= .returned v/\∃r c e,v= .tuple #[.agg #[r,.int Oi (Ct.q c)],.int Oi e]/\HalfR p c e/\Slh r c.n/\Sat w0 w [.own r 1 3 c.n (ints c.y)]:=by
 obtain⟨hm,hm1,hd,hd1,hs,hk⟩:=h.Oq
 refine zenG Tryz.func35 Tryz.ntmps35 fun w hS=> ?_
 refine zsr<|zla (xbx (cs:= [_,_,_,_]) hS) ?_;rintro _ w ⟨g1,rfl,hS⟩
 refine zla (xal (cs:= [_,_]) UF hS) ?_;rintro _ w ⟨g2,rfl,hS⟩
 refine(zP)<|zx5<|(zV (xls 0 st_27 hS))<|zlc (xc0 XJ) (Z8 (p:=p) w (h.below hS.below)) ?_;rintro _ w ⟨rfl,hS'⟩
 replace hS:=hS.cmp hS';clear hS'
 refine(zP)<|zlt<|Zf ?_ ?_<;>intro hc
 ·
  refine zsr<|(zV (xany (v:= .agg #[Oh,.int Oi 0])))<|zle (xsw 1 st_43 hS) ?_;clear hS;rintro w hS
  refine(zP)<|zx14<|Yk 1 st_43 hS ⟨_,rfl,?_⟩
  exact⟨_,Ct.zer,1,rfl,.inl ⟨‹¬p.Ok›,rfl,rfl⟩,slh_nil,(hS.sub (.cons _ (.cons _ .slnil))).addnil 1 3 (ints Ct.zer.y)⟩
 refine ZY<|zlv (xfb 0 fd_27_0) ?_
 have hp:p.Ok:=by first|assumption|exact Od ‹_›
 have hpm:=hp.m1;have qX:=hp.m2;have hpd:=hp.d;have hs1:=hp.s1;have hs2:=hp.s2;have hk1:=hp.k1;have hk2:=hp.k2
 refine(zV (xlb 0 pl_22 hS))<|(zV (xln Zb h.L.slh))<|zla (xmk Zb ZG hS) ?_;rintro v1 w ⟨hS,hv1⟩
 refine zlv (xany (v:= .agg #[v1,.int Oi 1]) (hr:=by obtain⟨_,_,_,_,rfl,_⟩:=hv1;kernel_rfl)) ?_
 refine zla (xal (cs:= [_,_]) UF hS) ?_;rintro _ w ⟨g3,rfl,hS⟩
 refine zle (xsw 3 st_43 hS (hd:=(Za hv1.one (Za rfl Zh)))) ?_;clear hS;rintro w hS
 refine zx5<|(zV (xfb 0 fd_27_0))<|(zV (xlb 0 pl_22 hS))<|(zV (xln Zb h.L.slh))<|(zP)<|zx6<|zlp (fun mm M w=>∃(f:Of) (i:Int),mm=((p.m-i).toNat)/\(0<=i)/\(i<=p.m)/\(∀k,0<=k->k<i->f k=UD p k)/\(∀k,i<=k->f k=0)/\M= [(1,Or g1),(2,Or g2),(3,.int Oi 0),(4,Or g3),(17,vL),(18,.int Oi p.m),(19,.int Oi i)]/\Sat w0 w [.blk g1 [vL,vD,.int Oi p.stock,.int Oi p.kerf],.blk g2 [Oh,.int Oi 0],.own v1 1 3 p.m (ints f),.blk g3 [v1,.int Oi 1]]) ⟨(fun _=>0),0,rfl,Oa,Oa,?_,?_,rfl,hS⟩ ?_
 ·
  intro k k0 k1;omega
 ·
  intro k _;rfl
 clear hS w
 rintro mm M w ⟨f,i,rfl,h0,h1,hf,hz,rfl,hS⟩
 refine zsr<|(zP)<|zx7<|Zf ?_ ?_<;>intro hc
 ·
  refine zx3<|(zP)<|(zV (xix (kk:=i) Zb h.L.slh))<|zlv (xlr (u:= .int Oi (p.L i)) pl_3 (h.L.below hS.below)) ?_
  have hbv:=h.iL i
  have he:=hp.all i h0 Oa;unfold Prob.each at he
  refine(On)<|zlz<|(zP)<|(zV (xfb 3 fd_27_3))<|(zV (xlb 0 pl_3 hS))<|(zV (Zg (r:=p.L i+p.kerf)))<|(zV (Yf (r:=2*p.L i+2*p.kerf)))<|(zV (xfb 2 fd_27_2))<|(zV (xlb 0 pl_3 hS))<|(zV (xfb 3 fd_27_3))<|(zV (xlb 0 pl_3 hS))<|(zV (Zg (r:=p.stock+p.kerf)))<|(zP)<|zlt<|Zf ?_ ?_<;>intro hc
  ·
   refine zrg<|(zV (xfb 0 fd_43_0))<|(zV (xlb 3 pl_22 hS))<|(zP)<|(zV (xix (kk:=i) Zb hv1))<|zle (xso 2 pl_3 hS (ZA _ _ _)) ?_;clear hS;rintro w hS
   refine zx10<|(zV (Zg (r:=i+1)))<|(zP)<|zln<|zlq ⟨(upd f i 1),i+1,rfl,Oa,Oa,?_,?_,rfl,hS⟩
   ·
    first|exact Zdw hf Oa|exact Zdv hf hz Oa
   ·
    first|exact Zf1 hz|exact fun k hk=>hz k Oa
  refine zx4<|(zV (Zg (r:=i+1)))<|(zP)<|zln<|zlq ⟨f,i+1,rfl,Oa,Oa,?_,?_,rfl,hS⟩
  ·
   first|exact Zdw hf Oa|exact Zdv hf hz Oa
  ·
   first|exact Zf1 hz|exact fun k hk=>hz k Oa
 refine zx8<|(zV (xls 3 st_43 hS))<|zle (xsw 1 st_43 hS (hd:=(Za hv1.one (Za rfl Zh)))) ?_;clear hS;rintro w hS
 refine(zP)<|zx1<|Yk 1 st_43 hS ⟨_,rfl,?_⟩
 have him:i=p.m:=Oa
 subst him
 replace hS:=hS.recont 2 rfl (d:=ints (Zf2 p).y) (fun k k0 k1=>congrArg (Value.int .i64) (hf k k0 Oa))
 exact⟨_,Zf2 p,0,rfl,.inr ⟨hp,rfl,rfl⟩,hv1,hS.pk [2]⟩
end Go.Proofs.YtpnamgfdakfccaaGreat
namespace Go.Proofs.YtpnamgfdakfccaaGreat
open Go Go.RowKit Go.Proofs.Gw
theorem Zkb:Zc Om 12=true:=Oc
theorem XO{P:Program}{fn:Func}{R:Ending->World->Prop}{w w0:World}{n:Nat}{L:List (Nat×Value)}{E:List Ent}(i:Nat){s t r g k:Nat}{T:TypeId}{u v:Value}{cs:List Value}(ht:Zw P T=some k)(hS:Sat w0 w E)(h:R (.returned (.tuple #[.agg cs.toArray,u,v])) w)(hr:fn.results= #[.cell s T,.tmp t,.tmp r]:=by exact rfl)(hs:lk L s=some (Or g):=by exact rfl)(hu:lk L t=some u:=by exact rfl)(hv:lk L r=some v:=by exact rfl)
   (hi:E[i]? =some (.blk g cs):=by exact rfl) (hk:cs.length=k:=by exact rfl):Ge n [] (bodyPost P fn R) .ret L w:=fun _ hF=>by
 refine⟨hF.defers,_,?_,h⟩
 subst hk
 obtain⟨h1,h2⟩:=Xc (w:=w) ht
 have h3:=run_loadCells_list (P:=P) w ⟨g,0,none⟩ cs (hS.holds _ (List.mem_of_getElem? hi)).cells
 have e0:=hF.get t _ hu
 have e1:=hF.get s _ hs
 have e2:=hF.get r _ hv
 rw [Array.getD_eq_getD_getElem?] at e0 e1 e2
 simp [results,hr,e0,e1,e2,asAddr,loadVar,h1,h2,h3]
noncomputable def WH(p:Prob)(b:Ct×Int)(c:Ct)(e:Int):Ct×Int:=if e=0/\Chk p c.n c.y c.q=0/\b.2<Y0 p c.n c.y c.q then(c,Y0 p c.n c.y c.q) else b
theorem RB{p:Prob}{b c:Ct}{m e:Int}(h1:e=0)(h2:Chk p c.n c.y c.q=0)(h3:m<Y0 p c.n c.y c.q):(c,Y0 p c.n c.y c.q)=WH p (b,m) c e:=by
 unfold WH;rw [if_pos ⟨h1,h2,h3⟩]
theorem VL{p:Prob}{b c:Ct}{m e:Int}(h:¬(e=0/\Chk p c.n c.y c.q=0/\m<Y0 p c.n c.y c.q)):(b,m)=WH p (b,m) c e:=by
 unfold WH;rw [if_neg h]
def Zny(p:Prob)(c:Ct)(m:Int):Prop:=∃c1 e1 c2 e2 c3 e3,MakeR p c1 e1/\MatCR p c2 e2/\HalfR p c3 e3/\(c,m)=WH p (WH p (WH p (Ct.zer,-1) c1 e1) c2 e2) c3 e3
def DBestR(p:Prob)(c:Ct)(m e:Int):Prop:=(¬p.Ok/\c=Ct.zer/\m=0/\e=1)\/(p.Ok/\e=0/\Zny p c m)
theorem Zay{vL vD:Value}{p:Prob}{F:Gw.Frame}{gp gm gb:Nat}{b c:Ct}{most ee:Int}{vb vc:Value}(w0 w:World)(hS:Sat w0 w [.blk gp [vL,vD,.int Oi p.stock,.int Oi p.kerf],.blk gm [.int Oi most],.blk gb [vb,.int Oi b.q],.own vb 1 3 b.n (ints b.y),.own vc 1 3 c.n (ints c.y),.sem F])(h:PAt w0 vL vD p)(hvb:Slh vb b.n)(hvc:Slh vc c.n)(hq: -9223372036854775808<=c.q/\c.q<=9223372036854775807):
   Calls Om 32 [.agg #[vc,.int Oi c.q],.int Oi ee,Or gp,Or gm,Or gb].toArray w fun e w=>∃v,e= .returned v/\v= .tuple #[]/\∃b2 m2 v2,(b2,m2)=WH p (b,most) c ee/\Slh v2 b2.n/\Sat w0 w [.blk gp [vL,vD,.int Oi p.stock,.int Oi p.kerf],.blk gm [.int Oi m2],.blk gb [v2,.int Oi b2.q],.own v2 1 3 b2.n (ints b2.y),.sem F]:=by
 obtain⟨hm,hm1,hd,hd1,hs,hk⟩:=h.Oq
 refine zenF Tryz.func32 Tryz.ntmps32 ?_
 refine zsr<|zla (xbx (cs:= [_,_]) hS) ?_;rintro _ w ⟨g1,rfl,hS⟩
 refine zx5<|(On)<|zlt<|Zf ?_ ?_<;>intro hc
 ·
  refine zrt<|ztr<|zf0 ⟨_,rfl,?_⟩
  exact⟨rfl,b,most,vb,VL (by rintro⟨h1,h2,h3⟩;omega),hvb,hS.pk [0,1,2,3,5]⟩
 refine ZY<|(zV (xls 0 st_27 hS))<|(zV (xls 6 st_43 hS))<|zlc (xc0 Zkb) (ZdX (p:=p) w (h.below hS.below) (hS.rowN 4 rfl) Oa) ?_;rintro _ w ⟨rfl,hS'⟩
 replace hS:=hS.cmp hS';clear hS'
 refine zs5 ?_
 refine zlz<|(Oo)<|zlb 19 ?_ ?_<;>intro hc
 ·
  refine(zP)<|(zV (xlb 1 pl_3 hS))<|(On)<|zlt<|Zf ?_ ?_<;>intro hc
  ·
   refine zrg<|(zV (xls 6 st_43 hS))<|(zP)<|zle (xsw 2 st_43 hS (hd:=(Za hvc.one (Za rfl Zh)))) ?_;clear hS;rintro w hS
   refine zle (xsb 1 pl_3 hS) ?_;clear hS;rintro w hS
   refine zln<|XA ⟨_,rfl,?_⟩
   exact⟨rfl,c,_,vc,RB Oa Oa Oa,hvc,hS.pk [0,1,2,4,5]⟩
  refine zsk<|XA ⟨_,rfl,?_⟩
  exact⟨rfl,b,most,vb,VL (by rintro⟨h1,h2,h3⟩;omega),hvb,hS.pk [0,1,2,3,5]⟩
 iterate 3 refine zlo ?_
 refine(zP)<|zlt<|zcf<|zsk<|XA ⟨_,rfl,?_⟩
 exact⟨rfl,b,most,vb,VL (by rintro⟨h1,h2,h3⟩;omega),hvb,hS.pk [0,1,2,3,5]⟩
theorem ZgJ:Zc Om 32=true:=Oc
theorem Zov:Zc Om 33=true:=Oc
theorem Zou:Zc Om 34=true:=Oc
theorem Zot:Zc Om 35=true:=Oc
theorem Zhw{vL vD:Value}{p:Prob}(w0:World)(h:PAt w0 vL vD p):
   Calls Om 11 [.agg #[vL,vD,.int Oi p.stock,.int Oi p.kerf]].toArray w0 fun e w=>∃v,e= .returned v/\∃r c m e,v= .tuple #[.agg #[r,.int Oi (Ct.q c)],.int Oi m,.int Oi e]/\DBestR p c m e/\Slh r c.n/\Sat w0 w [.own r 1 3 c.n (ints c.y)]:=by
 obtain⟨hm,hm1,hd,hd1,hs,hk⟩:=h.Oq
 refine zenG Tryz.func11 Tryz.ntmps11 fun w hS=> ?_
 refine zsr<|zla (xbx (cs:= [_,_,_,_]) hS) ?_;rintro _ w ⟨g1,rfl,hS⟩
 refine zla (xal (cs:= [_,_]) UF hS) ?_;rintro _ w ⟨g2,rfl,hS⟩
 refine(On)<|zx5<|(zV (xls 0 st_27 hS))<|zlc (xc0 XJ) (Z8 (p:=p) w (h.below hS.below)) ?_;rintro _ w ⟨rfl,hS'⟩
 replace hS:=hS.cmp hS';clear hS'
 refine(zP)<|zlt<|Zf ?_ ?_<;>intro hc
 ·
  refine zsr<|(zV (xany (v:= .agg #[Oh,.int Oi 0])))<|zle (xsw 1 st_43 hS) ?_;clear hS;rintro w hS
  refine(On)<|zx14<|XO 1 st_43 hS ⟨_,rfl,?_⟩
  exact⟨_,Ct.zer,0,1,rfl,.inl ⟨‹¬p.Ok›,rfl,rfl,rfl⟩,slh_nil,(hS.sub (.cons _ (.cons _ .slnil))).addnil 1 3 (ints Ct.zer.y)⟩
 refine ZY<|zla (xal (cs:= [_,_]) UF hS) ?_;rintro _ w ⟨g3,rfl,hS⟩
 refine zlz<|zla (xal (cs:= [_]) ZG hS) ?_;rintro _ w ⟨g4,rfl,hS⟩
 refine zle (xsb 3 pl_3 hS) ?_;clear hS;rintro w hS
 refine zlz<|zlv xmf ?_
 replace hS:=hS.addnil 1 3 (ints Ct.zer.y)
 have hp:p.Ok:=by first|assumption|exact Od ‹_›
 have hpm:=hp.m1;have qX:=hp.m2;have hpd:=hp.d;have hs1:=hp.s1;have hs2:=hp.s2;have hk1:=hp.k1;have hk2:=hp.k2
 refine(zP)<|zlz<|(zP)<|(zV (xls 0 st_27 hS))<|zlc (xc0 Zov) (Zhi (p:=p) w (h.below hS.below)) ?_;rintro _ w ⟨dH,jr,ji,rfl,bi,cI,hS'⟩
 replace hS:=(hS.comp hS').n6;clear hS'
 refine(On)<|zlc (xcc (vs:= [_,_]) ZgJ) (Zay (p:=p) (b:=Ct.zer) (c:=jr) (most:=(-1)) (ee:=ji) (vb:=Oh) (vc:=dH) w0 w (Sat.bundle (l1:= [_,_,_,_,_]) (hS.pk [0,3,2,4,5,1])) h slh_nil cI (by have h9:=bi.q;omega)) ?_;rintro _ w ⟨rfl,fE,dY,dK,eI,cL,hS⟩
 replace hS:=Sat.unbundle (l1:= [_,_,_,_]) (l3:= []) hS
 refine zlz<|(zP)<|(zV (xls 0 st_27 hS))<|zlc (xc0 Zou) (Zhh (p:=p) w (h.below hS.below)) ?_;rintro _ w ⟨dG,jq,jh,rfl,bg,cH,hS'⟩
 replace hS:=(hS.comp hS').n6;clear hS'
 refine(On)<|zlc (xcc (vs:= [_,_]) ZgJ) (Zay (p:=p) (b:=fE) (c:=jq) (most:=dY) (ee:=jh) (vb:=dK) (vc:=dG) w0 w (Sat.bundle (l1:= [_,_,_,_,_]) (hS.pk [0,1,2,3,5,4])) h cL cH (by have h9:=bg.q;omega)) ?_;rintro _ w ⟨rfl,fD,dW,dJ,eH,cK,hS⟩
 replace hS:=Sat.unbundle (l1:= [_,_,_,_]) (l3:= []) hS
 refine zlz<|(zP)<|(zV (xls 0 st_27 hS))<|zlc (xc0 Zot) (ZeU (p:=p) w (h.below hS.below)) ?_;rintro _ w ⟨dF,jo,jg,rfl,bf,cG,hS'⟩
 replace hS:=(hS.comp hS').n6;clear hS'
 refine(On)<|zlc (xcc (vs:= [_,_]) ZgJ) (Zay (p:=p) (b:=fD) (c:=jo) (most:=dW) (ee:=jg) (vb:=dJ) (vc:=dF) w0 w (Sat.bundle (l1:= [_,_,_,_,_]) (hS.pk [0,1,2,3,5,4])) h cK cG (by have h9:=bf.q;omega)) ?_;rintro _ w ⟨rfl,ki,jF,jB,eG,aG,hS⟩
 replace hS:=Sat.unbundle (l1:= [_,_,_,_]) (l3:= []) hS
 refine zx7<|zdst [0,1,2,3,4] [0,1,2,3] 2 mx_ hS ?_;clear hS;intro w hS
 refine(zDl 0 (fun w hS=>(xls 2 st_43 hS)))<|(zDl 1 (fun w hS=>(xlb 1 pl_3 hS)))<|zde 2 (xsw 4 st_43 hS (hd:=(Za aG.one (Za rfl Zh)))) ?_;clear hS;rintro w hS
 refine⟨⟨fun h=>absurd h (by decide),hS.pk [0,1,2,3]⟩,?_⟩
 refine(zDw 3 xas)<|(zDw 4 xas)<|zdd<|ztn<|zrt<|XO 4 st_43 hS ⟨_,rfl,?_⟩
 exact⟨_,_,_,0,rfl,.inr ⟨hp,rfl,_,_,_,_,_,_,bi,bg,bf,(by rw [eG,eH,eI])⟩,aG,hS.pk [3]⟩
end Go.Proofs.YtpnamgfdakfccaaGreat
namespace Go.Proofs.Gw
open Go Go.RowKit
variable {i k lo need w:Int} {a x:Of}
def dn{α:Type}(F:Int->List α)(lo:Int):Nat->List α
  |0=> []
  |c+1=>F (lo+c)++dn F lo c
theorem UG{α:Type}(F:Int->List α)(h:lo<=k):dn F lo (k+1-lo).toNat=F k++dn F lo (k-lo).toNat:=by
 rw [show(k+1-lo).toNat=(k-lo).toNat+1 by omega]
 simp only [dn]
 rw [show lo+((k-lo).toNat:Int)=k by omega]
theorem ZgE{α:Type}{F:Int->List α}{lo:Int}:∀{c:Nat},(∀k,lo<=k->k<lo+c->F k= [])->dn F lo c= []
 |0,_=>rfl
 | c+1,h=>by
   simp only [dn]
   rw [h _ Oa Oa,ZgE fun k h0 h1=>h k h0 Oa];rfl
theorem ZfL{α:Type}{F:Int->List α}{lo:Int}{x:α}:∀{c:Nat},x∈dn F lo c->∃k,lo<=k/\k<lo+c/\x∈F k
 |0,h=>by cases h
 | c+1,h=>by
   simp only [dn,List.mem_append] at h
   rcases h with h|h
   · exact⟨_,Oa,Oa,h⟩
   · obtain⟨k,h1,h2,h3⟩:=ZfL h;exact⟨k,h1,Oa,h3⟩
theorem ZgF{α:Type}{F:Int->List α}{lo k:Int}{x:α}:∀{c:Nat},lo<=k->k<lo+c->x∈F k->x∈dn F lo c
 |0,h0,h1,h=>Oa
 | c+1,h0,h1,h=>by
   simp only [dn,List.mem_append]
   by_cases e:k=lo+c
   · subst e;exact .inl h
   · exact .inr (ZgF h0 Oa h)
def Zb6(p:Prob)(a:Of)(l:Int):Prop:=(∃i,0<=i/\i<p.m/\0<a i)/\∀i,0<=i->i<p.m->a i<p.D i->l<p.L i+p.kerf
def ZE(w i:Int):Int:=if w=i then 1 else 0
noncomputable def ext(p:Prob)(w:Int):Nat->(Of)->Int->List (Of)
  |0,a,l=> @ite _ (Zb6 p a l) (Classical.propDecidable _) [a] []
  | j +1,a,l=>dn (fun k=>ext p w j (upd a (p.m-((j:Int)+1)) k) (l-k*(p.L (p.m-((j:Int)+1))+p.kerf))) (ZE w (p.m-((j:Int)+1)))
      (min (p.D (p.m-((j:Int)+1))) (l.tdiv (p.L (p.m-((j:Int)+1))+p.kerf))+1-ZE w (p.m-((j:Int)+1))).toNat
noncomputable def exI(p:Prob)(w i:Int)(a:Of)(l:Int):List (Of):=ext p w (p.m-i).toNat a l
def most(p:Prob)(i l:Int):Int:=min (p.D i) (l.tdiv (p.L i+p.kerf))
theorem UZ{p:Prob}{l:Int}(hi:i=p.m)(h:Zb6 p a l):exI p w i a l= [a]:=by
 unfold exI;rw [show(p.m-i).toNat=0 by omega]
 show @ite _ (Zb6 p a l) (Classical.propDecidable _) [a] []=_
 rw [if_pos h]
theorem Zah{p:Prob}{l:Int}(hi:i=p.m)(h:¬Zb6 p a l):exI p w i a l= []:=by
 unfold exI;rw [show(p.m-i).toNat=0 by omega]
 show @ite _ (Zb6 p a l) (Classical.propDecidable _) [a] []=_
 rw [if_neg h]
noncomputable def kid(p:Prob)(w i:Int)(a:Of)(l:Int)(k:Int):List (Of):=exI p w (i+1) (upd a i k) (l-k*(p.L i+p.kerf))
theorem Wd{p:Prob}{l:Int}(h0:0<=i)(h1:i<p.m):exI p w i a l=dn (kid p w i a l) (ZE w i) (most p i l+1-ZE w i).toNat:=by
 unfold exI
 obtain⟨j,hj⟩:∃j:Nat,(p.m-i).toNat=j+1:=⟨(p.m-i).toNat-1,Oa⟩
 have e:p.m-((j:Int)+1)=i:=Oa
 rw [hj]
 simp only [ext]
 rw [e]
 have e2:(fun k=>ext p w j (upd a i k) (l-k*(p.L i+p.kerf)))=kid p w i a l:=by
   funext k
   unfold kid exI
   rw [show(p.m-(i+1)).toNat=j by omega]
 rw [e2];rfl
noncomputable def MX(p:Prob)(w:Int):List (Of):=exI p w 0 (fun _=>0) (p.stock+p.kerf)
structure Pfx (p:Prob) (i:Int) (a:Of) (l:Int):Prop where
  rng:∀k,0<=k->k<i->0<=a k/\a k<=p.D k
  zero:∀k,k<0\/i<=k->a k=0
  left:l=p.stock+p.kerf-ZL p a i.toNat
  l0:0<=l
theorem Pfx.start{p:Prob}(hp:p.Ok):Pfx p 0 (fun _=>0) (p.stock+p.kerf):=
 ⟨fun k h0 h1=>Oa,fun _ _=>rfl,by show _=_-Zd _ 0;simp [Zd],by have:=hp.s1;have:=hp.k1;omega⟩
theorem XF{p:Prob}(hp:p.Ok){l:Int}(h0:0<=i)(h1:i<p.m)(hl:0<=l)(k0:0<=k)(k1:k<=most p i l):k<=p.D i/\0<=k*(p.L i+p.kerf)/\k*(p.L i+p.kerf)<=l:=by
 have he:=hp.all i h0 h1
 unfold Prob.each at he
 have hk:=hp.k1
 unfold most at k1
 have h2:k<=l.tdiv (p.L i+p.kerf):=Oa
 rw [Int.tdiv_eq_ediv_of_nonneg hl] at h2
 exact⟨by omega,Int.mul_nonneg k0 Oa,(Int.le_ediv_iff_mul_le Oa).1 h2⟩
theorem Zfa{p:Prob}(h0:0<=i):ZL p (upd a i k) (i+1).toNat=ZL p a i.toNat+k*(p.L i+p.kerf):=by
 have e:ZL p (upd a i k) (i+1).toNat=ZL p (upd a i k) i.toNat+upd a i k i*(p.L i+p.kerf):=ZP _ h0
 rw [e,Zz]
 congr 1
 exact Zj fun j j0 j1=>by rw [upd_ne _ _ Oa]
theorem Pfx.step{p:Prob}(hp:p.Ok){l:Int}(h:Pfx p i a l)(h0:0<=i)(h1:i<p.m)(k0:0<=k)(k1:k<=most p i l):Pfx p (i+1) (upd a i k) (l-k*(p.L i+p.kerf)):=by
 obtain⟨g1,g2,g3⟩:=XF hp h0 h1 h.l0 k0 k1
 refine⟨fun j j0 j1=> ?_,fun j hj=> ?_,by rw [Zfa h0,h.left];omega,Oa⟩
 · by_cases e:j=i
   · rw [e,Zz];exact⟨k0,g1⟩
   · rw [upd_ne _ _ e];exact h.rng j j0 Oa
 · rw [upd_ne _ _ Oa];exact h.zero j Oa
structure MPat (p:Prob) (w:Int) (x:Of):Prop where
  rng:∀k,0<=k->k<p.m->0<=x k/\x k<=p.D k
  zero:∀k,k<0\/p.m<=k->x k=0
  used:ZL p x p.m.toNat<=p.stock+p.kerf
  maxi:Zb6 p x (p.stock+p.kerf-ZL p x p.m.toNat)
theorem ZdC{p:Prob}(hp:p.Ok){w:Int}:∀(j:Nat) {i l:Int} {a x:Of},(p.m-i).toNat=j->0<=i->i<=p.m->Pfx p i a l->x∈exI p w i a l->MPat p w x/\(∀k,k<i->x k=a k)/\(i<=w->w<p.m->1<=x w)
 | 0,i,l,a,x,hj,h0,h1,h,hx=>by
   have hi:i=p.m:=Oa
   by_cases hm:Zb6 p a l
   · rw [UZ hi hm,List.mem_singleton] at hx
     subst hx
     have hl:=h.left;have hl0:=h.l0
     rw [hi] at hl
     refine⟨⟨fun k k0 k1=>h.rng k k0 Oa,fun k hk=>h.zero k Oa,Oa,?_⟩,fun _ _=>rfl,fun _ _=>Oa⟩
     rw [<-hl];exact hm
   · rw [Zah hi hm] at hx;cases hx
 | j +1,i,l,a,x,hj,h0,h1,h,hx=>by
   rw [Wd h0 Oa] at hx
   obtain⟨k,k0,k1,hk⟩:=ZfL hx
   have hle:0<=ZE w i:=by unfold ZE;split<;>omega
   have hs:=h.step hp h0 Oa (k:=k) Oa Oa
   obtain⟨g1,g2,g3⟩:=ZdC hp j Oa Oa Oa hs hk
   refine⟨g1,fun q hq=>by rw [g2 q Oa,upd_ne _ _ Oa],fun hw hw2=> ?_⟩
   by_cases e:w=i
   · have:=g2 w Oa
     rw [e,Zz] at this
     rw [e,this]
     unfold ZE at k0;rw [if_pos e] at k0;exact k0
   · exact g3 Oa hw2
theorem ZhN{p:Prob}(hp:p.Ok)(h:x∈MX p w):MPat p w x/\(0<=w->w<p.m->1<=x w):=by
 have:=hp.m1
 obtain⟨h1,_,h3⟩:=ZdC hp _ rfl (Int.le_refl 0) Oa (Pfx.start hp) h
 exact⟨h1,h3⟩
def Lat(p:Prob):Nat->Int
  |0=>0
  |j+1=>Lat p j+p.D (p.m-((j:Int)+1))*(p.L (p.m-((j:Int)+1))+p.kerf)
def Xu(p:Prob)(i:Int):Int:=Lat p (p.m-i).toNat
theorem LatI_end{p:Prob}(h:p.m<=i):Xu p i=0:=by unfold Xu;rw [show(p.m-i).toNat=0 by omega];rfl
theorem Uw{p:Prob}(h0:0<=i)(h1:i<p.m):Xu p i=Xu p (i+1)+p.D i*(p.L i+p.kerf):=by
 unfold Xu
 obtain⟨j,hj⟩:∃j:Nat,(p.m-i).toNat=j+1:=⟨(p.m-i).toNat-1,Oa⟩
 rw [hj,show(p.m-(i+1)).toNat=j by omega]
 simp only [Lat]
 rw [show p.m-((j:Int)+1)=i by omega]
theorem Zb8{p:Prob}(hp:p.Ok):∀(j:Nat) {i:Int},(p.m-i).toNat=j->0<=i->i<=p.m->0<=Xu p i/\Xu p i<=(p.m-i)*2100000
 |0,i,hj,h0,h1=>by rw [LatI_end Oa,show p.m-i=0 by omega];omega
 | j+1,i,hj,h0,h1=>by
   have ih:=Zb8 hp j (i:=i+1) Oa Oa Oa
   rw [Uw h0 Oa]
   have he:=hp.all i h0 Oa
   unfold Prob.each at he
   have:=hp.k1;have:=hp.k2;have:=hp.s2
   have a1:=Int.mul_nonneg he.2.2.2.1 (show 0<=p.L i+p.kerf by omega)
   have a2:p.D i*(p.L i+p.kerf)<=1000*2100:=Int.mul_le_mul he.2.2.2.2 Oa Oa Oa
   have e:(p.m-i)*2100000=(p.m-(i+1))*2100000+2100000:=Oa
   omega
theorem ZaH{p:Prob}(hp:p.Ok)(h0:0<=i):0<=Xu p i/\Xu p i<=42000000:=by
 by_cases h:i<=p.m
 · have:=Zb8 hp _ rfl h0 h;have:=hp.m2;omega
 · rw [LatI_end Oa];omega
structure NeedP (p:Prob) (a:Of) (i need:Int):Prop where
  top:need<=p.stock+p.kerf+1
  all:∀k,0<=k->k<i->a k<p.D k->need<=p.L k+p.kerf
  ex:need=p.stock+p.kerf+1\/∃k,0<=k/\k<i/\a k<p.D k/\p.L k+p.kerf=need
theorem NeedP.start(p:Prob):NeedP p (fun _=>0) 0 (p.stock+p.kerf+1):=⟨Int.le_refl _,fun k h0 h1=>Oa,.inl rfl⟩
theorem NeedP.yes{p:Prob}(h:NeedP p a i need)(h0:0<=i)(hk:k<p.D i):NeedP p (upd a i k) (i+1) (min need (p.L i+p.kerf)):=by
 refine⟨by have:=h.top;omega,fun j j0 j1 hj=> ?_,?_⟩
 · by_cases e:j=i
   · rw [e];omega
   · rw [upd_ne _ _ e] at hj
     have:=h.all j j0 Oa hj;omega
 · by_cases hm:need<=p.L i+p.kerf
   · rw [Int.min_eq_left hm]
     rcases h.ex with h2|⟨j,j0,j1,j2,j3⟩
     · exact .inl h2
     · exact .inr ⟨j,j0,Oa,by rw [upd_ne _ _ Oa];exact j2,j3⟩
   · rw [Int.min_eq_right Oa]
     exact .inr ⟨i,h0,Oa,by rw [Zz];exact hk,rfl⟩
theorem NeedP.no{p:Prob}(h:NeedP p a i need)(h0:0<=i)(hk:¬k<p.D i):NeedP p (upd a i k) (i+1) need:=by
 refine⟨h.top,fun j j0 j1 hj=> ?_,?_⟩
 · by_cases e:j=i
   · rw [e,Zz] at hj;exact absurd hj hk
   · rw [upd_ne _ _ e] at hj
     exact h.all j j0 Oa hj
 · rcases h.ex with h2|⟨j,j0,j1,j2,j3⟩
   · exact .inl h2
   · exact .inr ⟨j,j0,Oa,by rw [upd_ne _ _ Oa];exact j2,j3⟩
theorem ZdD{p:Prob}(hp:p.Ok){w:Int}:∀(j:Nat) {i l:Int} {a:Of},(p.m-i).toNat=j->0<=i->i<=p.m->0<=l->(∃k,0<=k/\k<i/\a k<p.D k/\p.L k+p.kerf<=l-Xu p i)->exI p w i a l= []
 | 0,i,l,a,hj,h0,h1,hl,⟨k,k0,k1,k2,k3⟩=>by
   refine Zah Oa fun hm=> ?_
   rw [LatI_end Oa] at k3
   have:=hm.2 k k0 Oa k2
   omega
 | j+1,i,l,a,hj,h0,h1,hl,⟨k,k0,k1,k2,k3⟩=>by
   rw [Wd h0 Oa]
   have hle:0<=ZE w i:=by unfold ZE;split<;>omega
   refine ZgE fun c c0 c1=> ?_
   obtain⟨g1,g2,g3⟩:=XF hp h0 Oa hl (k:=c) Oa Oa
   refine ZdD hp j Oa Oa Oa Oa ⟨k,k0,Oa,by rw [upd_ne _ _ Oa];exact k2,?_⟩
   rw [Uw h0 Oa] at k3
   have he:=hp.all i h0 Oa
   unfold Prob.each at he
   have:=hp.k1
   have:c*(p.L i+p.kerf)<=p.D i*(p.L i+p.kerf):=Int.mul_le_mul_of_nonneg_right g1 Oa
   omega
theorem Zdg{p:Prob}(hp:p.Ok){l:Int}(h0:0<=i)(h1:i<=p.m)(h:Pfx p i a l)(hn:NeedP p a i need)(hg:need<=l-Xu p i):exI p w i a l= []:=by
 refine ZdD hp _ rfl h0 h1 h.l0 ?_
 have hL:=(ZaH hp h0).1
 have hu:0<=ZL p a i.toNat:=Z4 fun j j0 j1=>by
   have:=h.rng j j0 Oa
   have he:=hp.all j j0 Oa
   unfold Prob.each at he
   have:=hp.k1
   exact Int.mul_nonneg Oa Oa
 have hl:=h.left
 rcases hn.ex with h2|⟨k,k0,k1,k2,k3⟩
 · omega
 · exact⟨k,k0,k1,k2,Oa⟩
theorem X9{p:Prob}{l:Int}(hi:i=p.m)(hn:NeedP p a i need)(hl:l<need)(hz:∃k,0<=k/\k<p.m/\0<a k):exI p w i a l= [a]:=
 UZ hi ⟨hz,fun k k0 k1 hk=>by have:=hn.all k k0 Oa hk;omega⟩
theorem UU{p:Prob}{l:Int}(hi:i=p.m)(hz:¬∃k,0<=k/\k<p.m/\0<a k):exI p w i a l= []:=
 Zah hi fun h=>hz h.1
def Yt(l:List (Of))(k:Int):Of:=l.getD k.toNat (fun _=>0)
def Ls(m u:Int)(f:Og)(l:List (Of)):Prop:=u=l.length/\∀k,0<=k->k<u->∀j,0<=j->j<m->f k j=Yt l k j
theorem Ls.nil{m:Int}{f:Og}:Ls m 0 f []:=⟨rfl,fun k h0 h1=>Oa⟩
theorem Zik{l m:List (Of)}(h0:0<=k)(h1:k<l.length):Yt (l++m) k=Yt l k:=by
 unfold Yt;rw [List.getD_eq_getElem?_getD,List.getD_eq_getElem?_getD,List.getElem?_append_left Oa]
theorem Zil{l:List (Of)}(h:k=l.length):Yt (l++ [x]) k=x:=by
 unfold Yt;rw [List.getD_eq_getElem?_getD,h,Int.toNat_natCast,List.getElem?_append_right (Nat.le_refl _)];simp
theorem Zbd{l:List (Of)}(h0:0<=k)(h1:k<l.length):Yt l k∈l:=by
 unfold Yt
 have:k.toNat<l.length:=Oa
 rw [List.getD_eq_getElem?_getD,List.getElem?_eq_getElem this];exact List.getElem_mem this
theorem Ls.snoc{m u:Int}{f:Og}{l:List (Of)}{g:Of}(h:Ls m u f l)(hg:∀j,0<=j->j<m->g j=x j):Ls m (u+1) (gsn f u g) (l++ [x]):=by
 obtain⟨h1,h2⟩:=h
 refine⟨by simp [h1],fun k k0 k1 j j0 j1=> ?_⟩
 by_cases e:k<u
 · rw [Zv e,h2 k k0 e j j0 j1,Zik k0 Oa]
 · rw [ZF e,Zil Oa];exact hg j j0 j1
end Go.Proofs.Gw
namespace Go.Proofs.YtpnamgfdakfccaaGreat
open Go Go.RowKit Go.Proofs.Gw
theorem Zfw{p:Prob}(hp:p.Ok){i l q:Int}{a:Of}(h:Pfx p i a l)(q0:0<=q)(q1:q<=i)(i1:i<=p.m):0<=ZL p a q.toNat/\ZL p a q.toNat<=42000000:=by
 have h1:=UA (f:=fun i=>a i*(p.L i+p.kerf)) (A:=2100000) (n:=q.toNat) (fun j j0 j1=>by
   have hr:=h.rng j j0 Oa
   have he:=hp.all j j0 Oa
   unfold Prob.each at he
   have:=hp.k1;have:=hp.k2;have:=hp.s2
   exact⟨Int.mul_nonneg hr.1 Oa,Int.le_trans (Int.mul_le_mul (show a j<=1000 by omega) (show p.L j+p.kerf<=2100 by omega) Oa Oa) Oa⟩)
 have:=hp.m2
 unfold ZL
 refine⟨h1.1,Int.le_trans h1.2 ?_⟩
 have:((q.toNat:Nat):Int)*2100000=q*2100000:=by rw [Int.toNat_of_nonneg q0]
 omega
theorem Zkw{p:Prob}(hp:p.Ok){i l:Int}{a:Of}(h:Pfx p i a l)(h0:0<=i)(i1:i<=p.m):l<=p.stock+p.kerf:=by
 have:=Zfw hp h h0 (Int.le_refl _) i1;have:=h.left;omega
def ZoS(p:Prob)(wi u:Int)(f:Og)(e:Int):Prop:=(¬p.Ok/\e=1/\u=0)\/(p.Ok/\¬(0<=wi/\wi<p.m)/\e=2/\u=0)\/
  (p.Ok/\(0<=wi/\wi<p.m)/\300<(MX p wi).length/\e=9/\u=0)\/(p.Ok/\(0<=wi/\wi<p.m)/\(MX p wi).length<=300/\e=0/\Ls p.m u f (MX p wi))
theorem ZlL:Zc Om 280=true:=Oc
theorem ZmS{x:Int}(w0:World):
   Calls Om 280 [.int Oi x].toArray w0 fun e w=>∃v,e= .returned v/\v=B (0<x)/\Sat w0 w []:=by
 refine zenG Tryz.func280 Tryz.ntmps280 fun w hS=> ?_
 refine zsr<|(zP)<|zlz<|(Oo)<|zx1<|Oj ?_
 exact⟨Zm Oa,hS⟩
theorem Zm0{v:Value}{n:Int}{f:Of}(w0:World)(hR:Row w0 v 1 n (ints f)):
   Calls Om 147 [v,.func (.func 280) #[] #[]].toArray w0 fun e w=>∃v,e= .returned v/\∃r:Int,v= .int Oi r/\((r= -1/\∀k,0<=k->k<n->¬(0<f k))\/(0<=r/\r<n/\(0<f r)))/\Sat w0 w []:=by
 have hn:=hR.slh.n0;have hn1:=hR.slh.n1
 refine zenG Tryz.func147 Tryz.ntmps147 fun w hS=> ?_
 refine zsr<|(zP)<|zx5<|(zP)<|(zV (xln Zb hR.slh))<|(zP)<|zx6<|zlp (fun mm M w=>∃(i:Int),mm=((n-i).toNat)/\(0<=i)/\(i<=n)/\(∀k,0<=k->k<i->¬(0<f k))/\M= [(0,v),(1,.func (.func 280) #[] #[]),(7,.int Oi n),(8,.int Oi i)]/\Sat w0 w []) ⟨0,rfl,Oa,Oa,?_,rfl,hS⟩ ?_
 ·
  intro k h0 h1;omega
 clear hS w
 rintro mm M w ⟨i,rfl,h0,h1,qa,rfl,hS⟩
 refine zsr<|(zP)<|zx7<|Zf ?_ ?_<;>intro hc
 ·
  refine zx3<|(On)<|zlz<|(Oo)<|(zV (xix (kk:=i) Zb hR.slh))<|(zV (xlr (u:= .int Oi (f i)) pl_3 (hR.below hS.below)))<|zlc (xc0 ZlL) (ZmS (x:=(f i)) w) ?_;rintro _ w ⟨rfl,hS'⟩
  replace hS:=hS.cmp hS';clear hS'
  refine zlt<|Zf ?_ ?_<;>intro hc
  ·
   refine zsr<|(On)<|zx2<|Oj ?_
   exact⟨i,rfl,.inr ⟨by omega,Oa,‹0<f i›⟩,hS⟩
  refine zx4<|(zV (Zg (r:=i+1)))<|(zP)<|zln<|zlq ⟨i+1,rfl,Oa,Oa,?_,rfl,hS⟩
  ·
   intro k h0' h1';rcases Int.lt_or_eq_of_le (show k<=i by omega) with hk|hk;exact qa k h0' hk;rw [hk];assumption
 refine zx8<|(zP)<|zx1<|Oj ?_
 exact⟨-1,rfl,.inl ⟨rfl,fun k h0 h1=>qa k h0 Oa⟩,hS⟩
theorem Znb{v:Value}{n:Int}{f:Of}(w0:World)(hR:Row w0 v 1 n (ints f)):
   Calls Om 90 [v,.func (.func 280) #[] #[]].toArray w0 fun e w=>∃v,e= .returned v/\v=B (∃k,0<=k/\k<n/\0<f k)/\Sat w0 w []:=by
 refine zenG Tryz.func90 Tryz.ntmps90 fun w hS=> ?_
 refine zsr<|(zP)<|zlz<|(On)<|zlc (xc0 WN) (Zm0 (n:=n) (f:=f) w (hR.below hS.below)) ?_;rintro _ w ⟨r1,rfl,hr1,hS'⟩
 replace hS:=hS.cmp hS';clear hS'
 refine(On)<|zx1<|Oj ?_
 exact⟨Zm (by
  rcases hr1 with⟨h1,h2⟩|⟨h1,h2,h3⟩
  · exact⟨fun h=>Oa,fun⟨k,h4,h5,h6⟩=>absurd h6 (h2 k h4 h5)⟩
  · exact⟨fun _=>⟨_,h1,h2,h3⟩,fun _=>h1⟩),hS⟩
end Go.Proofs.YtpnamgfdakfccaaGreat
namespace Go.Proofs.Gw
open Go Go.RowKit
noncomputable def Frame.cd(p:Prop)(F G:Frame):Frame:= @ite _ p (Classical.propDecidable p) F G
theorem YX{p:Prop}{F G:Frame}(h:p):Frame.cd p F G=F:=if_pos h
theorem Wy{p:Prop}{F G:Frame}(h:¬p):Frame.cd p F G=G:=if_neg h
structure BX where
  v:Value
  n:Int
  f:Of
theorem Vy{f:Of}{i x:Int}(h:f i=x):upd f i x=f:=by
 funext k;unfold upd;split
 · rename_i e;rw [e,h]
 · rfl
theorem Xv(f:Of)(i x y:Int):upd (ints (upd f i x)) i (.int Oi y)=ints (upd f i y):=by
 funext k;unfold upd ints;dsimp only;split<;>rfl
end Go.Proofs.Gw
namespace Go.Proofs.YtpnamgfdakfccaaGreat
open Go Go.RowKit Go.Proofs.Gw
theorem ZeT{vL vD:Value}{p:Prob}{wi:Int}(w0:World)(h:PAt w0 vL vD p)(hp:p.Ok):
   Calls Om 222 [.agg #[vL,vD,.int Oi p.stock,.int Oi p.kerf],.int Oi wi].toArray w0 fun e w=>∃v,e= .returned v/\∃g2 g3 g5 g6 vl,v= .func (.func 278) #[] #[Or g5,Or g6,Or g3,Or g2]/\Slh vl (p.m+1)/\Sat w0 w [.blk g2 [vL,vD,.int Oi p.stock,.int Oi p.kerf],.blk g3 [.int Oi wi],.blk g5 [.int Oi p.m],.blk g6 [vl],.own vl 1 3 (p.m+1) (ints (Xu p))]:=by
 obtain⟨hm,hm1,hd,hd1,hs,hk⟩:=h.Oq
 have hpm:=hp.m1;have qX:=hp.m2;have hpd:=hp.d;have hs1:=hp.s1;have hs2:=hp.s2;have hk1:=hp.k1;have hk2:=hp.k2
 refine zenG Tryz.func222 Tryz.ntmps222 fun w hS=> ?_
 refine zsr<|zla (xbx (cs:= [_,_,_,_]) hS) ?_;rintro _ w ⟨g1,rfl,hS⟩
 refine zla (xbx (cs:= [_]) hS) ?_;rintro _ w ⟨g2,rfl,hS⟩
 refine(zP)<|zlz<|(zV (xfb 0 fd_27_0))<|(zV (xlb 0 pl_22 hS))<|(zV (xln Zb h.L.slh))<|zla (xal (cs:= [_]) ZG hS) ?_;rintro _ w ⟨g3,rfl,hS⟩
 refine zle (xsb 2 pl_3 hS) ?_;clear hS;rintro w hS
 refine zlz<|(zV (xlb 2 pl_3 hS))<|(zV (Zg (r:=p.m+1)))<|zla (xmk Zb ZG hS) ?_;rintro v1 w ⟨hS,hv1⟩
 refine zla (xal (cs:= [_]) Yj hS) ?_;rintro _ w ⟨g4,rfl,hS⟩
 refine zle (xsb 4 pl_22 hS (hv:=hv1.one)) ?_;clear hS;rintro w hS
 refine zx5<|(zV (xlb 2 pl_3 hS))<|(zV (Zp (r:=p.m-1)))<|(zP)<|zx6<|zlp (fun mm M w=>∃(g:Of) (i:Int),mm=((i+1).toNat)/\(-1<=i)/\(i<p.m)/\(∀k,i<k->k<=p.m->g k=Xu p k)/\M= [(2,Or g1),(3,Or g2),(4,(Value.nilFunc)),(5,Or g3),(6,Or g4),(7,.int Oi i)]/\Sat w0 w [.blk g1 [vL,vD,.int Oi p.stock,.int Oi p.kerf],.blk g2 [.int Oi wi],.blk g3 [.int Oi p.m],.own v1 1 3 (p.m+1) (ints g),.blk g4 [v1]]) ⟨(fun _=>0),p.m-1,rfl,Oa,Oa,?_,rfl,hS⟩ ?_
 ·
  intro k k0 k1;rw [LatI_end Oa]
 clear hS w
 rintro mm M w ⟨g,i,rfl,h0,h1,hg,rfl,hS⟩
 refine zsq<|zsr<|(On)<|zlt<|Zf ?_ ?_<;>intro hc
 ·
  refine zsk<|ztn<|zsq<|zbk<|zdst [0,1,2,3,4] [0,1,2,4] 18 mx_ hS ?_;clear hS;intro w hS
  refine(zDl 0 (fun w hS=>(xlb 3 pl_22 hS)))<|(zDw 1 xmv)<|(zDl 2 (fun w hS=>(xlb 3 pl_22 hS)))<|(zDw 3 xmv)<|(zDw 4 (Zg (r:=i+1)))<|(zDw 5 (xix (kk:=i+1) Zb hv1))<|zdl 6 (fun w hS=>(xlr (u:= .int Oi (g (i+1))) pl_3 (hS.rowN 3 rfl))) ?_
  have hei:=hp.all i Oa Oa;unfold Prob.each at hei
  have hLn:=ZaH hp (i:=i+1) Oa
  have hgn:=hg (i+1) Oa Oa
  have hml:0<=p.D i*(p.L i+p.kerf)/\p.D i*(p.L i+p.kerf)<=2100000:=⟨Int.mul_nonneg Oa Oa,Int.le_trans (Int.mul_le_mul (show p.D i<=1000 by omega) (show p.L i+p.kerf<=2100 by omega) Oa Oa) Oa⟩
  refine(zDw 7 (xfb 1 fd_27_1))<|(zDl 8 (fun w hS=>(xlb 0 pl_22 hS)))<|(zDw 9 xmv)<|(zDw 10 (xix (kk:=i) Zb h.D.slh))<|YB 11 (fun w hS=>(xlr (u:= .int Oi (p.D i)) pl_3 (h.D.below hS.below))) ?_
  have hbv:=h.iD i
  refine(zDl 12 (fun w hS=>(xls 0 st_27 hS)))<|(zDw 13 xmv)<|zdc 14 (xc0 XI) (XK (p:=p) (i:=i) w (h.below hS.below) hp Oa Oa) ?_;rintro _ w ⟨rfl,hS'⟩
  replace hS:=hS.cmp hS';clear hS'
  refine⟨⟨fun _=>hS,hS.pk [0,1,2,4]⟩,?_⟩
  refine zDrv 15 (Yf (r:=((p.D i)*(p.L i+p.kerf))) (e:=rfl) (hr:=(by unfold I64;omega))) ?_
  refine(zDw 16 (Zg (r:=g (i+1)+((p.D i)*(p.L i+p.kerf)))))<|(zDw 17 (xix (kk:=i) Zb hv1))<|zde 18 (xso 3 pl_3 hS (ZA _ _ _)) ?_;clear hS;rintro w hS
  refine⟨⟨fun h=>absurd h (by decide),hS.pk [0,1,2,4]⟩,?_⟩
  refine zdd<|zbn<|ztn<|zrg ?_
  refine(zP)<|(zV (Zp (r:=i-1)))<|(zP)<|zln<|zlq ⟨(upd g i (g (i+1)+((p.D i)*(p.L i+p.kerf)))),i-1,rfl,Oa,Oa,?_,rfl,hS⟩
  ·
   intro k k0 k1;by_cases e:k=i
   · rw [e,Zz,Uw Oa h1,<-hg (i+1) Oa Oa]
   · rw [upd_ne _ _ e];exact hg k Oa k1
 refine zx8<|(zV xmf)<|(zP)<|zx1<|Oj ?_
 have hi:i= -1:=Oa
 replace hS:=hS.recont 3 rfl (d:=ints (Xu p)) (fun k k0 k1=>by unfold ints;rw [hg k Oa Oa])
 exact⟨_,_,_,_,_,rfl,hv1,hS.pk [0,1,2,4,3]⟩
theorem TL:Zc Om 279=true:=Oc
theorem Uf:ZB Om 339=true:=Oc
theorem Zi9 {vL vD:Value} {p:Prob} (hp:p.Ok) {wi:Int} {St Tt:Type} (qc:St->List (Of)) (Inv:St->Prop) (Stp:Tt->Prop) (t0:Tt) {g2 g3 g5 g6:Nat} {vl:Value} (hvl:Slh vl (p.m+1)) {lq:Nat} {C:St->Gw.Frame} {D:Tt->Gw.Frame} (N:Nat):∀{F:Gw.Frame} {s:St} {ga gy gv:Nat} {va:Value} {a:Of} {i l need:Int} {pre post:List (Of)} (w0 w:World) (hS:Sat w0 w [.sem (C s),.blk g2 [vL,vD,.int Oi p.stock,.int Oi p.kerf],.blk g3 [.int Oi wi],.blk g5 [.int Oi p.m],.blk g6 [vl],.own vl 1 3 (p.m+1) (ints (Xu p)),.blk ga [va],.own va 1 3 p.m (ints a),.blk gy [.func (.yield lq) #[] #[]],.blk gv [.func (.func 279) #[] #[Or g6,Or g5,Or ga,Or gy,Or g3,Or g2,Or gv]],.sem F]) (h:PAt w0 vL vD p) (hva:Slh va p.m) (h0:0<=i) (h1:i<=p.m) (hx:Pfx p i a l) (hn:NeedP p a i need) (hI:Inv s) (hh:qc s=pre) (hM:MX p wi=pre++(exI p wi i a l++post)) (hY:∀(s:St) (x:BX) (rest:Gw.Frame) (w:World),(fun(s:St) (x:BX) (rest:Gw.Frame)=>Inv s/\Slh x.v x.n/\x.n=p.m/\∃r,MX p wi=qc s++x.f::r) s x rest->Sat w0 w (.sem (C s)::([.blk g2 [vL,vD,.int Oi p.stock,.int Oi p.kerf],.blk g3 [.int Oi wi],.blk g5 [.int Oi p.m],.blk g6 [vl],.own vl 1 3 (p.m+1) (ints (Xu p))]++((fun(x:BX)=> [.own x.v 1 3 x.n (ints x.f)]) x++ [.sem rest])))->Yld Om lq [x.v] w fun v w'=>(v= .bool true/\∃s',(fun(s:St) (x:BX) (s1:St)=>qc s1=qc s++ [x.f]/\Inv s1) s x s'/\Sat w0 w' (.sem (C s')::([.blk g2 [vL,vD,.int Oi p.stock,.int Oi p.kerf],.blk g3 [.int Oi wi],.blk g5 [.int Oi p.m],.blk g6 [vl],.own vl 1 3 (p.m+1) (ints (Xu p))]++ [.sem rest])))\/(v= .bool false/\∃t,Stp t/\Sat w0 w' (.sem (D t)::([.blk g2 [vL,vD,.int Oi p.stock,.int Oi p.kerf],.blk g3 [.int Oi wi],.blk g5 [.int Oi p.m],.blk g6 [vl],.own vl 1 3 (p.m+1) (ints (Xu p))]++ [.sem rest])))) (hN:(p.m-i).toNat<N),
   Calls Om 279 [.int Oi i,.int Oi l,.int Oi need,Or g6,Or g5,Or ga,Or gy,Or g3,Or g2,Or gv].toArray w fun e w=>∃v,e= .returned v/\∃(ok:Prop) (s2:St) (t2:Tt) (a2:Of),v=B ok/\(ok->a2=a/\Inv s2/\qc s2=pre++exI p wi i a l)/\(¬ok->Stp t2)/\Sat w0 w [.sem (Frame.cd ok (C s2) (D t2)),.blk g2 [vL,vD,.int Oi p.stock,.int Oi p.kerf],.blk g3 [.int Oi wi],.blk g5 [.int Oi p.m],.blk g6 [vl],.own vl 1 3 (p.m+1) (ints (Xu p)),.blk ga [va],.own va 1 3 p.m (ints a2),.blk gy [.func (.yield lq) #[] #[]],.blk gv [.func (.func 279) #[] #[Or g6,Or g5,Or ga,Or gy,Or g3,Or g2,Or gv]],.sem F]:=by
 induction N with
 |zero=>intros;omega
 | succ N ih=>
   intro F s ga gy gv va a i l need pre post w0 w hS h hva h0 h1 hx hn hI hh hM hY hN
   have hm:=h.L.slh.n0;have hm1:=h.L.slh.n1;have hdn:=h.D.slh.n0;have gU:=h.D.slh.n1;have hs:=h.is;have hk:=h.ik
   have hpm:=hp.m1;have qX:=hp.m2;have hpd:=hp.d;have hs1:=hp.s1;have hs2:=hp.s2;have hk1:=hp.k1;have hk2:=hp.k2
   have hlx:=Zkw hp hx h0 h1;have hl0:=hx.l0;have hLn:=ZaH hp h0;have hnt:=hn.top
   refine ZfZ Tryz.func279 Tryz.ntmps279 ?_
   refine hsq<|hrz ?_
   refine(zP)<|zln<|zh<|htn<|hsq<|hsq<|hrz ?_
   refine(zP)<|(zV (xlb 4 pl_22 hS))<|(zP)<|(zV (xix (kk:=i) Zb hvl))<|(zV (xlr (u:= .int Oi (Xu p i)) pl_3 (hS.rowN 5 rfl)))<|(zV (Zp (r:=l-(Xu p i))))<|(On)<|zln<|zh<|htn ?_
   refine YS ?_ ?_<;>intro hc
   ·
    refine hsq<|hrz ?_
    refine(zP)<|zln<|zh<|htn<|hrt<|ztr<|Oj ?_
    exact⟨True,s,t0,a,(ZS trivial).symm,fun _=>⟨rfl,hI,by first|rw [Zdg hp h0 h1 hx hn Oa,hh,List.append_nil]|rw [UU Oa ‹_›,hh,List.append_nil]⟩,fun hq=>absurd trivial hq,by rw [YX trivial];exact hS.pk [0,1,2,3,4,5,6,7,8,9,10]⟩
   refine hsk<|htn<|hsq<|hsq<|hrz ?_
   refine(zP)<|(zV (xlb 3 pl_3 hS))<|(zP)<|zln<|zh<|htn ?_
   refine YS ?_ ?_<;>intro hc
   ·
    refine hsq<|hrz ?_
    refine(zV (xlb 6 pl_22 hS))<|zlc (xc0 UH) (Znb (n:=p.m) (f:=a) w (hS.rowN 7 rfl)) ?_;rintro _ w ⟨rfl,hS'⟩
    replace hS:=hS.cmp hS';clear hS'
    refine(On)<|zlb 14 ?_ ?_<;>intro hc
    ·
     refine zln<|zh<|htn<|hsq ?_
     refine hdr 8 mx_ hS ?_;clear hS;intro w hS
     refine hd1 0 ?_
     refine hov xmv ?_
     refine hd1 1 ?_
     refine hov xmv ?_
     refine hd2 2 3 ?_ ?_
     ·
      refine hof ?_
      refine hd1 3 ?_
      refine hof ?_
      refine hd1 4 ?_
      refine hof ?_
      refine hd1 5 ?_
      refine hof ?_
      refine hd1 6 ?_
      refine hov xpt ?_
      refine hd1 7 ?_
      refine hov xas ?_
      refine hd0<|htn<|hrt<|ztr<|Oj ?_
      exact⟨True,s,t0,a,(ZS trivial).symm,fun _=>⟨rfl,hI,by first|rw [Zdg hp h0 h1 hx hn Oa,hh,List.append_nil]|rw [UU Oa ‹_›,hh,List.append_nil]⟩,fun hq=>absurd trivial hq,by rw [YX trivial];exact hS.pk [0,1,2,3,4,5,6,7,8,9,10]⟩
     ·
      refine hof ?_
      refine hd2 2 4 ?_ ?_
      ·
       refine hof ?_
       refine hd1 4 ?_
       refine hof ?_
       refine hd1 5 ?_
       refine hof ?_
       refine hd1 6 ?_
       refine hov xpt ?_
       refine hd1 7 ?_
       refine hov xas ?_
       refine hd0<|htn<|hrt<|ztr<|Oj ?_
       exact⟨True,s,t0,a,(ZS trivial).symm,fun _=>⟨rfl,hI,by first|rw [Zdg hp h0 h1 hx hn Oa,hh,List.append_nil]|rw [UU Oa ‹_›,hh,List.append_nil]⟩,fun hq=>absurd trivial hq,by rw [YX trivial];exact hS.pk [0,1,2,3,4,5,6,7,8,9,10]⟩
      ·
       refine hof ?_
       refine hd1 2 ?_
       refine hof ?_
       refine hd1 5 ?_
       refine hof ?_
       refine hd1 6 ?_
       refine hov xpt ?_
       refine hd1 7 ?_
       refine hov xas ?_
       refine hd0<|htn<|hrt<|ztr<|Oj ?_
       exact⟨True,s,t0,a,(ZS trivial).symm,fun _=>⟨rfl,hI,by first|rw [Zdg hp h0 h1 hx hn Oa,hh,List.append_nil]|rw [UU Oa ‹_›,hh,List.append_nil]⟩,fun hq=>absurd trivial hq,by rw [YX trivial];exact hS.pk [0,1,2,3,4,5,6,7,8,9,10]⟩
    refine zln<|zh<|htn<|hsq ?_
    refine hdr 8 mx_ hS ?_;clear hS;intro w hS
    refine hd1 0 ?_
    refine hov xmv ?_
    refine hd1 1 ?_
    refine hov xmv ?_
    refine hd2 2 3 ?_ ?_
    ·
     refine hov (xlb 8 pl_241 hS) ?_
     refine hd1 3 ?_
     refine hov (xlb 6 pl_22 hS) ?_
     refine hd1 4 ?_
     refine hoc (xc0 cl_66) (c_clone (n:=p.m) (f:=a) w (hS.rowN 7 rfl) Oa) ?_;rintro vq1 w ⟨_,rfl,qb,hS'⟩
     replace hS:=(hS.comp hS').n12;clear hS'
     refine hd1 5 ?_
     replace hS:=hS.pk [0,1,2,3,4,5,11,6,7,8,9,10]
     refine hoy (hY s ⟨vq1,p.m,a⟩ _ w ⟨hI,qb,rfl,post,by rw [hM,X9 Oa hn (by rw [LatI_end Oa] at*;omega) (Od ‹_›),hh];rfl⟩ (Sat.bundle (l1:= [_,_,_,_,_,_,_]) hS)) ?_;rintro _ w (⟨rfl,sy1,qu,hS⟩|⟨rfl,ty1,xb,hS⟩)
     ·
      replace hS:=Sat.unbundle (l1:= [_,_,_,_,_,_]) (l3:= []) hS
      refine hd1 6 ?_
      refine hov xpf ?_
      refine hd1 7 ?_
      refine hov xas ?_
      refine hd0<|htn<|hrt<|ztr<|Oj ?_
      exact⟨True,sy1,t0,a,(ZS trivial).symm,fun _=>⟨rfl,qu.2,by rw [X9 Oa hn (by rw [LatI_end Oa] at*;omega) (Od ‹_›),qu.1,hh]⟩,fun hq=>absurd trivial hq,by rw [YX trivial];exact hS.pk [0,1,2,3,4,5,6,7,8,9,10]⟩
     ·
      replace hS:=Sat.unbundle (l1:= [_,_,_,_,_,_]) (l3:= []) hS
      refine hd1 6 ?_
      refine hov xpf ?_
      refine hd1 7 ?_
      refine hov xas ?_
      refine hd0<|htn<|hrt<|ztr<|Oj ?_
      exact⟨False,s,ty1,a,(Zy not_false).symm,fun hq=>hq.elim,fun _=>xb,by rw [Wy not_false];exact hS.pk [0,1,2,3,4,5,6,7,8,9,10]⟩
    ·
     refine hov (xlb 6 pl_22 hS) ?_
     refine hd2 2 4 ?_ ?_
     ·
      refine hov (xlb 8 pl_241 hS) ?_
      refine hd1 4 ?_
      refine hoc (xc0 cl_66) (c_clone (n:=p.m) (f:=a) w (hS.rowN 7 rfl) Oa) ?_;rintro vq1 w ⟨_,rfl,qb,hS'⟩
      replace hS:=(hS.comp hS').n12;clear hS'
      refine hd1 5 ?_
      replace hS:=hS.pk [0,1,2,3,4,5,11,6,7,8,9,10]
      refine hoy (hY s ⟨vq1,p.m,a⟩ _ w ⟨hI,qb,rfl,post,by rw [hM,X9 Oa hn (by rw [LatI_end Oa] at*;omega) (Od ‹_›),hh];rfl⟩ (Sat.bundle (l1:= [_,_,_,_,_,_,_]) hS)) ?_;rintro _ w (⟨rfl,sy1,qu,hS⟩|⟨rfl,ty1,xb,hS⟩)
      ·
       replace hS:=Sat.unbundle (l1:= [_,_,_,_,_,_]) (l3:= []) hS
       refine hd1 6 ?_
       refine hov xpf ?_
       refine hd1 7 ?_
       refine hov xas ?_
       refine hd0<|htn<|hrt<|ztr<|Oj ?_
       exact⟨True,sy1,t0,a,(ZS trivial).symm,fun _=>⟨rfl,qu.2,by rw [X9 Oa hn (by rw [LatI_end Oa] at*;omega) (Od ‹_›),qu.1,hh]⟩,fun hq=>absurd trivial hq,by rw [YX trivial];exact hS.pk [0,1,2,3,4,5,6,7,8,9,10]⟩
      ·
       replace hS:=Sat.unbundle (l1:= [_,_,_,_,_,_]) (l3:= []) hS
       refine hd1 6 ?_
       refine hov xpf ?_
       refine hd1 7 ?_
       refine hov xas ?_
       refine hd0<|htn<|hrt<|ztr<|Oj ?_
       exact⟨False,s,ty1,a,(Zy not_false).symm,fun hq=>hq.elim,fun _=>xb,by rw [Wy not_false];exact hS.pk [0,1,2,3,4,5,6,7,8,9,10]⟩
     ·
      refine hoc (xc0 cl_66) (c_clone (n:=p.m) (f:=a) w (hS.rowN 7 rfl) Oa) ?_;rintro vq1 w ⟨_,rfl,qb,hS'⟩
      replace hS:=(hS.comp hS').n12;clear hS'
      refine hd1 2 ?_
      refine hov (xlb 8 pl_241 hS) ?_
      refine hd1 5 ?_
      replace hS:=hS.pk [0,1,2,3,4,5,11,6,7,8,9,10]
      refine hoy (hY s ⟨vq1,p.m,a⟩ _ w ⟨hI,qb,rfl,post,by rw [hM,X9 Oa hn (by rw [LatI_end Oa] at*;omega) (Od ‹_›),hh];rfl⟩ (Sat.bundle (l1:= [_,_,_,_,_,_,_]) hS)) ?_;rintro _ w (⟨rfl,sy1,qu,hS⟩|⟨rfl,ty1,xb,hS⟩)
      ·
       replace hS:=Sat.unbundle (l1:= [_,_,_,_,_,_]) (l3:= []) hS
       refine hd1 6 ?_
       refine hov xpf ?_
       refine hd1 7 ?_
       refine hov xas ?_
       refine hd0<|htn<|hrt<|ztr<|Oj ?_
       exact⟨True,sy1,t0,a,(ZS trivial).symm,fun _=>⟨rfl,qu.2,by rw [X9 Oa hn (by rw [LatI_end Oa] at*;omega) (Od ‹_›),qu.1,hh]⟩,fun hq=>absurd trivial hq,by rw [YX trivial];exact hS.pk [0,1,2,3,4,5,6,7,8,9,10]⟩
      ·
       replace hS:=Sat.unbundle (l1:= [_,_,_,_,_,_]) (l3:= []) hS
       refine hd1 6 ?_
       refine hov xpf ?_
       refine hd1 7 ?_
       refine hov xas ?_
       refine hd0<|htn<|hrt<|ztr<|Oj ?_
       exact⟨False,s,ty1,a,(Zy not_false).symm,fun hq=>hq.elim,fun _=>xb,by rw [Wy not_false];exact hS.pk [0,1,2,3,4,5,6,7,8,9,10]⟩
   refine hsk<|htn<|hsq<|hrz ?_
   refine(zP)<|zln<|zh<|htn<|hsq<|hsq<|hrz ?_
   refine(zP)<|(zV (xlb 2 pl_3 hS))<|(zP)<|zln<|zh<|htn ?_
   refine YS ?_ ?_<;>intro hc
   ·
    refine hrz ?_
    refine(zP)<|zln<|zh<|htn<|hsq<|hsq ?_
    refine hdst [0,1,2,3,4,5,6,7,8,9,10] [0,1,2,3,4,5,6,7,8,9,10] 1000 mx_ hS ?_;clear hS;intro w hS
    refine(zDw 0 (xfb 1 fd_27_1))<|(zDl 1 (fun w hS=>(xlb 1 pl_22 hS)))<|(zDw 2 xmv)<|(zDw 3 (xix (kk:=i) Zb h.D.slh))<|YB 4 (fun w hS=>(xlr (u:= .int Oi (p.D i)) pl_3 (h.D.below hS.below))) ?_
    have hbv:=h.iD i
    have hei:=hp.all i h0 Oa;unfold Prob.each at hei
    have hqd:=YI (a:=l) (b:=p.L i+p.kerf) Oa Oa
    have hml:min (p.D i) (Int.tdiv l (p.L i+p.kerf))=most p i l:=rfl
    refine(zDw 5 xmv)<|(zDl 6 (fun w hS=>(xls 1 st_27 hS)))<|(zDw 7 xmv)<|zdc 8 (xc0 XI) (XK (p:=p) (i:=i) w (h.below hS.below) hp Oa Oa) ?_;rintro _ w ⟨rfl,hS'⟩
    replace hS:=hS.cmp hS';clear hS'
    refine⟨⟨fun _=>hS,hS⟩,?_⟩
    refine(zDw 9 (UK (r:=(Int.tdiv l (p.L i+p.kerf)))))<|(zDw 10 (TU (r:=(min (p.D i) (Int.tdiv l (p.L i+p.kerf))))))<|(zDw 11 xas)<|zdd<|zh<|htn<|hbk ?_
    have hlw:ZE wi i=1:=by unfold ZE;first|rw [if_pos Oa]|rw [if_neg Oa]
    rw [<-Vy (show a i=0 from hx.zero i Oa)] at hS
    refine hlp (fun mm M w=>∃(s2:St) (z:Int) (k:Int),mm=((k+1-ZE wi i).toNat)/\(ZE wi i-1<=k\/k=most p i l)/\(k<=most p i l)/\(Inv s2)/\(MX p wi=qc s2++(dn (kid p wi i a l) (ZE wi i) (k+1-ZE wi i).toNat++post))/\M= [(0,.int Oi i),(1,.int Oi l),(2,.int Oi need),(5,Or ga),(8,Or g2),(9,Or gv),(15,.int Oi 1),(16,.int Oi k)]/\Sat w0 w [.sem (C s2),.blk g2 [vL,vD,.int Oi p.stock,.int Oi p.kerf],.blk g3 [.int Oi wi],.blk g5 [.int Oi p.m],.blk g6 [vl],.own vl 1 3 (p.m+1) (ints (Xu p)),.blk ga [va],.own va 1 3 p.m (ints (upd a i z)),.blk gy [.func (.yield lq) #[] #[]],.blk gv [.func (.func 279) #[] #[Or g6,Or g5,Or ga,Or gy,Or g3,Or g2,Or gv]],.sem F]) ⟨s,0,(min (p.D i) (Int.tdiv l (p.L i+p.kerf))),rfl,Oa,Oa,?_,?_,rfl,hS⟩ ?_
    ·
     exact hI
    ·
     rw [hM,Wd h0 Oa,hh];rfl
    clear hS w
    rintro mm M w ⟨s2,z,k,rfl,k0,k1,hI2,hM2,rfl,hS⟩
    refine hsq<|hsq<|hrz ?_
    refine(Oo)<|zln<|zh<|htn ?_
    refine YS ?_ ?_<;>intro hc
    ·
     refine hsk<|htn<|hsq<|hbk<|hsq<|hrz ?_
     refine(On)<|zln<|zh<|htn<|hsq<|hsq<|hrz ?_
     refine(zP)<|(zV (xfb 1 fd_27_1))<|(zV (xlb 1 pl_22 hS))<|(zP)<|(zV (xix (kk:=i) Zb h.D.slh))<|zlv (xlr (u:= .int Oi (p.D i)) pl_3 (h.D.below hS.below)) ?_
     have hbv:=h.iD i
     refine(zP)<|zln<|zh<|htn ?_
     refine YS ?_ ?_<;>intro hc
     ·
      refine hrz ?_
      refine(zP)<|(zV (xls 1 st_27 hS))<|(zP)<|zlc (xc0 XI) (XK (p:=p) (i:=i) w (h.below hS.below) hp Oa Oa) ?_;rintro _ w ⟨rfl,hS'⟩
      replace hS:=hS.cmp hS';clear hS'
      refine(zV (TU (r:=(min need (p.L i+p.kerf)))))<|(zP)<|zln<|zh<|htn<|hsq<|hrz ?_
      refine(zV (xlb 6 pl_22 hS))<|(On)<|(zV (xix (kk:=i) Zb hva))<|zle (xso 7 pl_3 hS (Xv a i z k)) ?_;clear hS;rintro w hS
      refine zln<|zh<|htn<|hsq ?_
      refine hdst [1,2,3,4,6,8,9,5] [1,2,3,4,6,8,9,5] 1000 mx_ hS ?_;clear hS;intro w hS
      refine(zDl 0 (fun w hS=>(xlb 6 Uf hS)))<|(zDw 1 xmv)<|(zDw 2 (Zg (r:=i+1)))<|(zDw 3 xmv)<|(zDw 4 xmv)<|YB 5 (fun w hS=>(xls 0 st_27 hS)) ?_
      have hmm:=XF hp h0 Oa hx.l0 (k:=k) Oa Oa
      refine(zDw 6 xmv)<|(zDw 10 xmv)<|zdc 7 (xc0 XI) (XK (p:=p) (i:=i) w (h.below hS.below) hp Oa Oa) ?_;rintro _ w ⟨rfl,hS'⟩
      replace hS:=hS.cmp hS';clear hS'
      refine⟨⟨fun _=>hS.pk [1,2,3,4,6,8,9,5],hS.pk [1,2,3,4,6,8,9,5]⟩,?_⟩
      refine(zDw 8 (Yf (r:=(k*(p.L i+p.kerf))) (e:=rfl)))<|(zDw 9 (Zp (r:=l-(k*(p.L i+p.kerf)))))<|zdc 11 (xcc (vs:= [_,_,_]) TL) (ih (s:=s2) (i:=i+1) (a:=upd a i k) (l:=l-k*(p.L i+p.kerf)) (need:=(min need (p.L i+p.kerf))) (pre:=qc s2) (post:=dn (kid p wi i a l) (ZE wi i) (k-ZE wi i).toNat++post) w0 w (Sat.bundle (l1:= [_,_,_,_,_,_,_,_,_,_]) (hS.pk [0,1,2,3,4,5,6,7,8,9,10])) h hva Oa Oa (hx.step hp h0 Oa Oa Oa) (hn.yes h0 Oa) hI2 rfl (by rw [hM2,UG (k:=k) _ Oa,List.append_assoc];rfl) hY Oa) ?_;rintro _ w ⟨qR,sz1,tz1,zc,rfl,yC,yM,hS⟩
      replace hS:=Sat.unbundle (l1:= [_,_,_,_,_,_,_,_,_,_]) (l3:= []) hS
      refine⟨⟨fun _=>hS.pk [1,2,3,4,6,8,9,5],hS.pk [1,2,3,4,6,8,9,5]⟩,?_⟩
      refine(zDw 12 YE)<|zdd<|zh<|htn ?_
      refine YS ?_ ?_<;>intro hc
      ·
       refine hsq<|hrz ?_
       refine(zP)<|zln<|zh<|htn<|hrt<|zbr<|ztr<|ztr<|zbr<|ztr<|Oj ?_
       have yj:=Od (fun hh9=>hh9 ‹¬qR›)
       exact⟨False,s,tz1,zc,(Zy not_false).symm,fun hq=>hq.elim,fun _=>yM yj,by rw [Wy not_false];rw [Wy yj] at hS;exact hS.pk [0,1,2,3,4,5,6,7,8,9,10]⟩
      refine hsk<|zbn<|htn<|hrz ?_
      refine zlv xmv ?_
      obtain⟨rfl,xh,zu⟩:=yC (Od ‹¬¬qR›)
      rw [YX (Od ‹¬¬qR›)] at hS
      refine(zV (Zp (r:=k-1)))<|(zP)<|zln<|zh<|hlq ⟨sz1,k,k-1,rfl,Oa,Oa,?_,?_,rfl,hS⟩
      ·
       exact xh
      ·
       rw [zu,hM2,UG (k:=k) _ Oa,show k-1+1-ZE wi i=k-ZE wi i by omega,List.append_assoc,List.append_assoc];rfl
     refine hsk<|htn<|hsq<|hrz ?_
     refine(zV (xlb 6 pl_22 hS))<|(On)<|(zV (xix (kk:=i) Zb hva))<|zle (xso 7 pl_3 hS (Xv a i z k)) ?_;clear hS;rintro w hS
     refine zln<|zh<|htn<|hsq ?_
     refine hdst [1,2,3,4,6,8,9,5] [1,2,3,4,6,8,9,5] 1000 mx_ hS ?_;clear hS;intro w hS
     refine(zDl 0 (fun w hS=>(xlb 6 Uf hS)))<|(zDw 1 xmv)<|(zDw 2 (Zg (r:=i+1)))<|(zDw 3 xmv)<|(zDw 4 xmv)<|YB 5 (fun w hS=>(xls 0 st_27 hS)) ?_
     have hmm:=XF hp h0 Oa hx.l0 (k:=k) Oa Oa
     refine(zDw 6 xmv)<|(zDw 10 xmv)<|zdc 7 (xc0 XI) (XK (p:=p) (i:=i) w (h.below hS.below) hp Oa Oa) ?_;rintro _ w ⟨rfl,hS'⟩
     replace hS:=hS.cmp hS';clear hS'
     refine⟨⟨fun _=>hS.pk [1,2,3,4,6,8,9,5],hS.pk [1,2,3,4,6,8,9,5]⟩,?_⟩
     refine(zDw 8 (Yf (r:=(k*(p.L i+p.kerf))) (e:=rfl)))<|(zDw 9 (Zp (r:=l-(k*(p.L i+p.kerf)))))<|zdc 11 (xcc (vs:= [_,_,_]) TL) (ih (s:=s2) (i:=i+1) (a:=upd a i k) (l:=l-k*(p.L i+p.kerf)) (need:=need) (pre:=qc s2) (post:=dn (kid p wi i a l) (ZE wi i) (k-ZE wi i).toNat++post) w0 w (Sat.bundle (l1:= [_,_,_,_,_,_,_,_,_,_]) (hS.pk [0,1,2,3,4,5,6,7,8,9,10])) h hva Oa Oa (hx.step hp h0 Oa Oa Oa) (hn.no h0 Oa) hI2 rfl (by rw [hM2,UG (k:=k) _ Oa,List.append_assoc];rfl) hY Oa) ?_;rintro _ w ⟨qR,sz1,tz1,zc,rfl,yC,yM,hS⟩
     replace hS:=Sat.unbundle (l1:= [_,_,_,_,_,_,_,_,_,_]) (l3:= []) hS
     refine⟨⟨fun _=>hS.pk [1,2,3,4,6,8,9,5],hS.pk [1,2,3,4,6,8,9,5]⟩,?_⟩
     refine(zDw 12 YE)<|zdd<|zh<|htn ?_
     refine YS ?_ ?_<;>intro hc
     ·
      refine hsq<|hrz ?_
      refine(zP)<|zln<|zh<|htn<|hrt<|zbr<|ztr<|ztr<|zbr<|ztr<|Oj ?_
      have yj:=Od (fun hh9=>hh9 ‹¬qR›)
      exact⟨False,s,tz1,zc,(Zy not_false).symm,fun hq=>hq.elim,fun _=>yM yj,by rw [Wy not_false];rw [Wy yj] at hS;exact hS.pk [0,1,2,3,4,5,6,7,8,9,10]⟩
     refine hsk<|zbn<|htn<|hrz ?_
     refine zlv xmv ?_
     obtain⟨rfl,xh,zu⟩:=yC (Od ‹¬¬qR›)
     rw [YX (Od ‹¬¬qR›)] at hS
     refine(zV (Zp (r:=k-1)))<|(zP)<|zln<|zh<|hlq ⟨sz1,k,k-1,rfl,Oa,Oa,?_,?_,rfl,hS⟩
     ·
      exact xh
     ·
      rw [zu,hM2,UG (k:=k) _ Oa,show k-1+1-ZE wi i=k-ZE wi i by omega,List.append_assoc,List.append_assoc];rfl
    refine hxt<|ztx<|ztx<|zbh<|htn<|hsq<|hrz ?_
    refine(zV (xlb 6 pl_22 hS))<|(zP)<|(zV (xix (kk:=i) Zb hva))<|zle (xso 7 pl_3 hS (Xv a i z 0)) ?_;clear hS;rintro w hS
    refine zln<|zh<|htn<|hsq<|hrz ?_
    refine(zP)<|zln<|zh<|htn<|hrt<|Oj ?_
    rw [Vy (show a i=0 from hx.zero i Oa)] at hS
    have hk9:k+1-ZE wi i=0:=Oa
    rw [show(k+1-ZE wi i).toNat=0 by omega] at hM2
    exact⟨True,s2,t0,a,(ZS trivial).symm,fun _=>⟨rfl,hI2,List.append_cancel_right (by rw [<-hM2,hM,List.append_assoc];rfl)⟩,fun hq=>absurd trivial hq,by rw [YX trivial];exact hS.pk [0,1,2,3,4,5,6,7,8,9,10]⟩
   refine hsk<|htn<|hsq<|hsq ?_
   refine hdst [0,1,2,3,4,5,6,7,8,9,10] [0,1,2,3,4,5,6,7,8,9,10] 1000 mx_ hS ?_;clear hS;intro w hS
   refine(zDw 0 (xfb 1 fd_27_1))<|(zDl 1 (fun w hS=>(xlb 1 pl_22 hS)))<|(zDw 2 xmv)<|(zDw 3 (xix (kk:=i) Zb h.D.slh))<|YB 4 (fun w hS=>(xlr (u:= .int Oi (p.D i)) pl_3 (h.D.below hS.below))) ?_
   have hbv:=h.iD i
   have hei:=hp.all i h0 Oa;unfold Prob.each at hei
   have hqd:=YI (a:=l) (b:=p.L i+p.kerf) Oa Oa
   have hml:min (p.D i) (Int.tdiv l (p.L i+p.kerf))=most p i l:=rfl
   refine(zDw 5 xmv)<|(zDl 6 (fun w hS=>(xls 1 st_27 hS)))<|(zDw 7 xmv)<|zdc 8 (xc0 XI) (XK (p:=p) (i:=i) w (h.below hS.below) hp Oa Oa) ?_;rintro _ w ⟨rfl,hS'⟩
   replace hS:=hS.cmp hS';clear hS'
   refine⟨⟨fun _=>hS,hS⟩,?_⟩
   refine(zDw 9 (UK (r:=(Int.tdiv l (p.L i+p.kerf)))))<|(zDw 10 (TU (r:=(min (p.D i) (Int.tdiv l (p.L i+p.kerf))))))<|(zDw 11 xas)<|zdd<|zh<|htn<|hbk ?_
   have hlw:ZE wi i=0:=by unfold ZE;first|rw [if_pos Oa]|rw [if_neg Oa]
   rw [<-Vy (show a i=0 from hx.zero i Oa)] at hS
   refine hlp (fun mm M w=>∃(s2:St) (z:Int) (k:Int),mm=((k+1-ZE wi i).toNat)/\(ZE wi i-1<=k\/k=most p i l)/\(k<=most p i l)/\(Inv s2)/\(MX p wi=qc s2++(dn (kid p wi i a l) (ZE wi i) (k+1-ZE wi i).toNat++post))/\M= [(0,.int Oi i),(1,.int Oi l),(2,.int Oi need),(5,Or ga),(8,Or g2),(9,Or gv),(15,.int Oi 0),(16,.int Oi k)]/\Sat w0 w [.sem (C s2),.blk g2 [vL,vD,.int Oi p.stock,.int Oi p.kerf],.blk g3 [.int Oi wi],.blk g5 [.int Oi p.m],.blk g6 [vl],.own vl 1 3 (p.m+1) (ints (Xu p)),.blk ga [va],.own va 1 3 p.m (ints (upd a i z)),.blk gy [.func (.yield lq) #[] #[]],.blk gv [.func (.func 279) #[] #[Or g6,Or g5,Or ga,Or gy,Or g3,Or g2,Or gv]],.sem F]) ⟨s,0,(min (p.D i) (Int.tdiv l (p.L i+p.kerf))),rfl,Oa,Oa,?_,?_,rfl,hS⟩ ?_
   ·
    exact hI
   ·
    rw [hM,Wd h0 Oa,hh];rfl
   clear hS w
   rintro mm M w ⟨s2,z,k,rfl,k0,k1,hI2,hM2,rfl,hS⟩
   refine hsq<|hsq<|hrz ?_
   refine(Oo)<|zln<|zh<|htn ?_
   refine YS ?_ ?_<;>intro hc
   ·
    refine hsk<|htn<|hsq<|hbk<|hsq<|hrz ?_
    refine(On)<|zln<|zh<|htn<|hsq<|hsq<|hrz ?_
    refine(zP)<|(zV (xfb 1 fd_27_1))<|(zV (xlb 1 pl_22 hS))<|(zP)<|(zV (xix (kk:=i) Zb h.D.slh))<|zlv (xlr (u:= .int Oi (p.D i)) pl_3 (h.D.below hS.below)) ?_
    have hbv:=h.iD i
    refine(zP)<|zln<|zh<|htn ?_
    refine YS ?_ ?_<;>intro hc
    ·
     refine hrz ?_
     refine(zP)<|(zV (xls 1 st_27 hS))<|(zP)<|zlc (xc0 XI) (XK (p:=p) (i:=i) w (h.below hS.below) hp Oa Oa) ?_;rintro _ w ⟨rfl,hS'⟩
     replace hS:=hS.cmp hS';clear hS'
     refine(zV (TU (r:=(min need (p.L i+p.kerf)))))<|(zP)<|zln<|zh<|htn<|hsq<|hrz ?_
     refine(zV (xlb 6 pl_22 hS))<|(On)<|(zV (xix (kk:=i) Zb hva))<|zle (xso 7 pl_3 hS (Xv a i z k)) ?_;clear hS;rintro w hS
     refine zln<|zh<|htn<|hsq ?_
     refine hdst [1,2,3,4,6,8,9,5] [1,2,3,4,6,8,9,5] 1000 mx_ hS ?_;clear hS;intro w hS
     refine(zDl 0 (fun w hS=>(xlb 6 Uf hS)))<|(zDw 1 xmv)<|(zDw 2 (Zg (r:=i+1)))<|(zDw 3 xmv)<|(zDw 4 xmv)<|YB 5 (fun w hS=>(xls 0 st_27 hS)) ?_
     have hmm:=XF hp h0 Oa hx.l0 (k:=k) Oa Oa
     refine(zDw 6 xmv)<|(zDw 10 xmv)<|zdc 7 (xc0 XI) (XK (p:=p) (i:=i) w (h.below hS.below) hp Oa Oa) ?_;rintro _ w ⟨rfl,hS'⟩
     replace hS:=hS.cmp hS';clear hS'
     refine⟨⟨fun _=>hS.pk [1,2,3,4,6,8,9,5],hS.pk [1,2,3,4,6,8,9,5]⟩,?_⟩
     refine(zDw 8 (Yf (r:=(k*(p.L i+p.kerf))) (e:=rfl)))<|(zDw 9 (Zp (r:=l-(k*(p.L i+p.kerf)))))<|zdc 11 (xcc (vs:= [_,_,_]) TL) (ih (s:=s2) (i:=i+1) (a:=upd a i k) (l:=l-k*(p.L i+p.kerf)) (need:=(min need (p.L i+p.kerf))) (pre:=qc s2) (post:=dn (kid p wi i a l) (ZE wi i) (k-ZE wi i).toNat++post) w0 w (Sat.bundle (l1:= [_,_,_,_,_,_,_,_,_,_]) (hS.pk [0,1,2,3,4,5,6,7,8,9,10])) h hva Oa Oa (hx.step hp h0 Oa Oa Oa) (hn.yes h0 Oa) hI2 rfl (by rw [hM2,UG (k:=k) _ Oa,List.append_assoc];rfl) hY Oa) ?_;rintro _ w ⟨qR,sz1,tz1,zc,rfl,yC,yM,hS⟩
     replace hS:=Sat.unbundle (l1:= [_,_,_,_,_,_,_,_,_,_]) (l3:= []) hS
     refine⟨⟨fun _=>hS.pk [1,2,3,4,6,8,9,5],hS.pk [1,2,3,4,6,8,9,5]⟩,?_⟩
     refine(zDw 12 YE)<|zdd<|zh<|htn ?_
     refine YS ?_ ?_<;>intro hc
     ·
      refine hsq<|hrz ?_
      refine(zP)<|zln<|zh<|htn<|hrt<|zbr<|ztr<|ztr<|zbr<|ztr<|Oj ?_
      have yj:=Od (fun hh9=>hh9 ‹¬qR›)
      exact⟨False,s,tz1,zc,(Zy not_false).symm,fun hq=>hq.elim,fun _=>yM yj,by rw [Wy not_false];rw [Wy yj] at hS;exact hS.pk [0,1,2,3,4,5,6,7,8,9,10]⟩
     refine hsk<|zbn<|htn<|hrz ?_
     refine zlv xmv ?_
     obtain⟨rfl,xh,zu⟩:=yC (Od ‹¬¬qR›)
     rw [YX (Od ‹¬¬qR›)] at hS
     refine(zV (Zp (r:=k-1)))<|(zP)<|zln<|zh<|hlq ⟨sz1,k,k-1,rfl,Oa,Oa,?_,?_,rfl,hS⟩
     ·
      exact xh
     ·
      rw [zu,hM2,UG (k:=k) _ Oa,show k-1+1-ZE wi i=k-ZE wi i by omega,List.append_assoc,List.append_assoc];rfl
    refine hsk<|htn<|hsq<|hrz ?_
    refine(zV (xlb 6 pl_22 hS))<|(On)<|(zV (xix (kk:=i) Zb hva))<|zle (xso 7 pl_3 hS (Xv a i z k)) ?_;clear hS;rintro w hS
    refine zln<|zh<|htn<|hsq ?_
    refine hdst [1,2,3,4,6,8,9,5] [1,2,3,4,6,8,9,5] 1000 mx_ hS ?_;clear hS;intro w hS
    refine(zDl 0 (fun w hS=>(xlb 6 Uf hS)))<|(zDw 1 xmv)<|(zDw 2 (Zg (r:=i+1)))<|(zDw 3 xmv)<|(zDw 4 xmv)<|YB 5 (fun w hS=>(xls 0 st_27 hS)) ?_
    have hmm:=XF hp h0 Oa hx.l0 (k:=k) Oa Oa
    refine(zDw 6 xmv)<|(zDw 10 xmv)<|zdc 7 (xc0 XI) (XK (p:=p) (i:=i) w (h.below hS.below) hp Oa Oa) ?_;rintro _ w ⟨rfl,hS'⟩
    replace hS:=hS.cmp hS';clear hS'
    refine⟨⟨fun _=>hS.pk [1,2,3,4,6,8,9,5],hS.pk [1,2,3,4,6,8,9,5]⟩,?_⟩
    refine(zDw 8 (Yf (r:=(k*(p.L i+p.kerf))) (e:=rfl)))<|(zDw 9 (Zp (r:=l-(k*(p.L i+p.kerf)))))<|zdc 11 (xcc (vs:= [_,_,_]) TL) (ih (s:=s2) (i:=i+1) (a:=upd a i k) (l:=l-k*(p.L i+p.kerf)) (need:=need) (pre:=qc s2) (post:=dn (kid p wi i a l) (ZE wi i) (k-ZE wi i).toNat++post) w0 w (Sat.bundle (l1:= [_,_,_,_,_,_,_,_,_,_]) (hS.pk [0,1,2,3,4,5,6,7,8,9,10])) h hva Oa Oa (hx.step hp h0 Oa Oa Oa) (hn.no h0 Oa) hI2 rfl (by rw [hM2,UG (k:=k) _ Oa,List.append_assoc];rfl) hY Oa) ?_;rintro _ w ⟨qR,sz1,tz1,zc,rfl,yC,yM,hS⟩
    replace hS:=Sat.unbundle (l1:= [_,_,_,_,_,_,_,_,_,_]) (l3:= []) hS
    refine⟨⟨fun _=>hS.pk [1,2,3,4,6,8,9,5],hS.pk [1,2,3,4,6,8,9,5]⟩,?_⟩
    refine(zDw 12 YE)<|zdd<|zh<|htn ?_
    refine YS ?_ ?_<;>intro hc
    ·
     refine hsq<|hrz ?_
     refine(zP)<|zln<|zh<|htn<|hrt<|zbr<|ztr<|ztr<|zbr<|ztr<|Oj ?_
     have yj:=Od (fun hh9=>hh9 ‹¬qR›)
     exact⟨False,s,tz1,zc,(Zy not_false).symm,fun hq=>hq.elim,fun _=>yM yj,by rw [Wy not_false];rw [Wy yj] at hS;exact hS.pk [0,1,2,3,4,5,6,7,8,9,10]⟩
    refine hsk<|zbn<|htn<|hrz ?_
    refine zlv xmv ?_
    obtain⟨rfl,xh,zu⟩:=yC (Od ‹¬¬qR›)
    rw [YX (Od ‹¬¬qR›)] at hS
    refine(zV (Zp (r:=k-1)))<|(zP)<|zln<|zh<|hlq ⟨sz1,k,k-1,rfl,Oa,Oa,?_,?_,rfl,hS⟩
    ·
     exact xh
    ·
     rw [zu,hM2,UG (k:=k) _ Oa,show k-1+1-ZE wi i=k-ZE wi i by omega,List.append_assoc,List.append_assoc];rfl
   refine hxt<|ztx<|ztx<|zbh<|htn<|hsq<|hrz ?_
   refine(zV (xlb 6 pl_22 hS))<|(zP)<|(zV (xix (kk:=i) Zb hva))<|zle (xso 7 pl_3 hS (Xv a i z 0)) ?_;clear hS;rintro w hS
   refine zln<|zh<|htn<|hsq<|hrz ?_
   refine(zP)<|zln<|zh<|htn<|hrt<|Oj ?_
   rw [Vy (show a i=0 from hx.zero i Oa)] at hS
   have hk9:k+1-ZE wi i=0:=Oa
   rw [show(k+1-ZE wi i).toNat=0 by omega] at hM2
   exact⟨True,s2,t0,a,(ZS trivial).symm,fun _=>⟨rfl,hI2,List.append_cancel_right (by rw [<-hM2,hM,List.append_assoc];rfl)⟩,fun hq=>absurd trivial hq,by rw [YX trivial];exact hS.pk [0,1,2,3,4,5,6,7,8,9,10]⟩
theorem Zlm:ZM Om 339=some (.nilFunc,1,8):=Oc
theorem ZmT{vL vD:Value}{p:Prob}{wi:Int}{St Tt:Type}(qc:St->List (Of))(Inv:St->Prop)(Stp:Tt->Prop)(t0:Tt)(s0:St)(hs0:qc s0= [])(hI0:Inv s0){g2 g3 g5 g6:Nat}{vl:Value}(w0:World)(hvl:Slh vl (p.m+1))(hp:p.Ok)(h:PAt w0 vL vD p):ItG (St:=St) (X:=BX) (Tt:=Tt) Om w0 278 [Or g5,Or g6,Or g3,Or g2] [.blk g2 [vL,vD,.int Oi p.stock,.int Oi p.kerf],.blk g3 [.int Oi wi],.blk g5 [.int Oi p.m],.blk g6 [vl],.own vl 1 3 (p.m+1) (ints (Xu p))] (fun x=> [x.v]) (fun x=> [.own x.v 1 3 x.n (ints x.f)]) (fun(s:St) (x:BX) (rest:Gw.Frame)=>Inv s/\Slh x.v x.n/\x.n=p.m/\∃r,MX p wi=qc s++x.f::r) (fun(s:St) (x:BX) (s1:St)=>qc s1=qc s++ [x.f]/\Inv s1) (fun _ _ t=>Stp t) (s0) (fun s rest=>Inv s/\qc s=MX p wi) (fun t _=>Stp t):=by
 intro l C D w hS hY
 have hm:=h.L.slh.n0;have hm1:=h.L.slh.n1;have hdn:=h.D.slh.n0;have gU:=h.D.slh.n1;have hs:=h.is;have hk:=h.ik
 have hpm:=hp.m1;have qX:=hp.m2;have hpd:=hp.d;have hs1:=hp.s1;have hs2:=hp.s2;have hk1:=hp.k1;have hk2:=hp.k2
 refine ZfZ Tryz.func278 Tryz.ntmps278 ?_
 refine hsq<|hrz ?_
 refine zla (xbx (cs:= [_]) hS) ?_;rintro _ w ⟨g7,rfl,hS⟩
 replace hS:=hS.n7
 refine zln<|zh<|htn<|hsq<|hrz ?_
 refine zlv (xlb 3 pl_3 hS) ?_
 refine zla (xmk Zb ZG hS) ?_;rintro v1 w ⟨hS,hv1⟩
 replace hS:=hS.n8
 refine zla (xal (cs:= [_]) Yj hS) ?_;rintro _ w ⟨g8,rfl,hS⟩
 replace hS:=hS.n9
 refine zle (xsb 8 pl_22 hS (hv:=hv1.one)) ?_;clear hS;rintro w hS
 replace hS:=hS.n9
 refine zln<|zh<|htn<|hsq<|hrz ?_
 refine zla (xal (cs:= [_]) Zlm hS) ?_;rintro _ w ⟨g9,rfl,hS⟩
 replace hS:=hS.n10
 refine zln<|zh<|htn<|hsq<|hrz ?_
 refine zlv xmf ?_
 refine zle (xsb 9 Uf hS) ?_;clear hS;rintro w hS
 replace hS:=hS.n10
 refine zln<|zh<|htn<|hrz ?_
 refine zlv (xlb 9 Uf hS) ?_
 refine zlv (xfb 2 fd_27_2) ?_
 refine zlv (xlb 1 pl_3 hS) ?_
 refine zlv (xfb 3 fd_27_3) ?_
 refine zlv (xlb 1 pl_3 hS) ?_
 refine zlv (Zg (r:=p.stock+p.kerf)) ?_
 refine zlv (xfb 2 fd_27_2) ?_
 refine zlv (xlb 1 pl_3 hS) ?_
 refine zlv (xfb 3 fd_27_3) ?_
 refine zlv (xlb 1 pl_3 hS) ?_
 refine zlv (Zg (r:=p.stock+p.kerf)) ?_
 refine zlv (Zg (r:=p.stock+p.kerf+1)) ?_
 refine zlc (xcc (vs:= [_,_,_]) TL) (Zi9 hp qc Inv Stp t0 hvl _ (s:=s0) (i:=0) (a:=fun _=>0) (l:=p.stock+p.kerf) (need:=p.stock+p.kerf+1) (pre:= []) (post:= []) w0 w (Sat.bundle (l1:= [_,_,_,_,_,_,_,_,_,_]) (l2:= []) (hS.pk [0,1,2,3,4,5,8,7,6,9])) h hv1 Oa Oa (Pfx.start hp) (NeedP.start p) hI0 hs0 (by rw [List.nil_append,List.append_nil];rfl) hY (Nat.lt_succ_self _)) ?_;rintro _ w ⟨qR,sz1,tz1,zc,rfl,yC,yM,hS⟩
 replace hS:=Sat.unbundle (l1:= [_,_,_,_,_,_,_,_,_,_]) (l3:= []) hS
 replace hS:=hS.n10
 refine zln<|zh<|XA ⟨_,rfl,?_⟩
 by_cases hok:qR
 · obtain⟨_,hi,hh⟩:=yC hok
   rw [YX hok] at hS
   exact .inl ⟨sz1,_,⟨hi,by rw [hh,List.nil_append];rfl⟩,Sat.bundle (l1:= [_,_,_,_,_,_]) hS⟩
 · rw [Wy hok] at hS
   exact .inr ⟨tz1,_,yM hok,Sat.bundle (l1:= [_,_,_,_,_,_]) hS⟩
theorem Zl4:Zc Om 222=true:=Oc
theorem ZlM:Zc Om 278=true:=Oc
theorem Zn5:ZM Om 35=some (.int Oi 0,1,8):=Oc
structure WSt where
  v:Value
  n:Int
  vv:Int->Value
  f:Og
  l:List (Of)
def Zpl(p:Prob)(s:WSt):Prop:=Slh s.v s.n/\Ls p.m s.n s.f s.l/\s.n<=300
def Znw(p:Prob)(wi u:Int)(f:Og)(e:Int):Prop:=(300<(MX p wi).length/\e=9/\u=0)\/((MX p wi).length<=300/\e=0/\Ls p.m u f (MX p wi))
theorem Zhd{vL vD:Value}{p:Prob}{wi:Int}(w0:World)(h:PAt w0 vL vD p)(hp:p.Ok):
   Calls Om 143 [.agg #[vL,vD,.int Oi p.stock,.int Oi p.kerf],.int Oi wi].toArray w0 fun e w=>∃v,e= .returned v/\∃r u vv f e,v= .tuple #[r,.int Oi e]/\Znw p wi u f e/\Slh r u/\Sat w0 w [.own r 1 22 u vv,.sem (Frame.rows 3 u vv (fun _=>p.m) f)]:=by
 obtain⟨hm,hm1,hd,hd1,hs,hk⟩:=h.Oq
 have hpm:=hp.m1;have qX:=hp.m2;have hpd:=hp.d;have hs1:=hp.s1;have hs2:=hp.s2;have hk1:=hp.k1;have hk2:=hp.k2
 refine ZiI Tryz.func143 Tryz.ntmps143 fun w hS=> ?_
 refine hsq<|hrz ?_
 refine zla (xbx (cs:= [_,_,_,_]) hS) ?_;rintro _ w ⟨g1,rfl,hS⟩
 refine zla (xal (cs:= [_]) Zgw hS) ?_;rintro _ w ⟨g2,rfl,hS⟩
 refine zla (xal (cs:= [_]) Zn5 hS) ?_;rintro _ w ⟨g3,rfl,hS⟩
 refine zln<|zh<|htn<|hsq<|hrz ?_
 refine zla (xal (cs:= [_]) Zgw hS) ?_;rintro _ w ⟨g4,rfl,hS⟩
 refine zln<|zh<|htn<|hsq<|hsq<|hrz ?_
 refine(zV (xls 0 st_27 hS))<|(zP)<|zlc (xc0 Zl4) (ZeT (p:=p) (wi:=wi) w (h.below hS.below) hp) ?_;rintro _ w ⟨g5,g6,g7,g8,vl1,rfl,fP,hS'⟩
 replace hS:=(hS.comp hS').n9;clear hS'
 refine zln<|zh<|htn<|hbk ?_
 replace hS:=hS.addnil 1 22 (fun _=>Oh)
 replace hS:=hS.addrows 3 (fun _=>Oh) (fun _=>p.m) (fun _ _=>0)
 refine ZnU (St:=WSt) (X:=BX) (Tt:=Unit) (fun s=> [.blk g1 [vL,vD,.int Oi p.stock,.int Oi p.kerf],.blk g2 [Oh],.blk g3 [.int Oi 0],.blk g4 [s.v],.own s.v 1 22 s.n s.vv,.sem (Frame.rows 3 s.n s.vv (fun _=>p.m) s.f)]) (fun t=> [.blk g2 [Oh],.blk g3 [.int Oi 9]]) (fun _=> .ret) (⟨Oh,0,fun _=> Oh,fun _ _=>0, []⟩:WSt) (fun x M es=>M= [(0,.agg #[vL,vD,.int Oi p.stock,.int Oi p.kerf]),(1,.int Oi wi),(2,Or g1),(4,Or g2),(5,Or g3),(6,Or g4),(8,.agg #[vL,vD,.int Oi p.stock,.int Oi p.kerf]),(9,.int Oi wi),(10,.func (.func 278) #[] #[Or g7,Or g8,Or g6,Or g5]),(11,x.v),(7,x.v)]/\es= [.own x.v 1 3 x.n (ints x.f)]) (ZmT (wi:=wi) (fun s=>s.l) (Zpl p) (fun(_:Unit)=>300<(MX p wi).length) () (⟨Oh,0,fun _=> Oh,fun _ _=>0, []⟩:WSt) rfl ⟨slh_nil,Ls.nil,by show(0:Int)<=300;omega⟩ w0 fP hp h) (hS.pk [0,1,2,3,9,10,4,5,6,7,8]) ZlM (fun _=>rfl) (fun _=> .inl rfl) ?_ ?_ ?_ ?_
 ·
  intro lq s x rest w qr qG hrr hS
  refine hrz ?_
  refine(zP)<|zln<|zh<|Zf0 ⟨rfl,rfl⟩ hS
 ·
  rintro lq s x _ _ rest w qr ⟨rfl,rfl⟩ qG hrr hS
  obtain⟨⟨hlO,hls,hn3⟩,hxv,hxn,r9,hM9⟩:=qr
  have hrO:=fun k (k0:0<=k) (k1:k<s.n)=>hS.slhIn 5 rfl k0 k1
  have hsn:=hlO.n0
  have xa:=hls.1
  refine hbk<|hsq<|hsq<|hrz ?_
  refine(zV (xlb 3 ZK hS))<|(zV (xln Zk hlO))<|(zP)<|zln<|zh<|htn ?_
  refine YS ?_ ?_<;>intro hc
  ·
   refine hsq<|hrz ?_
   refine zle (xsb 1 ZK hS) ?_;clear hS;rintro w hS
   refine zle (xsb 2 pl_35 hS) ?_;clear hS;rintro w hS
   refine zln<|zh<|htn<|hrt<|ztr<|zbr<|ZfY () (by show 300<(MX p wi).length;rw [hM9,List.length_append,List.length_cons];omega) rfl (hS.pk [1,2,6,7,8,9,10,11])
  refine hsk<|htn<|hrz ?_
  refine(zV (xlb 3 ZK hS))<|(zP)<|zla (xli (n:=1) (len:=1) (pv:= [(0,x.v)]) (cs:= [x.v]) (c:=(fun _=>x.v)) Zk Yj hS (hf:=by have hz:=hxv;revert hz;generalize x.v=z;rintro⟨_,_,_,_,rfl,_⟩;show _=_;kernel_rfl)) ?_;rintro v1 w ⟨hS,hv1⟩
  refine zla (xap 4 (r:=s.n+1) Zk Yj hS (hS.rowN 13 rfl) (Wv _ _ _) (h1:=fun _ _ _=>hxv.one)) ?_;rintro v2 w ⟨hS,hv2⟩
  replace hS:=Sat.merge (l1:= [_,_,_,_,_]) (l2:= [_,_,_,_,_,_]) (l3:= [_]) hS Oa
  have xl:=fun k (k0:0<=k) (k1:k<s.n+1)=>hS.slhIn 5 rfl k0 k1
  refine zle (xsb 3 ZK hS (hv:=hv2.one)) ?_;clear hS;rintro w hS
  refine zln<|zh<|zbn ?_
  replace hS:=hS.rerows (vv':=(gsn s.vv s.n x.v)) (ln':=fun _=>p.m) (f':=(gsn s.f s.n x.f)) 5 rfl (fun k k0 k1=>⟨rfl,by unfold gsn;split<;>(try dsimp only)<;>omega,fun _ _ _=>rfl⟩)
  refine ZcB ⟨v2,s.n+1,gsn s.vv s.n x.v,gsn s.f s.n x.f,s.l++ [x.f]⟩ ⟨rfl,hv2,hls.snoc fun _ _ _=>rfl,by show s.n+1<=300;omega⟩ (hS.pk [0,1,2,3,4,5,6,7,8,9,10,11])
 ·
  intro Dk s rest w qs hS
  obtain⟨⟨hlO,hls,hn3⟩,hh9⟩:=qs
  have hrO:=fun k (k0:0<=k) (k1:k<s.n)=>hS.slhIn 5 rfl k0 k1
  have hsn:=hlO.n0
  have xa:=hls.1
  refine zbn<|htn<|hsq<|hrz ?_
  refine(zV (xlb 3 ZK hS))<|zle (xsb 1 ZK hS (hv:=hlO.one)) ?_;clear hS;rintro w hS
  refine zle (xsb 2 pl_35 hS) ?_;clear hS;rintro w hS
  refine zln<|zh<|htn<|hrt<|ZcC 12 hS fun w hS=>ZnA ZK pl_35 (hS.cellN 1 rfl rfl) (hS.cellN 2 rfl rfl) ⟨_,rfl,?_⟩
  exact⟨_,_,_,_,0,rfl,.inr ⟨by rw [<-hh9];omega,rfl,by rw [<-hh9];exact hls⟩,hlO,hS.pk [4,5]⟩
 ·
  intro Dk t rest w qs hS
  show Ge _ _ _ .ret _ _
  refine zbr<|ztr<|ZcC 8 hS fun w hS=>ZnA ZK pl_35 (hS.cellN 0 rfl rfl) (hS.cellN 1 rfl rfl) ⟨_,rfl,?_⟩
  exact⟨_,0,_,_,_,rfl,.inl ⟨qs,rfl,rfl⟩,slh_nil,((hS.sub (.cons _ (.cons _ (.cons _ (.cons _ (.cons _ (.cons _ (.cons _ (.cons _ (.cons _ .slnil)))))))))).addnil 1 22 (fun _=>Oh)).addrows 3 (fun _=>Oh) (fun _=>p.m) (fun _ _=>0)⟩
theorem Zmv:Zc Om 143=true:=Oc
theorem Zjh{vL vD:Value}{p:Prob}{wi:Int}(w0:World)(h:PAt w0 vL vD p):
   Calls Om 71 [.agg #[vL,vD,.int Oi p.stock,.int Oi p.kerf],.int Oi wi].toArray w0 fun e w=>∃v,e= .returned v/\∃r u vv f e,v= .tuple #[r,.int Oi e]/\ZoS p wi u f e/\Slh r u/\Sat w0 w [.own r 1 22 u vv,.sem (Frame.rows 3 u vv (fun _=>p.m) f)]:=by
 obtain⟨hm,hm1,hd,hd1,hs,hk⟩:=h.Oq
 refine zenG Tryz.func71 Tryz.ntmps71 fun w hS=> ?_
 refine zsr<|zla (xbx (cs:= [_,_,_,_]) hS) ?_;rintro _ w ⟨g1,rfl,hS⟩
 refine(On)<|zlt<|zsq<|zbk<|zsr<|(zV (xls 0 st_27 hS))<|zlc (xc0 XJ) (Z8 (p:=p) w (h.below hS.below)) ?_;rintro _ w ⟨rfl,hS'⟩
 replace hS:=hS.cmp hS';clear hS'
 refine(On)<|zlt<|Zf ?_ ?_<;>intro hc
 ·
  refine zsr<|(On)<|zlt<|zrt<|zbr<|ztr<|zf2 ⟨_,rfl,?_⟩
  exact⟨_,0,_,_,_,rfl,.inl ⟨‹¬p.Ok›,rfl,rfl⟩,slh_nil,((hS.sub (.cons _ .slnil)).addnil 1 22 (fun _=>Oh)).addrows 3 (fun _=>Oh) (fun _=>p.m) (fun _ _=>0)⟩
 refine zsr<|zs2 ?_
 have hp:p.Ok:=by first|assumption|exact Od ‹_›
 have hpm:=hp.m1;have qX:=hp.m2;have hpd:=hp.d;have hs1:=hp.s1;have hs2:=hp.s2;have hk1:=hp.k1;have hk2:=hp.k2
 refine(zP)<|zlb 13 ?_ ?_<;>intro hc
 ·
  iterate 5 refine zlo ?_
  refine(On)<|zlt<|zct<|zsr ?_
  refine(On)<|zlt<|zrt<|zbr<|ztr<|zf2 ⟨_,rfl,?_⟩
  exact⟨_,0,_,_,_,rfl,.inr (.inl ⟨hp,Oa,rfl,rfl⟩),slh_nil,((hS.sub (.cons _ .slnil)).addnil 1 22 (fun _=>Oh)).addrows 3 (fun _=>Oh) (fun _=>p.m) (fun _ _=>0)⟩
 refine(zP)<|(zV (xfb 0 fd_27_0))<|(zV (xlb 0 pl_22 hS))<|(zV (xln Zb h.L.slh))<|(Oo)<|zlt<|Zf ?_ ?_<;>intro hc
 ·
  refine zsr<|(On)<|zlt<|zrt<|zbr<|ztr<|zf2 ⟨_,rfl,?_⟩
  exact⟨_,0,_,_,_,rfl,.inr (.inl ⟨hp,Oa,rfl,rfl⟩),slh_nil,((hS.sub (.cons _ .slnil)).addnil 1 22 (fun _=>Oh)).addrows 3 (fun _=>Oh) (fun _=>p.m) (fun _ _=>0)⟩
 refine zsk<|zbn<|ztn<|zsr<|(zV (xls 0 st_27 hS))<|(zP)<|zlc (xc0 Zmv) (Zhd (p:=p) (wi:=wi) w (h.below hS.below) hp) ?_;rintro _ w ⟨cz,ux1,zX,fx1,ex1,rfl,ze,zY,hS'⟩
 replace hS:=(hS.comp hS').n3;clear hS'
 have eB:∀k,0<=k->k<ux1->Slh (zX k) p.m:=fun k k0 k1=>hS.slhIn 2 rfl k0 k1
 refine zs4 ?_
 refine zx1<|zf2 ⟨_,rfl,?_⟩
 exact⟨_,_,_,_,_,rfl,(by rcases ze with⟨h8,h9⟩|⟨h8,h9,h7⟩;exact .inr (.inr (.inl ⟨hp,Oa,h8,h9⟩));exact .inr (.inr (.inr ⟨hp,Oa,h8,h9,h7⟩))),zY,hS.pk [1,2]⟩
end Go.Proofs.YtpnamgfdakfccaaGreat
namespace Go.Proofs.Gw
open Go Go.RowKit
variable {i j k:Int}
def pr2{α:Type}(x y:α):Int->α:=fun j=>if j=0 then x else y
def ZR(vv:Int->Value)(s k b:Int):Int->Value:=fun j=>if j%5=0 then vv (2*(j/5)) else if j%5=1 then vv (2*(j/5)+1) else if j%5=2 then .int Oi s else if j%5=3 then .int Oi k else .int Oi b
theorem ZiO(vv:Int->Value)(s k b:Int)(h:j=5*i):ZR vv s k b j=vv (2*i):=by
 unfold ZR;rw [if_pos Oa,show j/5=i by omega]
theorem ZiN(vv:Int->Value)(s k b:Int)(h:j=5*i+1):ZR vv s k b j=vv (2*i+1):=by
 unfold ZR;rw [if_neg Oa,if_pos Oa,show j/5=i by omega]
theorem ZiM(vv:Int->Value)(s k b:Int)(h:j=5*i+2):ZR vv s k b j= .int Oi s:=by
 unfold ZR;rw [if_neg Oa,if_neg Oa,if_pos Oa]
theorem ZiL(vv:Int->Value)(s k b:Int)(h:j=5*i+3):ZR vv s k b j= .int Oi k:=by
 unfold ZR;rw [if_neg Oa,if_neg Oa,if_neg Oa,if_pos Oa]
theorem ZiK(vv:Int->Value)(s k b:Int)(h:j=5*i+4):ZR vv s k b j= .int Oi b:=by
 unfold ZR;rw [if_neg Oa,if_neg Oa,if_neg Oa,if_neg Oa]
theorem RS(vv:Int->Value)(s k b:Int){q:Int}(h:q=5*i):∀(j:Nat) u, [vv (2*i),vv (2*i+1),Value.int Oi s,.int Oi k,.int Oi b][j]? =some u->ZR vv s k b (q+j)=u:=fun j u hu=>by
 rcases j with _|_|_|_|_|j
 · cases hu;exact ZiO vv s k b Oa
 · cases hu;exact ZiN vv s k b Oa
 · cases hu;exact ZiM vv s k b (i:=i) Oa
 · cases hu;exact ZiL vv s k b (i:=i) Oa
 · cases hu;exact ZiK vv s k b (i:=i) Oa
 · simp at hu
theorem ZcD{vv:Int->Value}{s b:Int}(h:∀i,(vv i).oneCell'=true)(j:Int):(ZR vv s k b j).oneCell'=true:=by
 unfold ZR
 split
 · exact h _
 · split
   · exact h _
   · split
     · rfl
     · split<;>rfl
theorem Zii{x y:Value}(hx:x.oneCell'=true)(hy:y.oneCell'=true)(i:Int):(pr2 x y i).oneCell'=true:=by
 unfold pr2;split
 · exact hx
 · exact hy
theorem ZcV(vv:Int->Value)(s k b n:Int)(x y:Value):cat (n*5) (ZR vv s k b) (ZR (pr2 x y) s k b)=ZR (gsn (gsn vv (2*n) x) (2*n+1) y) s k b:=by
 funext j
 unfold cat ZR gsn pr2
 by_cases h:j<n*5
 · simp only [if_pos h]
   have h1:2*(j/5)<2*n:=Oa
   have h2:2*(j/5)+1<2*n:=Oa
   have h3:2*(j/5)<2*n+1:=Oa
   have h4:2*(j/5)+1<2*n+1:=Oa
   simp only [if_pos h1,if_pos h2,if_pos h3,if_pos h4]
 · simp only [if_neg h]
   have e1:(j-n*5)%5=j%5:=Oa
   have e2:(j-n*5)/5=j/5-n:=Oa
   rw [e1,e2]
   have h1:¬2*(j/5)<2*n:=Oa
   have h2:¬2*(j/5)+1<2*n+1:=Oa
   have h3:¬2*(j/5-n)+1=0:=Oa
   simp only [if_neg h1,if_neg h2,if_neg h3]
   by_cases h5:2*(j/5)<2*n+1
   · have h6:2*(j/5-n)=0:=Oa
     simp only [if_pos h5,if_pos h6]
   · have h6:¬2*(j/5-n)=0:=Oa
     simp only [if_neg h5,if_neg h6]
theorem Sat.rowsn{w w0:World}{l:List Ent}{E:TypeId}{n m:Int}{vv:Int->Value}{ln:Of}{f:Og}(i:Nat)(h:Sat w0 w l)(hi:l[i]? =some (.sem (Frame.rows E n vv ln f)))(e:n=m):Sat w0 w (l.set i (.sem (Frame.rows E m vv ln f))):=by
 subst e
 rw [Ys hi,<-Z0 hi];exact h
def gfn(p:Prob)(X:List (Of)):Og:=fun k=>if k%2=0 then p.L else fun j=>p.D j-Yt X (k/2) j
theorem ZnY(p:Prob)(X:List (Of))(h:k=2*i):gfn p X k=p.L:=by unfold gfn;rw [if_pos Oa]
theorem ZkN(p:Prob)(X:List (Of))(h:k=2*i+1):gfn p X k=fun j=>p.D j-Yt X i j:=by unfold gfn;rw [if_neg Oa,show k/2=i by omega]
theorem Zey{p:Prob}(hd:p.d=p.m){X:List (Of)}{x:Of}(i0:0<=i)(hx:∀j,0<=j->j<p.m->x j=Yt X i j)(vv:Int->Value):∀k,0<=k->k<2*i+2->vv k=vv k/\gsn (gsn (fun _=>p.m) (2*i) p.m) (2*i+1) p.d k=(fun _=>p.m) k/\
   ∀j,0<=j->j<gsn (gsn (fun _=>p.m) (2*i) p.m) (2*i+1) p.d k->gsn (gsn (gfn p X) (2*i) p.L) (2*i+1) (fun j=>p.D j-x j) k j=gfn p X k j:=fun k k0 k1=>by
 refine⟨rfl,by unfold gsn;split<;>(try split)<;>first|rfl|exact hd,fun j j0 j1=> ?_⟩
 have hl:gsn (gsn (fun _=>p.m) (2*i) p.m) (2*i+1) p.d k=p.m:=by unfold gsn;split<;>(try split)<;>first|rfl|exact hd
 rw [hl] at j1
 by_cases e1:k<2*i
 · rw [Zv Oa,Zv e1]
 · by_cases e2:k<2*i+1
   · rw [Zv e2,ZF e1,ZnY p X (i:=i) Oa]
   · rw [ZF e2,ZkN p X (i:=i) Oa]
     show p.D j-x j=p.D j-Yt X i j
     rw [hx j j0 j1]
end Go.Proofs.Gw
namespace Go.Proofs.YtpnamgfdakfccaaGreat
open Go Go.RowKit Go.Proofs.Gw
variable {b wi:Int}
theorem ZdM:Zc Om 28=true:=Oc
theorem fd_39_0:Zs Om 39 0=some 0:=Oc
theorem fd_39_1:Zs Om 39 1=some 4:=Oc
theorem Yg:Zw Om 39=some 5:=Oc
def Z2(p:Prob)(b:Int):Prop:=p.Ok/\0<=b/\b<=1000
def ZO(p:Prob)(b wi:Int):Prop:=Z2 p b/\1<=b/\(0<=wi/\wi<p.m)/\p.D wi≠0/\(MX p wi).length<=300
noncomputable def Zl(p:Prob)(b wi:Int):Int:= @ite _ (ZO p b wi) (Classical.propDecidable _) ((MX p wi).length:Int) 0
theorem YF{p:Prob}(h:ZO p b wi):Zl p b wi=(MX p wi).length:=if_pos h
theorem W0{p:Prob}(h:¬ZO p b wi):Zl p b wi=0:=if_neg h
theorem Zfz{p:Prob}(hp:p.Ok){u:Int}{f:Og}(h:Ls p.m u f (MX p wi)){i:Int}(i0:0<=i)(i1:i<u):∀k,0<=k->k<p.m->0<=f i k/\f i k<=p.D k:=fun k k0 k1=>by
 rw [h.2 i i0 i1 k k0 k1]
 exact(ZhN hp (Zbd i0 (by have:=h.1;omega))).1.rng k k0 k1
def Wz(p:Prob)(b n:Int)(l:Of):Prop:=Z2 p b/\2<=n/\Chk p (n-1) (fun k=>l (k+1)) (l 0)=0/\b<Y0 p (n-1) (fun k=>l (k+1)) (l 0)
theorem Zax{vL vD:Value}{p:Prob}(w0:World)(h:PAt w0 vL vD p):
   Calls Om 28 [.agg #[vL,vD,.int Oi p.stock,.int Oi p.kerf,.int Oi b]].toArray w0 fun e w=>∃v,e= .returned v/\v=B (Z2 p b)/\Sat w0 w []:=by
 obtain⟨hm,hm1,hd,hd1,hs,hk⟩:=h.Oq
 refine zenG Tryz.func28 Tryz.ntmps28 fun w hS=> ?_
 refine zsr<|zla (xbx (cs:= [_,_,_,_,_]) hS) ?_;rintro _ w ⟨g1,rfl,hS⟩
 refine(zP)<|zlz<|(zV (xfb 0 fd_39_0))<|(zV (xlp 0 (ds:= [vL,vD,.int Oi p.stock,.int Oi p.kerf]) st_27 hS))<|zlc (xc0 XJ) (Z8 (p:=p) w (h.below hS.below)) ?_;rintro _ w ⟨rfl,hS'⟩
 replace hS:=hS.cmp hS';clear hS'
 refine(zP)<|zlb 6 ?_ ?_<;>intro hc
 ·
  refine(zV (xfb 4 fd_39_1))<|(zV (xlb 0 pl_3 hS))<|(Oo)<|zlb 11 ?_ ?_<;>intro hc
  ·
   refine(zV (xfb 4 fd_39_1))<|(zV (xlb 0 pl_3 hS))<|(Oo)<|zx1<|Oj ?_
   exact⟨Zm ⟨fun hh=>⟨by first|assumption|exact Od ‹_›,Oa,hh⟩,fun hh=>hh.2.2⟩,hS.nl⟩
  iterate 3 refine zlo ?_
  refine(On)<|zx1<|Oj ?_
  exact⟨Zi (by rintro⟨h1,h2,h3⟩;first|omega|exact absurd h1 ‹¬p.Ok›),hS.nl⟩
 iterate 3 refine zlo ?_
 refine zs2 ?_
 iterate 3 refine zlo ?_
 refine(On)<|zx1<|Oj ?_
 exact⟨Zi (by rintro⟨h1,h2,h3⟩;first|omega|exact absurd h1 ‹¬p.Ok›),hS.nl⟩
theorem ZmV{vL vD:Value}{p:Prob}{vl:Value}{nl:Int}{l:Of}(w0:World)(h:PAt w0 vL vD p)(hl:IAt w0 vl nl l)(hrm:Gw.WR vl):
   Calls Om 31 [.agg #[vL,vD,.int Oi p.stock,.int Oi p.kerf,.int Oi b],vl].toArray w0 fun e w=>∃v,e= .returned v/\v=B (Wz p b nl l)/\Sat w0 w []:=by
 obtain⟨hm,hm1,hd,hd1,hs,hk⟩:=h.Oq
 have hl0:=hl.n0;have hl1:=hl.n1;have hrm:=hrm
 refine zenG Tryz.func31 Tryz.ntmps31 fun w hS=> ?_
 refine zsr<|zla (xbx (cs:= [_,_,_,_,_]) hS) ?_;rintro _ w ⟨g1,rfl,hS⟩
 refine(zP)<|zx5<|(zV (xls 0 Yg hS))<|zlc (xc0 ZdM) (Zax (p:=p) (b:=b) w (h.below hS.below)) ?_;rintro _ w ⟨rfl,hS'⟩
 replace hS:=hS.cmp hS';clear hS'
 refine(On)<|zlb 10 ?_ ?_<;>intro hc
 ·
  iterate 3 refine zlo ?_
  refine(zP)<|zlt<|zct<|zsr ?_
  refine(zP)<|zx14<|Oj ?_
  exact⟨Zi (by rintro⟨h1,h2,h3,h4⟩;first|omega|exact absurd h1 ‹¬Z2 p b›),hS.nl⟩
 refine(zP)<|(zV (xln Zb hl.row.slh))<|(On)<|zlt<|Zf ?_ ?_<;>intro hc
 ·
  refine zsr<|(zP)<|zx14<|Oj ?_
  exact⟨Zi (by rintro⟨h1,h2,h3,h4⟩;first|omega|exact absurd h1 ‹¬Z2 p b›),hS.nl⟩
 refine zsk<|ztn<|zsq<|zdst [0] [0] 1000 mx_ hS ?_;clear hS;intro w hS
 refine(zDw 0 (xfb 0 fd_39_0))<|(zDl 1 (fun w hS=>(xlp 0 (ds:= [vL,vD,.int Oi p.stock,.int Oi p.kerf]) st_27 hS)))<|(zDw 2 xmv)<|Zkj 3 rfl rfl rfl rfl (by kernel_rfl) rfl (fun w=>(YN (q:=1) rfl Zb rfl rfl rfl hl.row.slh rfl Oa Oa)) ?_
 refine(zDw 4 xmv)<|(zDw 5 (xix (kk:=0) Zb hl.row.slh))<|YB 6 (fun w hS=>(xlr (u:= .int Oi (l 0)) pl_3 (hl.row.below hS.below))) ?_
 have hbv:=hl.i 0
 refine zDrv 7 (xany (v:= .agg #[(Xq vl 1),.int Oi (l 0)]) (hr:=by have hz:=(YO (q:=1) hl.row.slh hrm Oa).slh;revert hz;generalize (Xq vl 1)=z;rintro⟨_,_,_,_,rfl,_⟩;show _=_;kernel_rfl)) ?_
 refine zdc 8 (xc0 Zkb) (ZdX (p:=p) w (h.below hS.below) (show Row _ _ 1 (nl-1) (ints (fun z9=>l (z9+1))) from Suf.row (c:=ints l) (YO (q:=1) hl.row.slh hrm Oa) Oa (hl.row.below hS.below)) Oa) ?_;rintro _ w ⟨rfl,hS'⟩
 replace hS:=hS.cmp hS';clear hS'
 refine⟨⟨fun _=>hS,hS⟩,?_⟩
 refine(zDw 9 xmv)<|(zDw 10 xex)<|(zDw 11 xex)<|(zDw 12 xas)<|(zDw 13 xas)<|zdd<|ztn<|zsr ?_
 refine(Oo)<|zlb 29 ?_ ?_<;>intro hc
 ·
  refine(zP)<|(zV (xfb 4 fd_39_1))<|(zV (xlb 0 pl_3 hS))<|(Oo)<|zx1<|Oj ?_
  exact⟨Zm ⟨fun hh=>⟨Od ‹_›,Oa,Oa,hh⟩,fun hh=>hh.2.2.2⟩,hS.nl⟩
 iterate 4 refine zlo ?_
 refine(On)<|zx1<|Oj ?_
 exact⟨Zi (by rintro⟨h1,h2,h3,h4⟩;first|omega|exact absurd h1 ‹¬Z2 p b›),hS.nl⟩
end Go.Proofs.YtpnamgfdakfccaaGreat
namespace Go.Proofs.YtpnamgfdakfccaaGreat
open Go Go.RowKit Go.Proofs.Gw
theorem ZbR:ZM Om 39=some (.agg #[Oh,Oh,.int Oi 0,.int Oi 0,.int Oi 0],5,72):=Oc
theorem ZmU{vL vD:Value}{p:Prob}{b:Int}{vA:Value}{n:Int}{x:Of}(w0:World)(h:PAt w0 vL vD p)(hp:p.Ok)(hb:0<=b/\b<=1000)(hA:Row w0 vA 1 n (ints x))(hnm:n=p.m)(hx:∀k,0<=k->k<p.m->0<=x k/\x k<=p.D k):
   Calls Om 72 [.agg #[vL,vD,.int Oi p.stock,.int Oi p.kerf,.int Oi b],vA].toArray w0 fun e w=>∃v,e= .returned v/\∃r1 r2,v= .agg #[r1,r2,.int Oi p.stock,.int Oi p.kerf,.int Oi (b-1)]/\Slh r1 p.m/\Slh r2 p.d/\Sat w0 w [.own r1 1 3 p.m (ints p.L),.own r2 1 3 p.d (ints fun k=>p.D k-x k)]:=by
 subst hnm
 obtain⟨hm,hm1,hd,hd1,hs,hk⟩:=h.Oq
 have hpm:=hp.m1;have qX:=hp.m2;have hpd:=hp.d;have hs1:=hp.s1;have hs2:=hp.s2;have hk1:=hp.k1;have hk2:=hp.k2
 refine zenG Tryz.func72 Tryz.ntmps72 fun w hS=> ?_
 refine zsr<|zla (xbx (cs:= [_,_,_,_,_]) hS) ?_;rintro _ w ⟨g1,rfl,hS⟩
 refine zla (xal (cs:= [_,_,_,_,_]) ZbR hS) ?_;rintro _ w ⟨g2,rfl,hS⟩
 refine zlz<|(zV (xfb 0 fd_39_0))<|(zV (xlp 0 (ds:= [vL,vD,.int Oi p.stock,.int Oi p.kerf]) st_27 hS))<|zla (xal (cs:= [_,_,_,_]) Zgy hS) ?_;rintro _ w ⟨g3,rfl,hS⟩
 refine zle (xsw 2 st_27 hS (hd:=(Za h.L.slh.one (Za h.D.slh.one (Za rfl (Za rfl Zh)))))) ?_;clear hS;rintro w hS
 refine zx7<|zdst [0,1,2] [0,1,2] 1000 mx_ hS ?_;clear hS;intro w hS
 refine(zDw 0 (xfb 0 fd_27_0))<|(zDl 1 (fun w hS=>(xlb 2 pl_22 hS)))<|(zDw 2 (xln Zb h.L.slh))<|(zDw 4 (xfb 1 fd_27_1))<|(zDl 5 (fun w hS=>(xlb 2 pl_22 hS)))<|(zDw 6 (xln Zb h.D.slh))<|UJ (r:= [3,7]) ((Xo ?_ (Xo ?_ UI)))
 ·
  refine zka (xmk Zb ZG hS) ?_;rintro v1 w ⟨hS,hv1⟩
  refine⟨⟨fun _=>hS.pk [0,1,2],hS.pk [0,1,2]⟩,?_⟩
  refine(zDw 8 xas)<|zda 7 (xmk Zb ZG hS) ?_;rintro v2 w ⟨hS,hv2⟩
  refine⟨⟨fun _=>hS.pk [0,1,2],hS.pk [0,1,2]⟩,?_⟩
  refine(zDw 9 xas)<|zdd<|ztn<|zsr ?_
  refine(zP)<|(zV (xfb 0 fd_27_0))<|(zV (xlb 2 pl_22 hS))<|Kp rfl rfl rfl (VV 3 rfl Zb rfl rfl hS rfl (h.L.below hS.below) (fun _ _ _=>rfl)) ?_;rintro _ w ⟨rfl,hS⟩
  refine zlz<|(zP)<|(zV (xfb 1 fd_27_1))<|(zV (xlb 2 pl_22 hS))<|Kp rfl rfl rfl (VV 4 rfl Zb rfl rfl hS rfl (h.D.below hS.below) (fun _ _ _=>rfl)) ?_;rintro _ w ⟨rfl,hS⟩
  refine zx5<|(zP)<|(zV (xln Zb hA.slh))<|(zP)<|zx6<|zlp (fun mm M w=>∃(fd:Of) (i:Int),mm=((p.m-i).toNat)/\(0<=i)/\(i<=p.m)/\(∀k,0<=k->k<p.m->fd k=if k<i then p.D k-x k else p.D k)/\M= [(2,Or g1),(4,Or g2),(5,Or g3),(6,v1),(7,v2),(28,vA),(29,.int Oi p.m),(30,.int Oi i)]/\Sat w0 w [.blk g1 [vL,vD,.int Oi p.stock,.int Oi p.kerf,.int Oi b],.blk g2 [Oh,Oh,.int Oi 0,.int Oi 0,.int Oi 0],.blk g3 [vL,vD,.int Oi p.stock,.int Oi p.kerf],.own v1 1 3 p.m (ints p.L),.own v2 1 3 p.d (ints fd)]) ⟨p.D,0,rfl,Oa,Oa,?_,rfl,hS⟩ ?_
  ·
   intro k k0 k1;rw [if_neg Oa]
  clear hS w
  rintro mm M w ⟨fd,i,rfl,h0,h1,hfd,rfl,hS⟩
  refine zsr<|(zP)<|zx7<|Zf ?_ ?_<;>intro hc
  ·
   refine zx3<|(zP)<|(zV (xix (kk:=i) Zb hA.slh))<|zlv (xlr (u:= .int Oi (x i)) pl_3 (hA.below hS.below)) ?_
   have hxi:=hx i h0 Oa;have hei:=hp.all i h0 Oa;unfold Prob.each at hei;have hfi:=hfd i h0 Oa;rw [if_neg Oa] at hfi
   refine(On)<|zlt<|zrg<|(On)<|(zV (xix (kk:=i) Zb hv2))<|(zV (xlr (u:= .int Oi (fd i)) pl_3 (hS.rowN 4 rfl)))<|(zP)<|(zV (Zp (r:=fd i-(x i))))<|(zV (xix (kk:=i) Zb hv2))<|zle (xso 4 pl_3 hS (ZA _ _ _)) ?_;clear hS;rintro w hS
   refine zx10<|(zV (Zg (r:=i+1)))<|(zP)<|zln<|zlq ⟨(upd fd i (fd i-(x i))),i+1,rfl,Oa,Oa,?_,rfl,hS⟩
   ·
    intro k k0 k1;unfold upd;by_cases e:k=i
    · rw [if_pos e,if_pos Oa,e];omega
    · rw [if_neg e,hfd k k0 k1];by_cases e2:k<i
      · rw [if_pos e2,if_pos Oa]
      · rw [if_neg e2,if_neg Oa]
  refine zx8<|(On)<|(zV (xfb 0 fd_27_0))<|zle (xsb 2 pl_22 hS (hv:=hv1.one)) ?_;clear hS;rintro w hS
  refine(zV (xfb 1 fd_27_1))<|zle (xsb 2 pl_22 hS (hv:=hv2.one)) ?_;clear hS;rintro w hS
  refine zlz<|(zV (xls 2 st_27 hS))<|(zV (xfb 4 fd_39_1))<|(zV (xlb 0 pl_3 hS))<|(zV (Zp (r:=b-1)))<|zlv (xany (v:= .agg #[v1,v2,.int Oi p.stock,.int Oi p.kerf,.int Oi (b-1)]) (hr:=by obtain⟨_,_,_,_,rfl,_⟩:=hv1;obtain⟨_,_,_,_,rfl,_⟩:=hv2;kernel_rfl)) ?_
  refine zle (xsw 1 Yg hS (hd:=(Za hv1.one (Za hv2.one (Za rfl (Za rfl (Za rfl Zh))))))) ?_;clear hS;rintro w hS
  refine zx1<|zfc 1 Yg hS ⟨_,rfl,?_⟩
  replace hS:=hS.recont 4 rfl (d:=ints fun k=>p.D k-x k) (fun k k0 k1=>by unfold ints;rw [hfd k k0 Oa,if_pos Oa])
  exact⟨_,_,rfl,hv1,hv2,hS.pk [3,4]⟩
 refine zka (xmk Zb ZG hS) ?_;rintro v1 w ⟨hS,hv1⟩
 refine⟨⟨fun _=>hS.pk [0,1,2],hS.pk [0,1,2]⟩,?_⟩
 refine zda 3 (xmk Zb ZG hS) ?_;rintro v2 w ⟨hS,hv2⟩
 refine⟨⟨fun _=>hS.pk [0,1,2],hS.pk [0,1,2]⟩,?_⟩
 refine(zDw 8 xas)<|(zDw 9 xas)<|zdd<|ztn<|zsr ?_
 refine(zP)<|(zV (xfb 0 fd_27_0))<|(zV (xlb 2 pl_22 hS))<|Kp rfl rfl rfl (VV 4 rfl Zb rfl rfl hS rfl (h.L.below hS.below) (fun _ _ _=>rfl)) ?_;rintro _ w ⟨rfl,hS⟩
 refine zlz<|(zP)<|(zV (xfb 1 fd_27_1))<|(zV (xlb 2 pl_22 hS))<|Kp rfl rfl rfl (VV 3 rfl Zb rfl rfl hS rfl (h.D.below hS.below) (fun _ _ _=>rfl)) ?_;rintro _ w ⟨rfl,hS⟩
 refine zx5<|(zP)<|(zV (xln Zb hA.slh))<|(zP)<|zx6<|zlp (fun mm M w=>∃(fd:Of) (i:Int),mm=((p.m-i).toNat)/\(0<=i)/\(i<=p.m)/\(∀k,0<=k->k<p.m->fd k=if k<i then p.D k-x k else p.D k)/\M= [(2,Or g1),(4,Or g2),(5,Or g3),(6,v2),(7,v1),(28,vA),(29,.int Oi p.m),(30,.int Oi i)]/\Sat w0 w [.blk g1 [vL,vD,.int Oi p.stock,.int Oi p.kerf,.int Oi b],.blk g2 [Oh,Oh,.int Oi 0,.int Oi 0,.int Oi 0],.blk g3 [vL,vD,.int Oi p.stock,.int Oi p.kerf],.own v1 1 3 p.d (ints fd),.own v2 1 3 p.m (ints p.L)]) ⟨p.D,0,rfl,Oa,Oa,?_,rfl,hS⟩ ?_
 ·
  intro k k0 k1;rw [if_neg Oa]
 clear hS w
 rintro mm M w ⟨fd,i,rfl,h0,h1,hfd,rfl,hS⟩
 refine zsr<|(zP)<|zx7<|Zf ?_ ?_<;>intro hc
 ·
  refine zx3<|(zP)<|(zV (xix (kk:=i) Zb hA.slh))<|zlv (xlr (u:= .int Oi (x i)) pl_3 (hA.below hS.below)) ?_
  have hxi:=hx i h0 Oa;have hei:=hp.all i h0 Oa;unfold Prob.each at hei;have hfi:=hfd i h0 Oa;rw [if_neg Oa] at hfi
  refine(On)<|zlt<|zrg<|(On)<|(zV (xix (kk:=i) Zb hv1))<|(zV (xlr (u:= .int Oi (fd i)) pl_3 (hS.rowN 3 rfl)))<|(zP)<|(zV (Zp (r:=fd i-(x i))))<|(zV (xix (kk:=i) Zb hv1))<|zle (xso 3 pl_3 hS (ZA _ _ _)) ?_;clear hS;rintro w hS
  refine zx10<|(zV (Zg (r:=i+1)))<|(zP)<|zln<|zlq ⟨(upd fd i (fd i-(x i))),i+1,rfl,Oa,Oa,?_,rfl,hS⟩
  ·
   intro k k0 k1;unfold upd;by_cases e:k=i
   · rw [if_pos e,if_pos Oa,e];omega
   · rw [if_neg e,hfd k k0 k1];by_cases e2:k<i
     · rw [if_pos e2,if_pos Oa]
     · rw [if_neg e2,if_neg Oa]
 refine zx8<|(On)<|(zV (xfb 0 fd_27_0))<|zle (xsb 2 pl_22 hS (hv:=hv2.one)) ?_;clear hS;rintro w hS
 refine(zV (xfb 1 fd_27_1))<|zle (xsb 2 pl_22 hS (hv:=hv1.one)) ?_;clear hS;rintro w hS
 refine zlz<|(zV (xls 2 st_27 hS))<|(zV (xfb 4 fd_39_1))<|(zV (xlb 0 pl_3 hS))<|(zV (Zp (r:=b-1)))<|zlv (xany (v:= .agg #[v2,v1,.int Oi p.stock,.int Oi p.kerf,.int Oi (b-1)]) (hr:=by obtain⟨_,_,_,_,rfl,_⟩:=hv2;obtain⟨_,_,_,_,rfl,_⟩:=hv1;kernel_rfl)) ?_
 refine zle (xsw 1 Yg hS (hd:=(Za hv2.one (Za hv1.one (Za rfl (Za rfl (Za rfl Zh))))))) ?_;clear hS;rintro w hS
 refine zx1<|zfc 1 Yg hS ⟨_,rfl,?_⟩
 replace hS:=hS.recont 3 rfl (d:=ints fun k=>p.D k-x k) (fun k k0 k1=>by unfold ints;rw [hfd k k0 Oa,if_pos Oa])
 exact⟨_,_,rfl,hv2,hv1,hS.pk [4,3]⟩
end Go.Proofs.YtpnamgfdakfccaaGreat
