import Derived.Test.YtkichmnjjblodaaGreatPeE
set_option linter.unusedVariables false
set_option linter.unusedSimpArgs false
set_option maxRecDepth 20000
set_option maxHeartbeats 4000000
namespace Go.Proofs.YtkichmnjjblodaaGreat
open Go Go.RowKit Go.Proofs.Gw
theorem Zgf:Zc Oj 125=true:=Ob
theorem Zge:Zc Oj 126=true:=Ob
theorem Zl3:Zc Oj 127=true:=Ob
theorem Zgd:Zc Oj 128=true:=Ob
theorem Znd{w:World}{v a b:Value}(h:Row w v 1 2 (fun k=> [a,b].getD k.toNat undef)):Row w v 1 2 (Yh a b):=⟨h.1,fun k D=>by
 have:=h.2 k D
 rcases k with _|_|k
 · exact this
 · exact this
 · simp at D;omega⟩
theorem VAt.mz{w:World}{v X W:Value}{n1 n2:Int}{F D:Int->Value}{I ln2 U O:Oe}{G pt2:Of}(hr:Row w v 2 (n1+n2) (Zd (cat n1 F D) (cat n1 U O)))(h1:VAt w X n1 F I G U)(V:VAt w W n2 D ln2 pt2 O)(n10:0<=n1):VAt w v (n1+n2) (cat n1 F D) (cat n1 I ln2) (cat n1 G pt2) (cat n1 U O):=by
 refine⟨hr,fun i J Y=> ?_,fun i J Y=> ?_⟩
 · unfold Gw.cat
   by_cases h:i<n1
   · rw [if_pos h,if_pos h,if_pos h];exact h1.p i J h
   · rw [if_neg h,if_neg h,if_neg h];exact V.p (i-n1) Oa Oa
 · unfold Gw.cat
   by_cases h:i<n1
   · rw [if_pos h];exact h1.room i J h
   · rw [if_neg h];exact V.room (i-n1) Oa Oa
theorem Zn0(n m:Int)(p q:Int->Value){k:Int}(F:0<=k)(D:k<n+m):Zar (Yh n m) (Yh p q) 2 k=cat n p q k:=by
 simp only [Zar,tot,Yh,Gw.cat]
 by_cases h:k<n
 · simp [h];omega
 · simp [h]
theorem Kj(n m:Int)(p q:Oe){k:Int}(F:0<=k)(D:k<n+m):VE (Yh n m) (Yh p q) 2 k=cat n p q k:=by
 simp only [VE,tot,Yh,Gw.cat]
 by_cases h:k<n
 · simp [h];omega
 · simp [h]
def DownR(p:Prob)(u:Int)(ml:Oe)(mf:Of)(s:So)(out:Us)(e:Int):Prop:=
  (e≠0/\out= []/\∃n ln pt cnt,WholeR p u ml mf s n ln pt cnt e)\/(∃n1 ln1 pt1 yR n2 ln2 pt2 qg,WholeR p u ml mf s n1 ln1 pt1 yR 0/\0<=n1/\0<=n2/\NormR (TL (Yt p.m (p.b8+p.bo) (szP p) (pcsTo (ZL p (Zo n1 pt1 yR)) p.m 0))) (plL n2 ln2 pt2 qg)/\TrimR p (n1+n2) (cat n1 ln1 ln2) (cat n1 pt1 pt2) (cat n1 yR qg) out e)
theorem ZmL{vL vD:Value}{p:Prob}{vM:Value}{u:Int}{mv:Int->Value}{ml:Oe}{mf:Of}{vX vY:Value}{s:So}(w0:World)(h:PAt w0 vL vD p)(hM:MAt w0 vM u mv ml mf)(hX:Row w0 vX 1 s.n (ints s.X))(hY:Row w0 vY 1 s.m (ints s.Y))(ya:s.n<=1000):
   Calls Oj 87 [.agg #[vL,vD,.int Oh p.b8,.int Oh p.bo],.agg #[vM,vX,vY,.int Oh s.val,.int Oh s.den]].toArray w0 fun e w=>∃v,e= .returned v/\∃r n pv ln pt cnt e,v= .tuple #[r,.int Oh e]/\DownR p u ml mf s (plL n ln pt cnt) e/\(∀k,0<=k->k<n->1<=cnt k/\cnt k<=1000000000)/\n<=1000000/\Slh r n/\Sat w0 w [.own r 2 107 n (Zd pv cnt),.sem (Frame.rows 3 n pv ln pt)]:=by
 obtain⟨hm,ah,hd,hd1,hs,hk⟩:=h.Oo
 have hu:=hM.row.cf.n0;have ae:=hM.row.cf.n1;have hn:=hX.cf.n0;have ag:=hX.cf.n1
 refine zenG Tryz.func87 Tryz.ntmps87 fun w D=> ?_
 refine zsr<|zla (xbx (cs:= [_,_,_,_]) D) ?_;rintro _ w ⟨g1,rfl,D⟩
 refine zla (xbx (cs:= [_,_,_,_,_]) D) ?_;rintro _ w ⟨g2,rfl,D⟩
 refine(Om)<|zlz<|(zV (xls 0 st_32 D))<|(zV (xls 1 Xz D))<|zlc (xc0 Zgf) (ZdD (p:=p) (u:=u) (ml:=ml) (mf:=mf) (s:=s) w (h.below D.below) (hM.below D.below) (hX.below D.below) (hY.below D.below) ya) ?_;rintro _ w ⟨W,J,U,xT,Y,qX,cR,rfl,yj,aE,F⟩
 replace D:=(D.comp F).n4;clear F
 have cn:=fun k (I:0<=k) (G:k<J)=>D.db 3 rfl I G
 refine zs5 ?_
 refine zx5<|(Om)<|zlt<|Ze ?_ ?_<;>intro hc
 ·
  refine zsr<|(On)<|zx14<|zf2 ⟨_,rfl,?_⟩
  exact⟨_,0,fun _=>undef,fun _=>0,fun _ _=>0,fun _=>0,_,rfl,.inl ⟨by omega,rfl,_,_,_,_,yj⟩,fun k I G=>Oa,Oa,slh_nil,((D.sub (.cons _ (.cons _ (.cons _ (.cons _ .slnil))))).cg 2 107 (Zd (fun _=>undef) (fun _=>0))).fa 3 (fun _=>undef) (fun _=>0) (fun _ _=>0)⟩
 refine ZM<|zlv (xls 0 st_32 D) ?_
 obtain⟨qk,qr,zl,cw,zr,zt⟩:=yj.ok Oa hu
 have qu:=qk
 refine(zP)<|zlc (xc0 Zdw) (Tm (u:=J) (pv:=U) (ln:=xT) (pt:=Y) (cnt:=qX) (p:=p) w (⟨(D.c7 2 rfl),fun k I G=>D.fq 3 rfl I G,fun k I G=>D.gb 3 rfl I G⟩:VAt _ W J U xT Y qX) (h.below D.below)) ?_;rintro _ w ⟨ql,qd,V,yg,rfl,qt,qf,F⟩
 replace D:=(D.comp F).n5;clear F
 obtain⟨bC,yu⟩:qd=p.m/\V=Zo J Y qX:=by rcases qt with⟨g1,_⟩|⟨_,g2,g3,_⟩;exact absurd zr g1;exact⟨g2,g3⟩
 have zH:∀k,0<=k->k<p.m->0<=V k/\V k<=2000000000:=fun k I G=>by rw [yu];have h9:=Yv zr.2.2 zt (Int.le_refl _) I G;omega
 have yM:=fun k (I:0<=k) (G:k<p.m)=>(zH k I G).1
 have af:=Vv qk yM p.m.toNat (by have:=qk.m1;omega)
 refine zs5 ?_
 refine zx7<|zdst [0,1,2,3,4] [0,1,2,3,4] 1000 mx_ D ?_;clear D;intro w D
 refine(zDl 0 (fun w D=>(xls 0 st_32 D)))<|(zDw 1 xmv)<|(zDl 2 (fun w D=>(xls 0 st_32 D)))<|(zDw 3 xmv)<|zdc 4 (xc0 Zgd) (ZgY (p:=p) (f:=V) w (h.below D.below) qk (bC▸(D.c7 4 rfl)) zH) ?_;rintro _ w ⟨xk,qZ,rfl,xM,xI,F⟩
 replace D:=(D.comp F).n7;clear F
 refine⟨⟨fun _=>D.pk [0,1,2,3,4],D.pk [0,1,2,3,4]⟩,?_⟩
 refine zdc 5 (xc0 Zgg) (Re (p:=(⟨p.m,p.L,p.d,(ZL p V),p.b8,p.bo⟩:Prob)) w (⟨(D.c7 5 rfl),(D.c7 6 rfl),h.iL,(R1 qk yM),(by(try dsimp only);omega),(by(try dsimp only);omega)⟩:PAt _ _ _ (⟨p.m,p.L,p.d,(ZL p V),p.b8,p.bo⟩:Prob)) (Zbf qk yM) (by show psum (fun _=>1) (ZL p _) p.m.toNat<=1000;omega)) ?_;rintro Z w ⟨_,O,X,qI,qF,qB,rfl,qQ,xg,yY,xf,qW,F⟩
 replace D:=(D.comp F).n9;clear F
 have yf:=fun k (I:0<=k) (G:k<O)=>D.db 8 rfl I G
 refine⟨⟨fun _=>D.pk [0,1,2,3,4],D.pk [0,1,2,3,4]⟩,?_⟩
 refine zda 6 (xli (n:=2) (len:=2) (pv:= [(0,W),(1,Z)]) (cs:= [W,Z]) (c:=fun k=>([(W:Value),(Z:Value)]).getD k.toNat undef) TE Zjx D (hf:=by obtain⟨_,_,_,_,rfl,_⟩:=aE;obtain⟨_,_,_,_,rfl,_⟩:=qW;kernel_rfl)) ?_;rintro v1 w ⟨D,ad⟩
 refine⟨⟨fun _=>D.pk [0,1,2,3,4],D.pk [0,1,2,3,4]⟩,?_⟩
 have ac:=Zov (w:=w) (n:=J) (m:=O) (pa:=U) (pb:=X) (ca:=qX) (cb:=qB) (Znd (D.c7 9 rfl)) (D.c7 2 rfl) (D.c7 7 rfl) (fun k I G=>(cn k I G).one) (fun k I G=>(yf k I G).one)
 have ab:∀k:Int,0<=k->k<=2->tot (Yh J O) k.toNat<=10000000:=fun k I G=>by
   have:k=0\/k=1\/k=2:=Oa
   rcases this with rfl|rfl|rfl
   · simp [tot]
   · simp [tot,Yh];omega
   · have e2:=ZhA J O;rw [show(2:Int).toNat=2 from rfl,e2];omega
 refine zdc 7 (xc0 Zl3) (ZeE w ac ab) ?_;rintro aa w ⟨_,rfl,qb,F⟩
 rw [show(2:Int).toNat=2 from rfl,ZhA] at qb F
 replace F:=F.gi 0 rfl (d:=Zd (cat J U X) (cat J qX qB)) (fun k I G=>by unfold Zd;rw [Zn0 _ _ _ _ Oa Oa,Kj _ _ _ _ Oa Oa])
 replace D:Sat w0 w [.blk g1 [vL,vD,.int Oh p.b8,.int Oh p.bo],.blk g2 [vM,vX,vY,.int Oh s.val,.int Oh s.den],.own W 2 107 J (Zd U qX),.sem (Frame.rows 3 J U xT Y),.own ql 1 3 qd (ints V),.own xk 1 3 p.m (ints p.L),.own qZ 1 3 p.d (ints (ZL p V)),.own Z 2 107 O (Zd X qB),.sem (Frame.rows 3 O X qI qF),.own v1 1 60 2 (fun k=>([(W:Value),(Z:Value)]).getD k.toNat undef),.own aa 2 107 (J+O) (Zd (cat J U X) (cat J qX qB))]:=D.comp F
 clear F
 refine⟨⟨fun _=>D.pk [0,1,2,3,4],D.pk [0,1,2,3,4]⟩,?_⟩
 refine zdc 8 (xc0 Zge) (Zgx (u:=(J+O)) (pv:=(cat J U X)) (ln:=(cat J xT qI)) (pt:=(cat J Y qF)) (cnt:=(cat J qX qB)) (p:=p) w (VAt.mz (D.c7 10 rfl) (⟨(D.c7 2 rfl),fun k I G=>D.fq 3 rfl I G,fun k I G=>D.gb 3 rfl I G⟩:VAt _ W J U xT Y qX) (⟨(D.c7 7 rfl),fun k I G=>D.fq 8 rfl I G,fun k I G=>D.gb 8 rfl I G⟩:VAt _ Z O X qI qF qB) Oa) (h.below D.below)) ?_;rintro _ w ⟨bG,zi,bR,bV,cP,cU,cT,rfl,yp,yr,yq,yl,F⟩
 replace D:=(D.comp F).n13;clear F
 have aL:=fun k (I:0<=k) (G:k<zi)=>D.db 12 rfl I G
 refine⟨⟨fun _=>D.pk [0,1,2,3,4],D.pk [0,1,2,3,4]⟩,?_⟩
 refine(zDw 9 xex)<|(zDw 10 xex)<|(zDw 11 xas)<|(zDw 12 xas)<|zdd<|ztn<|zrt<|zf2 ⟨_,rfl,?_⟩
 exact⟨_,_,_,_,_,_,_,rfl,.inr ⟨_,_,_,_,_,_,_,_,(by rw [show(0:Int)=cR by omega];exact yj),zt,xg,(by rw [<-yu];exact qQ),yp⟩,yr,yq,yl,D.pk [11,12]⟩
variable {a b nm:Int} {gs:Nat} {vd:Value}
theorem Zap:Zc Oj 130=true:=Ob
theorem Zlv:Zc Oj 171=true:=Ob
theorem Zf5:Zc Oj 197=true:=Ob
theorem Zan:Zc Oj 198=true:=Ob
theorem Zk1:Zc Oj 214=true:=Ob
theorem Zcs:Zc Oj 224=true:=Ob
theorem ZcE{n:Int}{s:Oe}{F:Gw.Frame}{m:Int}(w0 w:World)(D:Sat w0 w [.own vd 1 3 n (ints s),.sem F])(G:Slh vd n)(U:n<=100000000)(Z:0<=a)(V:0<=m)(Y:a+m<=b)(X:b+m<=n):
   Calls Oj 224 [vd,.int Oh a,.int Oh b,.int Oh m,.func (.func 130) #[] #[(Oq gs)]].toArray w fun e w=>∃v,e= .returned v/\v= .tuple #[]/\Sat w0 w [.own vd 1 3 n (ints (swr s a b m)),.sem F]:=by
 refine zenF Tryz.func224 Tryz.ntmps224 ?_
 refine zsr<|(zP)<|zx6<|zlp (fun I M w=>∃(t:Oe) (i:Int),I=((m-i).toNat)/\(0<=i)/\(i<=m)/\(t=swr s a b i)/\M= [(0,vd),(1,.int Oh a),(2,.int Oh b),(3,.int Oh m),(10,.int Oh i)]/\Sat w0 w [.own vd 1 3 n (ints t),.sem F]) ⟨s,0,rfl,Oa,Oa,?_,rfl,D⟩ ?_
 ·
  exact(ZaM s a b).symm
 clear D w
 rintro I M w ⟨t,i,rfl,O,W,J,rfl,D⟩
 refine zx11<|(On)<|zlt<|Ze ?_ ?_<;>intro hc
 ·
  refine zx38<|zdst [0,1] [1] 21 mx_ D ?_;clear D;intro w D
  refine(zDw 0 xmv)<|(zDw 1 xmv)<|(zDw 2 xmv)<|(zDw 3 (Zg (r:=a+i)))<|(zDw 4 xmv)<|(zDw 5 xmv)<|(zDw 6 xmv)<|(zDw 7 (Zg (r:=b+i)))<|(zDw 8 xmv)<|(zDw 9 xmv)<|(zDw 10 xmv)<|(zDw 11 (Zg (r:=b+i)))<|(zDw 12 (xix (kk:=b+i) Zb G))<|zdl 13 (fun w D=>(xlr (u:= .int Oh (t (b+i))) pl_3 (D.c7 0 rfl))) ?_
  refine(zDw 14 xmv)<|(zDw 15 xmv)<|(zDw 16 xmv)<|(zDw 17 (Zg (r:=a+i)))<|(zDw 18 (xix (kk:=a+i) Zb G))<|zdl 19 (fun w D=>(xlr (u:= .int Oh (t (a+i))) pl_3 (D.c7 0 rfl))) ?_
  refine(zDw 20 (xix (kk:=a+i) Zb G))<|zde 21 (xso 0 pl_3 D rfl) ?_;clear D;rintro w D
  refine⟨⟨fun h=>absurd h (by decide),D.pk [1]⟩,?_⟩
  refine(zDw 22 (xix (kk:=b+i) Zb G))<|zde 23 (xso 0 pl_3 D (Ui t (a+i) (b+i))) ?_;clear D;rintro w D
  refine⟨⟨fun h=>absurd h (by decide),D.pk [1]⟩,?_⟩
  refine zdd<|zbn<|ztn<|zrg ?_
  refine(zP)<|(zV (Zg (r:=i+1)))<|(zP)<|zln<|zlq ⟨swp t (a+i) (b+i),i+1,rfl,Oa,Oa,?_,rfl,D⟩
  ·
   rw [J];exact ZaN O Oa Oa Oa
 refine zxt<|ztx<|ztx<|zbh<|XP ⟨_,rfl,?_⟩
 obtain rfl:i=m:=Oa
 subst J
 exact⟨rfl,D⟩
theorem Zmm{n:Int}{s:Oe}{F:Gw.Frame}{m:Int}(w0 w:World)(D:Sat w0 w [.own vd 1 3 n (ints s),.sem F])(G:Slh vd n)(I:n<=100000000)(a0:0<=a)(am:a<m)(U:m<b)(Z:b<=n):
   Calls Oj 214 [vd,.int Oh a,.int Oh m,.int Oh b,.func (.func 130) #[] #[(Oq gs)]].toArray w fun e w=>∃v,e= .returned v/\v= .tuple #[]/\Sat w0 w [.own vd 1 3 n (ints (rot s a m b)),.sem F]:=by
 refine zenF Tryz.func214 Tryz.ntmps214 ?_
 refine zsr<|(Om)<|(zV (Zw (r:=m-a)))<|(zP)<|zlz<|(Om)<|(zV (Zw (r:=b-m)))<|(zP)<|zlt<|zsq<|zbk<|zlp (fun J M w=>∃(t:Oe) (i:Int) (j:Int),J=((i+j).toNat)/\(1<=i)/\(1<=j)/\(a<=m-i)/\(m+j<=b)/\(rot t (m-i) m (m+j)=rot s a m b)/\M= [(0,vd),(2,.int Oh m),(4,.func (.func 130) #[] #[(Oq gs)]),(10,.int Oh i),(11,.int Oh j)]/\Sat w0 w [.own vd 1 3 n (ints t),.sem F]) ⟨s,m-a,b-m,rfl,Oa,Oa,Oa,Oa,?_,rfl,D⟩ ?_
 ·
  rw [show m-(m-a)=a by omega,show m+(b-m)=b by omega]
 clear D w
 rintro J M w ⟨t,i,j,rfl,Y,W,X,V,hr,rfl,D⟩
 refine zx11<|(On)<|zlt<|Ze ?_ ?_<;>intro hc
 ·
  refine zsk<|ztn<|zbk<|zsr<|(On)<|zlt<|Ze ?_ ?_<;>intro hc
  ·
   refine zsr<|(On)<|(zV (Zw (r:=m-i)))<|(On)<|zlc (xc0 Zcs) (ZcE (s:=t) (a:=m-i) (b:=m) (m:=j) w0 w D G I Oa Oa Oa Oa) ?_;rintro _ w ⟨rfl,D⟩
   refine zlt<|zrg<|(Om)<|(zV (Zw (r:=i-j)))<|(zP)<|zln<|zbn<|zlq ⟨(swr t (m-i) m j),i-j,j,rfl,Oa,Oa,Oa,Oa,?_,rfl,D⟩
   ·
    first|(rw [<-hr,show m-(i-j)=m-i+j by omega];exact V3 Oa Oa)|(rw [<-hr,show m+(j-i)=m+j-i by omega];exact Vo Oa Oa)
  refine zsr<|(On)<|(zV (Zw (r:=m-i)))<|(Om)<|(zV (Zg (r:=m+j)))<|(zP)<|(zV (Zw (r:=m+j-i)))<|(Om)<|zlc (xc0 Zcs) (ZcE (s:=t) (a:=m-i) (b:=m+j-i) (m:=i) w0 w D G I Oa Oa Oa Oa) ?_;rintro _ w ⟨rfl,D⟩
  refine zlt<|zrg<|(Om)<|(zV (Zw (r:=j-i)))<|(zP)<|zln<|zbn<|zlq ⟨(swr t (m-i) (m+j-i) i),i,j-i,rfl,Oa,Oa,Oa,Oa,?_,rfl,D⟩
  ·
   first|(rw [<-hr,show m-(i-j)=m-i+j by omega];exact V3 Oa Oa)|(rw [<-hr,show m+(j-i)=m+j-i by omega];exact Vo Oa Oa)
 refine zxt<|ztx<|ztx<|zbh<|ztn<|zrg<|(On)<|(zV (Zw (r:=m-i)))<|(On)<|zlc (xc0 Zcs) (ZcE (s:=t) (a:=m-i) (b:=m) (m:=i) w0 w D G I Oa Oa Oa Oa) ?_;rintro _ w ⟨rfl,D⟩
 refine zln<|XP ⟨_,rfl,?_⟩
 have O:(swr t (m-i) m i)=rot s a m b:=by
   rw [<-hr,show j=i by omega];exact ZaY Oa
 rw [O] at D
 exact⟨rfl,D⟩
theorem Zg6 {n:Int} {s:Oe} {lt:Int->Int->Prop} {F:Gw.Frame} (w0 w:World) (D:Sat w0 w [.own vd 1 3 n (ints s),.sem F]) (I:Slh vd n) (aa:n<=100000000) (qM:∀(w:World) (x y:Int),0<=x->x<nm->0<=y->y<nm->Below w0.heap.size w0 w->F.holds w->Calls Oj 130 [.int Oh x,.int Oh y,(Oq gs)].toArray w fun e w'=>∃v,e= .returned v/\∃c:Int,v= .int Oh c/\(c<0↔lt x y)/\Sat w w' []) (hd:∀k,0<=k->k<n->0<=s k/\s k<nm) (hw:Swo lt) (a0:0<=a) (ab:a<=b) (bn:b<=n) (xj:Tc a b s):
   Calls Oj 197 [vd,.int Oh a,.int Oh b,.func (.func 130) #[] #[(Oq gs)]].toArray w fun e w=>∃v,e= .returned v/\v= .tuple #[]/\∃t:Oe,PermOn a b s t/\Srt (Tie lt) a b t/\Sat w0 w [.own vd 1 3 n (ints t),.sem F]:=by
 refine zenF Tryz.func197 Tryz.ntmps197 ?_
 refine zsr<|(zP)<|(zV (Zg (r:=a+1)))<|(zP)<|zx6<|zlp (fun O M w=>∃(t:Oe) (i:Int),O=((b-i).toNat)/\(a+1<=i)/\(i<=b\/i=a+1)/\(PermOn a i s t)/\(Srt (Tie lt) a i t)/\(∀k,0<=k->k<n->0<=t k/\t k<nm)/\M= [(0,vd),(1,.int Oh a),(2,.int Oh b),(3,.func (.func 130) #[] #[(Oq gs)]),(8,.int Oh i)]/\Sat w0 w [.own vd 1 3 n (ints t),.sem F]) ⟨s,a+1,rfl,Oa,Oa,?_,?_,?_,rfl,D⟩ ?_
 ·
  exact .refl _ _ _
 ·
  intro p q p0 pq q1;omega
 ·
  exact hd
 clear D w
 rintro O M w ⟨t,i,rfl,i0,i1,U,hs,hd1,rfl,D⟩
 refine zx11<|(On)<|zlt<|Ze ?_ ?_<;>intro hc
 ·
  refine zx3<|(Om)<|zx6<|zlp (fun O M w=>∃(G:Oe) (j:Int),O=((j-a).toNat)/\(a<=j)/\(j<=i)/\(Ins lt a i j t G)/\(∀k,0<=k->k<n->0<=G k/\G k<nm)/\M= [(0,vd),(1,.int Oh a),(2,.int Oh b),(3,.func (.func 130) #[] #[(Oq gs)]),(8,.int Oh i),(9,.int Oh j)]/\Sat w0 w [.own vd 1 3 n (ints G),.sem F]) ⟨t,i,rfl,Oa,Oa,?_,?_,rfl,D⟩ ?_
  ·
   exact Ins.start Oa hs (Zc7 U xj Oa)
  ·
   exact hd1
  clear D w
  rintro O M w ⟨G,j,rfl,j0,j1,W,hd2,rfl,D⟩
  refine zsq<|zsq<|zdst [0,1] [0,1] 1000 mx_ D ?_;clear D;intro w D
  refine(zDw 0 xmv)<|(zDw 1 xmv)<|(zDw 2 Yu)<|(zDw 3 xmv)<|zdb 21 ?_ ?_<;>intro hc
  ·
   refine(zDw 4 xmv)<|(zDw 5 xmv)<|(zDw 6 xmv)<|(zDw 7 (xix (kk:=j) Zb I))<|(zDl 8 (fun w D=>(xlr (u:= .int Oh (G j)) pl_3 (D.c7 0 rfl))))<|(zDw 9 xmv)<|(zDw 10 xmv)<|(zDw 11 (Zw (r:=j-1)))<|(zDw 12 (xix (kk:=j-1) Zb I))<|(zDl 13 (fun w D=>(xlr (u:= .int Oh (G (j-1))) pl_3 (D.c7 0 rfl))))<|zdc 14 (xcc (vs:= [_,_]) Zap) (qM w (G j) (G (j-1)) (hd2 j Oa Oa).1 (hd2 j Oa Oa).2 (hd2 (j-1) Oa Oa).1 (hd2 (j-1) Oa Oa).2 D.below (D.holds _ (List.mem_of_getElem? (i:=1) rfl))) ?_;rintro _ w ⟨Z,rfl,J,V⟩
   replace D:=D.cmp V;clear V
   refine⟨⟨fun _=>D,D⟩,?_⟩
   refine(zDw 15 Z7)<|(zDw 16 xpt)<|zdd<|ztn ?_
   refine Ze ?_ ?_<;>intro hc
   ·
    refine zx38<|zdst [0,1] [1] 15 mx_ D ?_;clear D;intro w D
    refine(zDw 0 xmv)<|(zDw 1 xmv)<|(zDw 2 xmv)<|(zDw 3 xmv)<|(zDw 4 (Zw (r:=j-1)))<|(zDw 5 xmv)<|(zDw 6 xmv)<|(zDw 7 (Zw (r:=j-1)))<|(zDw 8 (xix (kk:=j-1) Zb I))<|zdl 9 (fun w D=>(xlr (u:= .int Oh (G (j-1))) pl_3 (D.c7 0 rfl))) ?_
    refine(zDw 10 xmv)<|(zDw 11 xmv)<|(zDw 12 (xix (kk:=j) Zb I))<|zdl 13 (fun w D=>(xlr (u:= .int Oh (G j)) pl_3 (D.c7 0 rfl))) ?_
    refine(zDw 14 (xix (kk:=j) Zb I))<|zde 15 (xso 0 pl_3 D rfl) ?_;clear D;rintro w D
    refine⟨⟨fun h=>absurd h (by decide),D.pk [1]⟩,?_⟩
    refine(zDw 16 (xix (kk:=j-1) Zb I))<|zde 17 (xso 0 pl_3 D (Ui G j (j-1))) ?_;clear D;rintro w D
    refine⟨⟨fun h=>absurd h (by decide),D.pk [1]⟩,?_⟩
    refine zdd<|zbn<|ztn<|zrg ?_
    refine(zP)<|(zV (Zw (r:=j-1)))<|(zP)<|zln<|zlq ⟨swp G j (j-1),j-1,rfl,Oa,Oa,?_,?_,rfl,D⟩
    ·
     exact W.step Oa Oa (J.1 ‹Z<0›)
    ·
     exact(Tz (lo:=a) (hi:=n) Oa Oa Oa Oa).ir a0 (.inl Oa) hd2
   refine zx21<|(zP)<|(zV (Zg (r:=i+1)))<|(zP)<|zln<|zlq ⟨G,i+1,rfl,Oa,Oa,?_,?_,?_,rfl,D⟩
   ·
    exact(U.mono Oa Oa).trans W.perm
   ·
    exact W.fin hw Oa Oa (by first|exact .inl Oa|exact .inr fun h=>absurd (J.2 h) ‹¬Z<0›)
   ·
    exact hd2
  refine(zDo 4)<|(zDo 5)<|(zDo 6)<|(zDo 7)<|(zDo 8)<|(zDo 9)<|(zDo 10)<|(zDo 11)<|(zDo 12)<|(zDo 13)<|(zDo 14)<|(zDo 15)<|(zDw 16 xpf)<|zdd<|ztn<|zcf<|zxt<|ztx<|ztx<|zbh<|zbn<|ztn<|zrg ?_
  refine(zP)<|(zV (Zg (r:=i+1)))<|(zP)<|zln<|zlq ⟨G,i+1,rfl,Oa,Oa,?_,?_,?_,rfl,D⟩
  ·
   exact(U.mono Oa Oa).trans W.perm
  ·
   exact W.fin hw Oa Oa (by first|exact .inl Oa|exact .inr fun h=>absurd (J.2 h) ‹¬Z<0›)
  ·
   exact hd2
 refine zxt<|ztx<|ztx<|zbh<|XP ⟨_,rfl,?_⟩
 refine⟨rfl,t,?_,?_,D⟩
 · by_cases hab:i<=b
   · exact U.mono Oa Oa
   · obtain⟨p_,q_,Y,e2,e3⟩:=U
     exact⟨p_,q_,Y,fun k hk=>by
       by_cases hka:k=a
       · subst hka
         apply Classical.byContradiction;intro X
         have h5:=e2 (p_ k) Oa
         have h6:=congrArg q_ h5
         rw [(Y _).2,(Y _).2] at h6;exact X h6
       · exact e2 k Oa,e3⟩
 · exact hs.mono Oa Oa
theorem Zgz {n:Int} {lt:Int->Int->Prop} {F:Gw.Frame} (G:Slh vd n) (ac:n<=100000000) (hw:Swo lt) (N:Nat):∀{s:Oe} {a m b:Int} (w0 w:World) (D:Sat w0 w [.own vd 1 3 n (ints s),.sem F]) (qM:∀(w:World) (x y:Int),0<=x->x<nm->0<=y->y<nm->Below w0.heap.size w0 w->F.holds w->Calls Oj 130 [.int Oh x,.int Oh y,(Oq gs)].toArray w fun e w'=>∃v,e= .returned v/\∃c:Int,v= .int Oh c/\(c<0↔lt x y)/\Sat w w' []) (hd:∀k,0<=k->k<n->0<=s k/\s k<nm) (a0:0<=a) (am:a<m) (mb:m<b) (bn:b<=n) (h1:Srt (Tie lt) a m s) (h2:Srt (Tie lt) m b s) (hp:Parted a m b s) (hN:(b-a).toNat<N),
   Calls Oj 198 [vd,.int Oh a,.int Oh m,.int Oh b,.func (.func 130) #[] #[(Oq gs)]].toArray w fun e w=>∃v,e= .returned v/\v= .tuple #[]/\∃t:Oe,PermOn a b s t/\Srt (Tie lt) a b t/\Sat w0 w [.own vd 1 3 n (ints t),.sem F]:=by
 induction N with
 |zero=>intros;omega
 | succ N ih=>
   intro s a m b w0 w D qM hd a0 am mb bn h1 h2 hp hN
   refine zenF Tryz.func198 Tryz.ntmps198 ?_
   refine zx11<|(Om)<|(zV (Zw (r:=m-a)))<|(zP)<|zlt<|Ze ?_ ?_<;>intro hc
   ·
    refine zsr<|(Om)<|zlz<|(Om)<|zlt<|zsq<|zbk<|zlp (fun V M w=>∃(i:Int) (j:Int),V=((j-i).toNat)/\(m<=i)/\(i<=j)/\(j<=b)/\(i=a+1\/lt (s (i-1)) (s a))/\(j=b\/¬lt (s j) (s a))/\M= [(0,vd),(1,.int Oh a),(2,.int Oh m),(3,.int Oh b),(4,.func (.func 130) #[] #[(Oq gs)]),(10,.int Oh i),(11,.int Oh j)]/\Sat w0 w [.own vd 1 3 n (ints s),.sem F]) ⟨m,b,rfl,Oa,Oa,Oa,?_,?_,rfl,D⟩ ?_
    ·
     exact .inl Oa
    ·
     exact .inl rfl
    clear D w
    rintro V M w ⟨i,j,rfl,i0,ij,j1,hi,hj,rfl,D⟩
    refine zx11<|(On)<|zlt<|Ze ?_ ?_<;>intro hc
    ·
     refine zsk<|ztn<|zbk<|zsr<|(Om)<|(zV (Zg (r:=i+j)))<|(zV (xcv Rl Wk))<|(zV (UV (r:=((i+j)/2))))<|(zV (xcv Wz Zab))<|(zP)<|zx7<|zdst [0,1] [0,1] 1000 mx_ D ?_;clear D;intro w D
     refine(zDw 0 xmv)<|(zDw 1 xmv)<|(zDw 2 xmv)<|(zDw 3 (xix (kk:=((i+j)/2)) Zb G))<|(zDl 4 (fun w D=>(xlr (u:= .int Oh (s ((i+j)/2))) pl_3 (D.c7 0 rfl))))<|(zDw 5 xmv)<|(zDw 6 xmv)<|(zDw 7 (xix (kk:=a) Zb G))<|(zDl 8 (fun w D=>(xlr (u:= .int Oh (s a)) pl_3 (D.c7 0 rfl))))<|zdc 9 (xcc (vs:= [_,_]) Zap) (qM w (s ((i+j)/2)) (s a) (hd ((i+j)/2) Oa Oa).1 (hd ((i+j)/2) Oa Oa).2 (hd a Oa Oa).1 (hd a Oa Oa).2 D.below (D.holds _ (List.mem_of_getElem? (i:=1) rfl))) ?_;rintro _ w ⟨Z,rfl,I,J⟩
     replace D:=D.cmp J;clear J
     refine⟨⟨fun _=>D,D⟩,?_⟩
     refine(zDw 10 Z7)<|zdd<|ztn ?_
     refine Ze ?_ ?_<;>intro hc
     ·
      refine zrg<|(zP)<|(zV (Zg (r:=((i+j)/2)+1)))<|(zP)<|zln<|zbn<|zlq ⟨((i+j)/2)+1,j,rfl,Oa,Oa,Oa,?_,?_,rfl,D⟩
      ·
       first|exact hi|(right;rw [show(i+j)/2+1-1=(i+j)/2 by omega];exact I.1 ‹Z<0›)
      ·
       first|exact hj|exact .inr fun h=>absurd (I.2 h) ‹¬Z<0›
     refine zrg<|(Om)<|zln<|zbn<|zlq ⟨i,((i+j)/2),rfl,Oa,Oa,Oa,?_,?_,rfl,D⟩
     ·
      first|exact hi|(right;rw [show(i+j)/2+1-1=(i+j)/2 by omega];exact I.1 ‹Z<0›)
     ·
      first|exact hj|exact .inr fun h=>absurd (I.2 h) ‹¬Z<0›
    refine zx18<|(Om)<|zx6<|zlp (fun V M w=>∃(t:Oe) (k:Int),V=((i-1-k).toNat)/\(a<=k)/\(k<=i-1)/\(t=rot s a (a+1) (k+1))/\M= [(0,vd),(1,.int Oh a),(2,.int Oh m),(3,.int Oh b),(4,.func (.func 130) #[] #[(Oq gs)]),(10,.int Oh i),(13,.int Oh k)]/\Sat w0 w [.own vd 1 3 n (ints t),.sem F]) ⟨s,a,rfl,Oa,Oa,?_,rfl,D⟩ ?_
    ·
     exact(ZaT s a).symm
    clear D w
    rintro V M w ⟨t,k,rfl,k0,k1,O,rfl,D⟩
    refine zx11<|(Om)<|(zV (Zw (r:=i-1)))<|(zP)<|zlt<|Ze ?_ ?_<;>intro hc
    ·
     refine zx38<|zdst [0,1] [1] 15 mx_ D ?_;clear D;intro w D
     refine(zDw 0 xmv)<|(zDw 1 xmv)<|(zDw 2 xmv)<|(zDw 3 xmv)<|(zDw 4 (Zg (r:=k+1)))<|(zDw 5 xmv)<|(zDw 6 xmv)<|(zDw 7 (Zg (r:=k+1)))<|(zDw 8 (xix (kk:=k+1) Zb G))<|zdl 9 (fun w D=>(xlr (u:= .int Oh (t (k+1))) pl_3 (D.c7 0 rfl))) ?_
     refine(zDw 10 xmv)<|(zDw 11 xmv)<|(zDw 12 (xix (kk:=k) Zb G))<|zdl 13 (fun w D=>(xlr (u:= .int Oh (t k)) pl_3 (D.c7 0 rfl))) ?_
     refine(zDw 14 (xix (kk:=k) Zb G))<|zde 15 (xso 0 pl_3 D rfl) ?_;clear D;rintro w D
     refine⟨⟨fun h=>absurd h (by decide),D.pk [1]⟩,?_⟩
     refine(zDw 16 (xix (kk:=k+1) Zb G))<|zde 17 (xso 0 pl_3 D (Ui t k (k+1))) ?_;clear D;rintro w D
     refine⟨⟨fun h=>absurd h (by decide),D.pk [1]⟩,?_⟩
     refine zdd<|zbn<|ztn<|zrg ?_
     refine(zP)<|(zV (Zg (r:=k+1)))<|(zP)<|zln<|zlq ⟨swp t k (k+1),k+1,rfl,Oa,Oa,?_,rfl,D⟩
     ·
      rw [O];exact ZaU Oa
    refine zxt<|ztx<|ztx<|zbh<|ztn<|zrt<|ztr<|zf0 ⟨_,rfl,?_⟩
    have ab:k+1=i:=Oa
    rw [ab] at O
    refine⟨rfl,t,?_,?_,D⟩
    · rw [O];exact(YD Oa Oa).mono Oa Oa
    · rw [O];obtain rfl:m=a+1:=Oa
      exact RV hw h2 (fun j j0 j1=>hp a j Oa Oa j0 j1) Oa Oa hi (by rw [show i=j by omega];exact hj)
   refine YL<|(Om)<|(zV (Zw (r:=b-m)))<|(zP)<|zlt<|Ze ?_ ?_<;>intro hc
   ·
    refine zsr<|(Om)<|zlz<|(Om)<|zlt<|zsq<|zbk<|zlp (fun V M w=>∃(i:Int) (j:Int),V=((j-i).toNat)/\(a<=i)/\(i<=j)/\(j<=m)/\(i=a\/¬lt (s m) (s (i-1)))/\(j=m\/lt (s m) (s j))/\M= [(0,vd),(1,.int Oh a),(2,.int Oh m),(3,.int Oh b),(4,.func (.func 130) #[] #[(Oq gs)]),(14,.int Oh i),(15,.int Oh j)]/\Sat w0 w [.own vd 1 3 n (ints s),.sem F]) ⟨a,m,rfl,Oa,Oa,Oa,?_,?_,rfl,D⟩ ?_
    ·
     exact .inl rfl
    ·
     exact .inl rfl
    clear D w
    rintro V M w ⟨i,j,rfl,i0,ij,j1,hi,hj,rfl,D⟩
    refine zx11<|(On)<|zlt<|Ze ?_ ?_<;>intro hc
    ·
     refine zsk<|ztn<|zbk<|zsr<|(Om)<|(zV (Zg (r:=i+j)))<|(zV (xcv Rl Wk))<|(zV (UV (r:=((i+j)/2))))<|(zV (xcv Wz Zab))<|(zP)<|zx7<|zdst [0,1] [0,1] 1000 mx_ D ?_;clear D;intro w D
     refine(zDw 0 xmv)<|(zDw 1 xmv)<|(zDw 2 xmv)<|(zDw 3 (xix (kk:=m) Zb G))<|(zDl 4 (fun w D=>(xlr (u:= .int Oh (s m)) pl_3 (D.c7 0 rfl))))<|(zDw 5 xmv)<|(zDw 6 xmv)<|(zDw 7 (xix (kk:=((i+j)/2)) Zb G))<|(zDl 8 (fun w D=>(xlr (u:= .int Oh (s ((i+j)/2))) pl_3 (D.c7 0 rfl))))<|zdc 9 (xcc (vs:= [_,_]) Zap) (qM w (s m) (s ((i+j)/2)) (hd m Oa Oa).1 (hd m Oa Oa).2 (hd ((i+j)/2) Oa Oa).1 (hd ((i+j)/2) Oa Oa).2 D.below (D.holds _ (List.mem_of_getElem? (i:=1) rfl))) ?_;rintro _ w ⟨Z,rfl,I,J⟩
     replace D:=D.cmp J;clear J
     refine⟨⟨fun _=>D,D⟩,?_⟩
     refine(zDw 10 Z7)<|(zDw 11 YH)<|zdd<|ztn ?_
     refine Ze ?_ ?_<;>intro hc
     ·
      refine zrg<|(zP)<|(zV (Zg (r:=((i+j)/2)+1)))<|(zP)<|zln<|zbn<|zlq ⟨((i+j)/2)+1,j,rfl,Oa,Oa,Oa,?_,?_,rfl,D⟩
      ·
       first|exact hi|(right;rw [show(i+j)/2+1-1=(i+j)/2 by omega];exact fun h=>absurd (I.2 h) ‹¬Z<0›)
      ·
       first|exact hj|exact .inr (I.1 (Oc ‹_›))
     refine zrg<|(Om)<|zln<|zbn<|zlq ⟨i,((i+j)/2),rfl,Oa,Oa,Oa,?_,?_,rfl,D⟩
     ·
      first|exact hi|(right;rw [show(i+j)/2+1-1=(i+j)/2 by omega];exact fun h=>absurd (I.2 h) ‹¬Z<0›)
     ·
      first|exact hj|exact .inr (I.1 (Oc ‹_›))
    refine zx18<|(Om)<|zx6<|zlp (fun V M w=>∃(t:Oe) (k:Int),V=((k-i).toNat)/\(i<=k)/\(k<=m)/\(t=rot s k m (m+1))/\M= [(0,vd),(1,.int Oh a),(2,.int Oh m),(3,.int Oh b),(4,.func (.func 130) #[] #[(Oq gs)]),(14,.int Oh i),(17,.int Oh k)]/\Sat w0 w [.own vd 1 3 n (ints t),.sem F]) ⟨s,m,rfl,Oa,Oa,?_,rfl,D⟩ ?_
    ·
     exact(ZaR s m).symm
    clear D w
    rintro V M w ⟨t,k,rfl,k0,k1,O,rfl,D⟩
    refine zx11<|(On)<|zlt<|Ze ?_ ?_<;>intro hc
    ·
     refine zx38<|zdst [0,1] [1] 15 mx_ D ?_;clear D;intro w D
     refine(zDw 0 xmv)<|(zDw 1 xmv)<|(zDw 2 xmv)<|(zDw 3 xmv)<|(zDw 4 (Zw (r:=k-1)))<|(zDw 5 xmv)<|(zDw 6 xmv)<|(zDw 7 (Zw (r:=k-1)))<|(zDw 8 (xix (kk:=k-1) Zb G))<|zdl 9 (fun w D=>(xlr (u:= .int Oh (t (k-1))) pl_3 (D.c7 0 rfl))) ?_
     refine(zDw 10 xmv)<|(zDw 11 xmv)<|(zDw 12 (xix (kk:=k) Zb G))<|zdl 13 (fun w D=>(xlr (u:= .int Oh (t k)) pl_3 (D.c7 0 rfl))) ?_
     refine(zDw 14 (xix (kk:=k) Zb G))<|zde 15 (xso 0 pl_3 D rfl) ?_;clear D;rintro w D
     refine⟨⟨fun h=>absurd h (by decide),D.pk [1]⟩,?_⟩
     refine(zDw 16 (xix (kk:=k-1) Zb G))<|zde 17 (xso 0 pl_3 D (Ui t k (k-1))) ?_;clear D;rintro w D
     refine⟨⟨fun h=>absurd h (by decide),D.pk [1]⟩,?_⟩
     refine zdd<|zbn<|ztn<|zrg ?_
     refine(zP)<|(zV (Zw (r:=k-1)))<|(zP)<|zln<|zlq ⟨swp t k (k-1),k-1,rfl,Oa,Oa,?_,rfl,D⟩
     ·
      rw [O];exact ZaS Oa
    refine zxt<|ztx<|ztx<|zbh<|ztn<|zrt<|ztr<|zf0 ⟨_,rfl,?_⟩
    have ab:k=i:=Oa
    rw [ab] at O
    refine⟨rfl,t,?_,?_,D⟩
    · rw [O];exact(YD Oa Oa).mono Oa Oa
    · rw [O];obtain rfl:b=m+1:=Oa
      exact TN hw h1 (fun i i0 i1=>hp i m i0 i1 Oa Oa) Oa Oa hi (by rw [show i=j by omega];exact hj)
   refine ZM<|(Om)<|(zV (Zg (r:=a+b)))<|(zV (xcv Rl Wk))<|(zV (UV (r:=((a+b)/2))))<|(zV (xcv Wz Zab))<|(zP)<|zlz<|(Om)<|(zV (Zg (r:=((a+b)/2)+m)))<|(zP)<|zlz<|(Om)<|zx7 ?_
   refine WR (fun M w=>∃(mid:Int) (s0:Int) (r0:Int),(mid=((a+b)/2))/\((mid<m/\s0=mid+m-b/\r0=mid)\/(m<=mid/\s0=a/\r0=m))/\M= [(0,vd),(1,.int Oh a),(2,.int Oh m),(3,.int Oh b),(4,.func (.func 130) #[] #[(Oq gs)]),(25,.int Oh m),(26,.int Oh a),(27,.int Oh (m-a)),(28,B (m-a=1)),(77,.int Oh b),(78,.int Oh m),(79,.int Oh (b-m)),(80,B (b-m=1)),(129,.int Oh a),(130,.int Oh b),(131,.int Oh (a+b)),(132,.int .u64 (a+b)),(133,.int .u64 ((a+b)/2)),(134,.int Oh ((a+b)/2)),(18,.int Oh mid),(135,.int Oh ((a+b)/2)),(136,.int Oh m),(137,.int Oh (((a+b)/2)+m)),(19,.int Oh (mid+m)),(20,.int Oh s0),(21,.int Oh r0)]/\Sat w0 w [.own vd 1 3 n (ints s),.sem F]) ?_ ?_
   ·
    refine zsr<|(On)<|zlt<|Ze ?_ ?_<;>intro hc
    ·
     refine zsr<|(Om)<|(zV (Zw (r:=((a+b)/2)+m-b)))<|(zP)<|zlt<|zrg<|(Om)<|zln<|zgj ⟨((a+b)/2),(((a+b)/2)+m-b),((a+b)/2),rfl,Oa,rfl,D⟩
    refine zsr<|(Om)<|zlt<|zrg<|(Om)<|zln<|zgj ⟨((a+b)/2),a,m,rfl,Oa,rfl,D⟩
   clear D w;rintro M w ⟨mid,s0,r0,jU,hq,rfl,D⟩
   refine ztn<|zsr<|(zP)<|(zV (Zw (r:=mid+m-1)))<|(zP)<|zlt<|zsq<|zbk<|zlp (fun V M w=>∃(x:Int) (y:Int),V=((y-x).toNat)/\(s0<=x)/\(x<=y)/\(y<=r0)/\(x=s0\/¬lt (s (mid+m-x)) (s (x-1)))/\(y=r0\/lt (s (mid+m-y-1)) (s y))/\M= [(0,vd),(1,.int Oh a),(2,.int Oh m),(3,.int Oh b),(4,.func (.func 130) #[] #[(Oq gs)]),(18,.int Oh mid),(19,.int Oh (mid+m)),(20,.int Oh x),(21,.int Oh y),(22,.int Oh (mid+m-1))]/\Sat w0 w [.own vd 1 3 n (ints s),.sem F]) ⟨s0,r0,rfl,Oa,Oa,Oa,?_,?_,rfl,D⟩ ?_
   ·
    exact .inl rfl
   ·
    exact .inl rfl
   clear D w
   rintro V M w ⟨x,y,rfl,x0,xy,y1,hx,hy,rfl,D⟩
   refine zx11<|(On)<|zlt<|Ze ?_ ?_<;>intro hc
   ·
    refine zsk<|ztn<|zbk<|zsr<|(Om)<|(zV (Zg (r:=x+y)))<|(zV (xcv Rl Wk))<|(zV (UV (r:=((x+y)/2))))<|(zV (xcv Wz Zab))<|(zP)<|zx7<|zdst [0,1] [0,1] 1000 mx_ D ?_;clear D;intro w D
    refine(zDw 0 xmv)<|(zDw 1 xmv)<|(zDw 2 xmv)<|(zDw 3 xmv)<|(zDw 4 (Zw (r:=mid+m-((x+y)/2)-1)))<|(zDw 5 (xix (kk:=mid+m-((x+y)/2)-1) Zb G))<|(zDl 6 (fun w D=>(xlr (u:= .int Oh (s (mid+m-((x+y)/2)-1))) pl_3 (D.c7 0 rfl))))<|(zDw 7 xmv)<|(zDw 8 xmv)<|(zDw 9 (xix (kk:=((x+y)/2)) Zb G))<|(zDl 10 (fun w D=>(xlr (u:= .int Oh (s ((x+y)/2))) pl_3 (D.c7 0 rfl))))<|zdc 11 (xcc (vs:= [_,_]) Zap) (qM w (s (mid+m-((x+y)/2)-1)) (s ((x+y)/2)) (hd (mid+m-((x+y)/2)-1) Oa Oa).1 (hd (mid+m-((x+y)/2)-1) Oa Oa).2 (hd ((x+y)/2) Oa Oa).1 (hd ((x+y)/2) Oa Oa).2 D.below (D.holds _ (List.mem_of_getElem? (i:=1) rfl))) ?_;rintro _ w ⟨Z,rfl,I,J⟩
    replace D:=D.cmp J;clear J
    refine⟨⟨fun _=>D,D⟩,?_⟩
    refine(zDw 12 Z7)<|(zDw 13 YH)<|zdd<|ztn ?_
    refine Ze ?_ ?_<;>intro hc
    ·
     refine zrg<|(zP)<|(zV (Zg (r:=((x+y)/2)+1)))<|(zP)<|zln<|zbn<|zlq ⟨((x+y)/2)+1,y,rfl,Oa,Oa,Oa,?_,?_,rfl,D⟩
     ·
      first|exact hx|(right;rw [show mid+m-((x+y)/2+1)=mid+m-(x+y)/2-1 by omega,show(x+y)/2+1-1=(x+y)/2 by omega];exact fun h=>absurd (I.2 h) ‹¬Z<0›)
     ·
      first|exact hy|exact .inr (I.1 (Oc ‹_›))
    refine zrg<|(Om)<|zln<|zbn<|zlq ⟨x,((x+y)/2),rfl,Oa,Oa,Oa,?_,?_,rfl,D⟩
    ·
     first|exact hx|(right;rw [show mid+m-((x+y)/2+1)=mid+m-(x+y)/2-1 by omega,show(x+y)/2+1-1=(x+y)/2 by omega];exact fun h=>absurd (I.2 h) ‹¬Z<0›)
    ·
     first|exact hy|exact .inr (I.1 (Oc ‹_›))
   refine zx8<|(Om)<|(zV (Zw (r:=mid+m-x)))<|(zP)<|zx7 ?_
   refine WR (fun M w=>∃(t:Oe),(t=rot s x m (mid+m-x))/\M= [(0,vd),(1,.int Oh a),(2,.int Oh m),(3,.int Oh b),(4,.func (.func 130) #[] #[(Oq gs)]),(18,.int Oh mid),(19,.int Oh (mid+m)),(20,.int Oh x),(21,.int Oh y),(22,.int Oh (mid+m-1)),(149,.int Oh x),(150,.int Oh y),(151,B (x<y)),(175,.int Oh (mid+m)),(176,.int Oh x),(177,.int Oh (mid+m-x)),(24,.int Oh (mid+m-x))]/\Sat w0 w [.own vd 1 3 n (ints t),.sem F]) ?_ ?_
   ·
    refine zsr<|zs4 ?_
    refine zlb 181 ?_ ?_<;>intro hc
    ·
     refine zs4 ?_
     refine zlt<|Ze ?_ ?_<;>intro hc
     ·
      refine zrg<|zs5 ?_
      refine zlc (xc0 Zk1) (Zmm (s:=s) (a:=x) (m:=m) (b:=mid+m-x) w0 w D G ac Oa Oa Oa Oa) ?_;rintro _ w ⟨rfl,D⟩
      refine zln<|zgj ⟨(rot s x m (mid+m-x)),rfl,rfl,D⟩
     refine zsk<|zgj ⟨s,(V2 Oa Oa Oa).symm,rfl,D⟩
    iterate 3 refine zlo ?_
    refine(zP)<|zlt<|zcf<|zsk<|zgj ⟨s,(V2 Oa Oa Oa).symm,rfl,D⟩
   clear D w;rintro M w ⟨t,O,rfl,D⟩
   have W:=(YD (a:=s) (lo:=x) (c:=m) (hi:=mid+m-x) Oa Oa).ir (n:=n) (N:=nm) Oa (.inl Oa) hd
   rw [<-O] at W
   have Y:=Ud hw h1 h2 hp (s:=x) (mid:=mid) (e:=mid+m-x) Oa Oa Oa Oa Oa (by rcases hq with hq|hq<;>rcases hx with hx|hx<;>first|exact .inl Oa|exact .inr (.inl Oa)|exact .inr (.inr hx)) (by rcases hq with hq|hq<;>rcases hy with hy|hy<;>first|exact .inl Oa|exact .inr (.inl Oa)|(refine .inr (.inr ?_);rw [show x=y by omega];exact hy))
   rw [<-O] at Y
   refine ztn<|zsq<| ?_
   refine WR (fun M w=>∃(t1:Oe),(PermOn a mid t t1)/\(Srt (Tie lt) a mid t1)/\(∀k,0<=k->k<n->0<=t1 k/\t1 k<nm)/\M= [(0,vd),(1,.int Oh a),(2,.int Oh m),(3,.int Oh b),(4,.func (.func 130) #[] #[(Oq gs)]),(18,.int Oh mid),(19,.int Oh (mid+m)),(20,.int Oh x),(21,.int Oh y),(22,.int Oh (mid+m-1)),(149,.int Oh x),(150,.int Oh y),(151,B (x<y)),(175,.int Oh (mid+m)),(176,.int Oh x),(177,.int Oh (mid+m-x)),(24,.int Oh (mid+m-x))]/\Sat w0 w [.own vd 1 3 n (ints t1),.sem F]) ?_ ?_
   ·
    refine zsr<|zs4 ?_
    refine zlb 195 ?_ ?_<;>intro hc
    ·
     refine zs4 ?_
     refine zlt<|Ze ?_ ?_<;>intro hc
     ·
      refine zrg<|zs5 ?_
      refine zlc (xc0 Zan) (ih (s:=t) (a:=a) (m:=x) (b:=mid) w0 w D qM W Oa Oa Oa Oa (Y.l1) (Y.l2) (Y.pl) Oa) ?_;rintro _ w ⟨rfl,u1,qD,xN,D⟩
      have yP:=qD.ir Oa (.inl Oa) W
      refine zln<|zgj ⟨u1,qD,xN,yP,rfl,D⟩
     refine zsk<|zgj ⟨t,(.refl _ _ _),(Y.left (by first|omega|(rintro⟨h3,h4⟩;omega)) Oa Oa),W,rfl,D⟩
    iterate 3 refine zlo ?_
    refine(zP)<|zlt<|zcf<|zsk<|zgj ⟨t,(.refl _ _ _),(Y.left (by first|omega|(rintro⟨h3,h4⟩;omega)) Oa Oa),W,rfl,D⟩
   clear D w;rintro M w ⟨t1,U,aa,cG,rfl,D⟩
   have X:Halves lt a a mid (mid+m-x) b t1:=Halves.after Y U aa Oa Oa
   refine ztn<|zsr<|zs4 ?_
   refine zlb 209 ?_ ?_<;>intro hc
   ·
    refine zs4 ?_
    refine zlt<|Ze ?_ ?_<;>intro hc
    ·
     refine zrg<|zs5 ?_
     refine zlc (xc0 Zan) (ih (s:=t1) (a:=mid) (m:=mid+m-x) (b:=b) w0 w D qM cG Oa Oa Oa Oa (X.r1) (X.r2) (X.pr) Oa) ?_;rintro _ w ⟨rfl,u1,qD,xN,D⟩
     have yP:=qD.ir Oa (.inl Oa) cG
     refine zln<|XP ⟨_,rfl,?_⟩
     refine⟨rfl,u1,((((YD (a:=s) (lo:=x) (c:=m) (hi:=mid+m-x) Oa Oa).mono Oa Oa:PermOn a b s _)).trans (O▸U.mono Oa Oa)).trans (qD.mono Oa Oa),?_,D⟩
     exact Y.join hw Oa Oa U aa qD xN
    refine zsk<|XP ⟨_,rfl,?_⟩
    refine⟨rfl,t1,(((YD (a:=s) (lo:=x) (c:=m) (hi:=mid+m-x) Oa Oa).mono Oa Oa:PermOn a b s _)).trans (O▸U.mono Oa Oa),?_,D⟩
    exact Y.join hw Oa Oa U aa (.refl _ _ _) (X.right (by first|omega|(rintro⟨h3,h4⟩;omega)) Oa Oa)
   iterate 3 refine zlo ?_
   refine(zP)<|zlt<|zcf<|zsk<|XP ⟨_,rfl,?_⟩
   refine⟨rfl,t1,(((YD (a:=s) (lo:=x) (c:=m) (hi:=mid+m-x) Oa Oa).mono Oa Oa:PermOn a b s _)).trans (O▸U.mono Oa Oa),?_,D⟩
   exact Y.join hw Oa Oa U aa (.refl _ _ _) (X.right (by first|omega|(rintro⟨h3,h4⟩;omega)) Oa Oa)
theorem Zeo{n:Int}{s:Oe}{lt:Int->Int->Prop}{F:Gw.Frame}(w0 w:World)(D:Sat w0 w [.own vd 1 3 n (ints s),.sem F])(U:Slh vd n)(Y:n<=100000000)(qM:∀(w:World) (x y:Int),0<=x->x<nm->0<=y->y<nm->Below w0.heap.size w0 w->F.holds w->Calls Oj 130 [.int Oh x,.int Oh y,(Oq gs)].toArray w fun e w'=>∃v,e= .returned v/\∃c:Int,v= .int Oh c/\(c<0↔lt x y)/\Sat w w' [])(hd:∀k,0<=k->k<n->0<=s k/\s k<nm)(hw:Swo lt)(xj:Tc 0 n s):
   Calls Oj 171 [vd,.int Oh n,.func (.func 130) #[] #[(Oq gs)]].toArray w fun e w=>∃v,e= .returned v/\v= .tuple #[]/\∃t:Oe,PermOn 0 n s t/\Srt (Tie lt) 0 n t/\Sat w0 w [.own vd 1 3 n (ints t),.sem F]:=by
 have ae:=U.n0
 refine zenF Tryz.func171 Tryz.ntmps171 ?_
 refine zsr<|(zP)<|zlz<|(On)<|zlt<|zsq<|zbk<|zlp (fun mm M w=>∃(t:Oe) (a:Int) (b:Int),mm=((n-a).toNat)/\(0<=a)/\(a<=n)/\(b=a+20)/\((20:Int)∣a)/\(PermOn 0 a s t)/\(Runs_ lt 20 n 0 a t)/\(∀k,0<=k->k<n->0<=t k/\t k<nm)/\M= [(0,vd),(1,.int Oh n),(2,.func (.func 130) #[] #[(Oq gs)]),(6,.int Oh 20),(7,.int Oh a),(8,.int Oh b)]/\Sat w0 w [.own vd 1 3 n (ints t),.sem F]) ⟨s,0,20,rfl,Oa,Oa,Oa,?_,?_,?_,?_,rfl,D⟩ ?_
 ·
  exact Int.dvd_zero 20
 ·
  exact .refl _ _ _
 ·
  intro c c0 c1;omega
 ·
  exact hd
 clear D w
 rintro mm M w ⟨t,a,b,rfl,a0,a1,hb,aa,hp,hr,hd1,rfl,D⟩
 refine zx11<|(On)<|zlt<|Ze ?_ ?_<;>intro hc
 ·
  refine zsk<|ztn<|zbk<|zsr<|zs4 ?_
  refine zlc (xc0 Zf5) (Zg6 (s:=t) (a:=a) (b:=b) w0 w D U Y qM hd1 hw Oa Oa Oa (Vx hp xj Oa Oa Oa)) ?_;rintro _ w ⟨rfl,u1,qD,xN,D⟩
  have yP:=qD.ir Oa (.inl Oa) hd1
  refine zlz<|(Om)<|zlt<|zrg<|(Om)<|(zV (Zg (r:=b+20)))<|(zP)<|zln<|zbn<|zlq ⟨u1,b,b+20,rfl,Oa,Oa,Oa,?_,?_,?_,?_,rfl,D⟩
  ·
   rw [hb];exact Int.dvd_add aa (Int.dvd_refl 20)
  ·
   exact(hp.mono Oa Oa).trans (qD.mono Oa Oa)
  ·
   exact WA Oa xj hr a0 aa hp qD xN (.inl ⟨hb,Oa⟩) Oa
  ·
   exact yP
 refine zx8<|zs4 ?_
 refine zlc (xc0 Zf5) (Zg6 (s:=t) (a:=a) (b:=n) w0 w D U Y qM hd1 hw Oa Oa Oa (Vx hp xj Oa Oa Oa)) ?_;rintro _ w ⟨rfl,u1,qD,xN,D⟩
 have yP:=qD.ir Oa (.inl Oa) hd1
 refine zx6<|zlp (fun mm M w=>∃(Z:Oe) (z:Int),mm=((n-z).toNat)/\(20<=z)/\(z<=2*n+20)/\(PermOn 0 n s Z)/\(Runs_ lt z n 0 n Z)/\(∀k,0<=k->k<n->0<=Z k/\Z k<nm)/\M= [(0,vd),(1,.int Oh n),(2,.func (.func 130) #[] #[(Oq gs)]),(6,.int Oh z)]/\Sat w0 w [.own vd 1 3 n (ints Z),.sem F]) ⟨u1,20,rfl,Oa,Oa,?_,?_,?_,rfl,D⟩ ?_
 ·
  exact(hp.mono Oa Oa).trans (qD.mono Oa Oa)
 ·
  exact WA Oa xj hr a0 aa hp qD xN (.inr ⟨rfl,Oa⟩) Oa
 ·
  exact yP
 clear D w
 rintro mm M w ⟨Z,z,rfl,z0,z1,ad,ac,hd2,rfl,D⟩
 refine zx11<|(On)<|zlt<|Ze ?_ ?_<;>intro hc
 ·
  refine zsk<|ztn<|zbk<|zsr<|(zP)<|(zV (Z2 (r:=2*z)))<|(Om)<|zlt<|zsq<|zbk<|zlp (fun mm M w=>∃(O:Oe) (I:Int) (b3:Int),mm=((n-I).toNat)/\(0<=I)/\(I<=n)/\(b3=I+2*z)/\(2*z∣I)/\(PermOn 0 n s O)/\(Runs_ lt (2*z) n 0 I O)/\(Runs_ lt z n I n O)/\(∀k,0<=k->k<n->0<=O k/\O k<nm)/\M= [(0,vd),(1,.int Oh n),(2,.func (.func 130) #[] #[(Oq gs)]),(6,.int Oh z),(7,.int Oh I),(8,.int Oh b3)]/\Sat w0 w [.own vd 1 3 n (ints O),.sem F]) ⟨Z,0,2*z,rfl,Oa,Oa,Oa,?_,?_,?_,?_,?_,rfl,D⟩ ?_
  ·
   exact Int.dvd_zero _
  ·
   exact ad
  ·
   intro c c0 c1;omega
  ·
   exact ac
  ·
   exact hd2
  clear D w
  rintro mm M w ⟨O,I,b3,rfl,G,af,ab,X,V,hA,hB,J,rfl,D⟩
  refine zx11<|(On)<|zlt<|Ze ?_ ?_<;>intro hc
  ·
   refine zsk<|ztn<|zbk<|zsr<|zs4 ?_
   refine(zV (Zg (r:=I+z)))<|zs2 ?_
   have hk:=V0 (lt:=lt) (z:=z) (n:=n) (a:=I) (b:=b3) (t:=O) Oa G (Int.dvd_trans (Int.dvd_mul_left 2 z) X) hB Oa Oa Oa
   refine zlc (xc0 Zan) (Zgz (nm:=nm) (lt:=lt) U Y hw _ (s:=O) (a:=I) (m:=I+z) (b:=b3) w0 w D qM J Oa Oa Oa Oa hk.1 hk.2.1 hk.2.2 (Nat.lt_succ_self _)) ?_;rintro _ w ⟨rfl,u2,W,zm,D⟩
   have z7:=W.ir Oa (.inl Oa) J
   refine zlz<|(Om)<|zlt<|zrg<|(Om)<|(zV (Z2 (r:=2*z)))<|(zV (Zg (r:=b3+2*z)))<|(zP)<|zln<|zbn<|zlq ⟨u2,b3,b3+2*z,rfl,Oa,Oa,Oa,?_,?_,?_,?_,?_,rfl,D⟩
   ·
    rw [ab];exact Int.dvd_add X (Int.dvd_refl _)
   ·
    exact V.trans (W.mono Oa Oa)
   ·
    exact(Yz Oa G X hA hB W zm (.inl ⟨ab,Oa⟩) Oa).1
   ·
    exact(Yz Oa G X hA hB W zm (.inl ⟨ab,Oa⟩) Oa).2
   ·
    exact z7
  refine zx18<|(Om)<|(zV (Zg (r:=I+z)))<|(zP)<|zlz<|(On)<|zlt<|Ze ?_ ?_<;>intro hc
  ·
   refine zrg<|zs5 ?_
   have hk:=V0 (lt:=lt) (z:=z) (n:=n) (a:=I) (b:=n) (t:=O) Oa G (Int.dvd_trans (Int.dvd_mul_left 2 z) X) hB Oa Oa Oa
   refine zlc (xc0 Zan) (Zgz (nm:=nm) (lt:=lt) U Y hw _ (s:=O) (a:=I) (m:=I+z) (b:=n) w0 w D qM J Oa Oa Oa Oa hk.1 hk.2.1 hk.2.2 (Nat.lt_succ_self _)) ?_;rintro _ w ⟨rfl,u2,W,zm,D⟩
   have z7:=W.ir Oa (.inl Oa) J
   refine zlt<|zrg<|(zP)<|(zV (Z2 (r:=2*z)))<|(zP)<|zln<|zbn<|zlq ⟨u2,2*z,rfl,Oa,Oa,?_,?_,?_,rfl,D⟩
   ·
    first|exact V.trans (W.mono Oa Oa)|exact V
   ·
    first|exact(Yz Oa G X hA hB W zm (.inr ⟨rfl,Oa⟩) Oa).1|exact V1 Oa G X hA hB Oa Oa
   ·
    first|exact z7|exact J
  refine zsk<|ztn<|zrg<|(zP)<|(zV (Z2 (r:=2*z)))<|(zP)<|zln<|zbn<|zlq ⟨O,2*z,rfl,Oa,Oa,?_,?_,?_,rfl,D⟩
  ·
   first|exact V.trans (W.mono Oa Oa)|exact V
  ·
   first|exact(Yz Oa G X hA hB W zm (.inr ⟨rfl,Oa⟩) Oa).1|exact V1 Oa G X hA hB Oa Oa
  ·
   first|exact z7|exact J
 refine zxt<|ztx<|ztx<|zbh<|XP ⟨_,rfl,?_⟩
 exact⟨rfl,Z,ad,ZaX ac Oa,D⟩
theorem ZgB{n:Int}{s:Oe}{lt:Int->Int->Prop}{F:Gw.Frame}(w0 w:World)(I:Sat w0 w [.own vd 1 3 n (ints s),.sem F])(D:Slh vd n)(G:n<=100000000)(V:∀(w:World) (x y:Int),0<=x->x<nm->0<=y->y<nm->Below w0.heap.size w0 w->F.holds w->Calls Oj 130 [.int Oh x,.int Oh y,(Oq gs)].toArray w fun e w'=>∃v,e= .returned v/\∃c:Int,v= .int Oh c/\(c<0↔lt x y)/\Sat w w' [])(hd:∀k,0<=k->k<n->0<=s k/\s k<nm)(X:Swo lt)(J:Tc 0 n s):
   Calls Oj 129 [vd,.func (.func 130) #[] #[(Oq gs)]].toArray w fun e w=>∃v,e= .returned v/\v= .tuple #[]/\∃t:Oe,PermOn 0 n s t/\Srt (Tie lt) 0 n t/\Sat w0 w [.own vd 1 3 n (ints t),.sem F]:=by
 refine zenF Tryz.func129 Tryz.ntmps129 ?_
 refine zrg<|(Om)<|(zV (xln Zb D))<|(zP)<|zlc (xc0 Zlv) (Zeo (s:=s) w0 w I D G V hd X J) ?_;rintro _ w ⟨rfl,U,W,O,I⟩
 refine zln<|XP ⟨_,rfl,?_⟩
 exact⟨rfl,U,W,O,I⟩
end Go.Proofs.YtkichmnjjblodaaGreat
namespace Go.Proofs.YtkichmnjjblodaaGreat
open Go Go.RowKit Go.Proofs.Gw
theorem ZiF{x y:Int}{U vY:Value}{s:So}{gs:Nat}(w0:World)(G:(Ent.blk gs [U,vY,.int Oh s.val,.int Oh s.den]).holds w0)(F:Row w0 U 1 s.n (ints s.X))(hY:Row w0 vY 1 s.m (ints s.Y))(O:Yj s)(X:0<=x)(W:x<s.n)(y0:0<=y)(y1:y<s.n):
   Calls Oj 130 [.int Oh x,.int Oh y,Oq gs].toArray w0 fun e w=>∃v,e= .returned v/\∃c:Int,v= .int Oh c/\(c<0↔(s.X y).tmod s.den<(s.X x).tmod s.den)/\Sat w0 w []:=by
 obtain⟨⟨d1,d2⟩,⟨d3,d4⟩,V⟩:=id O
 have J:=V x X W;have I:=V y y0 y1
 have Z:=Tx (a:=s.X x) (d:=s.den) J.1 Oa;have Y:=Tx (a:=s.X y) (d:=s.den) I.1 Oa
 refine zenG Tryz.func130 Tryz.ntmps130 fun w D=> ?_
 refine zsr<|(zP)<|zx7<|zdst [] [] 1000 mx_ D ?_;clear D;intro w D
 refine(zDw 0 (xfb 0 fd_139_0))<|(zDl 1 (fun w D=>(xlf pl_22 (Ent.holds.cell G (o:=0) rfl) D)))<|(zDw 2 xmv)<|(zDw 3 (xix (kk:=y) Zb F.cf))<|(zDl 4 (fun w D=>(xlr (u:= .int Oh (s.X y)) pl_3 (F.below D.below))))<|(zDw 5 (xfb 3 fd_139_3))<|(zDl 6 (fun w D=>(xlf pl_3 (Ent.holds.cell G (o:=3) rfl) D)))<|(zDw 7 (KD (r:=(Int.tmod (s.X y) s.den))))<|(zDw 8 (xfb 0 fd_139_0))<|(zDl 9 (fun w D=>(xlf pl_22 (Ent.holds.cell G (o:=0) rfl) D)))<|(zDw 10 xmv)<|(zDw 11 (xix (kk:=x) Zb F.cf))<|(zDl 12 (fun w D=>(xlr (u:= .int Oh (s.X x)) pl_3 (F.below D.below))))<|(zDw 13 (xfb 3 fd_139_3))<|zdla 14 (fun w D=>(xlf pl_3 (Ent.holds.cell G (o:=3) rfl) D)) ?_
 refine(zDw 15 (KD (r:=(Int.tmod (s.X x) s.den))))<|(zDw 16 (Zw (r:=(Int.tmod (s.X y) s.den)-(Int.tmod (s.X x) s.den))))<|(zDw 17 xas)<|zdd<|ztn<|zrt<|Oi ?_
 exact⟨_,rfl,Oa,D⟩
variable {i j m:Int} {g t:Oe}
def frN(s:So):Nat->Int
  |0=>0
  |k+1=>if(s.X k).tmod s.den=0 then frN s k else frN s k+1
def frF(s:So):Nat->Int->Int
  |0=>fun _=>0
  |k+1=>if(s.X k).tmod s.den=0 then frF s k else snoc (frF s k) (frN s k) k
theorem Zbn(s:So)(h:0<=i):frN s (i+1).toNat=if(s.X i).tmod s.den=0 then frN s i.toNat else frN s i.toNat+1:=by
 obtain⟨k,rfl⟩:=Int.eq_ofNat_of_zero_le h;rw [show((k:Int)+1).toNat=k+1 by omega,Int.toNat_natCast];rfl
theorem Zbo(s:So)(h:0<=i):frF s (i+1).toNat=if(s.X i).tmod s.den=0 then frF s i.toNat else snoc (frF s i.toNat) (frN s i.toNat) i:=by
 obtain⟨k,rfl⟩:=Int.eq_ofNat_of_zero_le h;rw [show((k:Int)+1).toNat=k+1 by omega,Int.toNat_natCast];rfl
theorem Zfw (s:So):∀n:Nat,0<=frN s n/\frN s n<=n/\(∀k,0<=k->k<frN s n->0<=frF s n k/\frF s n k<n/\(s.X (frF s n k)).tmod s.den≠0)/\Tc 0 (frN s n) (frF s n)/\∀q,0<=q->q<(n:Int)->(s.X q).tmod s.den≠0->∃k,0<=k/\k<frN s n/\frF s n k=q
 |0=>⟨by simp [frN],by simp [frN],fun k F D=>by simp [frN] at D;omega,fun i j J W V=>by simp [frN] at V;omega,fun q I U=>Oa⟩
 | n + 1 =>by
   obtain⟨h1,h2,O,Y,X⟩:=Zfw s n
   simp only [frN,frF]
   by_cases h:(s.X n).tmod s.den=0
   · rw [if_pos h,if_pos h]
     refine⟨h1,Oa,fun k F D=> ?_,Y,fun q I U G=> ?_⟩
     · have:=O k F D;exact⟨this.1,Oa,this.2.2⟩
     · by_cases e:q=n
       · rw [e] at G;exact absurd h G
       · exact X q I Oa G
   · rw [if_neg h,if_neg h]
     refine⟨by omega,Oa,fun k F D=> ?_,fun i j J W V=> ?_,fun q I U G=> ?_⟩
     · by_cases e:k<frN s n
       · rw [Zl e];have:=O k F e;exact⟨this.1,Oa,this.2.2⟩
       · rw [Zk e];exact⟨by omega,Oa,h⟩
     · by_cases e:j<frN s n
       · rw [Zl e,Zl (show i<frN s n by omega)];exact Y i j J W e
       · rw [Zk e,Zl (show i<frN s n by omega)];have:=O i J Oa;omega
     · by_cases e:q=n
       · exact⟨frN s n,h1,Oa,by rw [Zk Oa,e]⟩
       · obtain⟨k,F,D,Z⟩:=X q I Oa G
         exact⟨k,F,Oa,by rw [Zl D];exact Z⟩
def ZeN(a r:List Int):Bool:=(List.zipWith (fun x y=>if 0<x/\0<y then(1:Int) else 0) a r).any fun x=>decide (0<x)
def ZcR(m:Int)(mf:Of)(st:List Int×Us)(k:Int):List Int×Us:=
  if ZeN (lst m (mf k)) st.1 then(List.zipWith (fun x y=>max 0 (y-x)) (lst m (mf k)) st.1,st.2++ [(lst m (mf k),1)]) else st
def VH(m:Int)(mf:Of)(r0:List Int)(L0:Us)(h:List Int):List Int×Us:=h.foldl (ZcR m mf) (r0,L0)
theorem Zfg{n:Int}{f:Oe}(n0:0<=n):lst (n+1) f=lst n f++ [f n]:=by
 unfold lst
 rw [show(n+1).toNat=n.toNat+1 by omega,List.range_succ,List.map_append,List.map_singleton,Int.toNat_of_nonneg n0]
theorem Rv(m:Int)(mf:Of)(D:List Int)(F:Us)(G:0<=j):VH m mf D F (lst (j+1) t)=ZcR m mf (VH m mf D F (lst j t)) (t j):=by
 rw [Zfg G];simp [VH]
theorem Rw{f:Oe}:ZeN (lst m f) (lst m g)=true↔∃i,0<=i/\i<m/\0<f i/\0<g i:=by
 unfold ZeN
 rw [Y0,WQ]
 constructor
 · rintro⟨k,F,D,h⟩
   refine⟨k,F,D,?_⟩
   by_cases G:0<f k/\0<g k
   · exact G
   · rw [if_neg G] at h;omega
 · rintro⟨k,F,D,h⟩
   exact⟨k,F,D,by rw [if_pos h];omega⟩
theorem uNo{n:Int}{mf:Of}{D:List Int}{F:Us}{ln cnt:Oe}{pt:Of}(G:0<=j)(h:(lst m g,plL n ln pt cnt)=VH m mf D F (lst j t))(hn:¬∃i,0<=i/\i<m/\0<mf (t j) i/\0<g i):(lst m g,plL n ln pt cnt)=VH m mf D F (lst (j+1) t):=by
 rw [Rv _ _ _ _ G,<-h]
 unfold ZcR
 rw [if_neg fun I=>hn (Rw.1 I)]
theorem ZjV{n:Int}{mf:Of}{F:List Int}{G:Us}{D ln cnt ln2 qg:Oe}{pt pt2:Of}(I:0<=j)(n0:0<=n)(h:(lst m g,plL n ln pt cnt)=VH m mf F G (lst j t))(hn:∃i,0<=i/\i<m/\0<mf (t j) i/\0<g i)(J:∀k,0<=k->k<m->D k=max 0 (g k-mf (t j) k))
   (h1:∀k,0<=k->k<n->ln2 k=ln k/\qg k=cnt k/\pt2 k=pt k) (V:ln2 n=m) (U:qg n=1) (O:pt2 n=mf (t j)):(lst m D,plL (n+1) ln2 pt2 qg)=VH m mf F G (lst (j+1) t):=by
 rw [Rv _ _ _ _ I,<-h]
 unfold ZcR
 dsimp only
 rw [if_pos (Rw.2 hn),Y0,V8 n0 h1 V U O,Z5 (f:=D) (g:=fun k=>max 0 (g k-mf (t j) k)) J]
def UpR (p:Prob) (u:Int) (ml:Oe) (mf:Of) (s:So) (out:Us) (e:Int):Prop:=
  (e≠0/\out= []/\∃n ln pt cnt,WholeR p u ml mf s n ln pt cnt e)\/(∃n1 ln1 pt1 yR t n ln pt cnt,WholeR p u ml mf s n1 ln1 pt1 yR 0/\0<=n1/\0<=n/\PermOn 0 (frN s u.toNat) (frF s u.toNat) t/\Srt (Tie fun x y=>(s.X y).tmod s.den<(s.X x).tmod s.den) 0 (frN s u.toNat) t/\
    plL n ln pt cnt=(VH p.m mf (lst p.m (ZL p (Zo n1 pt1 yR))) (plL n1 ln1 pt1 yR) (lst (frN s u.toNat) t)).2/\TrimR p n ln pt cnt out e)
theorem KJ{mf:Oe}{I D:Prop}(O:0<=i)(h:I↔∃q,0<=q/\q<i/\0<mf q/\0<g q)(V:D↔(I\/(0<mf i/\0<g i))):D↔∃q,0<=q/\q<i+1/\0<mf q/\0<g q:=by
 rw [V,h]
 constructor
 · rintro(⟨q,G,J,F⟩|U)
   · exact⟨q,G,Oa,F⟩
   · exact⟨i,O,Oa,U⟩
 · rintro⟨q,G,J,F⟩
   by_cases e:q=i
   · subst e;exact .inr F
   · exact .inl ⟨q,G,Oa,F⟩
theorem ZeP(s:So):Swo (fun x y=>(s.X y).tmod s.den<(s.X x).tmod s.den):=
 ⟨fun x y h=>Oa,fun x y z h k=>Oa,fun x y z h k=>Oa⟩
end Go.Proofs.YtkichmnjjblodaaGreat
namespace Go.Proofs.YtkichmnjjblodaaGreat
open Go Go.RowKit Go.Proofs.Gw
theorem Zl2:Zc Oj 129=true:=Ob
theorem ZoE{vL vD:Value}{p:Prob}{vM:Value}{u:Int}{mv:Int->Value}{ml:Oe}{mf:Of}{vX vY:Value}{s:So}(w0:World)(h:PAt w0 vL vD p)(hM:MAt w0 vM u mv ml mf)(hX:Row w0 vX 1 s.n (ints s.X))(hY:Row w0 vY 1 s.m (ints s.Y))(ya:s.n<=1000):
   Calls Oj 88 [.agg #[vL,vD,.int Oh p.b8,.int Oh p.bo],.agg #[vM,vX,vY,.int Oh s.val,.int Oh s.den]].toArray w0 fun e w=>∃v,e= .returned v/\∃r n pv ln pt cnt e,v= .tuple #[r,.int Oh e]/\UpR p u ml mf s (plL n ln pt cnt) e/\(∀k,0<=k->k<n->1<=cnt k/\cnt k<=1000000000)/\n<=1000000/\Slh r n/\Sat w0 w [.own r 2 107 n (Zd pv cnt),.sem (Frame.rows 3 n pv ln pt)]:=by
 obtain⟨hm,bj,hd,hd1,hs,hk⟩:=h.Oo
 have hu:=hM.row.cf.n0;have ba:=hM.row.cf.n1;have hn:=hX.cf.n0;have bi:=hX.cf.n1
 refine zenG Tryz.func88 Tryz.ntmps88 fun w D=> ?_
 refine zsr<|zla (xbx (cs:= [_,_,_,_]) D) ?_;rintro _ w ⟨g1,rfl,D⟩
 refine zla (xbx (cs:= [_,_,_,_,_]) D) ?_;rintro _ w ⟨g2,rfl,D⟩
 refine(Om)<|zlz<|(zV (xls 0 st_32 D))<|(zV (xls 1 Xz D))<|zlc (xc0 Zgf) (ZdD (p:=p) (u:=u) (ml:=ml) (mf:=mf) (s:=s) w (h.below D.below) (hM.below D.below) (hX.below D.below) (hY.below D.below) ya) ?_;rintro _ w ⟨xx,qp,qU,xT,xm,qX,cR,rfl,yj,aE,U⟩
 replace D:=(D.comp U).n4;clear U
 have cn:=fun k (O:0<=k) (I:k<qp)=>D.db 3 rfl O I
 refine zs5 ?_
 refine zx5<|(Om)<|zlt<|Ze ?_ ?_<;>intro hc
 ·
  refine zsr<|(On)<|zx14<|zf2 ⟨_,rfl,?_⟩
  exact⟨_,0,fun _=>undef,fun _=>0,fun _ _=>0,fun _=>0,_,rfl,.inl ⟨by omega,rfl,_,_,_,_,yj⟩,fun k O I=>Oa,Oa,slh_nil,((D.sub (.cons _ (.cons _ (.cons _ (.cons _ .slnil))))).cg 2 107 (Zd (fun _=>undef) (fun _=>0))).fa 3 (fun _=>undef) (fun _=>0) (fun _ _=>0)⟩
 refine ZM<|zlv (xls 0 st_32 D) ?_
 obtain⟨qk,qr,zl,cw,zr,zt⟩:=yj.ok Oa hu
 have qu:=qk
 have al:=qr.1
 obtain⟨⟨d1,d2⟩,⟨d3,d4⟩,d5⟩:=id al
 have a8:=qr.2.1
 have a9:=qr.2.2.1
 have yH:=qk.m1;have qH:=qk.m2;have bg:=qk.d
 refine(zP)<|zlc (xc0 Zdw) (Tm (u:=qp) (pv:=qU) (ln:=xT) (pt:=xm) (cnt:=qX) (p:=p) w (⟨(D.c7 2 rfl),fun k O I=>D.fq 3 rfl O I,fun k O I=>D.gb 3 rfl O I⟩:VAt _ xx qp qU xT xm qX) (h.below D.below)) ?_;rintro _ w ⟨ql,qd,qc,yg,rfl,qt,qf,U⟩
 replace D:=(D.comp U).n5;clear U
 obtain⟨bC,yu⟩:qd=p.m/\qc=Zo qp xm qX:=by rcases qt with⟨g1,_⟩|⟨_,g2,g3,_⟩;exact absurd zr g1;exact⟨g2,g3⟩
 have zH:∀k,0<=k->k<p.m->0<=qc k/\qc k<=2000000000:=fun k O I=>by rw [yu];have V:=Yv zr.2.2 zt (Int.le_refl _) O I;omega
 have yM:=fun k (O:0<=k) (I:k<p.m)=>(zH k O I).1
 have bb:=Vv qk yM p.m.toNat (by have:=qk.m1;omega)
 refine zs5 ?_
 refine zlz<|(zV (xls 0 st_32 D))<|(zP)<|zlc (xc0 Zgd) (ZgY (p:=p) (f:=qc) w (h.below D.below) qk (bC▸(D.c7 4 rfl)) zH) ?_;rintro _ w ⟨xk,qZ,rfl,xM,xI,U⟩
 replace D:=(D.comp U).n7;clear U
 refine(zV (xany (v:=qZ)))<|(zP)<|zlz<|(zV (xfb 1 fd_141_1))<|(zV (xlp 1 (ds:= [vX,vY,.int Oh s.val,.int Oh s.den]) ZN D))<|zla (xal (cs:= [_,_,_,_]) WM D) ?_;rintro _ w ⟨g3,rfl,D⟩
 refine zle (xsw 7 ZN D (hd:=(Za hX.cf.one (Za hY.cf.one (Za rfl (Za rfl Zh)))))) ?_;clear D;rintro w D
 refine zlz<|(zP)<|zx5<|(zV (xfb 0 fd_139_0))<|(zV (xlb 7 pl_22 D))<|(zV (xln Zb hX.cf))<|(zP)<|zx6 ?_
 replace D:=D.cg 1 3 (ints (fun _=>0))
 refine zlp (fun mm M w=>∃(Z:Int) (fO:Oe) (i:Int) (vO:Value),mm=((s.n-i).toNat)/\(0<=i)/\(i<=s.n)/\(Z=frN s i.toNat)/\(fO=frF s i.toNat)/\(0<=Z/\Z<=i)/\(Slh vO Z)/\M= [(2,Oq g1),(3,Oq g2),(4,Og),(5,.int Oh 0),(6,xx),(10,qZ),(11,Oq g3),(12,vO),(45,vX),(46,.int Oh s.n),(47,.int Oh i)]/\Sat w0 w [.blk g1 [vL,vD,.int Oh p.b8,.int Oh p.bo],.blk g2 [vM,vX,vY,.int Oh s.val,.int Oh s.den],.own xx 2 107 qp (Zd qU qX),.sem (Frame.rows 3 qp qU xT xm),.own ql 1 3 qd (ints qc),.own xk 1 3 p.m (ints p.L),.own qZ 1 3 p.d (ints (ZL p qc)),.blk g3 [vX,vY,.int Oh s.val,.int Oh s.den],.own vO 1 3 Z (ints fO)]) ⟨0,(fun _=>0),0,Og,rfl,Oa,Oa,?_,?_,Oa,?_,rfl,D⟩ ?_
 ·
  rfl
 ·
  rfl
 ·
  exact slh_nil
 clear D w
 rintro mm M w ⟨Z,fO,i,vO,rfl,h0,h1,ab,ae,bh,ai,rfl,D⟩
 refine zsr<|(zP)<|zx7<|Ze ?_ ?_<;>intro hc
 ·
  refine zx3<|(zP)<|(zV (xix (kk:=i) Zb hX.cf))<|zlv (xlr (u:= .int Oh (s.X i)) pl_3 (hX.below D.below)) ?_
  have a2:=d5 i h0 Oa
  have bc:=Tx a2.1 d1
  refine(Om)<|zlz<|(zP)<|(zV (xfb 3 fd_139_3))<|(zV (xlb 7 pl_3 D))<|(zV (KD (r:=(Int.tmod (s.X i) s.den))))<|(zP)<|zlt<|Ze ?_ ?_<;>intro hc
  ·
   refine zrg<|(Om)<|zla (xli (n:=1) (len:=1) (pv:= [(0,.int Oh i)]) (cs:= [.int Oh i]) (c:=ints (fun _=>i)) Zb Zm D) ?_;rintro v1 w ⟨D,a7⟩
   refine zla (xap 8 (r:=Z+1) Zb Zm D (D.c7 9 rfl) (Ya _ _ _)) ?_;rintro v2 w ⟨D,aq⟩
   refine(zP)<|zx10<|(zV (Zg (r:=i+1)))<|(zP)<|zln<|zlq ⟨Z+1,(snoc fO Z i),i+1,v2,rfl,Oa,Oa,?_,?_,Oa,?_,rfl,D.pk [0,1,2,3,4,5,6,7,8]⟩
   ·
    rw [Zbn s h0,<-ab];first|rw [if_pos Oa]|rw [if_neg Oa]
   ·
    rw [Zbo s h0,<-ab,<-ae];first|rw [if_pos Oa]|rw [if_neg Oa]
   ·
    exact aq
  refine zx4<|(zV (Zg (r:=i+1)))<|(zP)<|zln<|zlq ⟨Z,fO,i+1,vO,rfl,Oa,Oa,?_,?_,Oa,?_,rfl,D⟩
  ·
   rw [Zbn s h0,<-ab];first|rw [if_pos Oa]|rw [if_neg Oa]
  ·
   rw [Zbo s h0,<-ab,<-ae];first|rw [if_pos Oa]|rw [if_neg Oa]
  ·
   exact ai
 refine zx8<|zlv xmv ?_
 have az:i=u:=Oa
 rw [az] at ab ae
 obtain⟨bf,be,aw,av,bd⟩:=Zfw s u.toNat
 have an:∀k,0<=k->k<Z->0<=fO k/\fO k<s.n:=fun k O I=>by rw [ae];have:=aw k O Oa;omega
 have a3:Tc 0 Z fO:=by rw [ab,ae];exact av
 refine(zV xmf)<|zlc (xc0 Zl2) (ZgB (gs:=g3) (vd:=vO) (n:=Z) (nm:=s.n) (s:=fO) (lt:=fun x y=>(s.X y).tmod s.den<(s.X x).tmod s.den) (F:=Frame.gm [.blk g1 [vL,vD,.int Oh p.b8,.int Oh p.bo],.blk g2 [vM,vX,vY,.int Oh s.val,.int Oh s.den],.own xx 2 107 qp (Zd qU qX),.sem (Frame.rows 3 qp qU xT xm),.own ql 1 3 qd (ints qc),.own xk 1 3 p.m (ints p.L),.own qZ 1 3 p.d (ints (ZL p qc)),.blk g3 [vX,vY,.int Oh s.val,.int Oh s.den]]) w0 w (Sat.gg (l1:= [_]) (D.pk [8,0,1,2,3,4,5,6,7])) ai Oa (fun w x y x0 x1 y0 y1 hb hF=>ZiF w (hF.1 _ (List.mem_of_getElem? (i:=7) rfl)) (hX.below hb) (hY.below hb) al x0 x1 y0 y1) an (ZeP s) a3) ?_;rintro _ w ⟨rfl,J,bz,dV,D⟩
 replace D:=Sat.fx (l1:= [_]) (l3:= []) D
 refine zx5<|zlv xmv ?_
 have au:∀k,0<=k->k<Z->0<=J k/\J k<s.n:=fun k O I=>by obtain⟨q,q0,q1,q2⟩:=bz.fr O I;rw [show J k=fO q from q2];exact an q q0 q1
 have ax:∀k,0<=k->k<p.m->0<=ZL p qc k/\ZL p qc k<=1000:=fun k O I=>by have V:=Wt qk O I;have h8:=yM k O I;unfold ZL;rw [if_pos ⟨O,I⟩];omega
 refine(zV (xln Zb ai))<|(zP)<|zx6<|zlp (fun mm M w=>∃(W:Int) (wv:Int->Value) (lC:Oe) (gC:Of) (cC:Oe) (gR:Oe) (j:Int) (wC:Value),mm=((Z-j).toNat)/\(0<=j)/\(j<=Z)/\(0<=W)/\(W<=60+j)/\((lst p.m gR,plL W lC gC cC)=VH p.m mf (lst p.m (ZL p qc)) (plL qp xT xm qX) (lst j J))/\(∀k,0<=k->k<p.m->0<=gR k/\gR k<=1000)/\(Slh wC W)/\M= [(2,Oq g1),(3,Oq g2),(4,Og),(5,.int Oh 0),(6,wC),(10,qZ),(65,vO),(66,.int Oh Z),(67,.int Oh j)]/\Sat w0 w [.own vO 1 3 Z (ints J),.blk g1 [vL,vD,.int Oh p.b8,.int Oh p.bo],.blk g2 [vM,vX,vY,.int Oh s.val,.int Oh s.den],.own wC 2 107 W (Zd wv cC),.sem (Frame.rows 3 W wv lC gC),.own ql 1 3 qd (ints qc),.own xk 1 3 p.m (ints p.L),.own qZ 1 3 p.d (ints gR),.blk g3 [vX,vY,.int Oh s.val,.int Oh s.den]]) ⟨qp,qU,xT,xm,qX,(ZL p qc),0,xx,rfl,Oa,Oa,Oa,Oa,?_,?_,?_,rfl,D⟩ ?_
 ·
  rfl
 ·
  exact ax
 ·
  exact aE
 clear D w
 rintro mm M w ⟨W,wv,lC,gC,cC,gR,j,wC,rfl,j0,j1,zG,k6,af,ag,ao,rfl,D⟩
 have qG:=fun k (O:0<=k) (I:k<W)=>D.db 4 rfl O I
 refine zsr<|(zP)<|zx7<|Ze ?_ ?_<;>intro hc
 ·
  refine zx3<|(zV (xix (kk:=j) Zb ai))<|zlv (xlr (u:= .int Oh (J j)) pl_3 (D.c7 0 rfl)) ?_
  have ar:=au j j0 Oa
  obtain⟨am,aj⟩:=YW (qr.2.2.2.1 (J j) ar.1 Oa).1
  refine(zP)<|zlz<|(zV (xfb 0 Un))<|(zV (xlb 2 Zs D))<|(zP)<|(zV (xix (kk:=(J j)) Zi hM.row.cf))<|(zV (xlr (u:=(mv (J j))) pl_22 (hM.row.below D.below)))<|(zP)<|zlz<|(zP)<|zx5<|(zP)<|(zV (xln Zb (hM.p (J j) Oa Oa).cf))<|(zP)<|zx6<|zlp (fun mm M w=>∃(G:Prop) (Y:Int),mm=((ml (J j)-Y).toNat)/\(0<=Y)/\(Y<=ml (J j))/\(G↔∃q,0<=q/\q<Y/\0<mf (J j) q/\0<gR q)/\M= [(2,Oq g1),(3,Oq g2),(4,Og),(5,.int Oh 0),(6,wC),(10,qZ),(17,(mv (J j))),(18,B (G)),(65,vO),(66,.int Oh Z),(67,.int Oh j),(76,(mv (J j))),(77,.int Oh (ml (J j))),(78,.int Oh Y)]/\Sat w0 w [.own vO 1 3 Z (ints J),.blk g1 [vL,vD,.int Oh p.b8,.int Oh p.bo],.blk g2 [vM,vX,vY,.int Oh s.val,.int Oh s.den],.own wC 2 107 W (Zd wv cC),.sem (Frame.rows 3 W wv lC gC),.own ql 1 3 qd (ints qc),.own xk 1 3 p.m (ints p.L),.own qZ 1 3 p.d (ints gR),.blk g3 [vX,vY,.int Oh s.val,.int Oh s.den]]) ⟨False,0,rfl,Oa,Oa,?_,rfl,D⟩ ?_ (hM:=by repeat' first|exact Tq|refine zpk rfl ?_|refine zpk (congrArg some (B_false not_false).symm) ?_|refine zpk (congrArg some (ZP trivial).symm) ?_)
  ·
   exact⟨fun h=>h.elim,fun⟨q,q0,q1,_⟩=>Oa⟩
  clear D w
  rintro mm M w ⟨G,Y,rfl,ah,a5,ac,rfl,D⟩
  refine zsr<|(zP)<|zx7<|Ze ?_ ?_<;>intro hc
  ·
   refine zx3<|(zP)<|(zV (xix (kk:=Y) Zb (hM.p (J j) Oa Oa).cf))<|zlv (xlr (u:= .int Oh ((mf (J j)) Y)) pl_3 ((hM.p (J j) Oa Oa).below D.below)) ?_
   have a1:=aj Y ah Oa
   refine(Om)<|zlt<|zrg<|(Om)<|zlb 84 ?_ ?_<;>intro hc
   ·
    iterate 9 refine zlo ?_
    refine(Om)<|zx10<|(zV (Zg (r:=Y+1)))<|(zP)<|zln<|zlq ⟨True,Y+1,rfl,Oa,Oa,?_,rfl,D⟩ (hM:=by repeat' first|exact Tq|refine zpk rfl ?_|refine zpk (congrArg some (B_false not_false).symm) ?_|refine zpk (congrArg some (ZP trivial).symm) ?_)
    ·
     refine KJ ah ac ?_
     first
     |exact⟨fun _=> .inl ‹G›,fun _=>trivial⟩
     |exact⟨fun V=> .inr ⟨‹0<mf (J j) Y›,V⟩,fun V=>V.elim (fun h8=>absurd h8 ‹¬G›) (·.2)⟩
     |exact⟨fun V=>V.elim,fun V=>V.elim (fun h8=>absurd h8 ‹¬G›) (fun h8=>absurd h8.1 ‹¬0<mf (J j) Y›)⟩
   refine(On)<|zlb 87 ?_ ?_<;>intro hc
   ·
    refine(Om)<|(zV (xix (kk:=Y) Zb xI))<|(zV (xlr (u:= .int Oh (gR Y)) pl_3 (D.c7 7 rfl)))<|zs4 ?_
    refine zx10<|(zV (Zg (r:=Y+1)))<|(zP)<|zln<|zlq ⟨0<gR Y,Y+1,rfl,Oa,Oa,?_,rfl,D⟩
    ·
     refine KJ ah ac ?_
     first
     |exact⟨fun _=> .inl ‹G›,fun _=>trivial⟩
     |exact⟨fun V=> .inr ⟨‹0<mf (J j) Y›,V⟩,fun V=>V.elim (fun h8=>absurd h8 ‹¬G›) (·.2)⟩
     |exact⟨fun V=>V.elim,fun V=>V.elim (fun h8=>absurd h8 ‹¬G›) (fun h8=>absurd h8.1 ‹¬0<mf (J j) Y›)⟩
   iterate 5 refine zlo ?_
   refine(On)<|zx10<|(zV (Zg (r:=Y+1)))<|(zP)<|zln<|zlq ⟨False,Y+1,rfl,Oa,Oa,?_,rfl,D⟩ (hM:=by repeat' first|exact Tq|refine zpk rfl ?_|refine zpk (congrArg some (B_false not_false).symm) ?_|refine zpk (congrArg some (ZP trivial).symm) ?_)
   ·
    refine KJ ah ac ?_
    first
    |exact⟨fun _=> .inl ‹G›,fun _=>trivial⟩
    |exact⟨fun V=> .inr ⟨‹0<mf (J j) Y›,V⟩,fun V=>V.elim (fun h8=>absurd h8 ‹¬G›) (·.2)⟩
    |exact⟨fun V=>V.elim,fun V=>V.elim (fun h8=>absurd h8 ‹¬G›) (fun h8=>absurd h8.1 ‹¬0<mf (J j) Y›)⟩
  refine zx18<|(Om)<|zlt<|Ze ?_ ?_<;>intro hc
  ·
   refine zxt<|ztx<|zbh<|ztn<|zrg<|(zV (Zg (r:=j+1)))<|(zP)<|zln<|zlq ⟨W,wv,lC,gC,cC,gR,j+1,wC,rfl,Oa,Oa,Oa,Oa,?_,?_,?_,rfl,D⟩
   ·
    first|exact uNo j0 af (fun⟨q,q0,q1,q2⟩=>absurd (ac.2 ⟨q,q0,Oa,q2⟩) ‹_›)|exact ZjV j0 zG af (by obtain⟨q,q0,q1,q2⟩:=ac.1 Od;exact⟨q,q0,Oa,q2⟩) (fun k O I=>(ad k O I).trans (if_pos Oa)) (fun k O I=>⟨Zp I,Zl I,Zp I⟩) ((Zq Oa).trans am) (Zk Oa) (Zq Oa)
   ·
    first|exact ag|(intro k O I;have V:=ad k O I;rw [if_pos Oa] at V;have h8:=ag k O I;have h7:=aj k O I;omega)
   ·
    exact ao
  refine ZM<|(Om)<|zlc (xc0 cl_65) (c_clone (n:=(ml (J j))) (f:=(mf (J j))) w ((hM.p (J j) Oa Oa).below D.below) Oa) ?_;rintro aa w ⟨_,rfl,qb,U⟩
  replace D:=(D.comp U).n10;clear U
  refine zlv (xany (v:= .agg #[aa,.int Oh 1]) (hr:=by obtain⟨_,_,_,_,rfl,_⟩:=qb;kernel_rfl)) ?_
  refine zla (xli (n:=1) (len:=1) (pv:= [(0,.agg #[aa,.int Oh 1])]) (cs:= [aa,.int Oh 1]) (c:=Zd (fun _=>aa) (fun _=>1)) Z4 YA D (hf:=by obtain⟨_,_,_,_,rfl,_⟩:=qb;kernel_rfl)) ?_;rintro v3 w ⟨D,a6⟩
  refine zla (xap 3 (r:=W+1) Z4 YA D (D.c7 10 rfl) (Ym _ _ _ _ _) (h1:=fun k _ _=>ZK (fun _=>qb.one) k)) ?_;rintro v4 w ⟨D,ap⟩
  replace D:=Sat.merge (l1:= [_,_,_,_]) (l2:= [_,_,_,_]) (l3:= [_]) D Oa
  have xd:=fun k (O:0<=k) (I:k<W+1)=>D.db 4 rfl O I
  refine(zP)<|zlz<|(zP)<|(zV (xln Zb (hM.p (J j) Oa Oa).cf))<|(zP)<|zx6<|zlp (fun mm M w=>∃(g4:Oe) (X:Int),mm=((ml (J j)-X).toNat)/\(0<=X)/\(X<=ml (J j))/\(∀k,0<=k->k<p.m->g4 k=if k<X then max 0 (gR k-mf (J j) k) else gR k)/\M= [(2,Oq g1),(3,Oq g2),(4,Og),(5,.int Oh 0),(6,v4),(10,qZ),(65,vO),(66,.int Oh Z),(67,.int Oh j),(104,(mv (J j))),(105,.int Oh (ml (J j))),(106,.int Oh X)]/\Sat w0 w [.own vO 1 3 Z (ints J),.blk g1 [vL,vD,.int Oh p.b8,.int Oh p.bo],.blk g2 [vM,vX,vY,.int Oh s.val,.int Oh s.den],.own v4 2 107 (W+1) (Zd (gsn wv W aa) (snoc cC W 1)),.sem (Frame.rows 3 (W+1) (gsn wv W aa) (gsn lC W (ml (J j))) (gsn gC W (mf (J j)))),.own ql 1 3 qd (ints qc),.own xk 1 3 p.m (ints p.L),.own qZ 1 3 p.d (ints g4),.blk g3 [vX,vY,.int Oh s.val,.int Oh s.den],.own v3 2 107 1 (Zd (fun _=>aa) (fun _=>1))]) ⟨gR,0,rfl,Oa,Oa,?_,rfl,D⟩ ?_
  ·
   intro k O I;rw [if_neg Oa]
  clear D w
  rintro mm M w ⟨g4,X,rfl,ak,a4,ad,rfl,D⟩
  refine zsr<|(zP)<|zx7<|Ze ?_ ?_<;>intro hc
  ·
   refine zx3<|(zP)<|(zV (xix (kk:=X) Zb (hM.p (J j) Oa Oa).cf))<|zlv (xlr (u:= .int Oh ((mf (J j)) X)) pl_3 ((hM.p (J j) Oa Oa).below D.below)) ?_
   have a1:=aj X ak Oa
   have bk:=ag X ak Oa
   have a0:=ad X ak Oa
   rw [if_neg Oa] at a0
   refine(Om)<|zlt<|zrg<|zs4 ?_
   refine(zV (xix (kk:=X) Zb xI))<|(zV (xlr (u:= .int Oh (g4 X)) pl_3 (D.c7 7 rfl)))<|(zP)<|(zV (Zw (r:=g4 X-((mf (J j)) X))))<|(zV (KE (r:=(max 0 (g4 X-((mf (J j)) X))))))<|(zV (xix (kk:=X) Zb xI))<|zle (xso 7 pl_3 D (Zy _ _ _)) ?_;clear D;rintro w D
   refine zx10<|(zV (Zg (r:=X+1)))<|(zP)<|zln<|zlq ⟨(upd g4 X (max 0 (g4 X-((mf (J j)) X)))),X+1,rfl,Oa,Oa,?_,rfl,D⟩
   ·
    intro k O I;unfold upd;by_cases e:k=X
    · rw [if_pos e,if_pos Oa,e];omega
    · rw [if_neg e,ad k O I];by_cases e2:k<X
      · rw [if_pos e2,if_pos Oa]
      · rw [if_neg e2,if_neg Oa]
  refine zx21<|(zV (Zg (r:=j+1)))<|(zP)<|zln<|zlq ⟨W+1,gsn wv W aa,gsn lC W (ml (J j)),gsn gC W (mf (J j)),(snoc cC W 1),g4,j+1,v4,rfl,Oa,Oa,Oa,Oa,?_,?_,?_,rfl,D.pk [0,1,2,3,4,5,6,7,8]⟩
  ·
   first|exact uNo j0 af (fun⟨q,q0,q1,q2⟩=>absurd (ac.2 ⟨q,q0,Oa,q2⟩) ‹_›)|exact ZjV j0 zG af (by obtain⟨q,q0,q1,q2⟩:=ac.1 Od;exact⟨q,q0,Oa,q2⟩) (fun k O I=>(ad k O I).trans (if_pos Oa)) (fun k O I=>⟨Zp I,Zl I,Zp I⟩) ((Zq Oa).trans am) (Zk Oa) (Zq Oa)
  ·
   first|exact ag|(intro k O I;have V:=ad k O I;rw [if_pos Oa] at V;have h8:=ag k O I;have h7:=aj k O I;omega)
  ·
   exact ap
 refine zx8<|(zV (xls 1 st_32 D))<|(zP)<|zlc (xc0 Zge) (Zgx (u:=W) (pv:=wv) (ln:=lC) (pt:=gC) (cnt:=cC) (p:=p) w (⟨(D.c7 3 rfl),fun k O I=>D.fq 4 rfl O I,fun k O I=>D.gb 4 rfl O I⟩:VAt _ wC W wv lC gC cC) (h.below D.below)) ?_;rintro _ w ⟨bG,zi,bR,bV,cP,cU,cT,rfl,yp,yr,yq,yl,U⟩
 replace D:=(D.comp U).n11;clear U
 have aL:=fun k (O:0<=k) (I:k<zi)=>D.db 10 rfl O I
 refine zs4 ?_
 refine zx1<|zf2 ⟨_,rfl,?_⟩
 have ay:j=frN s u.toNat:=Oa
 rw [ay] at af
 exact⟨_,_,_,_,_,_,_,rfl,.inr ⟨_,_,_,_,_,_,_,_,_,(by rw [show(0:Int)=cR by omega];exact yj),zt,zG,(by rw [<-ab,<-ae];exact bz),(by rw [<-ab];exact dV),(by rw [<-yu,<-af]),yp⟩,yr,yq,yl,D.pk [9,10]⟩
theorem fd_87_0:Zv Oj 87 0=some 0:=Ob
theorem WJ:Zv Oj 87 1=some 1:=Ob
theorem ZbC{vL vD:Value}{p:Prob}{vM:Value}{u:Int}{mv:Int->Value}{ml:Oe}{mf:Of}{Y vY:Value}{s:So}(w0:World)(h:PAt w0 vL vD p)(hM:MAt w0 vM u mv ml mf)(W:Row w0 Y 1 s.n (ints s.X))(hY:Row w0 vY 1 s.m (ints s.Y))(ya:s.n<=1000):
   Calls Oj 104 [.agg #[vL,vD,.int Oh p.b8,.int Oh p.bo],.agg #[vM,Y,vY,.int Oh s.val,.int Oh s.den]].toArray w0 fun e w=>∃v,e= .returned v/\v=B (p.Ok/\ZaI p u ml mf s)/\Sat w0 w []:=by
 obtain⟨hm,ah,hd,hd1,hs,hk⟩:=h.Oo
 have hu:=hM.row.cf.n0;have ac:=hM.row.cf.n1;have hn:=W.cf.n0;have ag:=W.cf.n1
 refine zenG Tryz.func104 Tryz.ntmps104 fun w D=> ?_
 refine zsr<|zla (xbx (cs:= [_,_,_,_]) D) ?_;rintro _ w ⟨J,rfl,D⟩
 refine zla (xbx (cs:= [_,_,_,_,_]) D) ?_;rintro _ w ⟨X,rfl,D⟩
 refine(zP)<|zlz<|(zV (xfb 1 WJ))<|(zV (xlp 1 (ds:= [Y,vY,.int Oh s.val,.int Oh s.den]) st_85 D))<|zla (xal (cs:= [_,_,_,_]) Va D) ?_;rintro _ w ⟨g3,rfl,D⟩
 refine zle (xsw 2 st_85 D (hd:=(Za W.cf.one (Za hY.cf.one (Za rfl (Za rfl Zh)))))) ?_;clear D;rintro w D
 refine zx5<|(zV (xls 0 ZE D))<|zlc (xc0 Ut) (YB (p:=p) w (h.below D.below)) ?_;rintro _ w ⟨rfl,I⟩
 replace D:=D.cmp I;clear I
 refine(Om)<|zlb 15 ?_ ?_<;>intro hc;rotate_left
 refine(zV (xls 2 st_85 D))<|zlc (xc0 Zgc) (T9 (s:=s) w (W.below D.below) (hY.below D.below)) ?_;rintro _ w ⟨rfl,I⟩
 replace D:=D.cmp I;clear I
 refine(On)<|zlb 20 ?_ ?_<;>intro hc;rotate_left
 refine(zV (xfb 0 fd_87_0))<|(zV (xlb 1 Zs D))<|(zV (xln Zi hM.row.cf))<|(zV (xfb 0 fd_85_0))<|(zV (xlb 2 pl_22 D))<|(zV (xln Zb W.cf))<|(On)<|zlb 29 ?_ ?_<;>intro hc;rotate_left
 refine(zV (xfb 0 fd_85_0))<|(zV (xlb 2 pl_22 D))<|(zV (xln Zb W.cf))<|(Om)<|zlt<|Ze ?_ ?_<;>intro hc
 ·
  refine zsr<|(zP)<|zx14<|Oi ?_
  refine⟨false_B ?_,D.nl⟩
  rintro⟨g0,J,X,g3,g4,Z⟩
  first
  |exact absurd g0 ‹¬p.Ok›
  |exact absurd J ‹¬Yj s›
  |omega
  |(have F:=g4 i V Oa;first|exact absurd F.1 ‹_›|(have:=F.2;omega))
  |(have F:=Z k G Oa;rw [O,show q=u by omega] at*;omega)
 refine YL<|(zP)<|zx6 ?_
 have hp:p.Ok:=by first|assumption|exact Oc ‹_›
 have aa:Yj s:=by first|assumption|exact Oc ‹_›
 obtain⟨⟨d1,d2⟩,⟨d3,d4⟩,d5⟩:=id aa
 have yH:=hp.m1;have qH:=hp.m2;have ae:=hp.d
 refine zlp (fun mm M w=>∃(i:Int),mm=((s.n-i).toNat)/\(0<=i)/\(i<=s.n)/\(∀k,0<=k->k<i->ZU p (ml k) (mf k)/\(s.X k).tdiv s.den<=1000)/\M= [(2,Oq J),(3,Oq X),(5,Oq g3),(6,.int Oh i)]/\Sat w0 w [.blk J [vL,vD,.int Oh p.b8,.int Oh p.bo],.blk X [vM,Y,vY,.int Oh s.val,.int Oh s.den],.blk g3 [Y,vY,.int Oh s.val,.int Oh s.den]]) ⟨0,rfl,Oa,Oa,?_,rfl,D⟩ ?_
 ·
  intro k k0 k1;omega
 clear D w
 rintro mm M w ⟨i,rfl,V,aj,qa,rfl,D⟩
 have mq:i<s.n-> -1073741824<=(s.X i).tdiv s.den/\(s.X i).tdiv s.den<=1073741824:=fun hh=>YC (a:=s.X i) (d:=s.den) (A:=1073741824) Oa (by have:=d5 i V hh;omega)
 refine zx11<|(zP)<|(zV (xfb 0 fd_85_0))<|(zV (xlb 2 pl_22 D))<|(zV (xln Zb W.cf))<|(zP)<|zlt<|Ze ?_ ?_<;>intro hc
 ·
  refine zx27<|zdst [0,1,2] [0,1,2] 1000 mx_ D ?_;clear D;intro w D
  refine(zDl 0 (fun w D=>(xls 0 ZE D)))<|(zDw 1 (xfb 0 fd_87_0))<|(zDl 2 (fun w D=>(xlb 1 Zs D)))<|(zDw 3 xmv)<|(zDw 4 (xix (kk:=i) Zi hM.row.cf))<|(zDl 5 (fun w D=>(xlr (u:=(mv i)) pl_22 (hM.row.below D.below))))<|zdc 6 (xc0 Zgj) (U7 (p:=p) w (h.below D.below) ((hM.p i Oa Oa).below D.below)) ?_;rintro _ w ⟨rfl,I⟩
  replace D:=D.cmp I;clear I
  refine⟨⟨fun _=>D,D⟩,?_⟩
  refine(zDw 7 YH)<|(zDw 8 xmv)<|zdb 50 ?_ ?_<;>intro hc
  ·
   refine(zDo 9)<|(zDo 10)<|(zDo 11)<|(zDo 12)<|(zDo 13)<|(zDo 14)<|(zDo 15)<|(zDo 16)<|(zDo 17)<|(zDw 18 xpt)<|zdd<|ztn<|zct<|zsr ?_
   refine(zP)<|zx2<|Oi ?_
   refine⟨false_B ?_,D.nl⟩
   rintro⟨g0,J,X,g3,g4,Z⟩
   first
   |exact absurd g0 ‹¬p.Ok›
   |exact absurd J ‹¬Yj s›
   |omega
   |(have F:=g4 i V Oa;first|exact absurd F.1 ‹_›|(have:=F.2;omega))
   |(have F:=Z k G Oa;rw [O,show q=u by omega] at*;omega)
  refine(zDw 9 (xfb 0 fd_85_0))<|(zDl 10 (fun w D=>(xlb 2 pl_22 D)))<|(zDw 11 xmv)<|(zDw 12 (xix (kk:=i) Zb W.cf))<|(zDl 13 (fun w D=>(xlr (u:= .int Oh (s.X i)) pl_3 (W.below D.below))))<|(zDw 14 (xfb 3 fd_85_3))<|(zDl 15 (fun w D=>(xlb 2 pl_3 D)))<|(zDw 16 (VC (r:=(Int.tdiv (s.X i) s.den))))<|(zDw 17 Yu)<|(zDw 18 xpf)<|zdd<|ztn ?_
  refine Ze ?_ ?_<;>intro hc
  ·
   refine zsr<|(zP)<|zx2<|Oi ?_
   refine⟨false_B ?_,D.nl⟩
   rintro⟨g0,J,X,g3,g4,Z⟩
   first
   |exact absurd g0 ‹¬p.Ok›
   |exact absurd J ‹¬Yj s›
   |omega
   |(have F:=g4 i V Oa;first|exact absurd F.1 ‹_›|(have:=F.2;omega))
   |(have F:=Z k G Oa;rw [O,show q=u by omega] at*;omega)
  refine zx4<|(zP)<|(zV (Zg (r:=i+1)))<|(zP)<|zln<|zlq ⟨i+1,rfl,Oa,Oa,?_,rfl,D⟩
  ·
   intro k k0 k1;rcases Int.lt_or_eq_of_le (show k<=i by omega) with F|F
   · exact qa k k0 F
   · rw [F];exact⟨by first|assumption|exact Oc ‹_›,Oa⟩
 refine zx18<|(zP)<|zx6<|zlp (fun mm M w=>∃(k:Int),mm=((p.m-k).toNat)/\(0<=k)/\(k<=p.m)/\(∀j,0<=j->j<k->p.D j*s.den<=Zo u mf s.X j)/\M= [(2,Oq J),(3,Oq X),(5,Oq g3),(7,.int Oh k)]/\Sat w0 w [.blk J [vL,vD,.int Oh p.b8,.int Oh p.bo],.blk X [vM,Y,vY,.int Oh s.val,.int Oh s.den],.blk g3 [Y,vY,.int Oh s.val,.int Oh s.den]]) ⟨0,rfl,Oa,Oa,?_,rfl,D⟩ ?_
 ·
  intro j j0 j1;omega
 clear D w
 rintro mm M w ⟨k,rfl,G,ai,ab,rfl,D⟩
 have md:k<p.m->0<=p.D k*s.den/\p.D k*s.den<=1000*1073741824:=fun hh=>Xn (Wt hp G hh).1 (Wt hp G hh).2 (show 0<=s.den by omega) d2
 refine zx11<|(zP)<|(zV (xfb 0 fd_24_0))<|(zV (xlb 0 pl_22 D))<|(zV (xln Zb h.L.cf))<|(zP)<|zlt<|Ze ?_ ?_<;>intro hc
 ·
  refine zx3<|(zP)<|zx5<|(zP)<|zx6<|zlp (fun mm M w=>∃(n:Int) (q:Int),mm=((s.n-q).toNat)/\(0<=q)/\(q<=s.n)/\(n=Zo q mf s.X k)/\(0<=n/\n<=1073741824000*q)/\M= [(2,Oq J),(3,Oq X),(5,Oq g3),(7,.int Oh k),(8,.int Oh n),(9,.int Oh q)]/\Sat w0 w [.blk J [vL,vD,.int Oh p.b8,.int Oh p.bo],.blk X [vM,Y,vY,.int Oh s.val,.int Oh s.den],.blk g3 [Y,vY,.int Oh s.val,.int Oh s.den]]) ⟨0,0,rfl,Oa,Oa,?_,Oa,rfl,D⟩ ?_
  ·
   rfl
  clear D w
  rintro mm M w ⟨n,q,rfl,U,ad,O,af,rfl,D⟩
  have kN:q<s.n->0<=s.X q*mf q k/\s.X q*mf q k<=1073741824*1000:=fun hh=>Xn (d5 q U hh).1 (d5 q U hh).2 ((YW (qa q U Oa).1).2 k G Oa).1 ((YW (qa q U Oa).1).2 k G Oa).2
  have k9:q<s.n->ml q=p.m:=fun hh=>(YW (qa q U Oa).1).1
  refine zx11<|(zP)<|(zV (xfb 0 fd_85_0))<|(zV (xlb 2 pl_22 D))<|(zV (xln Zb W.cf))<|(zP)<|zlt<|Ze ?_ ?_<;>intro hc
  ·
   refine zx38<|zdst [0,1,2] [0,1,2] 1000 mx_ D ?_;clear D;intro w D
   refine(zDw 0 xmv)<|(zDw 1 (xfb 0 fd_85_0))<|(zDl 2 (fun w D=>(xlb 2 pl_22 D)))<|(zDw 3 xmv)<|(zDw 4 (xix (kk:=q) Zb W.cf))<|(zDl 5 (fun w D=>(xlr (u:= .int Oh (s.X q)) pl_3 (W.below D.below))))<|(zDw 6 (xfb 0 fd_87_0))<|(zDl 7 (fun w D=>(xlb 1 Zs D)))<|(zDw 8 xmv)<|(zDw 9 (xix (kk:=q) Zi hM.row.cf))<|(zDl 10 (fun w D=>(xlr (u:=(mv q)) pl_22 (hM.row.below D.below))))<|(zDw 11 xmv)<|(zDw 12 (xix (kk:=k) Zb (hM.p q Oa Oa).cf))<|(zDl 13 (fun w D=>(xlr (u:= .int Oh ((mf q) k)) pl_3 ((hM.p q Oa Oa).below D.below))))<|zdv 14 (fun _=>(Z2 (r:=((s.X q)*((mf q) k))) (e:=rfl))) ?_
   refine(zDw 15 (Zg (r:=n+((s.X q)*((mf q) k)))))<|(zDw 16 xas)<|zdd<|zbn<|ztn<|zrg ?_
   refine(zP)<|(zV (Zg (r:=q+1)))<|(zP)<|zln<|zlq ⟨n+((s.X q)*((mf q) k)),q+1,rfl,Oa,Oa,?_,Oa,rfl,D⟩
   ·
    rw [YP U,<-O,Int.mul_comm (mf q k)]
  refine zxt<|ztx<|ztx<|zbh<|ztn<|zsq<|zdst [0,1,2] [0,1,2] 1000 mx_ D ?_;clear D;intro w D
  refine(zDw 0 xmv)<|(zDw 1 (xfb 1 fd_24_1))<|(zDl 2 (fun w D=>(xlb 0 pl_22 D)))<|(zDw 3 xmv)<|(zDw 4 (xix (kk:=k) Zb h.D.cf))<|zdla 5 (fun w D=>(xlr (u:= .int Oh (p.D k)) pl_3 (h.D.below D.below))) ?_
  have ak:=h.iD k
  refine(zDw 6 (xfb 3 fd_85_3))<|(zDl 7 (fun w D=>(xlb 2 pl_3 D)))<|(zDw 8 (Z2 (r:=((p.D k)*s.den)) (e:=rfl)))<|(zDw 9 Z7)<|zdd<|ztn ?_
  refine Ze ?_ ?_<;>intro hc
  ·
   refine zsr<|(zP)<|zx2<|Oi ?_
   refine⟨false_B ?_,D.nl⟩
   rintro⟨g0,J,X,g3,g4,Z⟩
   first
   |exact absurd g0 ‹¬p.Ok›
   |exact absurd J ‹¬Yj s›
   |omega
   |(have F:=g4 i V Oa;first|exact absurd F.1 ‹_›|(have:=F.2;omega))
   |(have F:=Z k G Oa;rw [O,show q=u by omega] at*;omega)
  refine zx4<|(zP)<|(zV (Zg (r:=k+1)))<|(zP)<|zln<|zlq ⟨k+1,rfl,Oa,Oa,?_,rfl,D⟩
  ·
   intro j j0 j1;rcases Int.lt_or_eq_of_le (show j<=k by omega) with F|F
   · exact ab j j0 F
   · rw [F];rw [show q=u by omega] at O;omega
 refine zx8<|(zP)<|zx1<|Oi ?_
 exact⟨ZT ⟨hp,aa,Oa,Oa,fun k k0 k1=>qa k k0 Oa,fun j j0 j1=>ab j j0 Oa⟩,D.nl⟩
 all_goals
  refine zOps ?_
  refine zlt<|zct<|zsr ?_
  refine zOps ?_
  refine zx14<|Oi ?_
  refine⟨false_B ?_,D.nl⟩
  rintro⟨g0,J,X,g3,g4,Z⟩
  first
  |exact absurd g0 ‹¬p.Ok›
  |exact absurd J ‹¬Yj s›
  |omega
  |(have F:=g4 i V Oa;first|exact absurd F.1 ‹_›|(have:=F.2;omega))
  |(have F:=Z k G Oa;rw [O,show q=u by omega] at*;omega)
variable {cnt ln:Oe} {pt:Of}
theorem WD{F G c d:Oe}:∀{m:Nat},(∀k:Nat,k<m->F k=G k/\c k=d k)->psum F c m=psum G d m
 |0,_=>rfl
 |m+1,h=>by simp only [psum];rw [WD fun k D=>h k Oa,(h m Oa).1,(h m Oa).2]
theorem XY{n:Int}{f:Oe}{j:Int}(F:0<=j)(D:j<n):(lst n f).getD j.toNat 0=f j:=by
 rw [List.getD_eq_getElem?_getD,lst_get,Int.toNat_of_nonneg F,if_pos D];rfl
theorem Zbd{m:Int}{l:List Int}(h:l.length=m.toNat):l=lst m fun k=>l.getD k.toNat 0:=by
 apply List.ext_getElem?
 intro k
 rw [lst_get]
 by_cases hk:(k:Int)<m
 · rw [if_pos hk,List.getD_eq_getElem?_getD,Int.toNat_natCast,List.getElem?_eq_getElem Oa];rfl
 · rw [if_neg hk];simp;omega
def mkU(j:Int)(L:Us):Int:=wsum (fun l=>l.getD j.toNat 0) L
theorem Zh1{n:Int}(n0:0<=n){j:Int}(D:0<=j)(F:∀k,0<=k->k<n->j<ln k):Zo n pt cnt j=mkU j (plL n ln pt cnt):=by
 unfold mkU Zo
 rw [Zt _ n0]
 exact WD fun k G=>⟨(XY D (F k Oa Oa)).symm,rfl⟩
theorem Ze6{p:Prob}{u:Int}(h:PlanOk p u ln pt cnt):∀x∈plL u ln pt cnt,1<=x.2:=fun x F=>by
 obtain⟨j,D⟩:=List.mem_iff_getElem?.1 F
 rw [plL_get] at D
 split at D
 · injection D with D;rw [<-D];exact(h.2.2 j Oa (by assumption)).1
 · cases D
def ZaJ(p:Prob)(l:List Int):Prop:=∃f,FitsP p p.m f/\l=lst p.m f
theorem U3{p:Prob}{n m:Int}{f g:Oe}(h:FitsP p n f)(hn:n=m)(G:∀k,0<=k->k<p.m->g k=f k):FitsP p m g:=by
 subst hn
 refine⟨h.ok,h.eq,fun i D F=>by rw [G i D F];exact h.all i D F,?_⟩
 have I:=h.ok.m1
 have e:ZI p g p.m.toNat=ZI p f p.m.toNat:=Zj fun i D F=>by rw [G i D Oa]
 rw [e];exact h.used
theorem ZaZ{p:Prob}{n:Int}(D:p.Ok)(hn:n<=1000)(W:∀k,0<=k->k<n->0<=ln k)(X:∀x∈plL n ln pt cnt,(1<=x.2/\x.2<=1000)/\ZaJ p x.1):PlanOk p n ln pt cnt:=by
 refine⟨D,hn,fun k G F=> ?_⟩
 have V:(lst (ln k) (pt k),cnt k)∈plL n ln pt cnt:=List.mem_iff_getElem?.2 ⟨k.toNat,by rw [plL_get,Int.toNat_of_nonneg G,if_pos F]⟩
 obtain⟨⟨h1,h2⟩,f,Z,Y⟩:=X _ V
 have U:=D.m1
 obtain⟨J,I⟩:=(VP (W k G F) Oa).1 Y
 exact⟨h1,h2,U3 Z J.symm fun i O i1=>I i O Oa⟩
theorem VK{p:Prob}{n:Int}(h:PlanOk p n ln pt cnt):∀x∈plL n ln pt cnt,(1<=x.2/\x.2<=1000)/\ZaJ p x.1:=fun x G=>by
 obtain⟨j,D⟩:=List.mem_iff_getElem?.1 G
 rw [plL_get] at D
 split at D
 · injection D with D
   obtain⟨h1,I,F⟩:=h.2.2 j Oa (by assumption)
   rw [<-D]
   exact⟨⟨h1,I⟩,pt j,U3 F F.eq fun _ _ _=>rfl,by have:=F.eq;dsimp only;rw [this]⟩
 · cases D
end Go.Proofs.YtkichmnjjblodaaGreat
namespace Go.Proofs.YtkichmnjjblodaaGreat
open Go Go.RowKit Go.Proofs.Gw
variable {j:Int}
theorem Ky{p:Prob}{I:List Int}{s:Us}(D:p.Ok)(h:FFOk p.m (p.b8+p.bo) (szP p) I s){b:List Int×Int}(F:b∈s)(O:0<=j)(J:j<p.m):0<=b.1.getD j.toNat 0/\b.1.getD j.toNat 0<=p.b8+p.bo:=by
 obtain⟨Y,X,W⟩:=h.ok _ F
 have G:=h.nn _ F
 have V:=KY G (sz:=szP p) (fun k U=>(Zb5 D Oa Oa).1) (j:=j.toNat) Oa
 refine⟨?_,Oa⟩
 rw [List.getD_eq_getElem?_getD,List.getElem?_eq_getElem Oa]
 exact G _ (List.getElem_mem _)
theorem RH(p:Prob)(d:Oe):∀n:Nat,psum (szP p) d n=ZI p d n
 |0=>rfl
 | n +1=>by
   have h1:ZI p d (n+1)=ZI p d n+d n*(p.L n+p.bo):=by
     have:=ZH (fun i=>d i*(p.L i+p.bo)) (i:=(n:Int)) Oa
     rw [show((n:Int)+1).toNat=n+1 by omega,Int.toNat_natCast] at this
     exact this
   rw [h1,psum,RH p d n,Int.mul_comm]
theorem XI{a b A B:Int}(I:0<=a)(G:a<=A)(D:0<=b)(F:b<=B):0<=a*b/\a*b<=A*B:=
 ⟨Int.mul_nonneg I D,Int.mul_le_mul G F D Oa⟩
theorem V7{p:Prob}{n:Int}{ln cnt:Oe}{pt:Of}(D:p.Ok)(hn:n<=1000)(F:∀x∈plL n ln pt cnt,(1<=x.2/\x.2<=1000)/\ZaJ p x.1):PlanOk p n ln pt cnt:=by
 refine ZaZ D hn (fun k J I=> ?_) F
 obtain⟨_,f,U,O⟩:=F (lst (ln k) (pt k),cnt k) (List.mem_iff_getElem?.2 ⟨k.toNat,by rw [plL_get,Int.toNat_of_nonneg J,if_pos I]⟩)
 have G:=congrArg List.length O
 dsimp only at G
 rw [Xp,Xp] at G
 have:=D.m1
 omega
theorem PlanOk.mk{p:Prob}{n:Int}{ln cnt:Oe}{pt:Of}(h:PlanOk p n ln pt cnt)(n0:0<=n)(G:0<=j)(I:j<p.m):Zo n pt cnt j=mkU j (plL n ln pt cnt):=
 Zh1 n0 G fun k F D=>by have:=(h.2.2 k F D).2.2.eq;omega
theorem ZcP{f g:List Int->Int}:∀{L:Us},(∀x∈L,0<=x.2)->(∀x∈L,f x.1<=g x.1)->wsum f L<=wsum g L
 | [],_,_=>Int.le_refl _
 | x::L,h,k=>by
   have h1:=ZcP (f:=f) (g:=g) (L:=L) (fun y D=>h y (by simp [D])) fun y D=>k y (by simp [D])
   have F:=Int.mul_le_mul_of_nonneg_right (k x (by simp)) (h x (by simp))
   simp only [wsum];omega
theorem Zcr:∀{L:Us},(∀x∈L,1<=x.2)->(L.length:Int)<=wsum (fun _=>1) L/\∀x∈L,x.2<=wsum (fun _=>1) L
 | [],_=>⟨by simp [wsum],by simp⟩
 | y ::L,h=>by
   obtain⟨h1,F⟩:=Zcr (L:=L) fun x D=>h x (by simp [D])
   have G:=h y (by simp)
   simp only [wsum]
   refine⟨by rw [List.length_cons];push_cast;omega,fun x D=> ?_⟩
   rcases List.mem_cons.1 D with e|e
   · rw [e];have:(0:Int)<=L.length:=Oa
     omega
   · have:=F x e;omega
theorem Zkg{p:Prob}{V:List Int}{s:Us}(D:p.Ok)(h:FFOk p.m (p.b8+p.bo) (szP p) V s){b:List Int×Int}(G:b∈s):ZaJ p b.1:=by
 obtain⟨h2,h3,h4⟩:=h.ok _ G
 have h5:=h.nn _ G
 have hm:=D.m1
 have J:=Zbd (m:=p.m) h2
 have e:WB (szP p) b.1=ZI p (fun k=>b.1.getD k.toNat 0) p.m.toNat:=by
   rw [J,RG _ _ Oa,RH]
   refine Zj fun i F I=> ?_
   dsimp only
   rw [<-J]
 refine⟨fun k=>b.1.getD k.toNat 0,⟨D,rfl,fun i F I=> ?_,Oa⟩,J⟩
 obtain⟨U,g2⟩:=Ky D h G F I
 refine⟨U,?_⟩
 have h6:(b.1.getD i.toNat 0)*(1+p.bo)<=p.b8+p.bo:=by
   have X:=D.all i F I
   unfold Prob.each at X
   have h7:(b.1.getD i.toNat 0)*(p.L i+p.bo)<=ZI p (fun k=>b.1.getD k.toNat 0) p.m.toNat:=Xx (f:=fun i=>b.1.getD i.toNat 0*(p.L i+p.bo)) F Oa fun k O k1=>by
     have Z:=D.all k O Oa
     unfold Prob.each at Z
     exact Int.mul_nonneg (Ky D h G O Oa).1 (by have:=D.k1;omega)
   have h8:=Int.mul_le_mul_of_nonneg_left (show 1+p.bo<=p.L i+p.bo by omega) U
   omega
 have Y:=D.k1
 have W:=D.s2
 refine Classical.byContradiction fun hc=> ?_
 have h9:=Int.mul_le_mul_of_nonneg_right (show(2001:Int)<=b.1.getD i.toNat 0 by omega) (show 0<=1+p.bo by omega)
 omega
def Zcg(j:Int):Oe:=fun k=>if k=j then 1 else 0
theorem TH{d:Oe}{j:Int}(D:0<=j):∀n:Nat,psum (Zcg j) d n=if j<(n:Int) then d j else 0
 |0=>by rw [if_neg Oa];rfl
 | n +1=>by
   simp only [psum]
   rw [TH D n]
   unfold Zcg
   by_cases h:(n:Int)=j
   · rw [if_neg Oa,if_pos h,if_pos Oa,h];omega
   · rw [if_neg h]
     by_cases h2:j<(n:Int)
     · rw [if_pos h2,if_pos Oa];omega
     · rw [if_neg h2,if_neg Oa];omega
theorem Ze5{m:Int}{l:List Int}(F:l.length=m.toNat)(D:0<=j)(G:j<m):WB (Zcg j) l=l.getD j.toNat 0:=by
 have h:=Zbd (m:=m) F
 have h1:WB (Zcg j) l=WB (Zcg j) (lst m fun k=>l.getD k.toNat 0):=by rw [<-h]
 rw [h1,RG _ _ Oa,TH D,if_pos Oa]
theorem Zfy{p:Prob}{d:Oe}(D:p.Ok)(hd:∀k,0<=k->k<p.m->0<=d k){N:Us}(I:NormR (TL (Yt p.m (p.b8+p.bo) (szP p) (pcsTo d p.m 0))) N):
   (∀x∈N,1<=x.2/\ZaJ p x.1)/\wsum (fun _=>1) N<=psum (fun _=>1) d p.m.toNat/\∀j,0<=j->j<p.m->mkU j N=d j:=by
 have hm:=D.m1
 obtain⟨U,Z⟩:=Ua (d:=d) (m:=p.m) (i:=p.m) (c:=0) hd Oa Oa Oa (fun h=>Oa) fun _=>rfl
 have J:=Zdj D U
 have V:∀x∈TL (Yt p.m (p.b8+p.bo) (szP p) (pcsTo d p.m 0)),∃b∈Yt p.m (p.b8+p.bo) (szP p) (pcsTo d p.m 0),x=(b.1,1):=fun x F=>by
   unfold TL at F
   obtain⟨b,G,rfl⟩:=List.mem_map.1 F
   exact⟨b,G,rfl⟩
 refine⟨fun x F=>⟨I.pos (fun y O=>by obtain⟨b,_,rfl⟩:=V y O;exact Int.le_refl _) x F,?_⟩,?_,fun j W Y=> ?_⟩
 · obtain⟨y,O,e⟩:=I.keys x F
   obtain⟨b,G,rfl⟩:=V y O
   rw [<-e];exact Zkg (b:=b) D J G
 · rw [I.iy,UB]
   have h1:=J.ln
   have X:((Yt p.m (p.b8+p.bo) (szP p) (pcsTo d p.m 0)).map fun _=>(1:Int)).sum=(Yt p.m (p.b8+p.bo) (szP p) (pcsTo d p.m 0)).length:=by
     generalize Yt p.m (p.b8+p.bo) (szP p) (pcsTo d p.m 0)=l
     induction l with
     |nil=>rfl
     |cons a l ih=>rw [List.map_cons,List.sum_cons,ih,List.length_cons];push_cast;omega
   omega
 · unfold mkU
   rw [I.iy,UB]
   have h1:=J.ct (Zcg j)
   rw [RN _ _ Oa Oa hd,TH W,if_pos Oa] at h1
   have X:((Yt p.m (p.b8+p.bo) (szP p) (pcsTo d p.m 0)).map fun b=>b.1.getD j.toNat 0)=(Yt p.m (p.b8+p.bo) (szP p) (pcsTo d p.m 0)).map fun b=>WB (Zcg j) b.1:=
     List.map_congr_left fun b G=>(Ze5 (J.ok b G).1 W Y).symm
   rw [X,h1];omega
end Go.Proofs.YtkichmnjjblodaaGreat
namespace Go.Proofs.YtkichmnjjblodaaGreat
open Go Go.RowKit Go.Proofs.Gw
variable {e:Int}
structure ExU (p:Prob) (N:Us):Prop where
  pat:∀x∈N,1<=x.2/\ZaJ p x.1
  lj:wsum (fun _=>1) N<=psum (fun _=>1) p.D p.m.toNat
  mks:∀j,0<=j->j<p.m->mkU j N=p.D j
theorem FFitR.ex{p:Prob}{N:Us}(D:p.Ok)(h:FFitR p N e)(I:e=0):ExU p N:=by
 obtain⟨h1,O,J⟩:=Zfy D (fun k G F=>(Wt D G F).1) (h.2.1 I)
 exact⟨h1,O,J⟩
theorem ZbF(f:List Int->Int):∀{N:Us},(∀x∈N,0<=x.2)->((UA N).map f).sum=wsum f N
 | [],_=>rfl
 | u ::N,h=>by
   have h1:=ZbF f (N:=N) fun x D=>h x (by simp [D])
   have G:=h u (by simp)
   unfold UA at h1⊢
   rw [List.reverse_cons,List.flatMap_append,List.map_append,List.sum_append,h1]
   simp only [List.flatMap_cons,List.flatMap_nil,List.append_nil,List.map_replicate,wsum]
   have F:∀n:Nat,(List.replicate n (f u.1)).sum=f u.1*n:=fun n=>by
     induction n with
     |zero=>simp
     |succ n ih=>rw [List.replicate_succ,List.sum_cons,ih];push_cast;rw [Int.mul_add];omega
   rw [F,Int.toNat_of_nonneg G];omega
theorem Zhf{N:Us}:∀a∈UA N,∃x∈N,a=x.1:=fun a D=>by
 unfold UA at D
 obtain⟨x,F,h⟩:=List.mem_flatMap.1 D
 exact⟨x,List.mem_reverse.1 F,(List.mem_replicate.1 h).2⟩
theorem Zcq{m:Int}{j:Int}(F:0<=j)(D:j<m):∀(h:List (List Int)),(∀a∈h,∃f:Oe,(∀k,0<=k->k<m->0<=f k)/\a=lst m f)->0<=(h.map fun a=>a.getD j.toNat 0).sum
 | [],_=>by simp
 | a::h,ha=>by
   have h1:=Zcq F D h fun b G=>ha b (by simp [G])
   obtain⟨f,hf,rfl⟩:=ha a (by simp)
   have:=hf j F D
   rw [List.map_cons,List.sum_cons,XY F D];omega
theorem Ty {m:Int}:∀(h:List (List Int)) (M:Oe) (L:Us),(∀a∈h,∃f:Oe,(∀k,0<=k->k<m->0<=f k)/\a=lst m f)->(∀k,0<=k->k<m->0<=M k)->
   (∃J:Oe,(h.foldl Wm (lst m M,L)).1=lst m J/\∀j,0<=j->j<m->J j=max 0 (M j-(h.map fun a=>a.getD j.toNat 0).sum)/\mkU j (h.foldl Wm (lst m M,L)).2=mkU j L+(h.map fun a=>a.getD j.toNat 0).sum-(M j-J j))/\
   ∀x∈(h.foldl Wm (lst m M,L)).2,x∈L\/∃(f g:Oe),lst m f∈h/\x=(lst m g,1)/\(∀k,0<=k->k<m->0<=g k/\g k<=f k)/\∃k,0<=k/\k<m/\0<g k
 | [],M,L,_,hM=>⟨⟨M,rfl,fun j F D=>by have:=hM j F D;simp only [List.foldl_nil,List.map_nil,List.sum_nil];omega⟩,fun x V=> .inl V⟩
 | a :: h, M,L,ha,hM=>by
   obtain⟨f,hf,rfl⟩:=ha a (by simp)
   have e1:tM (lst m f) (lst m M)=lst m fun k=>M k-min (f k) (M k):=Y0 _ _ _ _
   have e2:tA (lst m f) (lst m M)=lst m fun k=>f k-min (f k) (M k):=Y0 _ _ _ _
   have W:∀k,0<=k->k<m->0<=M k-min (f k) (M k):=fun k U O=>Oa
   have I:∀a∈h,∃f:Oe,(∀k,0<=k->k<m->0<=f k)/\a=lst m f:=fun b hb=>ha b (by simp [hb])
   rw [List.foldl_cons]
   by_cases hn:(lst m fun k=>f k-min (f k) (M k)).any (fun x=>decide (0<x))=true
   · have e:Wm (lst m M,L) (lst m f)=(lst m fun k=>M k-min (f k) (M k),L++ [(lst m fun k=>f k-min (f k) (M k),1)]):=by
       unfold Wm;dsimp only;rw [e1,e2,if_pos hn]
     rw [e]
     obtain⟨⟨J,h1,Z⟩,Y⟩:=Ty h (fun k=>M k-min (f k) (M k)) (L++ [(lst m fun k=>f k-min (f k) (M k),1)]) I W
     refine⟨⟨J,h1,fun j F D=> ?_⟩,fun x V=> ?_⟩
     · obtain⟨g1,g2⟩:=Z j F D
       rw [List.map_cons,List.sum_cons,XY F D]
       have g3:mkU j (L++ [(lst m fun k=>f k-min (f k) (M k),1)])=mkU j L+(f j-min (f j) (M j)):=by
         unfold mkU;rw [WY];simp only [wsum];rw [XY F D];omega
       rw [g3] at g2
       have:=hf j F D;have:=hM j F D;have:=Zcq F D h I
       omega
     · rcases Y x V with G|⟨f',g,G,X⟩
       · rcases List.mem_append.1 G with G|G
         · exact .inl G
         · obtain⟨k,U,O,hk⟩:=WQ.1 hn
           exact .inr ⟨f,_,by simp,by simpa using G,fun k U O=>by have:=hf k U O;have:=hM k U O;omega,k,U,O,hk⟩
       · exact .inr ⟨f',g,by simp [G],X⟩
   · have e:Wm (lst m M,L) (lst m f)=(lst m fun k=>M k-min (f k) (M k),L):=by
       unfold Wm;dsimp only;rw [e1,e2,if_neg hn]
     rw [e]
     obtain⟨⟨J,h1,Z⟩,Y⟩:=Ty h (fun k=>M k-min (f k) (M k)) L I W
     refine⟨⟨J,h1,fun j F D=> ?_⟩,fun x V=> ?_⟩
     · obtain⟨g1,g2⟩:=Z j F D
       rw [List.map_cons,List.sum_cons,XY F D]
       have hz:¬0<f j-min (f j) (M j):=fun hh=>hn (WQ.2 ⟨j,F,D,hh⟩)
       have:=hf j F D;have:=hM j F D;have:=Zcq F D h I
       omega
     · rcases Y x V with G|⟨f',g,G,X⟩
       · exact .inl G
       · exact .inr ⟨f',g,by simp [G],X⟩
theorem RI(d:Oe):∀n:Nat,psum (fun k=>d k) (fun _=>1) n=psum (fun _=>1) d n
 |0=>rfl
 |n+1=>by simp only [psum];rw [RI d n];omega
theorem ZaK(f g:List Int->Int):∀L:Us,wsum (fun l=>f l+g l) L=wsum f L+wsum g L
 | []=>rfl
 |x::L=>by simp only [wsum];rw [ZaK f g L,Int.add_mul];omega
theorem Rq:∀L:Us,wsum (fun _=>0) L=0
 | []=>rfl
 |x::L=>by simp only [wsum];rw [Rq L];omega
theorem ZcO(L:Us):∀n:Nat,wsum (fun l=>psum (fun k=>l.getD k.toNat 0) (fun _=>1) n) L=psum (fun k=>mkU k L) (fun _=>1) n
 |0=>Rq L
 | n +1=>by
   have h:=ZaK (fun l=>psum (fun k=>l.getD k.toNat 0) (fun _=>1) n) (fun l=>l.getD n 0) L
   simp only [psum]
   rw [ZcO L n] at h
   have e:(fun l:List Int=>psum (fun k=>l.getD k.toNat 0) (fun _=>1) n+l.getD (n:Int).toNat 0*1)=fun l=>psum (fun k=>l.getD k.toNat 0) (fun _=>1) n+l.getD n 0:=by
     funext l;rw [Int.toNat_natCast];omega
   rw [e,h]
   unfold mkU
   rw [Int.toNat_natCast];omega
theorem Zfz{p:Prob}{n:Int}{f g:Oe}(h:FitsP p n f)(hn:n=p.m)(G:∀k,0<=k->k<p.m->0<=g k/\g k<=f k):FitsP p p.m g:=by
 refine⟨h.ok,rfl,fun i D F=>by have:=h.all i D F;have:=G i D F;omega,Int.le_trans (Yk fun i D F=> ?_) h.used⟩
 have J:=h.ok.m1
 have h1:=G i D Oa
 have I:=h.ok.all i D Oa
 unfold Prob.each at I
 exact Int.mul_le_mul_of_nonneg_right h1.2 (by have:=h.ok.k1;omega)
theorem TrimR.ex {p:Prob} {u:Int} {ln cnt:Oe} {pt:Of} {out:Us} (h:TrimR p u ln pt cnt out e) (he:e=0) (u0:0<=u):ExU p out:=by
 rcases h with⟨_,_,h⟩|⟨_,_,_,h⟩|⟨h1,h2,_,N,hN,hO⟩
 · omega
 · omega
 · have U:=h1.1
   have hm:=U.m1
   have bA:=fun x D=>hN.pos (Ze6 h1) x D
   have gP:∀x∈N,ZaJ p x.1:=fun x D=>by
     obtain⟨y,O,ey⟩:=hN.keys x D
     rw [<-ey];exact(VK h1 y O).2
   have gV:∀a∈UA N,ZaJ p a:=fun a Z=>by
     obtain⟨x,D,rfl⟩:=Zhf a Z
     exact gP x D
   have gk:∀j,0<=j->j<p.m->Zo u pt cnt j=((UA N).map fun a=>a.getD j.toNat 0).sum:=fun j J I=>by
     rw [ZbF _ fun x D=>by have:=bA x D;omega,h1.mk u0 J I]
     exact(hN.iy _).symm
   obtain⟨⟨M',_,hc⟩,aO⟩:=Ty (m:=p.m) (UA N) (fun j=>Zo u pt cnt j-p.D j) [] (fun a Z=>by
     obtain⟨f,hf,rfl⟩:=gV a Z
     exact⟨f,fun k F G=>(hf.all k F G).1,rfl⟩) fun k F G=>by have:=h2 k F G;omega
   have W:∀x∈(Wn (lst p.m fun j=>Zo u pt cnt j-p.D j) (UA N)).2,1<=x.2/\ZaJ p x.1/\(∀k,0<=k->k<p.m->0<=x.1.getD k.toNat 0)/\∃k,0<=k/\k<p.m/\0<x.1.getD k.toNat 0:=fun x D=>by
     rcases aO x D with h|⟨f,g,hf,rfl,hg,k,F,G,X⟩
     · cases h
     · obtain⟨f',Y,ef⟩:=gV _ hf
       have e1:=((VP Oa Oa).1 ef).2
       refine⟨Int.le_refl _,⟨g,Zfz Y rfl fun k F G=>by have:=hg k F G;rw [<-e1 k F G];exact this,rfl⟩,fun k F G=> ?_,k,F,G,?_⟩
       · dsimp only;rw [XY F G];exact(hg k F G).1
       · dsimp only;rw [XY F G];exact X
   have V:∀j,0<=j->j<p.m->mkU j (Wn (lst p.m fun j=>Zo u pt cnt j-p.D j) (UA N)).2=p.D j:=fun j J I=>by
     obtain⟨g1,g2⟩:=hc j J I
     rw [<-gk j J I] at g1 g2
     have g3:mkU j ([]:Us)=0:=rfl
     have hd:=(Wt U J I).1
     unfold Wn
     have:=h2 j J I
     omega
   refine⟨fun x D=>⟨hO.pos (fun y O=>(W y O).1) x D,?_⟩,?_,fun j J I=> ?_⟩
   · obtain⟨y,O,ey⟩:=hO.keys x D
     rw [<-ey];exact(W y O).2.1
   · rw [hO.iy]
     refine Int.le_trans (ZcP (g:=fun l=>psum (fun k=>l.getD k.toNat 0) (fun _=>1) p.m.toNat) (fun x D=>by have:=(W x D).1;omega) fun x D=> ?_) ?_
     · obtain⟨_,_,h3,k,F,G,X⟩:=W x D
       have h4:=Wo (d:=fun _=>1) (f:=fun k=>x.1.getD k.toNat 0) (i:=(k+1).toNat) (n:=p.m.toNat) Oa fun q hq=>by have:=h3 q Oa Oa;omega
       rw [YG _ _ F] at h4
       have h5:=Wo (d:=fun _=>1) (f:=fun k=>x.1.getD k.toNat 0) (i:=0) (n:=k.toNat) Oa fun q hq=>by have:=h3 q Oa Oa;omega
       have h6:psum (fun k=>x.1.getD k.toNat 0) (fun _=>1) 0=0:=rfl
       omega
     · rw [ZcO,<-RI]
       refine Int.le_of_eq (WD fun k X=>⟨V k Oa Oa,rfl⟩)
   · unfold mkU;rw [hO.iy];exact V j J I
theorem Th(pt:Of)(cnt:Oe)(j:Int):∀n:Nat,Wl pt cnt n j=psum (fun k=>pt k j) cnt n
 |0=>rfl
 | n+1=>by
   have:=ZH (fun i=>pt i j*cnt i) (i:=(n:Int)) Oa
   rw [show((n:Int)+1).toNat=n+1 by omega,Int.toNat_natCast] at this
   unfold Wl
   rw [this]
   have h:=Th pt cnt j n
   unfold Wl at h
   rw [h];rfl
theorem ExU.sound{p:Prob}{n:Int}{ln cnt:Oe}{pt:Of}(h:ExU p (plL n ln pt cnt))(F:p.Ok)(Y:psum (fun _=>1) p.D p.m.toNat<=1000)(n0:0<=n):SoundP p n ln pt cnt/\∀j,0<=j->j<p.m->Wl pt cnt n.toNat j=p.D j:=by
 obtain⟨h1,V⟩:=Zcr (L:=plL n ln pt cnt) fun x D=>(h.pat x D).1
 have Z:=h.lj
 rw [plL_len] at h1
 have J:PlanOk p n ln pt cnt:=V7 F Oa fun x D=>⟨⟨(h.pat x D).1,by have:=V x D;omega⟩,(h.pat x D).2⟩
 refine⟨⟨F,Oa,fun i U O=> ?_⟩,fun j I G=> ?_⟩
 · obtain⟨X,W,g3⟩:=J.2.2 i U O
   exact⟨g3,X,W⟩
 · rw [Th]
   have:=J.mk n0 I G
   unfold Zo at this
   rw [this];exact h.mks j I G
theorem DownR.ex{p:Prob}{u:Int}{ml:Oe}{mf:Of}{s:So}{out:Us}{e:Int}(h:DownR p u ml mf s out e)(D:e=0):ExU p out:=by
 rcases h with⟨h,_⟩|⟨n1,ln1,pt1,yR,n2,ln2,pt2,qg,hw,n10,n20,hN,hT⟩
 · exact absurd D h
 · exact hT.ex D Oa
theorem UpR.ex{p:Prob}{u:Int}{ml:Oe}{mf:Of}{s:So}{out:Us}{e:Int}(h:UpR p u ml mf s out e)(D:e=0):ExU p out:=by
 rcases h with⟨h,_⟩|⟨n1,ln1,pt1,yR,t,n,ln,pt,cnt,hw,n10,n0,hp,_,hU,hT⟩
 · exact absurd D h
 · exact hT.ex D n0
end Go.Proofs.YtkichmnjjblodaaGreat
namespace Go.Proofs.YtkichmnjjblodaaGreat
open Go Go.RowKit Go.Proofs.Gw
variable {ml:Oe} {mf:Of}
theorem Zby:Zc Oj 54=true:=Ob
theorem ZnC:Zc Oj 85=true:=Ob
theorem Zjz:Zc Oj 86=true:=Ob
theorem ZkC:ZV Oj 144=some (.nilFunc,1,8):=Ob
theorem Zj1:ZR Oj 144=true:=Ob
theorem Zb6:ZJ Oj 145=some (144,1):=Ob
def Yx(b x:Us)(e:Int):Us:=if e=0/\wsum (fun _=>1) x<wsum (fun _=>1) b then x else b
def Zho(i:Int)(p:Prob)(u:Int)(ml:Oe)(mf:Of)(s:So)(out:Us)(e:Int):Prop:=if i=0 then DownR p u ml mf s out e else UpR p u ml mf s out e
def BRun(p:Prob)(u:Int)(ml:Oe)(mf:Of)(s:So)(l:Us)(i:Int)(cur:Us):Prop:=
  (i=0/\cur=l)\/(i=1/\∃x e,DownR p u ml mf s x e/\cur=Yx l x e)\/(i=2/\∃x e y f,DownR p u ml mf s x e/\UpR p u ml mf s y f/\cur=Yx (Yx l x e) y f)
theorem BRun.next{p:Prob}{u:Int}{s:So}{l cur x:Us}{i e:Int}(h:BRun p u ml mf s l i cur)(F:i<2)(D:Zho i p u ml mf s x e):BRun p u ml mf s l (i+1) (Yx cur x e):=by
 unfold Zho at D
 rcases h with⟨rfl,rfl⟩|⟨rfl,y,f,h1,rfl⟩|⟨h,_⟩
 · exact .inr (.inl ⟨rfl,x,e,by simpa using D,rfl⟩)
 · exact .inr (.inr ⟨rfl,y,f,x,e,h1,by simpa using D,rfl⟩)
 · omega
def BestR(p:Prob)(out:Us)(e:Int):Prop:=
  (e≠0/\FFitR p [] e/\out= [])\/(e=0/\∃l,FFitR p l 0/\∃u ml mf s ec,0<=u/\ColR p u ml mf s ec/\((ec≠0/\out=l)\/(ec=0/\BRun p u ml mf s l 2 out)))
theorem ColR.n60{p:Prob}{u:Int}{s:So}{e:Int}(h:ColR p u ml mf s e)(D:e=0)(F:0<=u):u<=60/\s.n<=60:=by
 have G:=(h.nt F D).1.n
 rcases h with⟨_,_,_,h⟩|⟨_,h,_⟩|⟨_,_,_,h1,_⟩
 · omega
 · exact absurd D h
 · have:=h1.lj.2.1;omega
theorem ZkJ(i:Int):Zc Oj (if i=0 then 87 else 88)=true:=by split<;>kernel_rfl
theorem Zn2(i:Int){vL vD:Value}{p:Prob}{I:Value}{u:Int}{U:Int->Value}{G vY:Value}{s:So}(w0:World)(h:PAt w0 vL vD p)(hM:MAt w0 I u U ml mf)(O:Row w0 G 1 s.n (ints s.X))(J:Row w0 vY 1 s.m (ints s.Y))(F:s.n<=1000):
   Calls Oj (if i=0 then 87 else 88) [.agg #[vL,vD,.int Oh p.b8,.int Oh p.bo],.agg #[I,G,vY,.int Oh s.val,.int Oh s.den]].toArray w0 fun e w=>∃v,e= .returned v/\∃r n pv ln pt cnt e,v= .tuple #[r,.int Oh e]/\Zho i p u ml mf s (plL n ln pt cnt) e/\(∀k,0<=k->k<n->1<=cnt k/\cnt k<=1000000000)/\n<=1000000/\Slh r n/\Sat w0 w [.own r 2 107 n (Zd pv cnt),.sem (Frame.rows 3 n pv ln pt)]:=by
 by_cases hi:i=0
 · rw [if_pos hi]
   refine(ZmL w0 h hM O J F).mono fun e w D=> ?_
   unfold Zho;simp only [if_pos hi];exact D
 · rw [if_neg hi]
   refine(ZoE w0 h hM O J F).mono fun e w D=> ?_
   unfold Zho;simp only [if_neg hi];exact D
theorem Zhd{vL vD:Value}{p:Prob}(w0:World)(h:PAt w0 vL vD p):
   Calls Oj 57 [.agg #[vL,vD,.int Oh p.b8,.int Oh p.bo]].toArray w0 fun e w=>∃v,e= .returned v/\∃r n pv ln pt cnt e,v= .tuple #[r,.int Oh e]/\BestR p (plL n ln pt cnt) e/\(∀k,0<=k->k<n->1<=cnt k/\cnt k<=1000000000)/\n<=1000000/\Slh r n/\Sat w0 w [.own r 2 107 n (Zd pv cnt),.sem (Frame.rows 3 n pv ln pt)]:=by
 obtain⟨hm,ac,hd,hd1,hs,hk⟩:=h.Oo
 refine zenG Tryz.func57 Tryz.ntmps57 fun w D=> ?_
 refine zsr<|zla (xbx (cs:= [_,_,_,_]) D) ?_;rintro _ w ⟨g1,rfl,D⟩
 refine(Om)<|zlz<|(zV (xls 0 st_32 D))<|zlc (xc0 ZnC) (ZmJ (p:=p) w (h.below D.below)) ?_;rintro _ w ⟨af,xS,zf,yT,y5,yC,zC,rfl,qY,yL,cF,ym,J⟩
 replace D:=(D.comp J).n3;clear J
 have aM:=fun k (I:0<=k) (G:k<xS)=>D.db 2 rfl I G
 refine zs5 ?_
 refine zx5<|(Om)<|zlt<|Ze ?_ ?_<;>intro hc
 ·
  refine zsr<|(On)<|zx14<|zf2 ⟨_,rfl,?_⟩
  exact⟨_,0,fun _=>undef,fun _=>0,fun _ _=>0,fun _=>0,_,rfl,.inl ⟨by omega,(by rw [<-qY.2.2 Oa];exact qY),rfl⟩,fun k I G=>Oa,Oa,slh_nil,((D.sub (.cons _ (.cons _ (.cons _ .slnil)))).cg 2 107 (Zd (fun _=>undef) (fun _=>0))).fa 3 (fun _=>undef) (fun _=>0) (fun _ _=>0)⟩
 refine ZM<|(zV (xls 0 st_32 D))<|zlc (xc0 Zjz) (ZbE (p:=p) w (h.below D.below)) ?_;rintro _ w ⟨yd,yc,zc,yS,xH,xA,xD,Z,aW,rfl,qR,qA,yo,xp,J⟩
 replace D:=(D.comp J).n7;clear J
 have aJ:=fun k (I:0<=k) (G:k<xH)=>D.db 4 rfl I G
 refine(On)<|zla (xal (cs:= [_,_,_,_,_]) Zco D) ?_;rintro _ w ⟨g2,rfl,D⟩
 refine zle (xsw 7 Xz D (hd:=(Za qA.one (Za yo.one (Za xp.one (Za rfl (Za rfl Zh))))))) ?_;clear D;rintro w D
 refine(zP)<|zx5<|(Om)<|zlt<|Ze ?_ ?_<;>intro hc
 ·
  refine zsr<|(On)<|zx14<|zf2 ⟨_,rfl,?_⟩
  exact⟨_,_,_,_,_,_,0,rfl,.inr ⟨rfl,_,(by rw [show(0:Int)=zC by omega];exact qY),_,_,_,_,_,qA.n0,qR,.inl ⟨by omega,rfl⟩⟩,fun k I G=>by have:=yL k I G;omega,Oa,ym,D.pk [1,2]⟩
 refine YL<|zla (xli (n:=2) (len:=2) (pv:= [(0,.func (.func 87) #[] #[]),(1,.func (.func 88) #[] #[])]) (cs:= [.func (.func 87) #[] #[],.func (.func 88) #[] #[]]) (c:=(fun k=>Value.func (.func (if k=0 then 87 else 88)) #[] #[])) Zb6 ZkC D) ?_;rintro v1 w ⟨D,aa⟩
 refine(zV (xln Zb6 aa))<|(zP)<|zx6<|zlp (fun mm M w=>∃(V:Int) (wv:Int->Value) (lC:Oe) (gC:Of) (Y:Oe) (i:Int) (wC:Value),mm=((2-i).toNat)/\(0<=i)/\(i<=2)/\(∀k,0<=k->k<V->1<=Y k/\Y k<=1000000000)/\(V<=1000000)/\(BRun p xH xA xD Z (plL xS yT y5 yC) i (plL V lC gC Y))/\(Slh wC V)/\M= [(1,Oq g1),(2,Og),(3,.int Oh 0),(4,wC),(6,Oq g2),(27,v1),(28,.int Oh 2),(29,.int Oh i)]/\Sat w0 w [.blk g1 [vL,vD,.int Oh p.b8,.int Oh p.bo],.own wC 2 107 V (Zd wv Y),.sem (Frame.rows 3 V wv lC gC),.own yd 1 22 xH yc,.sem (Frame.rows 3 xH yc xA xD),.own zc 1 3 Z.n (ints Z.X),.own yS 1 3 Z.m (ints Z.Y),.blk g2 [yd,zc,yS,.int Oh Z.val,.int Oh Z.den],.own v1 1 144 2 (fun k=>Value.func (.func (if k=0 then 87 else 88)) #[] #[])]) ⟨xS,zf,yT,y5,yC,0,af,rfl,Oa,Oa,?_,Oa,?_,?_,rfl,D⟩ ?_
 ·
  intro k I G;have:=yL k I G;omega
 ·
  exact .inl ⟨rfl,rfl⟩
 ·
  exact ym
 clear D w
 rintro mm M w ⟨V,wv,lC,gC,Y,i,wC,rfl,i0,i1,U,ab,X,O,rfl,D⟩
 have qG:=fun k (I:0<=k) (G:k<V)=>D.db 2 rfl I G
 obtain⟨c5,fH⟩:=qR.n60 Oa qA.n0
 refine zsr<|(zP)<|zx7<|Ze ?_ ?_<;>intro hc
 ·
  refine zx3<|(zV (xix (kk:=i) Zb6 aa))<|(zV (xlr (u:= .func (.func (if i=0 then 87 else 88)) #[] #[]) Zj1 (D.c7 8 rfl)))<|(zP)<|zlz<|(zP)<|(zV (xls 0 st_32 D))<|(zV (xls 7 Xz D))<|zlc (xc0 (ZkJ i)) (Zn2 i (p:=p) (u:=xH) (ml:=xA) (mf:=xD) (s:=Z) w (h.below D.below) (⟨(D.c7 3 rfl),fun k I G=>D.fq 4 rfl I G,fun k I G=>D.gb 4 rfl I G⟩:MAt _ yd xH yc xA xD) (D.c7 5 rfl) (D.c7 6 rfl) Oa) ?_;rintro _ w ⟨dd,bi,bS,bX,cQ,cV,kF,rfl,aK,au,kA,zR,J⟩
  replace D:=(D.comp J).n11;clear J
  have jD:=fun k (I:0<=k) (G:k<bi)=>D.db 10 rfl I G
  refine zs5 ?_
  refine zlz<|(On)<|zlb 42 ?_ ?_<;>intro hc
  ·
   refine(zP)<|zlc (xc0 Zby) (Uw (u:=bi) (pv:=bS) (ln:=bX) (pt:=cQ) (cnt:=cV) w (⟨(D.c7 9 rfl),fun k I G=>D.fq 10 rfl I G,fun k I G=>D.gb 10 rfl I G⟩:VAt _ dd bi bS bX cQ cV) Oa (fun k I G=>by first|(have h8:=U k I G;omega)|(have h8:=au k I G;omega))) ?_;rintro _ w ⟨rfl,J⟩
   replace D:=D.cmp J;clear J
   refine(zP)<|zlc (xc0 Zby) (Uw (u:=V) (pv:=wv) (ln:=lC) (pt:=gC) (cnt:=Y) w (⟨(D.c7 1 rfl),fun k I G=>D.fq 2 rfl I G,fun k I G=>D.gb 2 rfl I G⟩:VAt _ wC V wv lC gC Y) Oa (fun k I G=>by first|(have h8:=U k I G;omega)|(have h8:=au k I G;omega))) ?_;rintro _ w ⟨rfl,J⟩
   replace D:=D.cmp J;clear J
   refine(Om)<|zlt<|Ze ?_ ?_<;>intro hc
   ·
    refine zrg<|(Om)<|zx10<|(zV (Zg (r:=i+1)))<|(zP)<|zln<|zlq ⟨bi,bS,bX,cQ,cV,i+1,dd,rfl,Oa,Oa,?_,Oa,?_,?_,rfl,D.pk [0,9,10,3,4,5,6,7,8]⟩
    ·
     first|exact U|exact au
    ·
     have F:=X.next Oa aK
     unfold Yx at F
     rw [Zt _ zR.n0,Zt _ O.n0] at F
     first|(rw [if_pos ⟨by omega,by assumption⟩] at F;exact F)|(rw [if_neg (by first|(intro W;exact absurd W.1 Oa)|(intro W;exact absurd W.2 (by assumption))|(rintro⟨q1,q2⟩;omega))] at F;exact F)
    ·
     exact zR
   refine zx4<|(zV (Zg (r:=i+1)))<|(zP)<|zln<|zlq ⟨V,wv,lC,gC,Y,i+1,wC,rfl,Oa,Oa,?_,Oa,?_,?_,rfl,D.pk [0,1,2,3,4,5,6,7,8]⟩
   ·
    first|exact U|exact au
   ·
    have F:=X.next Oa aK
    unfold Yx at F
    rw [Zt _ zR.n0,Zt _ O.n0] at F
    first|(rw [if_pos ⟨by omega,by assumption⟩] at F;exact F)|(rw [if_neg (by first|(intro W;exact absurd W.1 Oa)|(intro W;exact absurd W.2 (by assumption))|(rintro⟨q1,q2⟩;omega))] at F;exact F)
   ·
    exact O
  iterate 5 refine zlo ?_
  refine(zP)<|zlt<|zcf<|zsk<|zbn<|ztn<|zrg ?_
  refine(zV (Zg (r:=i+1)))<|(zP)<|zln<|zlq ⟨V,wv,lC,gC,Y,i+1,wC,rfl,Oa,Oa,?_,Oa,?_,?_,rfl,D.pk [0,1,2,3,4,5,6,7,8]⟩
  ·
   first|exact U|exact au
  ·
   have F:=X.next Oa aK
   unfold Yx at F
   rw [Zt _ zR.n0,Zt _ O.n0] at F
   first|(rw [if_pos ⟨by omega,by assumption⟩] at F;exact F)|(rw [if_neg (by first|(intro W;exact absurd W.1 Oa)|(intro W;exact absurd W.2 (by assumption))|(rintro⟨q1,q2⟩;omega))] at F;exact F)
  ·
   exact O
 refine zx8<|(On)<|zx1<|zf2 ⟨_,rfl,?_⟩
 exact⟨_,_,_,_,_,_,0,rfl,.inr ⟨rfl,_,(by rw [show(0:Int)=zC by omega];exact qY),_,_,_,_,_,qA.n0,qR,.inr ⟨by omega,by rw [show(2:Int)=i by omega];exact X⟩⟩,U,Oa,O,D.pk [1,2]⟩
end Go.Proofs.YtkichmnjjblodaaGreat
namespace Go.Proofs.YtkichmnjjblodaaGreat
open Go Go.RowKit Go.Proofs.Gw
theorem V9{p:Prob}{b x:Us}{e:Int}(F:ExU p b)(D:e=0->ExU p x):ExU p (Yx b x e):=by
 unfold Yx
 by_cases h:e=0/\wsum (fun _=>1) x<wsum (fun _=>1) b
 · rw [if_pos h];exact D h.1
 · rw [if_neg h];exact F
variable {y:Oe} {vD vy:Value}
theorem Zl7:Zc Oj 116=true:=Ob
theorem Zl6:Zc Oj 117=true:=Ob
theorem ZlK:Zc Oj 153=true:=Ob
theorem ZnD:Zc Oj 79=true:=Ob
theorem fd_98_0:Zv Oj 98 0=some 0:=Ob
theorem fd_98_1:Zv Oj 98 1=some 1:=Ob
theorem st_98:ZC Oj 98=some 2:=Ob
def out(n:Int):Prop:=n<0\/1073741824<n
theorem Zn9(n:Int)(w0:World):
   Calls Oj 153 [.int Oh n].toArray w0 fun e w=>∃v,e= .returned v/\v=B (out n)/\Sat w0 w []:=by
 refine zenG Tryz.func153 Tryz.ntmps153 fun w D=> ?_
 refine zsr<|(zP)<|zlz<|(On)<|zlb 5 ?_ ?_<;>intro hc
 ·
  refine(zO)<|(zO)<|(Om)<|zx1<|Oi ?_
  exact⟨ZT (by unfold out;omega),D⟩
 refine zs4 ?_
 refine zx1<|Oi ?_
 exact⟨Zn (by unfold out;omega),D⟩
theorem ZiZ{s:Value}{n:Int}{f:Oe}(w0:World)(h:Row w0 s 1 n (ints f)):
   Calls Oj 159 [s,.func (.func 153) #[] #[]].toArray w0 fun e w=>∃v,e= .returned v/\∃r:Int,v= .int Oh r/\((r= -1/\∀k,0<=k->k<n->¬out (f k))\/(0<=r/\r<n/\out (f r)))/\Sat w0 w []:=by
 have hn:=h.cf.n0;have V:=h.cf.n1
 refine zenG Tryz.func159 Tryz.ntmps159 fun w D=> ?_
 refine zsr<|(zP)<|zx5<|(zP)<|(zV (xln Zb h.cf))<|(zP)<|zx6<|zlp (fun U M w=>∃(i:Int),U=((n-i).toNat)/\(0<=i)/\(i<=n)/\(∀k,0<=k->k<i->¬out (f k))/\M= [(0,s),(1,.func (.func 153) #[] #[]),(7,.int Oh n),(8,.int Oh i)]/\Sat w0 w []) ⟨0,rfl,Oa,Oa,?_,rfl,D⟩ ?_
 ·
  intro k J h1;omega
 clear D w
 rintro U M w ⟨i,rfl,J,h1,O,rfl,D⟩
 refine zsr<|(zP)<|zx7<|Ze ?_ ?_<;>intro hc
 ·
  refine zx3<|(Om)<|zlz<|(On)<|(zV (xix (kk:=i) Zb h.cf))<|(zV (xlr (u:= .int Oh (f i)) pl_3 (h.below D.below)))<|zlc (xc0 ZlK) (Zn9 (f i) w) ?_;rintro _ w ⟨rfl,F⟩
  replace D:=D.cmp F;clear F
  refine zlt<|Ze ?_ ?_<;>intro hc
  ·
   refine zsr<|(Om)<|zx2<|Oi ?_
   exact⟨i,rfl,.inr ⟨by omega,Oa,‹out _›⟩,D⟩
  refine zx4<|(zV (Zg (r:=i+1)))<|(zP)<|zln<|zlq ⟨i+1,rfl,Oa,Oa,?_,rfl,D⟩
  ·
   intro k I W;rcases Int.lt_or_eq_of_le (show k<=i by omega) with G|G;exact O k I G;rw [G];assumption
 refine zx8<|(zP)<|zx1<|Oi ?_
 exact⟨-1,rfl,.inl ⟨rfl,fun k J h1=>O k J Oa⟩,D⟩
theorem Zi7{s:Value}{n:Int}{f:Oe}(w0:World)(h:Row w0 s 1 n (ints f)):
   Calls Oj 151 [s,.func (.func 153) #[] #[]].toArray w0 fun e w=>∃v,e= .returned v/\v=B (∃k,0<=k/\k<n/\out (f k))/\Sat w0 w []:=by
 refine zenG Tryz.func151 Tryz.ntmps151 fun w F=> ?_
 refine zsr<|(zP)<|zlz<|(Om)<|zlc (xc0 Vc) (ZiZ w (h.below F.below)) ?_;rintro _ w ⟨U,rfl,G,D⟩
 replace F:=F.cmp D;clear D
 refine(Om)<|zx1<|Oi ?_
 exact⟨Zn (by
  rcases G with⟨h1,h2⟩|⟨h1,h2,h3⟩
  · exact⟨fun h=>Oa,fun⟨k,O,J,I⟩=>absurd I (h2 k O J)⟩
  · exact⟨fun _=>⟨_,h1,h2,h3⟩,fun _=>h1⟩),F⟩
theorem Zg7{n q:Int}(w0:World)(h:Row w0 vy 1 n (ints y))(V: -9223372036854775808<=q/\q<=9223372036854775807):
   Calls Oj 116 [.agg #[vy,.int Oh q]].toArray w0 fun e w=>∃v,e= .returned v/\v=B (Formed n y q)/\Sat w0 w []:=by
 refine zenG Tryz.func116 Tryz.ntmps116 fun w D=> ?_
 refine zsr<|zla (xbx (cs:= [_,_]) D) ?_;rintro _ w ⟨W,rfl,D⟩
 refine(zP)<|zlz<|(zV (xfb 1 fd_98_1))<|(zV (xlb 0 pl_3 D))<|(Om)<|zlb 6 ?_ ?_<;>intro hc
 ·
  refine(zV (xfb 1 fd_98_1))<|(zV (xlb 0 pl_3 D))<|(On)<|zlb 11 ?_ ?_<;>intro hc
  ·
   refine(zV (xfb 0 fd_98_0))<|(zV (xlb 0 pl_22 D))<|zlc (xc0 Vd) (Zi7 w (h.below D.below)) ?_;rintro _ w ⟨rfl,F⟩
   replace D:=D.cmp F;clear F
   refine(On)<|zx1<|Oi ?_
   exact⟨Zn (by constructor;intro J;exact⟨by omega,Oa,fun k h1 G=>by have:¬out (y k):=fun I=>J ⟨k,h1,G,I⟩;unfold out at this;omega⟩;rintro⟨h1,G,O⟩ ⟨k,J,I,U⟩;have:=O k J I;unfold out at U;omega),D.nl⟩
  iterate 4 refine zlo ?_
  refine(Om)<|zx1<|Oi ?_
  exact⟨false_B (by intro h;obtain⟨h1,G,O⟩:=h;omega),D.nl⟩
 iterate 3 refine zlo ?_
 refine zs2 ?_
 iterate 4 refine zlo ?_
 refine(Om)<|zx1<|Oi ?_
 exact⟨false_B (by intro h;obtain⟨h1,G,O⟩:=h;omega),D.nl⟩
theorem ZeC{vL:Value}{p:Prob}{n:Int}(w0:World)(h:PAt w0 vL vD p)(O:p.Ok)(hY:Row w0 vy 1 n (ints y))(hn:n=p.m)(hy:VS p y):
   Calls Oj 117 [.agg #[vL,vD,.int Oh p.b8,.int Oh p.bo],vy].toArray w0 fun e w=>∃v,e= .returned v/\v= .int Oh (WV p y)/\Sat w0 w []:=by
 subst hn;have hm:=O.m1;have ae:=O.m2;have hd:=O.d;have ad:=O.s1;have ac:=O.s2;have ag:=O.k1;have af:=O.k2
 refine zenG Tryz.func117 Tryz.ntmps117 fun w D=> ?_
 refine zsr<|zla (xbx (cs:= [_,_,_,_]) D) ?_;rintro _ w ⟨X,rfl,D⟩
 refine(zP)<|zlz<|(zV (xfb 2 fd_32_2))<|(zV (xlb 0 pl_3 D))<|(zV (xfb 3 fd_32_3))<|(zV (xlb 0 pl_3 D))<|(zV (Zg (r:=p.b8+p.bo)))<|(zV (Zg (r:=p.b8+p.bo+1)))<|zla (xmk Zb Zm D) ?_;rintro W w ⟨D,I⟩
 refine(zP)<|zx5<|(zV (xfb 0 fd_32_0))<|(zV (xlb 0 pl_22 D))<|(zV (xln Zb h.L.cf))<|(zP)<|zx6<|zlp (fun V M w=>∃(i:Int) (f:Oe),V=((p.m-i).toNat)/\(0<=i)/\(i<=p.m)/\(∀j,0<=j->j<=p.b8+p.bo->f j=Tab p y i.toNat j)/\M= [(1,vy),(2,Oq X),(4,.int Oh 0),(5,W),(18,vL),(19,.int Oh p.m),(20,.int Oh i)]/\Sat w0 w [.blk X [vL,vD,.int Oh p.b8,.int Oh p.bo],.own W 1 3 (p.b8+p.bo+1) (ints f)]) ⟨0,(fun _=>0),rfl,Oa,Oa,?_,rfl,D⟩ ?_
 ·
  intro j _ _;rfl
 clear D w
 rintro V M w ⟨i,f,rfl,h0,h1,hf,rfl,D⟩
 refine zsr<|(zP)<|zx7<|Ze ?_ ?_<;>intro hc
 ·
  refine zx3<|zlv xmv ?_
  have he:=O.all i Oa Oa;unfold Prob.each at he;have ab:=hy i Oa Oa
  refine(zV (xix (kk:=i) Zb h.L.cf))<|zlv (xlr (u:= .int Oh (p.L i)) pl_3 (h.L.below D.below)) ?_
  have aa:=h.iL i
  refine(Om)<|zlz<|(zP)<|(zV (xfb 3 fd_32_3))<|(zV (xlb 0 pl_3 D))<|(zV (Zg (r:=p.L i+p.bo)))<|(zP)<|zx7<|zdst [0,1] [0,1] 1000 mx_ D ?_;clear D;intro w D
  refine(zDw 0 (xfb 1 fd_32_1))<|(zDl 1 (fun w D=>(xlb 0 pl_22 D)))<|(zDw 2 xmv)<|(zDw 3 (xix (kk:=i) Zb h.D.cf))<|zdla 4 (fun w D=>(xlr (u:= .int Oh (p.D i)) pl_3 (h.D.below D.below))) ?_
  have aa:=h.iD i
  refine(zDw 5 xmv)<|(zDw 6 (xln Zb I))<|(zDw 7 (Zw (r:=p.b8+p.bo)))<|(zDw 8 xmv)<|zDrv 9 (VC (r:=(Int.tdiv (p.b8+p.bo) (p.L i+p.bo))) (hn:=Oa) (hr:=(by have hq:=YV (a:=p.b8+p.bo) (b:=p.L i+p.bo) Oa Oa;unfold I64;omega))) ?_
  have hq:=YV (a:=p.b8+p.bo) (b:=p.L i+p.bo) Oa Oa
  refine(zDw 10 (U9 (r:=(min (p.D i) (Int.tdiv (p.b8+p.bo) (p.L i+p.bo))))))<|(zDw 11 xmv)<|zdd<|ztn<|zbk<|zlp (fun V M w=>∃(k:Int) (f2:Oe),V=((min (p.D i) (Int.tdiv (p.b8+p.bo) (p.L i+p.bo))-k).toNat)/\(0<=k)/\(k<=min (p.D i) (Int.tdiv (p.b8+p.bo) (p.L i+p.bo)))/\(∀j,0<=j->j<=p.b8+p.bo->f2 j=R (Tab p y i.toNat) (p.L i+p.bo) (y i) k.toNat j)/\M= [(1,vy),(2,Oq X),(4,.int Oh 0),(5,W),(6,.int Oh i),(8,.int Oh (p.L i+p.bo)),(18,vL),(19,.int Oh p.m),(20,.int Oh i),(39,.int Oh (min (p.D i) (Int.tdiv (p.b8+p.bo) (p.L i+p.bo)))),(40,.int Oh k)]/\Sat w0 w [.blk X [vL,vD,.int Oh p.b8,.int Oh p.bo],.own W 1 3 (p.b8+p.bo+1) (ints f2)]) ⟨0,f,rfl,Oa,Oa,?_,rfl,D⟩ ?_
  ·
   intro j F G;rw [hf j F G];rfl
  clear D w
  rintro V M w ⟨k,f2,rfl,k0,k1,Y,rfl,D⟩
  refine zsr<|(zP)<|zx7<|Ze ?_ ?_<;>intro hc
  ·
   refine zx3<|(zP)<|(zV (xln Zb I))<|(zV (Zw (r:=p.b8+p.bo)))<|(zP)<|zx6<|zlp (fun V M w=>∃(c:Int) (J:Oe),V=((c-(p.L i+p.bo)+1).toNat)/\(p.L i+p.bo-1<=c)/\(c<=p.b8+p.bo)/\(∀j,c<j->j<=p.b8+p.bo->J j=R (Tab p y i.toNat) (p.L i+p.bo) (y i) (k.toNat+1) j)/\(∀j,0<=j->j<=c->J j=R (Tab p y i.toNat) (p.L i+p.bo) (y i) k.toNat j)/\M= [(1,vy),(2,Oq X),(4,.int Oh 0),(5,W),(6,.int Oh i),(8,.int Oh (p.L i+p.bo)),(9,.int Oh c),(18,vL),(19,.int Oh p.m),(20,.int Oh i),(39,.int Oh (min (p.D i) (Int.tdiv (p.b8+p.bo) (p.L i+p.bo)))),(40,.int Oh k)]/\Sat w0 w [.blk X [vL,vD,.int Oh p.b8,.int Oh p.bo],.own W 1 3 (p.b8+p.bo+1) (ints J)]) ⟨p.b8+p.bo,f2,rfl,Oa,Oa,?_,?_,rfl,D⟩ ?_
   ·
    intro j F G;omega
   ·
    intro j F G;exact Y j F Oa
   clear D w
   rintro V M w ⟨c,J,rfl,c0,c1,Z,U,rfl,D⟩
   refine zx11<|(On)<|zlt<|Ze ?_ ?_<;>intro hc
   ·
    refine zx38<|zdst [0,1] [0] 19 mx_ D ?_;clear D;intro w D
    refine(zDw 0 xmv)<|(zDw 1 xmv)<|(zDw 2 xmv)<|(zDw 3 xmv)<|(zDw 4 (xix (kk:=c) Zb I))<|zdl 5 (fun w D=>(xlr (u:= .int Oh (J c)) pl_3 (D.c7 1 rfl))) ?_
    refine(zDw 6 xmv)<|(zDw 7 xmv)<|(zDw 8 xmv)<|(zDw 9 (Zw (r:=c-p.L i-p.bo)))<|(zDw 10 (xix (kk:=c-p.L i-p.bo) Zb I))<|zdl 11 (fun w D=>(xlr (u:= .int Oh (J (c-p.L i-p.bo))) pl_3 (D.c7 1 rfl))) ?_
    refine(zDw 12 xmv)<|(zDw 13 xmv)<|(zDw 14 (xix (kk:=i) Zb hY.cf))<|(zDl 15 (fun w D=>(xlr (u:= .int Oh (y i)) pl_3 (hY.below D.below))))<|zDrv 16 (Zg (r:=J (c-p.L i-p.bo)+(y i)) (hr:=(by have e:=U (c-p.L i-p.bo) Oa Oa;have b:=Zol O hy h0 Oa k.toNat (c:=c-p.L i-p.bo) Oa;unfold I64;omega))) ?_
    refine(zDw 17 (KE (r:=(max (J c) (J (c-p.L i-p.bo)+(y i))))))<|(zDw 18 (xix (kk:=c) Zb I))<|zde 19 (xso 1 pl_3 D (Zy _ _ _)) ?_;clear D;rintro w D
    refine⟨⟨fun h=>absurd h (by decide),D.pk [0]⟩,?_⟩
    refine zdd<|zbn<|ztn<|zrg ?_
    refine(zP)<|(zV (Zw (r:=c-1)))<|(zP)<|zln<|zlq ⟨c-1,(upd J c (max (J c) (J (c-p.L i-p.bo)+(y i)))),rfl,Oa,Oa,?_,?_,rfl,D⟩
    ·
     intro j F G;by_cases hj:j=c
     · rw [hj,ZA];exact Zjl O y h0 Oa Oa U rfl
     · rw [upd_ne _ _ hj];exact Z j Oa G
    ·
     intro j F G;rw [upd_ne _ _ Oa];exact U j F Oa
   refine zx21<|(zV (Zg (r:=k+1)))<|(zP)<|zln<|zlq ⟨k+1,J,rfl,Oa,Oa,?_,rfl,D⟩
   ·
    intro j F G;have e:(k+1).toNat=k.toNat+1:=Oa
    rw [e];by_cases hj:c<j
    · exact Z j hj G
    · rw [U j F Oa];exact Zom O y h0 Oa _ F Oa
  refine zx21<|(zV (Zg (r:=i+1)))<|(zP)<|zln<|zlq ⟨i+1,f2,rfl,Oa,Oa,?_,rfl,D⟩
  ·
   intro j F G;rw [Y j F G];exact Tab_next O y h0 Oa k0 Oa Oa F G
 refine zx8<|(Om)<|(zV (xln Zb I))<|(zV (Zw (r:=p.b8+p.bo)))<|(zV (xix (kk:=p.b8+p.bo) Zb I))<|(zV (xlr (u:= .int Oh (f (p.b8+p.bo))) pl_3 (D.c7 1 rfl)))<|(zP)<|zx1<|Oi ?_
 obtain rfl:i=p.m:=Oa
 exact⟨congrArg (Value.int .i64) (by rw [hf _ Oa Oa];rfl),D.nl⟩
theorem Zja{vL:Value}{p:Prob}{n q:Int}(w0:World)(h:PAt w0 vL vD p)(G:Row w0 vy 1 n (ints y))(J: -9223372036854775808<=q/\q<=9223372036854775807):
   Calls Oj 79 [.agg #[vL,vD,.int Oh p.b8,.int Oh p.bo],.agg #[vy,.int Oh q]].toArray w0 fun e w=>∃v,e= .returned v/\v= .int Oh (Chk p n y q)/\Sat w0 w []:=by
 have hn:=G.cf.n0;have I:=G.cf.n1
 refine zenG Tryz.func79 Tryz.ntmps79 fun w D=> ?_
 refine zsr<|zla (xbx (cs:= [_,_,_,_]) D) ?_;rintro _ w ⟨U,rfl,D⟩
 refine zla (xbx (cs:= [_,_]) D) ?_;rintro _ w ⟨O,rfl,D⟩
 refine(zP)<|zlt<|zsq<|zbk<|zsr<|(zV (xls 0 st_32 D))<|zlc (xc0 XZ) (Yn (p:=p) w (h.below D.below)) ?_;rintro _ w ⟨rfl,F⟩
 replace D:=D.cmp F;clear F
 refine(Om)<|zlb 9 ?_ ?_<;>intro hc;rotate_left
 refine(zV (xls 1 st_98 D))<|zlc (xc0 Zl7) (Zg7 w (G.below D.below) Oa) ?_;rintro _ w ⟨rfl,F⟩
 replace D:=D.cmp F;clear F
 refine(On)<|zlb 14 ?_ ?_<;>intro hc;rotate_left
 refine(zV (xfb 0 fd_98_0))<|(zV (xlb 1 pl_22 D))<|(zV (xln Zb G.cf))<|(zV (xfb 0 fd_32_0))<|(zV (xlb 0 pl_22 D))<|(zV (xln Zb h.L.cf))<|(On)<|zlt<|Ze ?_ ?_<;>intro hc
 ·
  refine zsr<|(zP)<|Xt<|Oi ?_
  exact⟨congrArg (Value.int .i64) (Eq.symm (by first|exact Zei (.inl ‹¬p.Ok›)|exact Zei (.inr (.inl ‹¬Formed n y q›))|exact Zei (.inr (.inr Oa)))),D.nl⟩
 refine zsq<|zdst [0,1] [0,1] 1000 mx_ D ?_;clear D;intro w D
 refine(zDl 0 (fun w D=>(xls 0 st_32 D)))<|(zDw 1 (xfb 0 fd_98_0))<|(zDl 2 (fun w D=>(xlb 1 pl_22 D)))<|(zDw 4 (xfb 1 fd_98_1))<|(zDl 5 (fun w D=>(xlb 1 pl_3 D)))<|zdc 3 (xc0 Zl6) (ZeC (p:=p) w (h.below D.below) (Oc ‹¬¬(p.Ok)›) (G.below D.below) Oa (Formed.j8 (Oc ‹¬¬(Formed n y q)›) Oa)) ?_;rintro _ w ⟨rfl,F⟩
 replace D:=D.cmp F;clear F
 refine⟨⟨fun _=>D,D⟩,?_⟩
 refine(zDw 6 Yu)<|(zDw 7 xas)<|zdd<|ztn ?_
 refine Ze ?_ ?_<;>intro hc
 ·
  refine zsr<|(zP)<|Xt<|Oi ?_
  exact⟨congrArg (Value.int .i64) (Eq.symm (by exact ZjM (Oc ‹¬¬(p.Ok)›) (Oc ‹¬¬(Formed n y q)›) Oa ‹_›)),D.nl⟩
 refine zsk<|zbn<|ztn<|zsr<|(zP)<|zx1<|Oi ?_
 exact⟨congrArg (Value.int .i64) (Eq.symm (by exact Zgr (Oc ‹¬¬(p.Ok)›) (Oc ‹¬¬(Formed n y q)›) Oa ‹_›)),D.nl⟩
 all_goals
  refine zOps ?_
  refine zlt<|zct<|zsr ?_
  refine zOps ?_
  refine Xt<|Oi ?_
  exact⟨congrArg (Value.int .i64) (Eq.symm (by first|exact Zei (.inl ‹¬p.Ok›)|exact Zei (.inr (.inl ‹¬Formed n y q›))|exact Zei (.inr (.inr Oa)))),D.nl⟩
theorem ZdL{vL:Value}{p:Prob}{n q:Int}(w0:World)(h:PAt w0 vL vD p)(J:Row w0 vy 1 n (ints y))(hq: -9223372036854775808<=q/\q<=9223372036854775807):
   Calls Oj 47 [.agg #[vL,vD,.int Oh p.b8,.int Oh p.bo],.agg #[vy,.int Oh q]].toArray w0 fun e w=>∃v,e= .returned v/\v= .tuple #[.int Oh (YZ p n y q),.int Oh (Chk p n y q)]/\Sat w0 w []:=by
 have hn:=J.cf.n0;have ad:=J.cf.n1
 refine zenG Tryz.func47 Tryz.ntmps47 fun w D=> ?_
 refine zsr<|zla (xbx (cs:= [_,_,_,_]) D) ?_;rintro _ w ⟨g1,rfl,D⟩
 refine zla (xbx (cs:= [_,_]) D) ?_;rintro _ w ⟨g2,rfl,D⟩
 refine(Om)<|zx5<|(zV (xls 0 st_32 D))<|(zV (xls 1 st_98 D))<|zlc (xc0 ZnD) (Zja (p:=p) w (h.below D.below) (J.below D.below) Oa) ?_;rintro _ w ⟨rfl,O⟩
 replace D:=D.cmp O;clear O
 refine(zP)<|zlz<|(Om)<|zlt<|Ze ?_ ?_<;>intro hc
 ·
  refine zsr<|(On)<|zx14<|zf2 ⟨_,rfl,?_⟩
  exact⟨by rw [ZmZ ‹_›],D.nl⟩
 refine ZM<|(zP)<|zx5<|zlv (xfb 1 fd_32_1) ?_
 obtain⟨I,G,V,hw⟩:=WO (by omega:Chk p n y q=0);have ac:=G.1;have ab:=G.2.1;have hd:=I.d;have af:=I.m1;have ae:=I.m2;have F:=G.j8 V
 refine(zV (xlb 0 pl_22 D))<|(zV (xln Zb h.D.cf))<|(zP)<|zx6<|zlp (fun X M w=>∃(t:Int) (i:Int),X=((p.m-i).toNat)/\(0<=i)/\(i<=p.m)/\(t=Tot p.D y i.toNat)/\M= [(3,Oq g2),(4,.int Oh 0),(5,.int Oh 0),(7,.int Oh t),(17,vD),(18,.int Oh p.d),(19,.int Oh i)]/\Sat w0 w [.blk g1 [vL,vD,.int Oh p.b8,.int Oh p.bo],.blk g2 [vy,.int Oh q]]) ⟨0,0,rfl,Oa,Oa,?_,rfl,D⟩ ?_
 ·
  rfl
 clear D w
 rintro X M w ⟨t,i,rfl,U,h1,Z,rfl,D⟩
 refine zsr<|(zP)<|zx7<|Ze ?_ ?_<;>intro hc
 ·
  refine zx3<|(zP)<|(zV (xix (kk:=i) Zb h.D.cf))<|zlv (xlr (u:= .int Oh (p.D i)) pl_3 (h.D.below D.below)) ?_
  have ag:=h.iD i
  refine(Om)<|zlt<|zrg<|zlv xmv ?_
  have W:=Zb2 I F i U Oa;have ah:=ZcS I F i U Oa
  refine(zP)<|(zV (xfb 0 fd_98_0))<|(zV (xlb 1 pl_22 D))<|(zP)<|(zV (xix (kk:=i) Zb J.cf))<|(zV (xlr (u:= .int Oh (y i)) pl_3 (J.below D.below)))<|zlv (Z2 (r:=((p.D i)*(y i))) (e:=rfl) (hr:=(by unfold I64;omega))) ?_
  refine(zV (Zg (r:=t+((p.D i)*(y i)))))<|(zP)<|zx10<|(zV (Zg (r:=i+1)))<|(zP)<|zln<|zlq ⟨t+((p.D i)*(y i)),i+1,rfl,Oa,Oa,?_,rfl,D⟩
  ·
   rw [Zhm _ _ U,<-Z]
 refine zx8<|zlv xmv ?_
 have W:=Zb2 I F i U Oa;have aa:=YV (a:=t+q-1) (b:=q) Oa Oa
 refine(zV (xfb 1 fd_98_1))<|(zV (xlb 1 pl_3 D))<|(zV (Zg (r:=t+q)))<|(zV (Zw (r:=t+q-1)))<|(zV (xfb 1 fd_98_1))<|(zV (xlb 1 pl_3 D))<|zlv (VC (r:=(Int.tdiv (t+q-1) q)) (hn:=Oa) (hr:=(by unfold I64;omega))) ?_
 refine(Om)<|zx1<|zf2 ⟨_,rfl,?_⟩
 obtain rfl:i=p.m:=Oa
 have Y:Chk p n y q=0:=Oa
 exact⟨by rw [Y,VQ Y];unfold Bnd;rw [<-Z],D.nl⟩
end Go.Proofs.YtkichmnjjblodaaGreat
namespace Go.Proofs.YtkichmnjjblodaaGreat
open Go Go.RowKit Go.Proofs.Gw
variable {e i:Int} {f:Oe} {vD:Value}
theorem U4:ZV Oj 98=some (.agg #[Og,.int Oh 0],2,32):=Ob
structure Ct where
  n:Int
  y:Oe
  q:Int
def Ct.iq:Ct:=⟨0,fun _=>0,0⟩
def Ue(p:Prob):Ct:=⟨p.m,fun k=>p.L k+p.bo,p.b8+p.bo⟩
def U2(p:Prob):Oe:=fun k=>if p.b8+p.bo<2*(p.L k+p.bo) then 1 else 0
def Zfs(p:Prob):Ct:=⟨p.m,U2 p,1⟩
def MakeR(p:Prob)(c:Ct)(e:Int):Prop:=∃u ml mf s,0<=u/\ColR p u ml mf s e/\((e≠0/\c=Ct.iq)\/(e=0/\c=⟨s.m,s.Y,s.den⟩))
def MatCR(p:Prob)(c:Ct)(e:Int):Prop:=(¬p.Ok/\c=Ct.iq/\e=1)\/(p.Ok/\c=Ue p/\e=0)
def HalfR(p:Prob)(c:Ct)(e:Int):Prop:=(¬p.Ok/\c=Ct.iq/\e=1)\/(p.Ok/\c=Zfs p/\e=0)
theorem MakeR.q{p:Prob}{c:Ct}{e:Int}(h:MakeR p c e):0<=c.q/\c.q<=1073741824:=by
 obtain⟨u,ml,mf,s,F,h1,⟨_,rfl⟩|⟨G,rfl⟩⟩:=h
 · exact⟨Int.le_refl _,by show(0:Int)<=_;omega⟩
 · obtain⟨D,_⟩:=h1.nt F G
   exact⟨by have:=D.d1;show 0<=s.den;omega,D.d2⟩
theorem Zj5{p:Prob}(D:p.Ok):1<=(Ue p).q/\(Ue p).q<=2100:=by
 have:=D.s1;have:=D.s2;have:=D.k1;have:=D.k2
 unfold Ue;dsimp only;omega
theorem MatCR.q{p:Prob}{c:Ct}{e:Int}(h:MatCR p c e):0<=c.q/\c.q<=1073741824:=by
 rcases h with⟨_,rfl,_⟩|⟨hp,rfl,_⟩
 · exact⟨Int.le_refl _,by show(0:Int)<=_;omega⟩
 · have:=Zj5 hp;omega
theorem HalfR.q{p:Prob}{c:Ct}{e:Int}(h:HalfR p c e):0<=c.q/\c.q<=1073741824:=by
 rcases h with⟨_,rfl,_⟩|⟨hp,rfl,_⟩
 · exact⟨Int.le_refl _,by show(0:Int)<=_;omega⟩
 · exact⟨by show(0:Int)<=1;omega,by show(1:Int)<=_;omega⟩
theorem ZgX{vL:Value}{p:Prob}(w0:World)(h:PAt w0 vL vD p):
   Calls Oj 133 [.agg #[vL,vD,.int Oh p.b8,.int Oh p.bo]].toArray w0 fun e w=>∃v,e= .returned v/\∃r c e,v= .tuple #[.agg #[r,.int Oh (Ct.q c)],.int Oh e]/\MakeR p c e/\Slh r c.n/\Sat w0 w [.own r 1 3 c.n (ints c.y)]:=by
 obtain⟨hm,aa,hd,hd1,hs,hk⟩:=h.Oo
 refine zenG Tryz.func133 Tryz.ntmps133 fun w D=> ?_
 refine zsr<|zla (xbx (cs:= [_,_,_,_]) D) ?_;rintro _ w ⟨g1,rfl,D⟩
 refine zla (xal (cs:= [_,_]) U4 D) ?_;rintro _ w ⟨g2,rfl,D⟩
 refine(zP)<|zlz<|(zV (xls 0 st_32 D))<|zlc (xc0 Zjz) (ZbE (p:=p) w (h.below D.below)) ?_;rintro _ w ⟨yd,yc,zc,W,X,xA,xD,I,U,rfl,O,J,V,G,F⟩
 replace D:=(D.comp F).n6;clear F
 have aJ:=fun k (Z:0<=k) (Y:k<X)=>D.db 3 rfl Z Y
 refine(On)<|zla (xal (cs:= [_,_,_,_,_]) Zco D) ?_;rintro _ w ⟨g3,rfl,D⟩
 refine zle (xsw 6 Xz D (hd:=(Za J.one (Za V.one (Za G.one (Za rfl (Za rfl Zh))))))) ?_;clear D;rintro w D
 refine(zP)<|zx5<|(Om)<|zlt<|Ze ?_ ?_<;>intro hc
 ·
  refine zsr<|(zV (xany (v:= .agg #[Og,.int Oh 0])))<|(zP)<|zle (xsw 1 st_98 D) ?_;clear D;rintro w D
  refine(zP)<|zx14<|ZS 1 st_98 D ⟨_,rfl,?_⟩
  exact⟨_,Ct.iq,U,rfl,⟨_,_,_,_,J.n0,O,.inl ⟨by omega,rfl⟩⟩,slh_nil,(D.sub (.cons _ (.cons _ (.cons _ (.cons _ (.cons _ (.cons _ (.cons _ .slnil)))))))).cg 1 3 (ints Ct.iq.y)⟩
 refine ZM<|(zV (xfb 1 fd_141_1))<|(zV (xfb 2 fd_139_1))<|(zV (xlb 6 pl_22 D))<|(zV (xfb 1 fd_141_1))<|(zV (xfb 4 fd_139_3))<|(zV (xlb 6 pl_3 D))<|zlv (xany (v:= .agg #[W,.int Oh I.den]) (hr:=by obtain⟨_,_,_,_,rfl,_⟩:=G;kernel_rfl)) ?_
 refine zle (xsw 1 st_98 D (hd:=(Za G.one (Za rfl Zh)))) ?_;clear D;rintro w D
 refine(zP)<|zx1<|ZS 1 st_98 D ⟨_,rfl,?_⟩
 exact⟨_,⟨I.m,I.Y,I.den⟩,0,rfl,⟨_,_,_,_,J.n0,(by rw [show(0:Int)=U by omega];exact O),.inr ⟨rfl,rfl⟩⟩,G,D.pk [5]⟩
theorem ZgW{vL:Value}{p:Prob}(w0:World)(h:PAt w0 vL vD p):
   Calls Oj 134 [.agg #[vL,vD,.int Oh p.b8,.int Oh p.bo]].toArray w0 fun e w=>∃v,e= .returned v/\∃r c e,v= .tuple #[.agg #[r,.int Oh (Ct.q c)],.int Oh e]/\MatCR p c e/\Slh r c.n/\Sat w0 w [.own r 1 3 c.n (ints c.y)]:=by
 obtain⟨hm,af,hd,hd1,hs,hk⟩:=h.Oo
 refine zenG Tryz.func134 Tryz.ntmps134 fun w D=> ?_
 refine zsr<|zla (xbx (cs:= [_,_,_,_]) D) ?_;rintro _ w ⟨X,rfl,D⟩
 refine zla (xal (cs:= [_,_]) U4 D) ?_;rintro _ w ⟨W,rfl,D⟩
 refine(zP)<|zx5<|(zV (xls 0 st_32 D))<|zlc (xc0 XZ) (Yn (p:=p) w (h.below D.below)) ?_;rintro _ w ⟨rfl,J⟩
 replace D:=D.cmp J;clear J
 refine(zP)<|zlt<|Ze ?_ ?_<;>intro hc
 ·
  refine zsr<|(zV (xany (v:= .agg #[Og,.int Oh 0])))<|zle (xsw 1 st_98 D) ?_;clear D;rintro w D
  refine(zP)<|zx14<|ZS 1 st_98 D ⟨_,rfl,?_⟩
  exact⟨_,Ct.iq,1,rfl,.inl ⟨‹¬p.Ok›,rfl,rfl⟩,slh_nil,(D.sub (.cons _ (.cons _ .slnil))).cg 1 3 (ints Ct.iq.y)⟩
 refine ZM<|zlv (xfb 2 fd_32_2) ?_
 have F:p.Ok:=by first|assumption|exact Oc ‹_›
 have ad:=F.m1;have qH:=F.m2;have ae:=F.d;have ac:=F.s1;have ab:=F.s2;have ah:=F.k1;have ag:=F.k2
 refine(zV (xlb 0 pl_3 D))<|(zV (xfb 3 fd_32_3))<|(zV (xlb 0 pl_3 D))<|(zV (Zg (r:=p.b8+p.bo)))<|(zV (xany (v:= .agg #[Og,.int Oh (p.b8+p.bo)])))<|zla (xal (cs:= [_,_]) U4 D) ?_;rintro _ w ⟨g3,rfl,D⟩
 refine zle (xsw 2 st_98 D) ?_;clear D;rintro w D
 refine zx5<|(zV (xfb 0 fd_32_0))<|(zV (xlb 0 pl_22 D))<|(zV (xln Zb h.L.cf))<|(zP)<|zx6 ?_
 replace D:=D.cg 1 3 (ints (fun _=>0))
 refine zlp (fun U M w=>∃(i:Int) (vb:Value) (f:Oe),U=((p.m-i).toNat)/\(0<=i)/\(i<=p.m)/\(∀k,0<=k->k<i->f k=p.L k+p.bo)/\(Slh vb i)/\M= [(1,Oq X),(2,Oq W),(3,.int Oh 0),(4,Oq g3),(18,vL),(19,.int Oh p.m),(20,.int Oh i)]/\Sat w0 w [.blk X [vL,vD,.int Oh p.b8,.int Oh p.bo],.blk W [Og,.int Oh 0],.blk g3 [vb,.int Oh (p.b8+p.bo)],.own vb 1 3 i (ints f)]) ⟨0,Og,(fun _=>0),rfl,Oa,Oa,?_,?_,rfl,D⟩ ?_
 ·
  intro k V Z;omega
 ·
  exact slh_nil
 clear D w
 rintro U M w ⟨i,vb,f,rfl,h0,h1,hf,G,rfl,D⟩
 refine zsr<|(zP)<|zx7<|Ze ?_ ?_<;>intro hc
 ·
  refine zx3<|(zV (xix (kk:=i) Zb h.L.cf))<|zlv (xlr (u:= .int Oh (p.L i)) pl_3 (h.L.below D.below)) ?_
  have ai:=h.iL i
  have he:=F.all i h0 Oa;unfold Prob.each at he
  refine(zP)<|zlt<|zrg<|(zV (xfb 0 fd_98_0))<|(zV (xlb 2 pl_22 D))<|(zP)<|(zV (xfb 3 fd_32_3))<|(zV (xlb 0 pl_3 D))<|(zV (Zg (r:=p.L i+p.bo)))<|zla (xli (n:=1) (len:=1) (pv:= [(0,.int Oh (p.L i+p.bo))]) (cs:= [.int Oh (p.L i+p.bo)]) (c:=ints (fun _=>p.L i+p.bo)) Zb Zm D) ?_;rintro v1 w ⟨D,aa⟩
  refine zla (xap 3 (r:=i+1) Zb Zm D (D.c7 4 rfl) (Ya _ _ _)) ?_;rintro Y w ⟨D,I⟩
  refine(zV (xfb 0 fd_98_0))<|zle (xsb 2 pl_22 D (hv:=I.one)) ?_;clear D;rintro w D
  refine zx10<|(zV (Zg (r:=i+1)))<|(zP)<|zln<|zlq ⟨i+1,Y,(snoc f i (p.L i+p.bo)),rfl,Oa,Oa,?_,?_,rfl,D.pk [0,1,2,3]⟩
  ·
   exact VX hf rfl
  ·
   exact I
 refine zx8<|(zV (xls 2 st_98 D))<|zle (xsw 1 st_98 D (hd:=(Za G.one (Za rfl Zh)))) ?_;clear D;rintro w D
 refine(zP)<|zx1<|ZS 1 st_98 D ⟨_,rfl,?_⟩
 have O:i=p.m:=Oa
 subst O
 replace D:=D.gi 3 rfl (d:=ints (Ue p).y) (fun k V Z=>congrArg (Value.int .i64) (hf k V Oa))
 exact⟨_,Ue p,0,rfl,.inr ⟨F,rfl,rfl⟩,G,D.pk [3]⟩
theorem Zde{p:Prob}(hf:∀k,0<=k->k<i->f k=U2 p k)(h:p.b8+p.bo<2*(p.L i+p.bo)):∀k,0<=k->k<i+1->upd f i 1 k=U2 p k:=fun k D F=>by
 unfold upd
 by_cases e:k=i
 · rw [if_pos e,e];unfold U2;rw [if_pos h]
 · rw [if_neg e];exact hf k D Oa
theorem Zdd{p:Prob}(hf:∀k,0<=k->k<i->f k=U2 p k)(F:∀k,i<=k->f k=0)(h:¬p.b8+p.bo<2*(p.L i+p.bo)):∀k,0<=k->k<i+1->f k=U2 p k:=fun k D G=>by
 by_cases e:k=i
 · rw [e,F i (Int.le_refl _)];unfold U2;rw [if_neg h]
 · exact hf k D Oa
theorem Zfr(D:∀k,i<=k->f k=0):∀k,i+1<=k->upd f i 1 k=0:=fun k F=>by
 unfold upd;rw [if_neg Oa];exact D k Oa
theorem Zez{vL:Value}{p:Prob}(w0:World)(h:PAt w0 vL vD p):
   Calls Oj 135 [.agg #[vL,vD,.int Oh p.b8,.int Oh p.bo]].toArray w0 fun e w=>∃v,e= .returned v/\∃r c e,v= .tuple #[.agg #[r,.int Oh (Ct.q c)],.int Oh e]/\HalfR p c e/\Slh r c.n/\Sat w0 w [.own r 1 3 c.n (ints c.y)]:=by
 obtain⟨hm,ae,hd,hd1,hs,X⟩:=h.Oo
 refine zenG Tryz.func135 Tryz.ntmps135 fun w D=> ?_
 refine zsr<|zla (xbx (cs:= [_,_,_,_]) D) ?_;rintro _ w ⟨Z,rfl,D⟩
 refine zla (xal (cs:= [_,_]) U4 D) ?_;rintro _ w ⟨Y,rfl,D⟩
 refine(zP)<|zx5<|(zV (xls 0 st_32 D))<|zlc (xc0 XZ) (Yn (p:=p) w (h.below D.below)) ?_;rintro _ w ⟨rfl,J⟩
 replace D:=D.cmp J;clear J
 refine(zP)<|zlt<|Ze ?_ ?_<;>intro hc
 ·
  refine zsr<|(zV (xany (v:= .agg #[Og,.int Oh 0])))<|zle (xsw 1 st_98 D) ?_;clear D;rintro w D
  refine(zP)<|zx14<|ZS 1 st_98 D ⟨_,rfl,?_⟩
  exact⟨_,Ct.iq,1,rfl,.inl ⟨‹¬p.Ok›,rfl,rfl⟩,slh_nil,(D.sub (.cons _ (.cons _ .slnil))).cg 1 3 (ints Ct.iq.y)⟩
 refine ZM<|zlv (xfb 0 fd_32_0) ?_
 have G:p.Ok:=by first|assumption|exact Oc ‹_›
 have ac:=G.m1;have qH:=G.m2;have ad:=G.d;have ab:=G.s1;have aa:=G.s2;have ag:=G.k1;have af:=G.k2
 refine(zV (xlb 0 pl_22 D))<|(zV (xln Zb h.L.cf))<|zla (xmk Zb Zm D) ?_;rintro O w ⟨D,F⟩
 refine zlv (xany (v:= .agg #[O,.int Oh 1]) (hr:=by obtain⟨_,_,_,_,rfl,_⟩:=F;kernel_rfl)) ?_
 refine zla (xal (cs:= [_,_]) U4 D) ?_;rintro _ w ⟨g3,rfl,D⟩
 refine zle (xsw 3 st_98 D (hd:=(Za F.one (Za rfl Zh)))) ?_;clear D;rintro w D
 refine zx5<|(zV (xfb 0 fd_32_0))<|(zV (xlb 0 pl_22 D))<|(zV (xln Zb h.L.cf))<|(zP)<|zx6<|zlp (fun V M w=>∃(f:Oe) (i:Int),V=((p.m-i).toNat)/\(0<=i)/\(i<=p.m)/\(∀k,0<=k->k<i->f k=U2 p k)/\(∀k,i<=k->f k=0)/\M= [(1,Oq Z),(2,Oq Y),(3,.int Oh 0),(4,Oq g3),(17,vL),(18,.int Oh p.m),(19,.int Oh i)]/\Sat w0 w [.blk Z [vL,vD,.int Oh p.b8,.int Oh p.bo],.blk Y [Og,.int Oh 0],.own O 1 3 p.m (ints f),.blk g3 [O,.int Oh 1]]) ⟨(fun _=>0),0,rfl,Oa,Oa,?_,?_,rfl,D⟩ ?_
 ·
  intro k W k1;omega
 ·
  intro k _;rfl
 clear D w
 rintro V M w ⟨f,i,rfl,h0,h1,hf,I,rfl,D⟩
 refine zsr<|(zP)<|zx7<|Ze ?_ ?_<;>intro hc
 ·
  refine zx3<|(zP)<|(zV (xix (kk:=i) Zb h.L.cf))<|zlv (xlr (u:= .int Oh (p.L i)) pl_3 (h.L.below D.below)) ?_
  have ah:=h.iL i
  have he:=G.all i h0 Oa;unfold Prob.each at he
  refine(Om)<|zlz<|(zP)<|(zV (xfb 3 fd_32_3))<|(zV (xlb 0 pl_3 D))<|(zV (Zg (r:=p.L i+p.bo)))<|(zV (Z2 (r:=2*p.L i+2*p.bo)))<|(zV (xfb 2 fd_32_2))<|(zV (xlb 0 pl_3 D))<|(zV (xfb 3 fd_32_3))<|(zV (xlb 0 pl_3 D))<|(zV (Zg (r:=p.b8+p.bo)))<|(zP)<|zlt<|Ze ?_ ?_<;>intro hc
  ·
   refine zrg<|(zV (xfb 0 fd_98_0))<|(zV (xlb 3 pl_22 D))<|(zP)<|(zV (xix (kk:=i) Zb F))<|zle (xso 2 pl_3 D (Zy _ _ _)) ?_;clear D;rintro w D
   refine zx10<|(zV (Zg (r:=i+1)))<|(zP)<|zln<|zlq ⟨(upd f i 1),i+1,rfl,Oa,Oa,?_,?_,rfl,D⟩
   ·
    first|exact Zde hf Oa|exact Zdd hf I Oa
   ·
    first|exact Zfr I|exact fun k X=>I k Oa
  refine zx4<|(zV (Zg (r:=i+1)))<|(zP)<|zln<|zlq ⟨f,i+1,rfl,Oa,Oa,?_,?_,rfl,D⟩
  ·
   first|exact Zde hf Oa|exact Zdd hf I Oa
  ·
   first|exact Zfr I|exact fun k X=>I k Oa
 refine zx8<|(zV (xls 3 st_98 D))<|zle (xsw 1 st_98 D (hd:=(Za F.one (Za rfl Zh)))) ?_;clear D;rintro w D
 refine(zP)<|zx1<|ZS 1 st_98 D ⟨_,rfl,?_⟩
 have U:i=p.m:=Oa
 subst U
 replace D:=D.gi 2 rfl (d:=ints (Zfs p).y) (fun k W k1=>congrArg (Value.int .i64) (hf k W Oa))
 exact⟨_,Zfs p,0,rfl,.inr ⟨G,rfl,rfl⟩,F,D.pk [2]⟩
end Go.Proofs.YtkichmnjjblodaaGreat
namespace Go.Proofs.YtkichmnjjblodaaGreat
open Go Go.RowKit Go.Proofs.Gw
theorem ZjH:Zc Oj 47=true:=Ob
theorem X6{P:Program}{fn:Func}{R:Ending->World->Prop}{w w0:World}{n:Nat}{L:List (Nat×Value)}{E:List Ent}(i:Nat){s t r g k:Nat}{T:TypeId}{u v:Value}{cs:List Value}(O:ZC P T=some k)(W:Sat w0 w E)(h:R (.returned (.tuple #[.agg cs.toArray,u,v])) w)(hr:fn.results= #[.cell s T,.tmp t,.tmp r]:=by exact rfl)(U:lk L s=some (Oq g):=by exact rfl)(J:lk L t=some u:=by exact rfl)(hv:lk L r=some v:=by exact rfl)
   (hi:E[i]? =some (.blk g cs):=by exact rfl) (V:cs.length=k:=by exact rfl):Ge n [] (bodyPost P fn R) .ret L w:=fun _ D=>by
 refine⟨D.defers,_,?_,h⟩
 subst V
 obtain⟨h1,Y⟩:=Xy (w:=w) O
 have X:=run_loadCells_list (P:=P) w ⟨g,0,none⟩ cs (W.holds _ (List.mem_of_getElem? hi)).cells
 have I:=D.get t _ J
 have G:=D.get s _ U
 have F:=D.get r _ hv
 rw [Array.getD_eq_getD_getElem?] at I G F
 simp [results,hr,I,G,F,asAddr,loadVar,h1,Y,X]
noncomputable def W8(p:Prob)(b:Ct×Int)(c:Ct)(e:Int):Ct×Int:=if e=0/\Chk p c.n c.y c.q=0/\b.2<YZ p c.n c.y c.q then(c,YZ p c.n c.y c.q) else b
theorem RQ{p:Prob}{b c:Ct}{m e:Int}(h1:e=0)(F:Chk p c.n c.y c.q=0)(D:m<YZ p c.n c.y c.q):(c,YZ p c.n c.y c.q)=W8 p (b,m) c e:=by
 unfold W8;rw [if_pos ⟨h1,F,D⟩]
theorem Uc{p:Prob}{b c:Ct}{m e:Int}(h:¬(e=0/\Chk p c.n c.y c.q=0/\m<YZ p c.n c.y c.q)):(b,m)=W8 p (b,m) c e:=by
 unfold W8;rw [if_neg h]
def Zm7(p:Prob)(c:Ct)(m:Int):Prop:=∃c1 e1 c2 e2 c3 e3,MakeR p c1 e1/\MatCR p c2 e2/\HalfR p c3 e3/\(c,m)=W8 p (W8 p (W8 p (Ct.iq,-1) c1 e1) c2 e2) c3 e3
def DBestR(p:Prob)(c:Ct)(m e:Int):Prop:=(¬p.Ok/\c=Ct.iq/\m=0/\e=1)\/(p.Ok/\e=0/\Zm7 p c m)
theorem Zav{vL vD:Value}{p:Prob}{F:Gw.Frame}{gp V W:Nat}{b c:Ct}{most ee:Int}{vb vc:Value}(w0 w:World)(D:Sat w0 w [.blk gp [vL,vD,.int Oh p.b8,.int Oh p.bo],.blk V [.int Oh most],.blk W [vb,.int Oh b.q],.own vb 1 3 b.n (ints b.y),.own vc 1 3 c.n (ints c.y),.sem F])(h:PAt w0 vL vD p)(G:Slh vb b.n)(I:Slh vc c.n)(hq: -9223372036854775808<=c.q/\c.q<=9223372036854775807):
   Calls Oj 132 [.agg #[vc,.int Oh c.q],.int Oh ee,Oq gp,Oq V,Oq W].toArray w fun e w=>∃v,e= .returned v/\v= .tuple #[]/\∃O X U,(O,X)=W8 p (b,most) c ee/\Slh U O.n/\Sat w0 w [.blk gp [vL,vD,.int Oh p.b8,.int Oh p.bo],.blk V [.int Oh X],.blk W [U,.int Oh O.q],.own U 1 3 O.n (ints O.y),.sem F]:=by
 obtain⟨hm,aa,hd,hd1,hs,hk⟩:=h.Oo
 refine zenF Tryz.func132 Tryz.ntmps132 ?_
 refine zsr<|zla (xbx (cs:= [_,_]) D) ?_;rintro _ w ⟨g1,rfl,D⟩
 refine zx5<|(Om)<|zlt<|Ze ?_ ?_<;>intro hc
 ·
  refine zrt<|ztr<|zf0 ⟨_,rfl,?_⟩
  exact⟨rfl,b,most,vb,Uc (by rintro⟨h1,Z,Y⟩;omega),G,D.pk [0,1,2,3,5]⟩
 refine ZM<|(zV (xls 0 st_32 D))<|(zV (xls 6 st_98 D))<|zlc (xc0 ZjH) (ZdL (p:=p) w (h.below D.below) (D.c7 4 rfl) Oa) ?_;rintro _ w ⟨rfl,J⟩
 replace D:=D.cmp J;clear J
 refine zs5 ?_
 refine zlz<|(On)<|zlb 19 ?_ ?_<;>intro hc
 ·
  refine(zP)<|(zV (xlb 1 pl_3 D))<|(Om)<|zlt<|Ze ?_ ?_<;>intro hc
  ·
   refine zrg<|(zV (xls 6 st_98 D))<|(zP)<|zle (xsw 2 st_98 D (hd:=(Za I.one (Za rfl Zh)))) ?_;clear D;rintro w D
   refine zle (xsb 1 pl_3 D) ?_;clear D;rintro w D
   refine zln<|XP ⟨_,rfl,?_⟩
   exact⟨rfl,c,_,vc,RQ Oa Oa Oa,I,D.pk [0,1,2,4,5]⟩
  refine zsk<|XP ⟨_,rfl,?_⟩
  exact⟨rfl,b,most,vb,Uc (by rintro⟨h1,Z,Y⟩;omega),G,D.pk [0,1,2,3,5]⟩
 iterate 3 refine zlo ?_
 refine(zP)<|zlt<|zcf<|zsk<|XP ⟨_,rfl,?_⟩
 exact⟨rfl,b,most,vb,Uc (by rintro⟨h1,Z,Y⟩;omega),G,D.pk [0,1,2,3,5]⟩
theorem Zcx:Zc Oj 132=true:=Ob
theorem Zl0:Zc Oj 133=true:=Ob
theorem ZlZ:Zc Oj 134=true:=Ob
theorem ZlY:Zc Oj 135=true:=Ob
theorem Zhc{vL vD:Value}{p:Prob}(w0:World)(h:PAt w0 vL vD p):
   Calls Oj 91 [.agg #[vL,vD,.int Oh p.b8,.int Oh p.bo]].toArray w0 fun e w=>∃v,e= .returned v/\∃r c m e,v= .tuple #[.agg #[r,.int Oh (Ct.q c)],.int Oh m,.int Oh e]/\DBestR p c m e/\Slh r c.n/\Sat w0 w [.own r 1 3 c.n (ints c.y)]:=by
 obtain⟨hm,ae,hd,hd1,hs,hk⟩:=h.Oo
 refine zenG Tryz.func91 Tryz.ntmps91 fun w D=> ?_
 refine zsr<|zla (xbx (cs:= [_,_,_,_]) D) ?_;rintro _ w ⟨g1,rfl,D⟩
 refine zla (xal (cs:= [_,_]) U4 D) ?_;rintro _ w ⟨g2,rfl,D⟩
 refine(Om)<|zx5<|(zV (xls 0 st_32 D))<|zlc (xc0 XZ) (Yn (p:=p) w (h.below D.below)) ?_;rintro _ w ⟨rfl,F⟩
 replace D:=D.cmp F;clear F
 refine(zP)<|zlt<|Ze ?_ ?_<;>intro hc
 ·
  refine zsr<|(zV (xany (v:= .agg #[Og,.int Oh 0])))<|zle (xsw 1 st_98 D) ?_;clear D;rintro w D
  refine(Om)<|zx14<|X6 1 st_98 D ⟨_,rfl,?_⟩
  exact⟨_,Ct.iq,0,1,rfl,.inl ⟨‹¬p.Ok›,rfl,rfl,rfl⟩,slh_nil,(D.sub (.cons _ (.cons _ .slnil))).cg 1 3 (ints Ct.iq.y)⟩
 refine ZM<|zla (xal (cs:= [_,_]) U4 D) ?_;rintro _ w ⟨g3,rfl,D⟩
 refine zlz<|zla (xal (cs:= [_]) Zm D) ?_;rintro _ w ⟨g4,rfl,D⟩
 refine zle (xsb 3 pl_3 D) ?_;clear D;rintro w D
 refine zlz<|zlv xmf ?_
 replace D:=D.cg 1 3 (ints Ct.iq.y)
 have G:p.Ok:=by first|assumption|exact Oc ‹_›
 have ac:=G.m1;have qH:=G.m2;have ad:=G.d;have ab:=G.s1;have aa:=G.s2;have ag:=G.k1;have af:=G.k2
 refine(zP)<|zlz<|(zP)<|(zV (xls 0 st_32 D))<|zlc (xc0 Zl0) (ZgX (p:=p) w (h.below D.below)) ?_;rintro _ w ⟨eT,W,Z,rfl,O,dO,F⟩
 replace D:=(D.comp F).n6;clear F
 refine(Om)<|zlc (xcc (vs:= [_,_]) Zcx) (Zav (p:=p) (b:=Ct.iq) (c:=W) (most:=(-1)) (ee:=Z) (vb:=Og) (vc:=eT) w0 w (Sat.gg (l1:= [_,_,_,_,_]) (D.pk [0,3,2,4,5,1])) h slh_nil dO (by have I:=O.q;omega)) ?_;rintro _ w ⟨rfl,jd,fj,eW,f4,dR,D⟩
 replace D:=Sat.fx (l1:= [_,_,_,_]) (l3:= []) D
 refine zlz<|(zP)<|(zV (xls 0 st_32 D))<|zlc (xc0 ZlZ) (ZgW (p:=p) w (h.below D.below)) ?_;rintro _ w ⟨eS,X,ki,rfl,U,dN,F⟩
 replace D:=(D.comp F).n6;clear F
 refine(Om)<|zlc (xcc (vs:= [_,_]) Zcx) (Zav (p:=p) (b:=jd) (c:=X) (most:=fj) (ee:=ki) (vb:=eW) (vc:=eS) w0 w (Sat.gg (l1:= [_,_,_,_,_]) (D.pk [0,1,2,3,5,4])) h dR dN (by have I:=U.q;omega)) ?_;rintro _ w ⟨rfl,ja,fi,eV,fZ,dQ,D⟩
 replace D:=Sat.fx (l1:= [_,_,_,_]) (l3:= []) D
 refine zlz<|(zP)<|(zV (xls 0 st_32 D))<|zlc (xc0 ZlY) (Zez (p:=p) w (h.below D.below)) ?_;rintro _ w ⟨eR,Y,kh,rfl,V,dM,F⟩
 replace D:=(D.comp F).n6;clear F
 refine(Om)<|zlc (xcc (vs:= [_,_]) Zcx) (Zav (p:=p) (b:=ja) (c:=Y) (most:=fi) (ee:=kh) (vb:=eV) (vc:=eR) w0 w (Sat.gg (l1:= [_,_,_,_,_]) (D.pk [0,1,2,3,5,4])) h dQ dM (by have I:=V.q;omega)) ?_;rintro _ w ⟨rfl,kH,kt,kr,fW,J,D⟩
 replace D:=Sat.fx (l1:= [_,_,_,_]) (l3:= []) D
 refine zx7<|zdst [0,1,2,3,4] [0,1,2,3] 2 mx_ D ?_;clear D;intro w D
 refine(zDl 0 (fun w D=>(xls 2 st_98 D)))<|(zDl 1 (fun w D=>(xlb 1 pl_3 D)))<|zde 2 (xsw 4 st_98 D (hd:=(Za J.one (Za rfl Zh)))) ?_;clear D;rintro w D
 refine⟨⟨fun h=>absurd h (by decide),D.pk [0,1,2,3]⟩,?_⟩
 refine(zDw 3 xas)<|(zDw 4 xas)<|zdd<|ztn<|zrt<|X6 4 st_98 D ⟨_,rfl,?_⟩
 exact⟨_,_,_,0,rfl,.inr ⟨G,rfl,_,_,_,_,_,_,O,U,V,(by rw [fW,fZ,f4])⟩,J,D.pk [3]⟩
end Go.Proofs.YtkichmnjjblodaaGreat
namespace Go.Proofs.Gw
open Go Go.RowKit
variable {i k lo need w:Int} {a x:Oe}
def dn{α:Type}(F:Int->List α)(lo:Int):Nat->List α
  |0=> []
  |c+1=>F (lo+c)++dn F lo c
theorem U5{α:Type}(F:Int->List α)(h:lo<=k):dn F lo (k+1-lo).toNat=F k++dn F lo (k-lo).toNat:=by
 rw [show(k+1-lo).toNat=(k-lo).toNat+1 by omega]
 simp only [dn]
 rw [show lo+((k-lo).toNat:Int)=k by omega]
theorem ZfV{α:Type}{F:Int->List α}{lo:Int}:∀{c:Nat},(∀k,lo<=k->k<lo+c->F k= [])->dn F lo c= []
 |0,_=>rfl
 | c+1,h=>by
   simp only [dn]
   rw [h _ Oa Oa,ZfV fun k D h1=>h k D Oa];rfl
theorem Zfe{α:Type}{F:Int->List α}{lo:Int}{x:α}:∀{c:Nat},x∈dn F lo c->∃k,lo<=k/\k<lo+c/\x∈F k
 |0,h=>by cases h
 | c+1,h=>by
   simp only [dn,List.mem_append] at h
   rcases h with h|h
   · exact⟨_,Oa,Oa,h⟩
   · obtain⟨k,h1,G,D⟩:=Zfe h;exact⟨k,h1,Oa,D⟩
theorem ZfW{α:Type}{F:Int->List α}{lo k:Int}{x:α}:∀{c:Nat},lo<=k->k<lo+c->x∈F k->x∈dn F lo c
 |0,h0,h1,h=>Oa
 | c+1,h0,h1,h=>by
   simp only [dn,List.mem_append]
   by_cases e:k=lo+c
   · subst e;exact .inl h
   · exact .inr (ZfW h0 Oa h)
def ZbP(p:Prob)(a:Oe)(l:Int):Prop:=(∃i,0<=i/\i<p.m/\0<a i)/\∀i,0<=i->i<p.m->a i<p.D i->l<p.L i+p.bo
def least(w i:Int):Int:=if w=i then 1 else 0
noncomputable def ext(p:Prob)(w:Int):Nat->(Oe)->Int->List (Oe)
  |0,a,l=> @ite _ (ZbP p a l) (Classical.propDecidable _) [a] []
  | j +1,a,l=>dn (fun k=>ext p w j (upd a (p.m-((j:Int)+1)) k) (l-k*(p.L (p.m-((j:Int)+1))+p.bo))) (least w (p.m-((j:Int)+1)))
      (min (p.D (p.m-((j:Int)+1))) (l.tdiv (p.L (p.m-((j:Int)+1))+p.bo))+1-least w (p.m-((j:Int)+1))).toNat
noncomputable def exI(p:Prob)(w i:Int)(a:Oe)(l:Int):List (Oe):=ext p w (p.m-i).toNat a l
def most(p:Prob)(i l:Int):Int:=min (p.D i) (l.tdiv (p.L i+p.bo))
theorem Tk{p:Prob}{l:Int}(hi:i=p.m)(h:ZbP p a l):exI p w i a l= [a]:=by
 unfold exI;rw [show(p.m-i).toNat=0 by omega]
 show @ite _ (ZbP p a l) (Classical.propDecidable _) [a] []=_
 rw [if_pos h]
theorem Zai{p:Prob}{l:Int}(hi:i=p.m)(h:¬ZbP p a l):exI p w i a l= []:=by
 unfold exI;rw [show(p.m-i).toNat=0 by omega]
 show @ite _ (ZbP p a l) (Classical.propDecidable _) [a] []=_
 rw [if_neg h]
noncomputable def kid(p:Prob)(w i:Int)(a:Oe)(l:Int)(k:Int):List (Oe):=exI p w (i+1) (upd a i k) (l-k*(p.L i+p.bo))
theorem Wr{p:Prob}{l:Int}(G:0<=i)(h1:i<p.m):exI p w i a l=dn (kid p w i a l) (least w i) (most p i l+1-least w i).toNat:=by
 unfold exI
 obtain⟨j,D⟩:∃j:Nat,(p.m-i).toNat=j+1:=⟨(p.m-i).toNat-1,Oa⟩
 have e:p.m-((j:Int)+1)=i:=Oa
 rw [D]
 simp only [ext]
 rw [e]
 have F:(fun k=>ext p w j (upd a i k) (l-k*(p.L i+p.bo)))=kid p w i a l:=by
   funext k
   unfold kid exI
   rw [show(p.m-(i+1)).toNat=j by omega]
 rw [F];rfl
noncomputable def MX(p:Prob)(w:Int):List (Oe):=exI p w 0 (fun _=>0) (p.b8+p.bo)
structure Pfx (p:Prob) (i:Int) (a:Oe) (l:Int):Prop where
  ia:∀k,0<=k->k<i->0<=a k/\a k<=p.D k
  zero:∀k,k<0\/i<=k->a k=0
  left:l=p.b8+p.bo-ZI p a i.toNat
  l0:0<=l
theorem Pfx.start{p:Prob}(D:p.Ok):Pfx p 0 (fun _=>0) (p.b8+p.bo):=
 ⟨fun k F h1=>Oa,fun _ _=>rfl,by show _=_-Zf _ 0;simp [Zf],by have:=D.s1;have:=D.k1;omega⟩
theorem XW{p:Prob}(D:p.Ok){l:Int}(U:0<=i)(h1:i<p.m)(J:0<=l)(I:0<=k)(G:k<=most p i l):k<=p.D i/\0<=k*(p.L i+p.bo)/\k*(p.L i+p.bo)<=l:=by
 have O:=D.all i U h1
 unfold Prob.each at O
 have V:=D.k1
 unfold most at G
 have F:k<=l.tdiv (p.L i+p.bo):=Oa
 rw [Int.tdiv_eq_ediv_of_nonneg J] at F
 exact⟨by omega,Int.mul_nonneg I Oa,(Int.le_ediv_iff_mul_le Oa).1 F⟩
theorem ZeL{p:Prob}(D:0<=i):ZI p (upd a i k) (i+1).toNat=ZI p a i.toNat+k*(p.L i+p.bo):=by
 have e:ZI p (upd a i k) (i+1).toNat=ZI p (upd a i k) i.toNat+upd a i k i*(p.L i+p.bo):=ZH _ D
 rw [e,ZA]
 congr 1
 exact Zj fun j G F=>by rw [upd_ne _ _ Oa]
theorem Pfx.step{p:Prob}(J:p.Ok){l:Int}(h:Pfx p i a l)(F:0<=i)(h1:i<p.m)(D:0<=k)(G:k<=most p i l):Pfx p (i+1) (upd a i k) (l-k*(p.L i+p.bo)):=by
 obtain⟨O,W,g3⟩:=XW J F h1 h.l0 D G
 refine⟨fun j I U=> ?_,fun j V=> ?_,by rw [ZeL F,h.left];omega,Oa⟩
 · by_cases e:j=i
   · rw [e,ZA];exact⟨D,O⟩
   · rw [upd_ne _ _ e];exact h.ia j I Oa
 · rw [upd_ne _ _ Oa];exact h.zero j Oa
structure MPat (p:Prob) (w:Int) (x:Oe):Prop where
  ia:∀k,0<=k->k<p.m->0<=x k/\x k<=p.D k
  zero:∀k,k<0\/p.m<=k->x k=0
  used:ZI p x p.m.toNat<=p.b8+p.bo
  maxi:ZbP p x (p.b8+p.bo-ZI p x p.m.toNat)
theorem Zdn{p:Prob}(I:p.Ok){w:Int}:∀(j:Nat) {i l:Int} {a x:Oe},(p.m-i).toNat=j->0<=i->i<=p.m->Pfx p i a l->x∈exI p w i a l->MPat p w x/\(∀k,k<i->x k=a k)/\(i<=w->w<p.m->1<=x w)
 | 0,i,l,a,x,hj,h0,h1,h,D=>by
   have hi:i=p.m:=Oa
   by_cases hm:ZbP p a l
   · rw [Tk hi hm,List.mem_singleton] at D
     subst D
     have J:=h.left;have Y:=h.l0
     rw [hi] at J
     refine⟨⟨fun k F V=>h.ia k F Oa,fun k O=>h.zero k Oa,Oa,?_⟩,fun _ _=>rfl,fun _ _=>Oa⟩
     rw [<-J];exact hm
   · rw [Zai hi hm] at D;cases D
 | j +1,i,l,a,x,hj,h0,h1,h,D=>by
   rw [Wr h0 Oa] at D
   obtain⟨k,F,V,O⟩:=Zfe D
   have X:0<=least w i:=by unfold least;split<;>omega
   have W:=h.step I h0 Oa (k:=k) Oa Oa
   obtain⟨Z,U,g3⟩:=Zdn I j Oa Oa Oa W O
   refine⟨Z,fun q hq=>by rw [U q Oa,upd_ne _ _ Oa],fun hw G=> ?_⟩
   by_cases e:w=i
   · have:=U w Oa
     rw [e,ZA] at this
     rw [e,this]
     unfold least at F;rw [if_pos e] at F;exact F
   · exact g3 Oa G
theorem Zht{p:Prob}(D:p.Ok)(h:x∈MX p w):MPat p w x/\(0<=w->w<p.m->1<=x w):=by
 have:=D.m1
 obtain⟨h1,_,F⟩:=Zdn D _ rfl (Int.le_refl 0) Oa (Pfx.start D) h
 exact⟨h1,F⟩
def Lat(p:Prob):Nat->Int
  |0=>0
  |j+1=>Lat p j+p.D (p.m-((j:Int)+1))*(p.L (p.m-((j:Int)+1))+p.bo)
def XL(p:Prob)(i:Int):Int:=Lat p (p.m-i).toNat
theorem LatI_end{p:Prob}(h:p.m<=i):XL p i=0:=by unfold XL;rw [show(p.m-i).toNat=0 by omega];rfl
theorem UT{p:Prob}(F:0<=i)(h1:i<p.m):XL p i=XL p (i+1)+p.D i*(p.L i+p.bo):=by
 unfold XL
 obtain⟨j,D⟩:∃j:Nat,(p.m-i).toNat=j+1:=⟨(p.m-i).toNat-1,Oa⟩
 rw [D,show(p.m-(i+1)).toNat=j by omega]
 simp only [Lat]
 rw [show p.m-((j:Int)+1)=i by omega]
theorem ZbR{p:Prob}(D:p.Ok):∀(j:Nat) {i:Int},(p.m-i).toNat=j->0<=i->i<=p.m->0<=XL p i/\XL p i<=(p.m-i)*2100000
 |0,i,hj,h0,h1=>by rw [LatI_end Oa,show p.m-i=0 by omega];omega
 | j+1,i,hj,h0,h1=>by
   have G:=ZbR D j (i:=i+1) Oa Oa Oa
   rw [UT h0 Oa]
   have F:=D.all i h0 Oa
   unfold Prob.each at F
   have:=D.k1;have:=D.k2;have:=D.s2
   have I:=Int.mul_nonneg F.2.2.2.1 (show 0<=p.L i+p.bo by omega)
   have a2:p.D i*(p.L i+p.bo)<=1000*2100:=Int.mul_le_mul F.2.2.2.2 Oa Oa Oa
   have e:(p.m-i)*2100000=(p.m-(i+1))*2100000+2100000:=Oa
   omega
theorem ZaE{p:Prob}(D:p.Ok)(F:0<=i):0<=XL p i/\XL p i<=42000000:=by
 by_cases h:i<=p.m
 · have:=ZbR D _ rfl F h;have:=D.m2;omega
 · rw [LatI_end Oa];omega
structure NeedP (p:Prob) (a:Oe) (i need:Int):Prop where
  top:need<=p.b8+p.bo+1
  all:∀k,0<=k->k<i->a k<p.D k->need<=p.L k+p.bo
  ex:need=p.b8+p.bo+1\/∃k,0<=k/\k<i/\a k<p.D k/\p.L k+p.bo=need
theorem NeedP.start(p:Prob):NeedP p (fun _=>0) 0 (p.b8+p.bo+1):=⟨Int.le_refl _,fun k D h1=>Oa,.inl rfl⟩
theorem NeedP.yes{p:Prob}(h:NeedP p a i need)(V:0<=i)(O:k<p.D i):NeedP p (upd a i k) (i+1) (min need (p.L i+p.bo)):=by
 refine⟨by have:=h.top;omega,fun j D J F=> ?_,?_⟩
 · by_cases e:j=i
   · rw [e];omega
   · rw [upd_ne _ _ e] at F
     have:=h.all j D Oa F;omega
 · by_cases hm:need<=p.L i+p.bo
   · rw [Int.min_eq_left hm]
     rcases h.ex with U|⟨j,D,J,I,G⟩
     · exact .inl U
     · exact .inr ⟨j,D,Oa,by rw [upd_ne _ _ Oa];exact I,G⟩
   · rw [Int.min_eq_right Oa]
     exact .inr ⟨i,V,Oa,by rw [ZA];exact O,rfl⟩
theorem NeedP.no{p:Prob}(h:NeedP p a i need)(V:0<=i)(O:¬k<p.D i):NeedP p (upd a i k) (i+1) need:=by
 refine⟨h.top,fun j F J D=> ?_,?_⟩
 · by_cases e:j=i
   · rw [e,ZA] at D;exact absurd D O
   · rw [upd_ne _ _ e] at D
     exact h.all j F Oa D
 · rcases h.ex with U|⟨j,F,J,I,G⟩
   · exact .inl U
   · exact .inr ⟨j,F,Oa,by rw [upd_ne _ _ Oa];exact I,G⟩
theorem Zdo{p:Prob}(D:p.Ok){w:Int}:∀(j:Nat) {i l:Int} {a:Oe},(p.m-i).toNat=j->0<=i->i<=p.m->0<=l->(∃k,0<=k/\k<i/\a k<p.D k/\p.L k+p.bo<=l-XL p i)->exI p w i a l= []
 | 0,i,l,a,hj,h0,h1,hl,⟨k,k0,k1,k2,k3⟩=>by
   refine Zai Oa fun F=> ?_
   rw [LatI_end Oa] at k3
   have:=F.2 k k0 Oa k2
   omega
 | j+1,i,l,a,hj,h0,h1,hl,⟨k,k0,k1,k2,k3⟩=>by
   rw [Wr h0 Oa]
   have G:0<=least w i:=by unfold least;split<;>omega
   refine ZfV fun c V U=> ?_
   obtain⟨J,O,g3⟩:=XW D h0 Oa hl (k:=c) Oa Oa
   refine Zdo D j Oa Oa Oa Oa ⟨k,k0,Oa,by rw [upd_ne _ _ Oa];exact k2,?_⟩
   rw [UT h0 Oa] at k3
   have I:=D.all i h0 Oa
   unfold Prob.each at I
   have:=D.k1
   have:c*(p.L i+p.bo)<=p.D i*(p.L i+p.bo):=Int.mul_le_mul_of_nonneg_right J Oa
   omega
theorem ZcW{p:Prob}(D:p.Ok){l:Int}(G:0<=i)(h1:i<=p.m)(h:Pfx p i a l)(hn:NeedP p a i need)(Z:need<=l-XL p i):exI p w i a l= []:=by
 refine Zdo D _ rfl G h1 h.l0 ?_
 have hL:=(ZaE D G).1
 have X:0<=ZI p a i.toNat:=Yi fun j F W=>by
   have:=h.ia j F Oa
   have U:=D.all j F Oa
   unfold Prob.each at U
   have:=D.k1
   exact Int.mul_nonneg Oa Oa
 have Y:=h.left
 rcases hn.ex with h2|⟨k,O,J,I,V⟩
 · omega
 · exact⟨k,O,J,I,Oa⟩
theorem Wq{p:Prob}{l:Int}(hi:i=p.m)(hn:NeedP p a i need)(J:l<need)(F:∃k,0<=k/\k<p.m/\0<a k):exI p w i a l= [a]:=
 Tk hi ⟨F,fun k D I G=>by have:=hn.all k D Oa G;omega⟩
theorem Ti{p:Prob}{l:Int}(hi:i=p.m)(D:¬∃k,0<=k/\k<p.m/\0<a k):exI p w i a l= []:=
 Zai hi fun h=>D h.1
def YO(l:List (Oe))(k:Int):Oe:=l.getD k.toNat (fun _=>0)
def Ls(m u:Int)(f:Of)(l:List (Oe)):Prop:=u=l.length/\∀k,0<=k->k<u->∀j,0<=j->j<m->f k j=YO l k j
theorem Ls.nil{m:Int}{f:Of}:Ls m 0 f []:=⟨rfl,fun k D h1=>Oa⟩
theorem ZhU{l m:List (Oe)}(D:0<=k)(h1:k<l.length):YO (l++m) k=YO l k:=by
 unfold YO;rw [List.getD_eq_getElem?_getD,List.getD_eq_getElem?_getD,List.getElem?_append_left Oa]
theorem ZhV{l:List (Oe)}(h:k=l.length):YO (l++ [x]) k=x:=by
 unfold YO;rw [List.getD_eq_getElem?_getD,h,Int.toNat_natCast,List.getElem?_append_right (Nat.le_refl _)];simp
theorem Za2{l:List (Oe)}(D:0<=k)(h1:k<l.length):YO l k∈l:=by
 unfold YO
 have:k.toNat<l.length:=Oa
 rw [List.getD_eq_getElem?_getD,List.getElem?_eq_getElem this];exact List.getElem_mem this
theorem Ls.snoc{m u:Int}{f:Of}{l:List (Oe)}{g:Oe}(h:Ls m u f l)(I:∀j,0<=j->j<m->g j=x j):Ls m (u+1) (gsn f u g) (l++ [x]):=by
 obtain⟨h1,J⟩:=h
 refine⟨by simp [h1],fun k D O j G F=> ?_⟩
 by_cases e:k<u
 · rw [Zp e,J k D e j G F,ZhU D Oa]
 · rw [Zq e,ZhV Oa];exact I j G F
end Go.Proofs.Gw
namespace Go.Proofs.YtkichmnjjblodaaGreat
open Go Go.RowKit Go.Proofs.Gw
theorem Ze7{p:Prob}(D:p.Ok){i l q:Int}{a:Oe}(h:Pfx p i a l)(G:0<=q)(J:q<=i)(U:i<=p.m):0<=ZI p a q.toNat/\ZI p a q.toNat<=42000000:=by
 have h1:=W4 (f:=fun i=>a i*(p.L i+p.bo)) (A:=2100000) (n:=q.toNat) (fun j F O=>by
   have hr:=h.ia j F Oa
   have I:=D.all j F Oa
   unfold Prob.each at I
   have:=D.k1;have:=D.k2;have:=D.s2
   exact⟨Int.mul_nonneg hr.1 Oa,Int.le_trans (Int.mul_le_mul (show a j<=1000 by omega) (show p.L j+p.bo<=2100 by omega) Oa Oa) Oa⟩)
 have:=D.m2
 unfold ZI
 refine⟨h1.1,Int.le_trans h1.2 ?_⟩
 have:((q.toNat:Nat):Int)*2100000=q*2100000:=by rw [Int.toNat_of_nonneg G]
 omega
theorem Zj2{p:Prob}(F:p.Ok){i l:Int}{a:Oe}(h:Pfx p i a l)(G:0<=i)(D:i<=p.m):l<=p.b8+p.bo:=by
 have:=Ze7 F h G (Int.le_refl _) D;have:=h.left;omega
def Zok(p:Prob)(wi u:Int)(f:Of)(e:Int):Prop:=(¬p.Ok/\e=1/\u=0)\/(p.Ok/\¬(0<=wi/\wi<p.m)/\e=2/\u=0)\/
  (p.Ok/\(0<=wi/\wi<p.m)/\300<(MX p wi).length/\e=9/\u=0)\/(p.Ok/\(0<=wi/\wi<p.m)/\(MX p wi).length<=300/\e=0/\Ls p.m u f (MX p wi))
theorem ZlL:Zc Oj 152=true:=Ob
theorem Zmw{x:Int}(w0:World):
   Calls Oj 152 [.int Oh x].toArray w0 fun e w=>∃v,e= .returned v/\v=B (0<x)/\Sat w0 w []:=by
 refine zenG Tryz.func152 Tryz.ntmps152 fun w D=> ?_
 refine zsr<|(zP)<|zlz<|(On)<|zx1<|Oi ?_
 exact⟨Zn Oa,D⟩
theorem ZmD{v:Value}{n:Int}{f:Oe}(w0:World)(G:Row w0 v 1 n (ints f)):
   Calls Oj 159 [v,.func (.func 152) #[] #[]].toArray w0 fun e w=>∃v,e= .returned v/\∃r:Int,v= .int Oh r/\((r= -1/\∀k,0<=k->k<n->¬(0<f k))\/(0<=r/\r<n/\(0<f r)))/\Sat w0 w []:=by
 have hn:=G.cf.n0;have W:=G.cf.n1
 refine zenG Tryz.func159 Tryz.ntmps159 fun w D=> ?_
 refine zsr<|(zP)<|zx5<|(zP)<|(zV (xln Zb G.cf))<|(zP)<|zx6<|zlp (fun V M w=>∃(i:Int),V=((n-i).toNat)/\(0<=i)/\(i<=n)/\(∀k,0<=k->k<i->¬(0<f k))/\M= [(0,v),(1,.func (.func 152) #[] #[]),(7,.int Oh n),(8,.int Oh i)]/\Sat w0 w []) ⟨0,rfl,Oa,Oa,?_,rfl,D⟩ ?_
 ·
  intro k O h1;omega
 clear D w
 rintro V M w ⟨i,rfl,O,h1,U,rfl,D⟩
 refine zsr<|(zP)<|zx7<|Ze ?_ ?_<;>intro hc
 ·
  refine zx3<|(Om)<|zlz<|(On)<|(zV (xix (kk:=i) Zb G.cf))<|(zV (xlr (u:= .int Oh (f i)) pl_3 (G.below D.below)))<|zlc (xc0 ZlL) (Zmw (x:=(f i)) w) ?_;rintro _ w ⟨rfl,F⟩
  replace D:=D.cmp F;clear F
  refine zlt<|Ze ?_ ?_<;>intro hc
  ·
   refine zsr<|(Om)<|zx2<|Oi ?_
   exact⟨i,rfl,.inr ⟨by omega,Oa,‹0<f i›⟩,D⟩
  refine zx4<|(zV (Zg (r:=i+1)))<|(zP)<|zln<|zlq ⟨i+1,rfl,Oa,Oa,?_,rfl,D⟩
  ·
   intro k J X;rcases Int.lt_or_eq_of_le (show k<=i by omega) with I|I;exact U k J I;rw [I];assumption
 refine zx8<|(zP)<|zx1<|Oi ?_
 exact⟨-1,rfl,.inl ⟨rfl,fun k O h1=>U k O Oa⟩,D⟩
theorem ZmP{v:Value}{n:Int}{f:Oe}(w0:World)(I:Row w0 v 1 n (ints f)):
   Calls Oj 151 [v,.func (.func 152) #[] #[]].toArray w0 fun e w=>∃v,e= .returned v/\v=B (∃k,0<=k/\k<n/\0<f k)/\Sat w0 w []:=by
 refine zenG Tryz.func151 Tryz.ntmps151 fun w F=> ?_
 refine zsr<|(zP)<|zlz<|(Om)<|zlc (xc0 Vc) (ZmD (n:=n) (f:=f) w (I.below F.below)) ?_;rintro _ w ⟨V,rfl,G,D⟩
 replace F:=F.cmp D;clear D
 refine(Om)<|zx1<|Oi ?_
 exact⟨Zn (by
  rcases G with⟨h1,h2⟩|⟨h1,h2,h3⟩
  · exact⟨fun h=>Oa,fun⟨k,U,O,J⟩=>absurd J (h2 k U O)⟩
  · exact⟨fun _=>⟨_,h1,h2,h3⟩,fun _=>h1⟩),F⟩
end Go.Proofs.YtkichmnjjblodaaGreat
namespace Go.Proofs.Gw
open Go Go.RowKit
noncomputable def Frame.cd(p:Prop)(F G:Frame):Frame:= @ite _ p (Classical.propDecidable p) F G
theorem Xr{p:Prop}{F G:Frame}(h:p):Frame.cd p F G=F:=if_pos h
theorem WU{p:Prop}{F G:Frame}(h:¬p):Frame.cd p F G=G:=if_neg h
structure BX where
  v:Value
  n:Int
  f:Oe
theorem VT{f:Oe}{i x:Int}(h:f i=x):upd f i x=f:=by
 funext k;unfold upd;split
 · rename_i e;rw [e,h]
 · rfl
theorem XM(f:Oe)(i x y:Int):upd (ints (upd f i x)) i (.int Oh y)=ints (upd f i y):=by
 funext k;unfold upd ints;dsimp only;split<;>rfl
end Go.Proofs.Gw
namespace Go.Proofs.YtkichmnjjblodaaGreat
open Go Go.RowKit Go.Proofs.Gw
theorem Zex{vL vD:Value}{p:Prob}{wi:Int}(w0:World)(h:PAt w0 vL vD p)(F:p.Ok):
   Calls Oj 114 [.agg #[vL,vD,.int Oh p.b8,.int Oh p.bo],.int Oh wi].toArray w0 fun e w=>∃v,e= .returned v/\∃J g3 g5 g6 U,v= .func (.func 149) #[] #[Oq g5,Oq g6,Oq g3,Oq J]/\Slh U (p.m+1)/\Sat w0 w [.blk J [vL,vD,.int Oh p.b8,.int Oh p.bo],.blk g3 [.int Oh wi],.blk g5 [.int Oh p.m],.blk g6 [U],.own U 1 3 (p.m+1) (ints (XL p))]:=by
 obtain⟨hm,af,hd,hd1,hs,hk⟩:=h.Oo
 have ac:=F.m1;have qH:=F.m2;have ad:=F.d;have ab:=F.s1;have aa:=F.s2;have ah:=F.k1;have ag:=F.k2
 refine zenG Tryz.func114 Tryz.ntmps114 fun w D=> ?_
 refine zsr<|zla (xbx (cs:= [_,_,_,_]) D) ?_;rintro _ w ⟨g1,rfl,D⟩
 refine zla (xbx (cs:= [_]) D) ?_;rintro _ w ⟨J,rfl,D⟩
 refine(zP)<|zlz<|(zV (xfb 0 fd_32_0))<|(zV (xlb 0 pl_22 D))<|(zV (xln Zb h.L.cf))<|zla (xal (cs:= [_]) Zm D) ?_;rintro _ w ⟨g3,rfl,D⟩
 refine zle (xsb 2 pl_3 D) ?_;clear D;rintro w D
 refine zlz<|(zV (xlb 2 pl_3 D))<|(zV (Zg (r:=p.m+1)))<|zla (xmk Zb Zm D) ?_;rintro X w ⟨D,G⟩
 refine zla (xal (cs:= [_]) Z9 D) ?_;rintro _ w ⟨g4,rfl,D⟩
 refine zle (xsb 4 pl_22 D (hv:=G.one)) ?_;clear D;rintro w D
 refine zx5<|(zV (xlb 2 pl_3 D))<|(zV (Zw (r:=p.m-1)))<|(zP)<|zx6<|zlp (fun Y M w=>∃(g:Oe) (i:Int),Y=((i+1).toNat)/\(-1<=i)/\(i<p.m)/\(∀k,i<k->k<=p.m->g k=XL p k)/\M= [(2,Oq g1),(3,Oq J),(4,(Value.nilFunc)),(5,Oq g3),(6,Oq g4),(7,.int Oh i)]/\Sat w0 w [.blk g1 [vL,vD,.int Oh p.b8,.int Oh p.bo],.blk J [.int Oh wi],.blk g3 [.int Oh p.m],.own X 1 3 (p.m+1) (ints g),.blk g4 [X]]) ⟨(fun _=>0),p.m-1,rfl,Oa,Oa,?_,rfl,D⟩ ?_
 ·
  intro k Z V;rw [LatI_end Oa]
 clear D w
 rintro Y M w ⟨g,i,rfl,h0,h1,O,rfl,D⟩
 refine zx11<|(Om)<|zlt<|Ze ?_ ?_<;>intro hc
 ·
  refine zx38<|zdst [0,1,2,3,4] [0,1,2,4] 18 mx_ D ?_;clear D;intro w D
  refine(zDl 0 (fun w D=>(xlb 3 pl_22 D)))<|(zDw 1 xmv)<|(zDl 2 (fun w D=>(xlb 3 pl_22 D)))<|(zDw 3 xmv)<|(zDw 4 (Zg (r:=i+1)))<|(zDw 5 (xix (kk:=i+1) Zb G))<|zdl 6 (fun w D=>(xlr (u:= .int Oh (g (i+1))) pl_3 (D.c7 3 rfl))) ?_
  have W:=F.all i Oa Oa;unfold Prob.each at W
  have ak:=ZaE F (i:=i+1) Oa
  have ai:=O (i+1) Oa Oa
  have ae:0<=p.D i*(p.L i+p.bo)/\p.D i*(p.L i+p.bo)<=2100000:=⟨Int.mul_nonneg Oa Oa,Int.le_trans (Int.mul_le_mul (show p.D i<=1000 by omega) (show p.L i+p.bo<=2100 by omega) Oa Oa) Oa⟩
  refine(zDw 7 (xfb 1 fd_32_1))<|(zDl 8 (fun w D=>(xlb 0 pl_22 D)))<|(zDw 9 xmv)<|(zDw 10 (xix (kk:=i) Zb h.D.cf))<|zdla 11 (fun w D=>(xlr (u:= .int Oh (p.D i)) pl_3 (h.D.below D.below))) ?_
  have aj:=h.iD i
  refine(zDl 12 (fun w D=>(xls 0 st_32 D)))<|(zDw 13 xmv)<|zdc 14 (xc0 X0) (X1 (p:=p) (i:=i) w (h.below D.below) F Oa Oa) ?_;rintro _ w ⟨rfl,I⟩
  replace D:=D.cmp I;clear I
  refine⟨⟨fun _=>D,D.pk [0,1,2,4]⟩,?_⟩
  refine zDrv 15 (Z2 (r:=((p.D i)*(p.L i+p.bo))) (e:=rfl) (hr:=(by unfold I64;omega))) ?_
  refine(zDw 16 (Zg (r:=g (i+1)+((p.D i)*(p.L i+p.bo)))))<|(zDw 17 (xix (kk:=i) Zb G))<|zde 18 (xso 3 pl_3 D (Zy _ _ _)) ?_;clear D;rintro w D
  refine⟨⟨fun h=>absurd h (by decide),D.pk [0,1,2,4]⟩,?_⟩
  refine zdd<|zbn<|ztn<|zrg ?_
  refine(zP)<|(zV (Zw (r:=i-1)))<|(zP)<|zln<|zlq ⟨(upd g i (g (i+1)+((p.D i)*(p.L i+p.bo)))),i-1,rfl,Oa,Oa,?_,rfl,D⟩
  ·
   intro k Z V;by_cases e:k=i
   · rw [e,ZA,UT Oa h1,<-O (i+1) Oa Oa]
   · rw [upd_ne _ _ e];exact O k Oa V
 refine zx8<|(zV xmf)<|(zP)<|zx1<|Oi ?_
 have hi:i= -1:=Oa
 replace D:=D.gi 3 rfl (d:=ints (XL p)) (fun k Z V=>by unfold ints;rw [O k Oa Oa])
 exact⟨_,_,_,_,_,rfl,G,D.pk [0,1,2,4,3]⟩
theorem T6:Zc Oj 150=true:=Ob
theorem UI:ZR Oj 209=true:=Ob
theorem ZiD {vL vD:Value} {p:Prob} (O:p.Ok) {wi:Int} {St Tt:Type} (qe:St->List (Oe)) (ae:St->Prop) (al:Tt->Prop) (t0:Tt) {g2 g3 g5 g6:Nat} {vl:Value} (am:Slh vl (p.m+1)) {lq:Nat} {C:St->Gw.Frame} {D:Tt->Gw.Frame} (N:Nat):∀{F:Gw.Frame} {s:St} {ga gy gv:Nat} {va:Value} {a:Oe} {i l need:Int} {pre post:List (Oe)} (w0 w:World) (G:Sat w0 w [.sem (C s),.blk g2 [vL,vD,.int Oh p.b8,.int Oh p.bo],.blk g3 [.int Oh wi],.blk g5 [.int Oh p.m],.blk g6 [vl],.own vl 1 3 (p.m+1) (ints (XL p)),.blk ga [va],.own va 1 3 p.m (ints a),.blk gy [.func (.yield lq) #[] #[]],.blk gv [.func (.func 150) #[] #[Oq g6,Oq g5,Oq ga,Oq gy,Oq g3,Oq g2,Oq gv]],.sem F]) (h:PAt w0 vL vD p) (W:Slh va p.m) (X:0<=i) (h1:i<=p.m) (Y:Pfx p i a l) (hn:NeedP p a i need) (hI:ae s) (Z:qe s=pre) (hM:MX p wi=pre++(exI p wi i a l++post)) (hY:∀(s:St) (x:BX) (rest:Gw.Frame) (w:World),(fun(s:St) (x:BX) (rest:Gw.Frame)=>ae s/\Slh x.v x.n/\x.n=p.m/\∃r,MX p wi=qe s++x.f::r) s x rest->Sat w0 w (.sem (C s)::([.blk g2 [vL,vD,.int Oh p.b8,.int Oh p.bo],.blk g3 [.int Oh wi],.blk g5 [.int Oh p.m],.blk g6 [vl],.own vl 1 3 (p.m+1) (ints (XL p))]++((fun(x:BX)=> [.own x.v 1 3 x.n (ints x.f)]) x++ [.sem rest])))->Yld Oj lq [x.v] w fun v w'=>(v= .bool true/\∃s',(fun(s:St) (x:BX) (s1:St)=>qe s1=qe s++ [x.f]/\ae s1) s x s'/\Sat w0 w' (.sem (C s')::([.blk g2 [vL,vD,.int Oh p.b8,.int Oh p.bo],.blk g3 [.int Oh wi],.blk g5 [.int Oh p.m],.blk g6 [vl],.own vl 1 3 (p.m+1) (ints (XL p))]++ [.sem rest])))\/(v= .bool false/\∃t,al t/\Sat w0 w' (.sem (D t)::([.blk g2 [vL,vD,.int Oh p.b8,.int Oh p.bo],.blk g3 [.int Oh wi],.blk g5 [.int Oh p.m],.blk g6 [vl],.own vl 1 3 (p.m+1) (ints (XL p))]++ [.sem rest])))) (hN:(p.m-i).toNat<N),
   Calls Oj 150 [.int Oh i,.int Oh l,.int Oh need,Oq g6,Oq g5,Oq ga,Oq gy,Oq g3,Oq g2,Oq gv].toArray w fun e w=>∃v,e= .returned v/\∃(ok:Prop) (V:St) (t2:Tt) (a2:Oe),v=B ok/\(ok->a2=a/\ae V/\qe V=pre++exI p wi i a l)/\(¬ok->al t2)/\Sat w0 w [.sem (Frame.cd ok (C V) (D t2)),.blk g2 [vL,vD,.int Oh p.b8,.int Oh p.bo],.blk g3 [.int Oh wi],.blk g5 [.int Oh p.m],.blk g6 [vl],.own vl 1 3 (p.m+1) (ints (XL p)),.blk ga [va],.own va 1 3 p.m (ints a2),.blk gy [.func (.yield lq) #[] #[]],.blk gv [.func (.func 150) #[] #[Oq g6,Oq g5,Oq ga,Oq gy,Oq g3,Oq g2,Oq gv]],.sem F]:=by
 induction N with
 |zero=>intros;omega
 | succ N ih=>
   intro F s ga gy gv va a i l need pre post w0 w G h W X h1 Y hn hI Z hM hY hN
   have hm:=h.L.cf.n0;have az:=h.L.cf.n1;have a5:=h.D.cf.n0;have j4:=h.D.cf.n1;have hs:=h.is;have hk:=h.ik
   have av:=O.m1;have qH:=O.m2;have ax:=O.d;have au:=O.s1;have ar:=O.s2;have a4:=O.k1;have a3:=O.k2
   have a0:=Zj2 O Y X h1;have a1:=Y.l0;have a6:=ZaE O X;have ay:=hn.top
   refine Zfp Tryz.func150 Tryz.ntmps150 ?_
   refine hsq<|hrz ?_
   refine(zP)<|zln<|zh<|htn<|hsq<|hsq<|hrz ?_
   refine(zP)<|(zV (xlb 4 pl_22 G))<|(zP)<|(zV (xix (kk:=i) Zb am))<|(zV (xlr (u:= .int Oh (XL p i)) pl_3 (G.c7 5 rfl)))<|(zV (Zw (r:=l-(XL p i))))<|(Om)<|zln<|zh<|htn ?_
   refine Xq ?_ ?_<;>intro hc
   ·
    refine hsq<|hrz ?_
    refine(zP)<|zln<|zh<|htn<|hrt<|ztr<|Oi ?_
    exact⟨True,s,t0,a,(ZP trivial).symm,fun _=>⟨rfl,hI,by first|rw [ZcW O X h1 Y hn Oa,Z,List.append_nil]|rw [Ti Oa ‹_›,Z,List.append_nil]⟩,fun J=>absurd trivial J,by rw [Xr trivial];exact G.pk [0,1,2,3,4,5,6,7,8,9,10]⟩
   refine hsk<|htn<|hsq<|hsq<|hrz ?_
   refine(zP)<|(zV (xlb 3 pl_3 G))<|(zP)<|zln<|zh<|htn ?_
   refine Xq ?_ ?_<;>intro hc
   ·
    refine hsq<|hrz ?_
    refine(zV (xlb 6 pl_22 G))<|zlc (xc0 Vd) (ZmP (n:=p.m) (f:=a) w (G.c7 7 rfl)) ?_;rintro _ w ⟨rfl,I⟩
    replace G:=G.cmp I;clear I
    refine(Om)<|zlb 14 ?_ ?_<;>intro hc
    ·
     refine zln<|zh<|htn<|hsq ?_
     refine hdr 8 mx_ G ?_;clear G;intro w G
     refine hd1 0 ?_
     refine hov xmv ?_
     refine hd1 1 ?_
     refine hov xmv ?_
     refine hd2 2 3 ?_ ?_
     ·
      refine hof ?_
      refine hd1 3 ?_
      refine hof ?_
      refine hd1 4 ?_
      refine hof ?_
      refine hd1 5 ?_
      refine hof ?_
      refine hd1 6 ?_
      refine hov xpt ?_
      refine hd1 7 ?_
      refine hov xas ?_
      refine hd0<|htn<|hrt<|ztr<|Oi ?_
      exact⟨True,s,t0,a,(ZP trivial).symm,fun _=>⟨rfl,hI,by first|rw [ZcW O X h1 Y hn Oa,Z,List.append_nil]|rw [Ti Oa ‹_›,Z,List.append_nil]⟩,fun J=>absurd trivial J,by rw [Xr trivial];exact G.pk [0,1,2,3,4,5,6,7,8,9,10]⟩
     ·
      refine hof ?_
      refine hd2 2 4 ?_ ?_
      ·
       refine hof ?_
       refine hd1 4 ?_
       refine hof ?_
       refine hd1 5 ?_
       refine hof ?_
       refine hd1 6 ?_
       refine hov xpt ?_
       refine hd1 7 ?_
       refine hov xas ?_
       refine hd0<|htn<|hrt<|ztr<|Oi ?_
       exact⟨True,s,t0,a,(ZP trivial).symm,fun _=>⟨rfl,hI,by first|rw [ZcW O X h1 Y hn Oa,Z,List.append_nil]|rw [Ti Oa ‹_›,Z,List.append_nil]⟩,fun J=>absurd trivial J,by rw [Xr trivial];exact G.pk [0,1,2,3,4,5,6,7,8,9,10]⟩
      ·
       refine hof ?_
       refine hd1 2 ?_
       refine hof ?_
       refine hd1 5 ?_
       refine hof ?_
       refine hd1 6 ?_
       refine hov xpt ?_
       refine hd1 7 ?_
       refine hov xas ?_
       refine hd0<|htn<|hrt<|ztr<|Oi ?_
       exact⟨True,s,t0,a,(ZP trivial).symm,fun _=>⟨rfl,hI,by first|rw [ZcW O X h1 Y hn Oa,Z,List.append_nil]|rw [Ti Oa ‹_›,Z,List.append_nil]⟩,fun J=>absurd trivial J,by rw [Xr trivial];exact G.pk [0,1,2,3,4,5,6,7,8,9,10]⟩
    refine zln<|zh<|htn<|hsq ?_
    refine hdr 8 mx_ G ?_;clear G;intro w G
    refine hd1 0 ?_
    refine hov xmv ?_
    refine hd1 1 ?_
    refine hov xmv ?_
    refine hd2 2 3 ?_ ?_
    ·
     refine hov (xlb 8 pl_208 G) ?_
     refine hd1 3 ?_
     refine hov (xlb 6 pl_22 G) ?_
     refine hd1 4 ?_
     refine hoc (xc0 cl_65) (c_clone (n:=p.m) (f:=a) w (G.c7 7 rfl) Oa) ?_;rintro af w ⟨_,rfl,qb,I⟩
     replace G:=(G.comp I).n12;clear I
     refine hd1 5 ?_
     replace G:=G.pk [0,1,2,3,4,5,11,6,7,8,9,10]
     refine hoy (hY s ⟨af,p.m,a⟩ _ w ⟨hI,qb,rfl,post,by rw [hM,Wq Oa hn (by rw [LatI_end Oa] at*;omega) (Oc ‹_›),Z];rfl⟩ (Sat.gg (l1:= [_,_,_,_,_,_,_]) G)) ?_;rintro _ w (⟨rfl,ah,qL,G⟩|⟨rfl,ag,xQ,G⟩)
     ·
      replace G:=Sat.fx (l1:= [_,_,_,_,_,_]) (l3:= []) G
      refine hd1 6 ?_
      refine hov xpf ?_
      refine hd1 7 ?_
      refine hov xas ?_
      refine hd0<|htn<|hrt<|ztr<|Oi ?_
      exact⟨True,ah,t0,a,(ZP trivial).symm,fun _=>⟨rfl,qL.2,by rw [Wq Oa hn (by rw [LatI_end Oa] at*;omega) (Oc ‹_›),qL.1,Z]⟩,fun J=>absurd trivial J,by rw [Xr trivial];exact G.pk [0,1,2,3,4,5,6,7,8,9,10]⟩
     ·
      replace G:=Sat.fx (l1:= [_,_,_,_,_,_]) (l3:= []) G
      refine hd1 6 ?_
      refine hov xpf ?_
      refine hd1 7 ?_
      refine hov xas ?_
      refine hd0<|htn<|hrt<|ztr<|Oi ?_
      exact⟨False,s,ag,a,(B_false not_false).symm,fun J=>J.elim,fun _=>xQ,by rw [WU not_false];exact G.pk [0,1,2,3,4,5,6,7,8,9,10]⟩
    ·
     refine hov (xlb 6 pl_22 G) ?_
     refine hd2 2 4 ?_ ?_
     ·
      refine hov (xlb 8 pl_208 G) ?_
      refine hd1 4 ?_
      refine hoc (xc0 cl_65) (c_clone (n:=p.m) (f:=a) w (G.c7 7 rfl) Oa) ?_;rintro af w ⟨_,rfl,qb,I⟩
      replace G:=(G.comp I).n12;clear I
      refine hd1 5 ?_
      replace G:=G.pk [0,1,2,3,4,5,11,6,7,8,9,10]
      refine hoy (hY s ⟨af,p.m,a⟩ _ w ⟨hI,qb,rfl,post,by rw [hM,Wq Oa hn (by rw [LatI_end Oa] at*;omega) (Oc ‹_›),Z];rfl⟩ (Sat.gg (l1:= [_,_,_,_,_,_,_]) G)) ?_;rintro _ w (⟨rfl,ah,qL,G⟩|⟨rfl,ag,xQ,G⟩)
      ·
       replace G:=Sat.fx (l1:= [_,_,_,_,_,_]) (l3:= []) G
       refine hd1 6 ?_
       refine hov xpf ?_
       refine hd1 7 ?_
       refine hov xas ?_
       refine hd0<|htn<|hrt<|ztr<|Oi ?_
       exact⟨True,ah,t0,a,(ZP trivial).symm,fun _=>⟨rfl,qL.2,by rw [Wq Oa hn (by rw [LatI_end Oa] at*;omega) (Oc ‹_›),qL.1,Z]⟩,fun J=>absurd trivial J,by rw [Xr trivial];exact G.pk [0,1,2,3,4,5,6,7,8,9,10]⟩
      ·
       replace G:=Sat.fx (l1:= [_,_,_,_,_,_]) (l3:= []) G
       refine hd1 6 ?_
       refine hov xpf ?_
       refine hd1 7 ?_
       refine hov xas ?_
       refine hd0<|htn<|hrt<|ztr<|Oi ?_
       exact⟨False,s,ag,a,(B_false not_false).symm,fun J=>J.elim,fun _=>xQ,by rw [WU not_false];exact G.pk [0,1,2,3,4,5,6,7,8,9,10]⟩
     ·
      refine hoc (xc0 cl_65) (c_clone (n:=p.m) (f:=a) w (G.c7 7 rfl) Oa) ?_;rintro af w ⟨_,rfl,qb,I⟩
      replace G:=(G.comp I).n12;clear I
      refine hd1 2 ?_
      refine hov (xlb 8 pl_208 G) ?_
      refine hd1 5 ?_
      replace G:=G.pk [0,1,2,3,4,5,11,6,7,8,9,10]
      refine hoy (hY s ⟨af,p.m,a⟩ _ w ⟨hI,qb,rfl,post,by rw [hM,Wq Oa hn (by rw [LatI_end Oa] at*;omega) (Oc ‹_›),Z];rfl⟩ (Sat.gg (l1:= [_,_,_,_,_,_,_]) G)) ?_;rintro _ w (⟨rfl,ah,qL,G⟩|⟨rfl,ag,xQ,G⟩)
      ·
       replace G:=Sat.fx (l1:= [_,_,_,_,_,_]) (l3:= []) G
       refine hd1 6 ?_
       refine hov xpf ?_
       refine hd1 7 ?_
       refine hov xas ?_
       refine hd0<|htn<|hrt<|ztr<|Oi ?_
       exact⟨True,ah,t0,a,(ZP trivial).symm,fun _=>⟨rfl,qL.2,by rw [Wq Oa hn (by rw [LatI_end Oa] at*;omega) (Oc ‹_›),qL.1,Z]⟩,fun J=>absurd trivial J,by rw [Xr trivial];exact G.pk [0,1,2,3,4,5,6,7,8,9,10]⟩
      ·
       replace G:=Sat.fx (l1:= [_,_,_,_,_,_]) (l3:= []) G
       refine hd1 6 ?_
       refine hov xpf ?_
       refine hd1 7 ?_
       refine hov xas ?_
       refine hd0<|htn<|hrt<|ztr<|Oi ?_
       exact⟨False,s,ag,a,(B_false not_false).symm,fun J=>J.elim,fun _=>xQ,by rw [WU not_false];exact G.pk [0,1,2,3,4,5,6,7,8,9,10]⟩
   refine hsk<|htn<|hsq<|hrz ?_
   refine(zP)<|zln<|zh<|htn<|hsq<|hsq<|hrz ?_
   refine(zP)<|(zV (xlb 2 pl_3 G))<|(zP)<|zln<|zh<|htn ?_
   refine Xq ?_ ?_<;>intro hc
   ·
    refine hrz ?_
    refine(zP)<|zln<|zh<|htn<|hsq<|hsq ?_
    refine hdst [0,1,2,3,4,5,6,7,8,9,10] [0,1,2,3,4,5,6,7,8,9,10] 1000 mx_ G ?_;clear G;intro w G
    refine(zDw 0 (xfb 1 fd_32_1))<|(zDl 1 (fun w G=>(xlb 1 pl_22 G)))<|(zDw 2 xmv)<|(zDw 3 (xix (kk:=i) Zb h.D.cf))<|zdla 4 (fun w G=>(xlr (u:= .int Oh (p.D i)) pl_3 (h.D.below G.below))) ?_
    have ak:=h.iD i
    have aj:=O.all i X Oa;unfold Prob.each at aj
    have an:=YV (a:=l) (b:=p.L i+p.bo) Oa Oa
    have ao:min (p.D i) (Int.tdiv l (p.L i+p.bo))=most p i l:=rfl
    refine(zDw 5 xmv)<|(zDl 6 (fun w G=>(xls 1 st_32 G)))<|(zDw 7 xmv)<|zdc 8 (xc0 X0) (X1 (p:=p) (i:=i) w (h.below G.below) O Oa Oa) ?_;rintro _ w ⟨rfl,I⟩
    replace G:=G.cmp I;clear I
    refine⟨⟨fun _=>G,G⟩,?_⟩
    refine(zDw 9 (VC (r:=(Int.tdiv l (p.L i+p.bo)))))<|(zDw 10 (U9 (r:=(min (p.D i) (Int.tdiv l (p.L i+p.bo))))))<|(zDw 11 xas)<|zdd<|zh<|htn<|hbk ?_
    have ap:least wi i=1:=by unfold least;first|rw [if_pos Oa]|rw [if_neg Oa]
    rw [<-VT (show a i=0 from Y.zero i Oa)] at G
    refine hlp (fun mm M w=>∃(V:St) (z:Int) (k:Int),mm=((k+1-least wi i).toNat)/\(least wi i-1<=k\/k=most p i l)/\(k<=most p i l)/\(ae V)/\(MX p wi=qe V++(dn (kid p wi i a l) (least wi i) (k+1-least wi i).toNat++post))/\M= [(0,.int Oh i),(1,.int Oh l),(2,.int Oh need),(5,Oq ga),(8,Oq g2),(9,Oq gv),(15,.int Oh 1),(16,.int Oh k)]/\Sat w0 w [.sem (C V),.blk g2 [vL,vD,.int Oh p.b8,.int Oh p.bo],.blk g3 [.int Oh wi],.blk g5 [.int Oh p.m],.blk g6 [vl],.own vl 1 3 (p.m+1) (ints (XL p)),.blk ga [va],.own va 1 3 p.m (ints (upd a i z)),.blk gy [.func (.yield lq) #[] #[]],.blk gv [.func (.func 150) #[] #[Oq g6,Oq g5,Oq ga,Oq gy,Oq g3,Oq g2,Oq gv]],.sem F]) ⟨s,0,(min (p.D i) (Int.tdiv l (p.L i+p.bo))),rfl,Oa,Oa,?_,?_,rfl,G⟩ ?_
    ·
     exact hI
    ·
     rw [hM,Wr X Oa,Z];rfl
    clear G w
    rintro mm M w ⟨V,z,k,rfl,k0,k1,ad,U,rfl,G⟩
    refine hsq<|hsq<|hrz ?_
    refine(On)<|zln<|zh<|htn ?_
    refine Xq ?_ ?_<;>intro hc
    ·
     refine hsk<|htn<|hsq<|hbk<|hsq<|hrz ?_
     refine(Om)<|zln<|zh<|htn<|hsq<|hsq<|hrz ?_
     refine(zP)<|(zV (xfb 1 fd_32_1))<|(zV (xlb 1 pl_22 G))<|(zP)<|(zV (xix (kk:=i) Zb h.D.cf))<|zlv (xlr (u:= .int Oh (p.D i)) pl_3 (h.D.below G.below)) ?_
     have ak:=h.iD i
     refine(zP)<|zln<|zh<|htn ?_
     refine Xq ?_ ?_<;>intro hc
     ·
      refine hrz ?_
      refine(zP)<|(zV (xls 1 st_32 G))<|(zP)<|zlc (xc0 X0) (X1 (p:=p) (i:=i) w (h.below G.below) O Oa Oa) ?_;rintro _ w ⟨rfl,I⟩
      replace G:=G.cmp I;clear I
      refine(zV (U9 (r:=(min need (p.L i+p.bo)))))<|(zP)<|zln<|zh<|htn<|hsq<|hrz ?_
      refine(zV (xlb 6 pl_22 G))<|(Om)<|(zV (xix (kk:=i) Zb W))<|zle (xso 7 pl_3 G (XM a i z k)) ?_;clear G;rintro w G
      refine zln<|zh<|htn<|hsq ?_
      refine hdst [1,2,3,4,6,8,9,5] [1,2,3,4,6,8,9,5] 1000 mx_ G ?_;clear G;intro w G
      refine(zDl 0 (fun w G=>(xlb 6 UI G)))<|(zDw 1 xmv)<|(zDw 2 (Zg (r:=i+1)))<|(zDw 3 xmv)<|(zDw 4 xmv)<|zdla 5 (fun w G=>(xls 0 st_32 G)) ?_
      have ai:=XW O X Oa Y.l0 (k:=k) Oa Oa
      refine(zDw 6 xmv)<|(zDw 10 xmv)<|zdc 7 (xc0 X0) (X1 (p:=p) (i:=i) w (h.below G.below) O Oa Oa) ?_;rintro _ w ⟨rfl,I⟩
      replace G:=G.cmp I;clear I
      refine⟨⟨fun _=>G.pk [1,2,3,4,6,8,9,5],G.pk [1,2,3,4,6,8,9,5]⟩,?_⟩
      refine(zDw 8 (Z2 (r:=(k*(p.L i+p.bo))) (e:=rfl)))<|(zDw 9 (Zw (r:=l-(k*(p.L i+p.bo)))))<|zdc 11 (xcc (vs:= [_,_,_]) T6) (ih (s:=V) (i:=i+1) (a:=upd a i k) (l:=l-k*(p.L i+p.bo)) (need:=(min need (p.L i+p.bo))) (pre:=qe V) (post:=dn (kid p wi i a l) (least wi i) (k-least wi i).toNat++post) w0 w (Sat.gg (l1:= [_,_,_,_,_,_,_,_,_,_]) (G.pk [0,1,2,3,4,5,6,7,8,9,10])) h W Oa Oa (Y.step O X Oa Oa Oa) (hn.yes X Oa) ad rfl (by rw [U,U5 (k:=k) _ Oa,List.append_assoc];rfl) hY Oa) ?_;rintro _ w ⟨xn,ab,aa,aw,rfl,zQ,z6,G⟩
      replace G:=Sat.fx (l1:= [_,_,_,_,_,_,_,_,_,_]) (l3:= []) G
      refine⟨⟨fun _=>G.pk [1,2,3,4,6,8,9,5],G.pk [1,2,3,4,6,8,9,5]⟩,?_⟩
      refine(zDw 12 YH)<|zdd<|zh<|htn ?_
      refine Xq ?_ ?_<;>intro hc
      ·
       refine hsq<|hrz ?_
       refine(zP)<|zln<|zh<|htn<|hrt<|zbr<|ztr<|ztr<|zbr<|ztr<|Oi ?_
       have zq:=Oc (fun ac=>ac ‹¬xn›)
       exact⟨False,s,aa,aw,(B_false not_false).symm,fun J=>J.elim,fun _=>z6 zq,by rw [WU not_false];rw [WU zq] at G;exact G.pk [0,1,2,3,4,5,6,7,8,9,10]⟩
      refine hsk<|zbn<|htn<|hrz ?_
      refine zlv xmv ?_
      obtain⟨rfl,xW,aR⟩:=zQ (Oc ‹¬¬xn›)
      rw [Xr (Oc ‹¬¬xn›)] at G
      refine(zV (Zw (r:=k-1)))<|(zP)<|zln<|zh<|hlq ⟨ab,k,k-1,rfl,Oa,Oa,?_,?_,rfl,G⟩
      ·
       exact xW
      ·
       rw [aR,U,U5 (k:=k) _ Oa,show k-1+1-least wi i=k-least wi i by omega,List.append_assoc,List.append_assoc];rfl
     refine hsk<|htn<|hsq<|hrz ?_
     refine(zV (xlb 6 pl_22 G))<|(Om)<|(zV (xix (kk:=i) Zb W))<|zle (xso 7 pl_3 G (XM a i z k)) ?_;clear G;rintro w G
     refine zln<|zh<|htn<|hsq ?_
     refine hdst [1,2,3,4,6,8,9,5] [1,2,3,4,6,8,9,5] 1000 mx_ G ?_;clear G;intro w G
     refine(zDl 0 (fun w G=>(xlb 6 UI G)))<|(zDw 1 xmv)<|(zDw 2 (Zg (r:=i+1)))<|(zDw 3 xmv)<|(zDw 4 xmv)<|zdla 5 (fun w G=>(xls 0 st_32 G)) ?_
     have ai:=XW O X Oa Y.l0 (k:=k) Oa Oa
     refine(zDw 6 xmv)<|(zDw 10 xmv)<|zdc 7 (xc0 X0) (X1 (p:=p) (i:=i) w (h.below G.below) O Oa Oa) ?_;rintro _ w ⟨rfl,I⟩
     replace G:=G.cmp I;clear I
     refine⟨⟨fun _=>G.pk [1,2,3,4,6,8,9,5],G.pk [1,2,3,4,6,8,9,5]⟩,?_⟩
     refine(zDw 8 (Z2 (r:=(k*(p.L i+p.bo))) (e:=rfl)))<|(zDw 9 (Zw (r:=l-(k*(p.L i+p.bo)))))<|zdc 11 (xcc (vs:= [_,_,_]) T6) (ih (s:=V) (i:=i+1) (a:=upd a i k) (l:=l-k*(p.L i+p.bo)) (need:=need) (pre:=qe V) (post:=dn (kid p wi i a l) (least wi i) (k-least wi i).toNat++post) w0 w (Sat.gg (l1:= [_,_,_,_,_,_,_,_,_,_]) (G.pk [0,1,2,3,4,5,6,7,8,9,10])) h W Oa Oa (Y.step O X Oa Oa Oa) (hn.no X Oa) ad rfl (by rw [U,U5 (k:=k) _ Oa,List.append_assoc];rfl) hY Oa) ?_;rintro _ w ⟨xn,ab,aa,aw,rfl,zQ,z6,G⟩
     replace G:=Sat.fx (l1:= [_,_,_,_,_,_,_,_,_,_]) (l3:= []) G
     refine⟨⟨fun _=>G.pk [1,2,3,4,6,8,9,5],G.pk [1,2,3,4,6,8,9,5]⟩,?_⟩
     refine(zDw 12 YH)<|zdd<|zh<|htn ?_
     refine Xq ?_ ?_<;>intro hc
     ·
      refine hsq<|hrz ?_
      refine(zP)<|zln<|zh<|htn<|hrt<|zbr<|ztr<|ztr<|zbr<|ztr<|Oi ?_
      have zq:=Oc (fun ac=>ac ‹¬xn›)
      exact⟨False,s,aa,aw,(B_false not_false).symm,fun J=>J.elim,fun _=>z6 zq,by rw [WU not_false];rw [WU zq] at G;exact G.pk [0,1,2,3,4,5,6,7,8,9,10]⟩
     refine hsk<|zbn<|htn<|hrz ?_
     refine zlv xmv ?_
     obtain⟨rfl,xW,aR⟩:=zQ (Oc ‹¬¬xn›)
     rw [Xr (Oc ‹¬¬xn›)] at G
     refine(zV (Zw (r:=k-1)))<|(zP)<|zln<|zh<|hlq ⟨ab,k,k-1,rfl,Oa,Oa,?_,?_,rfl,G⟩
     ·
      exact xW
     ·
      rw [aR,U,U5 (k:=k) _ Oa,show k-1+1-least wi i=k-least wi i by omega,List.append_assoc,List.append_assoc];rfl
    refine hxt<|ztx<|ztx<|zbh<|htn<|hsq<|hrz ?_
    refine(zV (xlb 6 pl_22 G))<|(zP)<|(zV (xix (kk:=i) Zb W))<|zle (xso 7 pl_3 G (XM a i z 0)) ?_;clear G;rintro w G
    refine zln<|zh<|htn<|hsq<|hrz ?_
    refine(zP)<|zln<|zh<|htn<|hrt<|Oi ?_
    rw [VT (show a i=0 from Y.zero i Oa)] at G
    have aq:k+1-least wi i=0:=Oa
    rw [show(k+1-least wi i).toNat=0 by omega] at U
    exact⟨True,V,t0,a,(ZP trivial).symm,fun _=>⟨rfl,ad,List.append_cancel_right (by rw [<-U,hM,List.append_assoc];rfl)⟩,fun J=>absurd trivial J,by rw [Xr trivial];exact G.pk [0,1,2,3,4,5,6,7,8,9,10]⟩
   refine hsk<|htn<|hsq<|hsq ?_
   refine hdst [0,1,2,3,4,5,6,7,8,9,10] [0,1,2,3,4,5,6,7,8,9,10] 1000 mx_ G ?_;clear G;intro w G
   refine(zDw 0 (xfb 1 fd_32_1))<|(zDl 1 (fun w G=>(xlb 1 pl_22 G)))<|(zDw 2 xmv)<|(zDw 3 (xix (kk:=i) Zb h.D.cf))<|zdla 4 (fun w G=>(xlr (u:= .int Oh (p.D i)) pl_3 (h.D.below G.below))) ?_
   have ak:=h.iD i
   have aj:=O.all i X Oa;unfold Prob.each at aj
   have an:=YV (a:=l) (b:=p.L i+p.bo) Oa Oa
   have ao:min (p.D i) (Int.tdiv l (p.L i+p.bo))=most p i l:=rfl
   refine(zDw 5 xmv)<|(zDl 6 (fun w G=>(xls 1 st_32 G)))<|(zDw 7 xmv)<|zdc 8 (xc0 X0) (X1 (p:=p) (i:=i) w (h.below G.below) O Oa Oa) ?_;rintro _ w ⟨rfl,I⟩
   replace G:=G.cmp I;clear I
   refine⟨⟨fun _=>G,G⟩,?_⟩
   refine(zDw 9 (VC (r:=(Int.tdiv l (p.L i+p.bo)))))<|(zDw 10 (U9 (r:=(min (p.D i) (Int.tdiv l (p.L i+p.bo))))))<|(zDw 11 xas)<|zdd<|zh<|htn<|hbk ?_
   have ap:least wi i=0:=by unfold least;first|rw [if_pos Oa]|rw [if_neg Oa]
   rw [<-VT (show a i=0 from Y.zero i Oa)] at G
   refine hlp (fun mm M w=>∃(V:St) (z:Int) (k:Int),mm=((k+1-least wi i).toNat)/\(least wi i-1<=k\/k=most p i l)/\(k<=most p i l)/\(ae V)/\(MX p wi=qe V++(dn (kid p wi i a l) (least wi i) (k+1-least wi i).toNat++post))/\M= [(0,.int Oh i),(1,.int Oh l),(2,.int Oh need),(5,Oq ga),(8,Oq g2),(9,Oq gv),(15,.int Oh 0),(16,.int Oh k)]/\Sat w0 w [.sem (C V),.blk g2 [vL,vD,.int Oh p.b8,.int Oh p.bo],.blk g3 [.int Oh wi],.blk g5 [.int Oh p.m],.blk g6 [vl],.own vl 1 3 (p.m+1) (ints (XL p)),.blk ga [va],.own va 1 3 p.m (ints (upd a i z)),.blk gy [.func (.yield lq) #[] #[]],.blk gv [.func (.func 150) #[] #[Oq g6,Oq g5,Oq ga,Oq gy,Oq g3,Oq g2,Oq gv]],.sem F]) ⟨s,0,(min (p.D i) (Int.tdiv l (p.L i+p.bo))),rfl,Oa,Oa,?_,?_,rfl,G⟩ ?_
   ·
    exact hI
   ·
    rw [hM,Wr X Oa,Z];rfl
   clear G w
   rintro mm M w ⟨V,z,k,rfl,k0,k1,ad,U,rfl,G⟩
   refine hsq<|hsq<|hrz ?_
   refine(On)<|zln<|zh<|htn ?_
   refine Xq ?_ ?_<;>intro hc
   ·
    refine hsk<|htn<|hsq<|hbk<|hsq<|hrz ?_
    refine(Om)<|zln<|zh<|htn<|hsq<|hsq<|hrz ?_
    refine(zP)<|(zV (xfb 1 fd_32_1))<|(zV (xlb 1 pl_22 G))<|(zP)<|(zV (xix (kk:=i) Zb h.D.cf))<|zlv (xlr (u:= .int Oh (p.D i)) pl_3 (h.D.below G.below)) ?_
    have ak:=h.iD i
    refine(zP)<|zln<|zh<|htn ?_
    refine Xq ?_ ?_<;>intro hc
    ·
     refine hrz ?_
     refine(zP)<|(zV (xls 1 st_32 G))<|(zP)<|zlc (xc0 X0) (X1 (p:=p) (i:=i) w (h.below G.below) O Oa Oa) ?_;rintro _ w ⟨rfl,I⟩
     replace G:=G.cmp I;clear I
     refine(zV (U9 (r:=(min need (p.L i+p.bo)))))<|(zP)<|zln<|zh<|htn<|hsq<|hrz ?_
     refine(zV (xlb 6 pl_22 G))<|(Om)<|(zV (xix (kk:=i) Zb W))<|zle (xso 7 pl_3 G (XM a i z k)) ?_;clear G;rintro w G
     refine zln<|zh<|htn<|hsq ?_
     refine hdst [1,2,3,4,6,8,9,5] [1,2,3,4,6,8,9,5] 1000 mx_ G ?_;clear G;intro w G
     refine(zDl 0 (fun w G=>(xlb 6 UI G)))<|(zDw 1 xmv)<|(zDw 2 (Zg (r:=i+1)))<|(zDw 3 xmv)<|(zDw 4 xmv)<|zdla 5 (fun w G=>(xls 0 st_32 G)) ?_
     have ai:=XW O X Oa Y.l0 (k:=k) Oa Oa
     refine(zDw 6 xmv)<|(zDw 10 xmv)<|zdc 7 (xc0 X0) (X1 (p:=p) (i:=i) w (h.below G.below) O Oa Oa) ?_;rintro _ w ⟨rfl,I⟩
     replace G:=G.cmp I;clear I
     refine⟨⟨fun _=>G.pk [1,2,3,4,6,8,9,5],G.pk [1,2,3,4,6,8,9,5]⟩,?_⟩
     refine(zDw 8 (Z2 (r:=(k*(p.L i+p.bo))) (e:=rfl)))<|(zDw 9 (Zw (r:=l-(k*(p.L i+p.bo)))))<|zdc 11 (xcc (vs:= [_,_,_]) T6) (ih (s:=V) (i:=i+1) (a:=upd a i k) (l:=l-k*(p.L i+p.bo)) (need:=(min need (p.L i+p.bo))) (pre:=qe V) (post:=dn (kid p wi i a l) (least wi i) (k-least wi i).toNat++post) w0 w (Sat.gg (l1:= [_,_,_,_,_,_,_,_,_,_]) (G.pk [0,1,2,3,4,5,6,7,8,9,10])) h W Oa Oa (Y.step O X Oa Oa Oa) (hn.yes X Oa) ad rfl (by rw [U,U5 (k:=k) _ Oa,List.append_assoc];rfl) hY Oa) ?_;rintro _ w ⟨xn,ab,aa,aw,rfl,zQ,z6,G⟩
     replace G:=Sat.fx (l1:= [_,_,_,_,_,_,_,_,_,_]) (l3:= []) G
     refine⟨⟨fun _=>G.pk [1,2,3,4,6,8,9,5],G.pk [1,2,3,4,6,8,9,5]⟩,?_⟩
     refine(zDw 12 YH)<|zdd<|zh<|htn ?_
     refine Xq ?_ ?_<;>intro hc
     ·
      refine hsq<|hrz ?_
      refine(zP)<|zln<|zh<|htn<|hrt<|zbr<|ztr<|ztr<|zbr<|ztr<|Oi ?_
      have zq:=Oc (fun ac=>ac ‹¬xn›)
      exact⟨False,s,aa,aw,(B_false not_false).symm,fun J=>J.elim,fun _=>z6 zq,by rw [WU not_false];rw [WU zq] at G;exact G.pk [0,1,2,3,4,5,6,7,8,9,10]⟩
     refine hsk<|zbn<|htn<|hrz ?_
     refine zlv xmv ?_
     obtain⟨rfl,xW,aR⟩:=zQ (Oc ‹¬¬xn›)
     rw [Xr (Oc ‹¬¬xn›)] at G
     refine(zV (Zw (r:=k-1)))<|(zP)<|zln<|zh<|hlq ⟨ab,k,k-1,rfl,Oa,Oa,?_,?_,rfl,G⟩
     ·
      exact xW
     ·
      rw [aR,U,U5 (k:=k) _ Oa,show k-1+1-least wi i=k-least wi i by omega,List.append_assoc,List.append_assoc];rfl
    refine hsk<|htn<|hsq<|hrz ?_
    refine(zV (xlb 6 pl_22 G))<|(Om)<|(zV (xix (kk:=i) Zb W))<|zle (xso 7 pl_3 G (XM a i z k)) ?_;clear G;rintro w G
    refine zln<|zh<|htn<|hsq ?_
    refine hdst [1,2,3,4,6,8,9,5] [1,2,3,4,6,8,9,5] 1000 mx_ G ?_;clear G;intro w G
    refine(zDl 0 (fun w G=>(xlb 6 UI G)))<|(zDw 1 xmv)<|(zDw 2 (Zg (r:=i+1)))<|(zDw 3 xmv)<|(zDw 4 xmv)<|zdla 5 (fun w G=>(xls 0 st_32 G)) ?_
    have ai:=XW O X Oa Y.l0 (k:=k) Oa Oa
    refine(zDw 6 xmv)<|(zDw 10 xmv)<|zdc 7 (xc0 X0) (X1 (p:=p) (i:=i) w (h.below G.below) O Oa Oa) ?_;rintro _ w ⟨rfl,I⟩
    replace G:=G.cmp I;clear I
    refine⟨⟨fun _=>G.pk [1,2,3,4,6,8,9,5],G.pk [1,2,3,4,6,8,9,5]⟩,?_⟩
    refine(zDw 8 (Z2 (r:=(k*(p.L i+p.bo))) (e:=rfl)))<|(zDw 9 (Zw (r:=l-(k*(p.L i+p.bo)))))<|zdc 11 (xcc (vs:= [_,_,_]) T6) (ih (s:=V) (i:=i+1) (a:=upd a i k) (l:=l-k*(p.L i+p.bo)) (need:=need) (pre:=qe V) (post:=dn (kid p wi i a l) (least wi i) (k-least wi i).toNat++post) w0 w (Sat.gg (l1:= [_,_,_,_,_,_,_,_,_,_]) (G.pk [0,1,2,3,4,5,6,7,8,9,10])) h W Oa Oa (Y.step O X Oa Oa Oa) (hn.no X Oa) ad rfl (by rw [U,U5 (k:=k) _ Oa,List.append_assoc];rfl) hY Oa) ?_;rintro _ w ⟨xn,ab,aa,aw,rfl,zQ,z6,G⟩
    replace G:=Sat.fx (l1:= [_,_,_,_,_,_,_,_,_,_]) (l3:= []) G
    refine⟨⟨fun _=>G.pk [1,2,3,4,6,8,9,5],G.pk [1,2,3,4,6,8,9,5]⟩,?_⟩
    refine(zDw 12 YH)<|zdd<|zh<|htn ?_
    refine Xq ?_ ?_<;>intro hc
    ·
     refine hsq<|hrz ?_
     refine(zP)<|zln<|zh<|htn<|hrt<|zbr<|ztr<|ztr<|zbr<|ztr<|Oi ?_
     have zq:=Oc (fun ac=>ac ‹¬xn›)
     exact⟨False,s,aa,aw,(B_false not_false).symm,fun J=>J.elim,fun _=>z6 zq,by rw [WU not_false];rw [WU zq] at G;exact G.pk [0,1,2,3,4,5,6,7,8,9,10]⟩
    refine hsk<|zbn<|htn<|hrz ?_
    refine zlv xmv ?_
    obtain⟨rfl,xW,aR⟩:=zQ (Oc ‹¬¬xn›)
    rw [Xr (Oc ‹¬¬xn›)] at G
    refine(zV (Zw (r:=k-1)))<|(zP)<|zln<|zh<|hlq ⟨ab,k,k-1,rfl,Oa,Oa,?_,?_,rfl,G⟩
    ·
     exact xW
    ·
     rw [aR,U,U5 (k:=k) _ Oa,show k-1+1-least wi i=k-least wi i by omega,List.append_assoc,List.append_assoc];rfl
   refine hxt<|ztx<|ztx<|zbh<|htn<|hsq<|hrz ?_
   refine(zV (xlb 6 pl_22 G))<|(zP)<|(zV (xix (kk:=i) Zb W))<|zle (xso 7 pl_3 G (XM a i z 0)) ?_;clear G;rintro w G
   refine zln<|zh<|htn<|hsq<|hrz ?_
   refine(zP)<|zln<|zh<|htn<|hrt<|Oi ?_
   rw [VT (show a i=0 from Y.zero i Oa)] at G
   have aq:k+1-least wi i=0:=Oa
   rw [show(k+1-least wi i).toNat=0 by omega] at U
   exact⟨True,V,t0,a,(ZP trivial).symm,fun _=>⟨rfl,ad,List.append_cancel_right (by rw [<-U,hM,List.append_assoc];rfl)⟩,fun J=>absurd trivial J,by rw [Xr trivial];exact G.pk [0,1,2,3,4,5,6,7,8,9,10]⟩
theorem ZkB:ZV Oj 209=some (.nilFunc,1,8):=Ob
theorem Zmx{vL vD:Value}{p:Prob}{wi:Int}{St Tt:Type}(O:St->List (Oe))(G:St->Prop)(J:Tt->Prop)(t0:Tt)(s0:St)(aa:O s0= [])(ab:G s0){g2 g3 g5 g6:Nat}{V:Value}(w0:World)(Z:Slh V (p.m+1))(I:p.Ok)(h:PAt w0 vL vD p):ItG (St:=St) (X:=BX) (Tt:=Tt) Oj w0 149 [Oq g5,Oq g6,Oq g3,Oq g2] [.blk g2 [vL,vD,.int Oh p.b8,.int Oh p.bo],.blk g3 [.int Oh wi],.blk g5 [.int Oh p.m],.blk g6 [V],.own V 1 3 (p.m+1) (ints (XL p))] (fun x=> [x.v]) (fun x=> [.own x.v 1 3 x.n (ints x.f)]) (fun(s:St) (x:BX) (rest:Gw.Frame)=>G s/\Slh x.v x.n/\x.n=p.m/\∃r,MX p wi=O s++x.f::r) (fun(s:St) (x:BX) (s1:St)=>O s1=O s++ [x.f]/\G s1) (fun _ _ t=>J t) (s0) (fun s rest=>G s/\O s=MX p wi) (fun t _=>J t):=by
 intro l C D w F hY
 have hm:=h.L.cf.n0;have ag:=h.L.cf.n1;have aj:=h.D.cf.n0;have j4:=h.D.cf.n1;have hs:=h.is;have hk:=h.ik
 have ae:=I.m1;have qH:=I.m2;have af:=I.d;have ad:=I.s1;have ac:=I.s2;have ai:=I.k1;have ah:=I.k2
 refine Zfp Tryz.func149 Tryz.ntmps149 ?_
 refine hsq<|hrz ?_
 refine zla (xbx (cs:= [_]) F) ?_;rintro _ w ⟨g7,rfl,F⟩
 replace F:=F.n7
 refine zln<|zh<|htn<|hsq<|hrz ?_
 refine zlv (xlb 3 pl_3 F) ?_
 refine zla (xmk Zb Zm F) ?_;rintro v1 w ⟨F,U⟩
 replace F:=F.n8
 refine zla (xal (cs:= [_]) Z9 F) ?_;rintro _ w ⟨g8,rfl,F⟩
 replace F:=F.n9
 refine zle (xsb 8 pl_22 F (hv:=U.one)) ?_;clear F;rintro w F
 replace F:=F.n9
 refine zln<|zh<|htn<|hsq<|hrz ?_
 refine zla (xal (cs:= [_]) ZkB F) ?_;rintro _ w ⟨g9,rfl,F⟩
 replace F:=F.n10
 refine zln<|zh<|htn<|hsq<|hrz ?_
 refine zlv xmf ?_
 refine zle (xsb 9 UI F) ?_;clear F;rintro w F
 replace F:=F.n10
 refine zln<|zh<|htn<|hrz ?_
 refine zlv (xlb 9 UI F) ?_
 refine zlv (xfb 2 fd_32_2) ?_
 refine zlv (xlb 1 pl_3 F) ?_
 refine zlv (xfb 3 fd_32_3) ?_
 refine zlv (xlb 1 pl_3 F) ?_
 refine zlv (Zg (r:=p.b8+p.bo)) ?_
 refine zlv (xfb 2 fd_32_2) ?_
 refine zlv (xlb 1 pl_3 F) ?_
 refine zlv (xfb 3 fd_32_3) ?_
 refine zlv (xlb 1 pl_3 F) ?_
 refine zlv (Zg (r:=p.b8+p.bo)) ?_
 refine zlv (Zg (r:=p.b8+p.bo+1)) ?_
 refine zlc (xcc (vs:= [_,_,_]) T6) (ZiD I O G J t0 Z _ (s:=s0) (i:=0) (a:=fun _=>0) (l:=p.b8+p.bo) (need:=p.b8+p.bo+1) (pre:= []) (post:= []) w0 w (Sat.gg (l1:= [_,_,_,_,_,_,_,_,_,_]) (l2:= []) (F.pk [0,1,2,3,4,5,8,7,6,9])) h U Oa Oa (Pfx.start I) (NeedP.start p) ab aa (by rw [List.nil_append,List.append_nil];rfl) hY (Nat.lt_succ_self _)) ?_;rintro _ w ⟨xn,Y,W,aw,rfl,zQ,z6,F⟩
 replace F:=Sat.fx (l1:= [_,_,_,_,_,_,_,_,_,_]) (l3:= []) F
 replace F:=F.n10
 refine zln<|zh<|XP ⟨_,rfl,?_⟩
 by_cases hok:xn
 · obtain⟨_,hi,hh⟩:=zQ hok
   rw [Xr hok] at F
   exact .inl ⟨Y,_,⟨hi,by rw [hh,List.nil_append];rfl⟩,Sat.gg (l1:= [_,_,_,_,_,_]) F⟩
 · rw [WU hok] at F
   exact .inr ⟨W,_,z6 hok,Sat.gg (l1:= [_,_,_,_,_,_]) F⟩
theorem Zl8:Zc Oj 114=true:=Ob
theorem ZlM:Zc Oj 149=true:=Ob
theorem Zns:ZV Oj 49=some (.int Oh 0,1,8):=Ob
structure WSt where
  v:Value
  n:Int
  vv:Int->Value
  f:Of
  l:List (Oe)
def ZoF(p:Prob)(s:WSt):Prop:=Slh s.v s.n/\Ls p.m s.n s.f s.l/\s.n<=300
def Zm5(p:Prob)(wi u:Int)(f:Of)(e:Int):Prop:=(300<(MX p wi).length/\e=9/\u=0)\/((MX p wi).length<=300/\e=0/\Ls p.m u f (MX p wi))
theorem ZgR{vL vD:Value}{p:Prob}{wi:Int}(w0:World)(h:PAt w0 vL vD p)(I:p.Ok):
   Calls Oj 77 [.agg #[vL,vD,.int Oh p.b8,.int Oh p.bo],.int Oh wi].toArray w0 fun e w=>∃v,e= .returned v/\∃r u vv f e,v= .tuple #[r,.int Oh e]/\Zm5 p wi u f e/\Slh r u/\Sat w0 w [.own r 1 22 u vv,.sem (Frame.rows 3 u vv (fun _=>p.m) f)]:=by
 obtain⟨hm,am,hd,hd1,hs,hk⟩:=h.Oo
 have ak:=I.m1;have qH:=I.m2;have al:=I.d;have aj:=I.s1;have ai:=I.s2;have ao:=I.k1;have an:=I.k2
 refine Zie Tryz.func77 Tryz.ntmps77 fun w D=> ?_
 refine hsq<|hrz ?_
 refine zla (xbx (cs:= [_,_,_,_]) D) ?_;rintro _ w ⟨g1,rfl,D⟩
 refine zla (xal (cs:= [_]) ZfO D) ?_;rintro _ w ⟨g2,rfl,D⟩
 refine zla (xal (cs:= [_]) Zns D) ?_;rintro _ w ⟨g3,rfl,D⟩
 refine zln<|zh<|htn<|hsq<|hrz ?_
 refine zla (xal (cs:= [_]) ZfO D) ?_;rintro _ w ⟨g4,rfl,D⟩
 refine zln<|zh<|htn<|hsq<|hsq<|hrz ?_
 refine(zV (xls 0 st_32 D))<|(zP)<|zlc (xc0 Zl8) (Zex (p:=p) (wi:=wi) w (h.below D.below) I) ?_;rintro _ w ⟨g5,g6,g7,g8,af,rfl,jt,Y⟩
 replace D:=(D.comp Y).n9;clear Y
 refine zln<|zh<|htn<|hbk ?_
 replace D:=D.cg 1 22 (fun _=>Og)
 replace D:=D.fa 3 (fun _=>Og) (fun _=>p.m) (fun _ _=>0)
 refine Znj (St:=WSt) (X:=BX) (Tt:=Unit) (fun s=> [.blk g1 [vL,vD,.int Oh p.b8,.int Oh p.bo],.blk g2 [Og],.blk g3 [.int Oh 0],.blk g4 [s.v],.own s.v 1 22 s.n s.vv,.sem (Frame.rows 3 s.n s.vv (fun _=>p.m) s.f)]) (fun t=> [.blk g2 [Og],.blk g3 [.int Oh 9]]) (fun _=> .ret) (⟨Og,0,fun _=> Og,fun _ _=>0, []⟩:WSt) (fun x M es=>M= [(0,.agg #[vL,vD,.int Oh p.b8,.int Oh p.bo]),(1,.int Oh wi),(2,Oq g1),(4,Oq g2),(5,Oq g3),(6,Oq g4),(8,.agg #[vL,vD,.int Oh p.b8,.int Oh p.bo]),(9,.int Oh wi),(10,.func (.func 149) #[] #[Oq g7,Oq g8,Oq g6,Oq g5]),(11,x.v),(7,x.v)]/\es= [.own x.v 1 3 x.n (ints x.f)]) (Zmx (wi:=wi) (fun s=>s.l) (ZoF p) (fun(_:Unit)=>300<(MX p wi).length) () (⟨Og,0,fun _=> Og,fun _ _=>0, []⟩:WSt) rfl ⟨slh_nil,Ls.nil,by show(0:Int)<=300;omega⟩ w0 jt I h) (D.pk [0,1,2,3,9,10,4,5,6,7,8]) ZlM (fun _=>rfl) (fun _=> .inl rfl) ?_ ?_ ?_ ?_
 ·
  intro lq s x rest w qE xb ab D
  refine hrz ?_
  refine(zP)<|zln<|zh<|Zfq ⟨rfl,rfl⟩ D
 ·
  rintro lq s x _ _ rest w qE ⟨rfl,rfl⟩ xb ab D
  obtain⟨⟨F,G,ad⟩,U,ag,r9,ae⟩:=qE
  have ac:=fun k (O:0<=k) (J:k<s.n)=>D.db 5 rfl O J
  have aa:=F.n0
  have xV:=G.1
  refine hbk<|hsq<|hsq<|hrz ?_
  refine(zV (xlb 3 Zs D))<|(zV (xln Zi F))<|(zP)<|zln<|zh<|htn ?_
  refine Xq ?_ ?_<;>intro hc
  ·
   refine hsq<|hrz ?_
   refine zle (xsb 1 Zs D) ?_;clear D;rintro w D
   refine zle (xsb 2 pl_49 D) ?_;clear D;rintro w D
   refine zln<|zh<|htn<|hrt<|ztr<|zbr<|Zfo () (by show 300<(MX p wi).length;rw [ae,List.length_append,List.length_cons];omega) rfl (D.pk [1,2,6,7,8,9,10,11])
  refine hsk<|htn<|hrz ?_
  refine(zV (xlb 3 Zs D))<|(zP)<|zla (xli (n:=1) (len:=1) (pv:= [(0,x.v)]) (cs:= [x.v]) (c:=(fun _=>x.v)) Zi Z9 D (hf:=by have hz:=U;revert hz;generalize x.v=z;rintro⟨_,_,_,_,rfl,_⟩;show _=_;kernel_rfl)) ?_;rintro v1 w ⟨D,ah⟩
  refine zla (xap 4 (r:=s.n+1) Zi Z9 D (D.c7 13 rfl) (Xa _ _ _) (h1:=fun _ _ _=>U.one)) ?_;rintro v2 w ⟨D,V⟩
  replace D:=Sat.merge (l1:= [_,_,_,_,_]) (l2:= [_,_,_,_,_,_]) (l3:= [_]) D Oa
  have qG:=fun k (O:0<=k) (J:k<s.n+1)=>D.db 5 rfl O J
  refine zle (xsb 3 Zs D (hv:=V.one)) ?_;clear D;rintro w D
  refine zln<|zh<|zbn ?_
  replace D:=D.gj (vv':=(gsn s.vv s.n x.v)) (ln':=fun _=>p.m) (f':=(gsn s.f s.n x.f)) 5 rfl (fun k O J=>⟨rfl,by unfold gsn;split<;>(try dsimp only)<;>omega,fun _ _ _=>rfl⟩)
  refine Zch ⟨v2,s.n+1,gsn s.vv s.n x.v,gsn s.f s.n x.f,s.l++ [x.f]⟩ ⟨rfl,V,G.snoc fun _ _ _=>rfl,by show s.n+1<=300;omega⟩ (D.pk [0,1,2,3,4,5,6,7,8,9,10,11])
 ·
  intro Dk s rest w Z D
  obtain⟨⟨F,G,ad⟩,W⟩:=Z
  have ac:=fun k (O:0<=k) (J:k<s.n)=>D.db 5 rfl O J
  have aa:=F.n0
  have xV:=G.1
  refine zbn<|htn<|hsq<|hrz ?_
  refine(zV (xlb 3 Zs D))<|zle (xsb 1 Zs D (hv:=F.one)) ?_;clear D;rintro w D
  refine zle (xsb 2 pl_49 D) ?_;clear D;rintro w D
  refine zln<|zh<|htn<|hrt<|Zci 12 D fun w D=>Zm8 Zs pl_49 (D.gw 1 rfl rfl) (D.gw 2 rfl rfl) ⟨_,rfl,?_⟩
  exact⟨_,_,_,_,0,rfl,.inr ⟨by rw [<-W];omega,rfl,by rw [<-W];exact G⟩,F,D.pk [4,5]⟩
 ·
  intro Dk t rest w Z D
  show Ge _ _ _ .ret _ _
  refine zbr<|ztr<|Zci 8 D fun w D=>Zm8 Zs pl_49 (D.gw 0 rfl rfl) (D.gw 1 rfl rfl) ⟨_,rfl,?_⟩
  exact⟨_,0,_,_,_,rfl,.inl ⟨Z,rfl,rfl⟩,slh_nil,((D.sub (.cons _ (.cons _ (.cons _ (.cons _ (.cons _ (.cons _ (.cons _ (.cons _ (.cons _ .slnil)))))))))).cg 1 22 (fun _=>Og)).fa 3 (fun _=>Og) (fun _=>p.m) (fun _ _=>0)⟩
theorem ZnE:Zc Oj 77=true:=Ob
theorem ZiQ{vL vD:Value}{p:Prob}{wi:Int}(w0:World)(h:PAt w0 vL vD p):
   Calls Oj 44 [.agg #[vL,vD,.int Oh p.b8,.int Oh p.bo],.int Oh wi].toArray w0 fun e w=>∃v,e= .returned v/\∃r u vv f e,v= .tuple #[r,.int Oh e]/\Zok p wi u f e/\Slh r u/\Sat w0 w [.own r 1 22 u vv,.sem (Frame.rows 3 u vv (fun _=>p.m) f)]:=by
 obtain⟨hm,Y,hd,hd1,hs,hk⟩:=h.Oo
 refine zenG Tryz.func44 Tryz.ntmps44 fun w D=> ?_
 refine zsr<|zla (xbx (cs:= [_,_,_,_]) D) ?_;rintro _ w ⟨g1,rfl,D⟩
 refine(Om)<|zlt<|zsq<|zbk<|zsr<|(zV (xls 0 st_32 D))<|zlc (xc0 XZ) (Yn (p:=p) w (h.below D.below)) ?_;rintro _ w ⟨rfl,G⟩
 replace D:=D.cmp G;clear G
 refine(Om)<|zlt<|Ze ?_ ?_<;>intro hc
 ·
  refine zsr<|(Om)<|Xt<|zf2 ⟨_,rfl,?_⟩
  exact⟨_,0,_,_,_,rfl,.inl ⟨‹¬p.Ok›,rfl,rfl⟩,slh_nil,((D.sub (.cons _ .slnil)).cg 1 22 (fun _=>Og)).fa 3 (fun _=>Og) (fun _=>p.m) (fun _ _=>0)⟩
 refine zsr<|zs2 ?_
 have F:p.Ok:=by first|assumption|exact Oc ‹_›
 have W:=F.m1;have qH:=F.m2;have X:=F.d;have V:=F.s1;have U:=F.s2;have aa:=F.k1;have Z:=F.k2
 refine(zP)<|zlb 13 ?_ ?_<;>intro hc
 ·
  iterate 5 refine zlo ?_
  refine(Om)<|zlt<|zct<|zsr ?_
  refine(Om)<|Xt<|zf2 ⟨_,rfl,?_⟩
  exact⟨_,0,_,_,_,rfl,.inr (.inl ⟨F,Oa,rfl,rfl⟩),slh_nil,((D.sub (.cons _ .slnil)).cg 1 22 (fun _=>Og)).fa 3 (fun _=>Og) (fun _=>p.m) (fun _ _=>0)⟩
 refine(zP)<|(zV (xfb 0 fd_32_0))<|(zV (xlb 0 pl_22 D))<|(zV (xln Zb h.L.cf))<|(On)<|zlt<|Ze ?_ ?_<;>intro hc
 ·
  refine zsr<|(Om)<|Xt<|zf2 ⟨_,rfl,?_⟩
  exact⟨_,0,_,_,_,rfl,.inr (.inl ⟨F,Oa,rfl,rfl⟩),slh_nil,((D.sub (.cons _ .slnil)).cg 1 22 (fun _=>Og)).fa 3 (fun _=>Og) (fun _=>p.m) (fun _ _=>0)⟩
 refine zsk<|zbn<|ztn<|zsr<|(zV (xls 0 st_32 D))<|(zP)<|zlc (xc0 ZnE) (ZgR (p:=p) (wi:=wi) w (h.below D.below) F) ?_;rintro _ w ⟨dG,I,bt,ab,ac,rfl,aD,bv,G⟩
 replace D:=(D.comp G).n3;clear G
 have fJ:∀k,0<=k->k<I->Slh (bt k) p.m:=fun k O J=>D.db 2 rfl O J
 refine zs4 ?_
 refine zx1<|zf2 ⟨_,rfl,?_⟩
 exact⟨_,_,_,_,_,rfl,(by rcases aD with⟨h8,h9⟩|⟨h8,h9,h7⟩;exact .inr (.inr (.inl ⟨F,Oa,h8,h9⟩));exact .inr (.inr (.inr ⟨F,Oa,h8,h9,h7⟩))),bv,D.pk [1,2]⟩
end Go.Proofs.YtkichmnjjblodaaGreat
namespace Go.Proofs.Gw
open Go Go.RowKit
variable {i j k:Int}
def pr2{α:Type}(x y:α):Int->α:=fun j=>if j=0 then x else y
def Z6(vv:Int->Value)(s k b:Int):Int->Value:=fun j=>if j%5=0 then vv (2*(j/5)) else if j%5=1 then vv (2*(j/5)+1) else if j%5=2 then .int Oh s else if j%5=3 then .int Oh k else .int Oh b
theorem Zij(vv:Int->Value)(s k b:Int)(h:j=5*i):Z6 vv s k b j=vv (2*i):=by
 unfold Z6;rw [if_pos Oa,show j/5=i by omega]
theorem Zii(vv:Int->Value)(s k b:Int)(h:j=5*i+1):Z6 vv s k b j=vv (2*i+1):=by
 unfold Z6;rw [if_neg Oa,if_pos Oa,show j/5=i by omega]
theorem Zih(vv:Int->Value)(s k b:Int)(h:j=5*i+2):Z6 vv s k b j= .int Oh s:=by
 unfold Z6;rw [if_neg Oa,if_neg Oa,if_pos Oa]
theorem Zig(vv:Int->Value)(s k b:Int)(h:j=5*i+3):Z6 vv s k b j= .int Oh k:=by
 unfold Z6;rw [if_neg Oa,if_neg Oa,if_neg Oa,if_pos Oa]
theorem Zif(vv:Int->Value)(s k b:Int)(h:j=5*i+4):Z6 vv s k b j= .int Oh b:=by
 unfold Z6;rw [if_neg Oa,if_neg Oa,if_neg Oa,if_neg Oa]
theorem R7(vv:Int->Value)(s k b:Int){q:Int}(h:q=5*i):∀(j:Nat) u, [vv (2*i),vv (2*i+1),Value.int Oh s,.int Oh k,.int Oh b][j]? =some u->Z6 vv s k b (q+j)=u:=fun j u D=>by
 rcases j with _|_|_|_|_|j
 · cases D;exact Zij vv s k b Oa
 · cases D;exact Zii vv s k b Oa
 · cases D;exact Zih vv s k b (i:=i) Oa
 · cases D;exact Zig vv s k b (i:=i) Oa
 · cases D;exact Zif vv s k b (i:=i) Oa
 · simp at D
theorem Zcj{vv:Int->Value}{s b:Int}(h:∀i,(vv i).oneCell'=true)(j:Int):(Z6 vv s k b j).oneCell'=true:=by
 unfold Z6
 split
 · exact h _
 · split
   · exact h _
   · split
     · rfl
     · split<;>rfl
theorem ZhQ{x y:Value}(F:x.oneCell'=true)(D:y.oneCell'=true)(i:Int):(pr2 x y i).oneCell'=true:=by
 unfold pr2;split
 · exact F
 · exact D
theorem ZcC(vv:Int->Value)(s k b n:Int)(x y:Value):cat (n*5) (Z6 vv s k b) (Z6 (pr2 x y) s k b)=Z6 (gsn (gsn vv (2*n) x) (2*n+1) y) s k b:=by
 funext j
 unfold cat Z6 gsn pr2
 by_cases h:j<n*5
 · simp only [if_pos h]
   have h1:2*(j/5)<2*n:=Oa
   have G:2*(j/5)+1<2*n:=Oa
   have F:2*(j/5)<2*n+1:=Oa
   have I:2*(j/5)+1<2*n+1:=Oa
   simp only [if_pos h1,if_pos G,if_pos F,if_pos I]
 · simp only [if_neg h]
   have O:(j-n*5)%5=j%5:=Oa
   have J:(j-n*5)/5=j/5-n:=Oa
   rw [O,J]
   have h1:¬2*(j/5)<2*n:=Oa
   have G:¬2*(j/5)+1<2*n+1:=Oa
   have F:¬2*(j/5-n)+1=0:=Oa
   simp only [if_neg h1,if_neg G,if_neg F]
   by_cases h5:2*(j/5)<2*n+1
   · have D:2*(j/5-n)=0:=Oa
     simp only [if_pos h5,if_pos D]
   · have D:¬2*(j/5-n)=0:=Oa
     simp only [if_neg h5,if_neg D]
theorem Sat.i7{w w0:World}{l:List Ent}{E:TypeId}{n m:Int}{vv:Int->Value}{ln:Oe}{f:Of}(i:Nat)(h:Sat w0 w l)(hi:l[i]? =some (.sem (Frame.rows E n vv ln f)))(e:n=m):Sat w0 w (l.set i (.sem (Frame.rows E m vv ln f))):=by
 subst e
 rw [YN hi,<-Yf hi];exact h
def gfn(p:Prob)(X:List (Oe)):Of:=fun k=>if k%2=0 then p.L else fun j=>p.D j-YO X (k/2) j
theorem Znn(p:Prob)(X:List (Oe))(h:k=2*i):gfn p X k=p.L:=by unfold gfn;rw [if_pos Oa]
theorem Zka(p:Prob)(X:List (Oe))(h:k=2*i+1):gfn p X k=fun j=>p.D j-YO X i j:=by unfold gfn;rw [if_neg Oa,show k/2=i by omega]
theorem Zea{p:Prob}(hd:p.d=p.m){X:List (Oe)}{x:Oe}(U:0<=i)(G:∀j,0<=j->j<p.m->x j=YO X i j)(vv:Int->Value):∀k,0<=k->k<2*i+2->vv k=vv k/\gsn (gsn (fun _=>p.m) (2*i) p.m) (2*i+1) p.d k=(fun _=>p.m) k/\
   ∀j,0<=j->j<gsn (gsn (fun _=>p.m) (2*i) p.m) (2*i+1) p.d k->gsn (gsn (gfn p X) (2*i) p.L) (2*i+1) (fun j=>p.D j-x j) k j=gfn p X k j:=fun k O J=>by
 refine⟨rfl,by unfold gsn;split<;>(try split)<;>first|rfl|exact hd,fun j F D=> ?_⟩
 have I:gsn (gsn (fun _=>p.m) (2*i) p.m) (2*i+1) p.d k=p.m:=by unfold gsn;split<;>(try split)<;>first|rfl|exact hd
 rw [I] at D
 by_cases e1:k<2*i
 · rw [Zp Oa,Zp e1]
 · by_cases e2:k<2*i+1
   · rw [Zp e2,Zq e1,Znn p X (i:=i) Oa]
   · rw [Zq e2,Zka p X (i:=i) Oa]
     show p.D j-x j=p.D j-YO X i j
     rw [G j F D]
end Go.Proofs.Gw
