import Derived.Test.YtpnamgfdakfccaaGreatTgB
import Derived.ArgAppend
import Derived.RangeFuncBox
import Derived.RangeFuncLeaves
set_option linter.unusedVariables false
set_option linter.unusedSimpArgs false
set_option maxRecDepth 20000
set_option maxHeartbeats 4000000
namespace Go.Proofs.YtpnamgfdakfccaaGreat
open Go Go.RowKit Go.Proofs.Gw
theorem ZnZ:Zc Om 162=true:=Oc
theorem ZnY:Zc Om 163=true:=Oc
theorem ZnX:Zc Om 164=true:=Oc
theorem J_:Zc Om 91=true:=Oc
def XR(p:cO)(u:Int)(mf:Og):Lp:=⟨u,p.m,p.d,fun _=>1,fun _=>u,fun i j=>mf j i,p.D⟩
def Ny(p:cO):So:=⟨0,p.m,fun _=>0,fun _=>0,0,1⟩
def UF(p:cO)(u:Int)(ml:Of)(mf:Og):Prop:=p.Ok/\∀k,0<=k->k<u->Z4 p (ml k) (mf k)
def qP(p:cO)(u:Int)(ml:Of)(mf:Og)(s:So)(e:Int):Prop:=
  (¬UF p u ml mf/\s=So.zero/\e=1)\/(UF p u ml mf/\(16<p.m\/60<u)/\s=So.zero/\e=9)\/
    (UF p u ml mf/\p.m<=16/\u<=60/\u=0/\(∃k,0<=k/\k<p.d/\0<p.D k)/\s=So.zero/\e=19)\/(UF p u ml mf/\p.m<=16/\u<=60/\u=0/\(∀k,0<=k->k<p.d->p.D k<=0)/\s=Ny p/\e=0)\/
    (UF p u ml mf/\p.m<=16/\u<=60/\1<=u/\vZ (XR p u mf) s e)
theorem CP{vL vD:Value}{p:cO}{vM:Value}{u:Int}{mv:Ov}{ml:Of}{mf:Og}(w0:World)(h:oO w0 vL vD p)(hM:sO w0 vM u mv ml mf):
   Calls Om 87 [.agg #[vL,vD,.int Oi p.bP,.int Oi p.aV],vM].toArray w0 fun e w=>∃v,e= .returned v/\∃vX vY s e,v= .tuple #[.agg #[vX,vY,.int Oi s.val,.int Oi s.den],.int Oi e]/\qP p u ml mf s e/\iK vX s.n/\iK vY s.m/\Sat w0 w [.own vX 1 3 s.n (ints s.X),.own vY 1 3 s.m (ints s.Y)]:=by
 obtain⟨hm,af,hd,hd1,hs,Y⟩:=h.Oq
 have hu:=hM.row.fP.n0;have ac:=hM.row.fP.n1
 refine iE Tryz.func87 Tryz.ntmps87 fun w D=> ?_
 refine fQ<|iG (nS (cs:= [_,_,_,_]) D) ?_;rintro _ w ⟨g1,rfl,D⟩
 refine iG (oh (cs:= [_,_,_,_]) Uw D) ?_;rintro _ w ⟨g2,rfl,D⟩
 refine(zP)<|ig<|lW<|o7<|fQ<|(zV (lH 0 iM D))<|iJ (xc0 XU) (Yd (p:=p) w (h.below D.below)) ?_;rintro _ w ⟨rfl,F⟩
 replace D:=D.cmp F;clear F
 refine(On)<|lX 10 ?_ ?_<;>intro hc
 {
 iterate 3 refine oq ?_
 refine(On)<|ig<|rW<|fQ ?_
 refine(zV (lF (v:= .agg #[Oh,Oh,.int Oi 0,.int Oi 0])))<|lJ (nD 1 ZW D) ?_;clear D;rintro w D
 refine(zP)<|XI<|Ye 1 ZW D ⟨_,rfl,?_⟩
 exact⟨_,_,So.zero,1,rfl,.inl ⟨fun⟨h1,Z⟩=>by
   first
   |exact absurd h1 ‹¬p.Ok›
   |exact hc (Z q q0 Oa)
   |(obtain⟨k,I,J,Y⟩:=‹∃k,0<=k/\k<u/\¬Z4 p (ml k) (mf k)›;exact Y (Z k I J)),rfl,rfl⟩,d_,d_,((D.sub (.cons _ (.cons _ .slnil))).fU 1 3 (ints So.zero.X)).fU 1 3 (ints So.zero.Y)⟩}
 refine(zP)<|(zV wX)<|iJ (xc0 IV) (ZiY (p:=p) (u:=u) (ml:=ml) (mf:=mf) w (D.holds _ (List.mem_of_getElem? (i:=0) rfl)) (h.below D.below) (hM.below D.below)) ?_;rintro _ w ⟨rfl,F⟩
 replace D:=D.cmp F;clear F
 refine(On)<|ig<|Zf ?_ ?_<;>intro hc
 {
 refine fQ<|(zV (lF (v:= .agg #[Oh,Oh,.int Oi 0,.int Oi 0])))<|lJ (nD 1 ZW D) ?_;clear D;rintro w D
 refine(zP)<|XI<|Ye 1 ZW D ⟨_,rfl,?_⟩
 exact⟨_,_,So.zero,1,rfl,.inl ⟨fun⟨h1,Z⟩=>by
   first
   |exact absurd h1 ‹¬p.Ok›
   |exact hc (Z q q0 Oa)
   |(obtain⟨k,I,J,Y⟩:=‹∃k,0<=k/\k<u/\¬Z4 p (ml k) (mf k)›;exact Y (Z k I J)),rfl,rfl⟩,d_,d_,((D.sub (.cons _ (.cons _ .slnil))).fU 1 3 (ints So.zero.X)).fU 1 3 (ints So.zero.Y)⟩}
 refine fQ<|iI (h_ 0 lu) ?_
 have N:p.Ok:=by first|assumption|exact Od ‹_›
 have O:∀k,0<=k->k<u->Z4 p (ml k) (mf k):=fun k I J=>Od fun hh=>‹¬∃k,0<=k/\k<u/\¬Z4 p (ml k) (mf k)› ⟨k,I,J,hh⟩
 have ae:=N.d;have ad:=N.m1;have qM:=N.m2
 refine(zV (g_ 0 dV D))<|(zV (iW Zb h.L.fP))<|(On)<|lX 21 ?_ ?_<;>intro hc
 {
 iterate 3 refine oq ?_
 refine(On)<|ig<|rW<|fQ ?_
 refine(zV (lF (v:= .agg #[Oh,Oh,.int Oi 0,.int Oi 0])))<|lJ (nD 1 ZW D) ?_;clear D;rintro w D
 refine(zP)<|XI<|Ye 1 ZW D ⟨_,rfl,?_⟩
 exact⟨_,_,So.zero,9,rfl,.inr (.inl ⟨⟨N,O⟩,Oa,rfl,rfl⟩),d_,d_,((D.sub (.cons _ (.cons _ .slnil))).fU 1 3 (ints So.zero.X)).fU 1 3 (ints So.zero.Y)⟩}
 refine(zP)<|(zV (iW Zk hM.row.fP))<|(Oo)<|ig<|Zf ?_ ?_<;>intro hc
 {
 refine fQ<|(zV (lF (v:= .agg #[Oh,Oh,.int Oi 0,.int Oi 0])))<|lJ (nD 1 ZW D) ?_;clear D;rintro w D
 refine(zP)<|XI<|Ye 1 ZW D ⟨_,rfl,?_⟩
 exact⟨_,_,So.zero,9,rfl,.inr (.inl ⟨⟨N,O⟩,Oa,rfl,rfl⟩),d_,d_,((D.sub (.cons _ (.cons _ .slnil))).fU 1 3 (ints So.zero.X)).fU 1 3 (ints So.zero.Y)⟩}
 refine fQ<|(zP)<|(zV (iW Zk hM.row.fP))<|(On)<|lX 31 ?_ ?_<;>intro hc
 {
 refine(zV (h_ 1 jF))<|(zV (g_ 0 dV D))<|iJ (xc0 J_) (JZ (n:=p.d) (f:=p.D) w (h.D.below D.below) Oa) ?_;rintro _ w ⟨x1,rfl,yk,yJ,F⟩
 replace D:=D.cmp F;clear F
 refine(Oo)<|ig<|Zf ?_ ?_<;>intro hc
 {
 refine fQ<|(zV (lF (v:= .agg #[Oh,Oh,.int Oi 0,.int Oi 0])))<|lJ (nD 1 ZW D) ?_;clear D;rintro w D
 refine(zP)<|XI<|Ye 1 ZW D ⟨_,rfl,?_⟩
 exact⟨_,_,So.zero,19,rfl,.inr (.inr (.inl ⟨⟨N,O⟩,Oa,Oa,Oa,by first|(obtain⟨k,I,J,Y⟩:=yk;exact⟨k,I,J,Oa⟩)|exact⟨_,‹0<=j›,‹j<p.d›,‹_›⟩|exact⟨j,Oa,Oa,Oa⟩,rfl,rfl⟩)),d_,d_,((D.sub (.cons _ (.cons _ .slnil))).fU 1 3 (ints So.zero.X)).fU 1 3 (ints So.zero.Y)⟩}
 refine fQ<|(zP)<|(zV (iW Zk hM.row.fP))<|(zV (F8 Y1))<|(zP)<|ig<|rW<|fQ ?_
 refine(zV (h_ 0 lu))<|(zV (g_ 0 dV D))<|(zV (iW Zb h.L.fP))<|iG (uF Zb Zq D) ?_;rintro v1 w ⟨D,U⟩
 refine iI (lF (v:= .agg #[Oh,v1,.int Oi 0,.int Oi 1]) (hr:=by obtain⟨_,_,_,_,rfl,_⟩:=U;kernel_rfl)) ?_
 refine lJ (nD 1 ZW D (hd:=(Za rfl (Za U.one (Za rfl (Za rfl Zj)))))) ?_;clear D;rintro w D
 refine(zP)<|XI<|Ye 1 ZW D ⟨_,rfl,?_⟩
 exact⟨_,_,Ny p,0,rfl,.inr (.inr (.inr (.inl ⟨⟨N,O⟩,Oa,Oa,Oa,(fun k I J=>by first|(have:=yJ k I J;omega)|(have:=qa k I Oa;omega)),rfl,rfl⟩))),d_,U,(D.fU 1 3 (ints fun _=>0)).pk [3,2]⟩}
 iterate 4 refine oq ?_
 refine(On)<|ig<|uD<|fQ ?_
 refine(zP)<|(zV (iW Zk hM.row.fP))<|(On)<|ig<|Zf ?_ ?_<;>intro hc
 {
 exfalso;omega}
 refine nX<|ng<|iP<|lW<|lg [0,1] [0] 16 nP D ?_;clear D;intro w D
 refine(b_ 1 gu)<|(b_ 2 (iW Zk hM.row.fP))<|(b_ 4 gu)<|(b_ 5 (h_ 0 lu))<|(iQ 6 (fun w D=>(g_ 0 dV D)))<|(b_ 7 (iW Zb h.L.fP))<|(b_ 9 (h_ 1 jF))<|(iQ 10 (fun w D=>(g_ 0 dV D)))<|oZ 0 (pO (n:=1) (len:=1) (pv:= [(0,.int Oi 1)]) (cs:= [.int Oi 1]) (c:=ints (fun _=>1)) Zb Zq D) ?_;rintro v2 w ⟨D,ab⟩
 refine⟨⟨fun _=>D.pk [0,1],D.pk [0]⟩,?_⟩
 refine pK 3 (xc0 ZnY) (ZiA (n:=u) w (D.f_ 2 rfl) Oa) ?_;rintro ed w ⟨_,rfl,eW,F⟩
 replace D:=(D.comp F).n4;clear F
 refine⟨⟨fun _=>D.pk [0,1],D.pk [0]⟩,?_⟩
 refine pK 8 (xc0 ZnX) (ZkM (n:=p.m) w (hM.below D.below) Oa Oa (fun k I J=>(O k I J).1.eq)) ?_;rintro cZ w ⟨_,eE,rfl,eU,F⟩
 replace D:=(D.comp F).n6;clear F
 have kC:=fun k (I:0<=k) (J:k<p.m)=>D.iw 5 rfl I J
 refine⟨⟨fun _=>D.pk [0,1],D.pk [0]⟩,?_⟩
 refine pK 11 (xc0 oD) (lU (n:=p.d) (f:=p.D) w (h.D.below D.below) Oa) ?_;rintro W w ⟨_,rfl,qd,F⟩
 replace D:=(D.comp F).n7;clear F
 refine⟨⟨fun _=>D.pk [0,1],D.pk [0]⟩,?_⟩
 refine ou 12 (lF (v:= .agg #[ed,cZ,W]) (hr:=by obtain⟨_,_,_,_,rfl,_⟩:=eW;obtain⟨_,_,_,_,rfl,_⟩:=eU;obtain⟨_,_,_,_,rfl,_⟩:=qd;kernel_rfl)) ?_
 refine pK 13 (xc0 ZnZ) (ZkQ (p:=(⟨u,p.m,p.d,(fun _=>(fun _=>1) 0),(fun _=>u),(fun i j=>mf j i),p.D⟩:Lp)) w (⟨(D.f_ 3 rfl),(⟨(D.f_ 4 rfl),fun k I J=>D.lI 5 rfl I J,fun k I J=>D.lV 5 rfl I J⟩:sO _ cZ p.m eE (fun _=>u) (fun i j=>mf j i)),(D.f_ 6 rfl)⟩:BQ _ ed cZ W eE (⟨u,p.m,p.d,(fun _=>(fun _=>1) 0),(fun _=>u),(fun i j=>mf j i),p.D⟩:Lp))) ?_;rintro _ w ⟨mh,mg,aa,ag,rfl,fh,cn,cm,F⟩
 replace D:=(D.comp F).n9;clear F
 refine⟨⟨fun _=>D.pk [0,1],D.pk [0]⟩,?_⟩
 refine(b_ 14 uN)<|(b_ 15 uN)<|nR 16 (nD 1 ZW D (hd:=(Za cn.one (Za cm.one (Za rfl (Za rfl Zj)))))) ?_;clear D;rintro w D
 refine⟨⟨fun h=>absurd h (by decide),D.pk [0]⟩,?_⟩
 refine(b_ 17 nU)<|lS<|iP<|sZ<|Ye 1 ZW D ⟨_,rfl,?_⟩
 exact⟨_,_,aa,_,rfl,.inr (.inr (.inr (.inr ⟨⟨N,O⟩,Oa,Oa,Oa,fh⟩))),cn,cm,D.pk [7,8]⟩
theorem Zhq{x y:Int}(h:0<=x)(D:0<y):Int.gcd y (x.tmod y)=Int.gcd x y:=by
 rw [Int.tmod_eq_emod_of_nonneg h]
 obtain⟨m,rfl⟩:=Int.eq_ofNat_of_zero_le h
 obtain⟨n,rfl⟩:=Int.eq_ofNat_of_zero_le (show 0<=y by omega)
 show Nat.gcd n (m%n)=Nat.gcd m n
 rw [Nat.gcd_comm,<-Nat.gcd_rec,Nat.gcd_comm]
theorem ZqH{x y:Int}(w0:World)(W:0<=x/\x<=9223372036854775807)(U:0<=y/\y<=9223372036854775807):
   Calls Om 281 [.int Oi x,.int Oi y].toArray w0 fun e w=>∃v,e= .returned v/\v= .int Oi (Int.gcd x y)/\Sat w0 w []:=by
 refine iE Tryz.func281 Tryz.ntmps281 fun w F=> ?_
 refine fQ<|(zP)<|ig<|lW<|o7<|ny (fun J M w=>∃(D:Int) (h:Int),J=h.toNat/\(0<=D)/\(D<=9223372036854775807)/\(0<=h)/\(h<=9223372036854775807)/\(Int.gcd D h=Int.gcd x y)/\M= [(0,.int Oi D),(1,.int Oi h),(4,.int Oi 0)]/\Sat w0 w []) ⟨x,y,rfl,Oa,Oa,Oa,?_,?_,rfl,F⟩ ?_
 {
 omega}
 {
 rfl}
 clear F w
 rintro J M w ⟨D,h,rfl,N,hx1,Y,O,I,rfl,F⟩
 have htn:=Int.tmod_nonneg h N
 refine lW<|fQ<|(On)<|ig<|Zf ?_ ?_<;>intro hc
 {
 refine nX<|iP<|o7<|lg [] [] 1000 nP F ?_;clear F;intro w F
 refine(b_ 0 gu)<|(b_ 1 gu)<|(b_ 2 gu)<|(b_ 3 (DW (r:=(Int.tmod D h))))<|(b_ 4 nU)<|(b_ 5 nU)<|lS<|ng<|jm ⟨h,(Int.tmod D h),rfl,Oa,Oa,Oa,?_,?_,rfl,F⟩ (hlt:=(by have:=Int.tmod_lt_of_pos D (show 0<h by omega);omega))
 {
 have:=Int.tmod_lt_of_pos D (show 0<h by omega);omega}
 {
 rw [Zhq N Oa];exact I}}
 refine oM<|(On)<|jk<|Oj ?_
 obtain rfl:h=0:=Oa
 exact⟨by rw [<-I,Int.gcd_zero_right];congr 1;omega,F⟩
variable {x:Int} {f:Of}
theorem Zp2:Zc Om 89=true:=Oc
theorem uY:Zw Om 54 2=some 2:=Oc
theorem oQ:Zw Om 54 3=some 3:=Oc
def YJ(s:So):Prop:=(1<=s.den/\s.den<=1073741824)/\(0<=s.val/\s.val<=1073741824)/\∀k,0<=k->k<s.n->0<=s.X k/\s.X k<=1073741824
def two(x y:Int):Of:=fun k=> [x,y].getD k.toNat 0
theorem ZkI{n y:Int}(hn:0<=n):(∀k,0<=k->k<n->cat n f (two x y) k=f k)/\cat n f (two x y) n=x/\cat n f (two x y) (n+1)=y:=by
 refine⟨fun k D h=> ?_,?_,?_⟩
 · unfold cat;rw [if_pos h]
 · unfold cat;rw [if_neg Oa,Int.sub_self];rfl
 · unfold cat;rw [if_neg Oa,show n+1-n=1 by omega];rfl
theorem Kk{s:So}(hn:0<=s.n)(N:∃k,0<=k/\k<s.n+2/\cat s.n s.X (two s.val s.den) k=x)(I:∀k,0<=k->k<s.n+2->cat s.n s.X (two s.val s.den) k<=x)(h1:1<=s.den)(U:0<=s.val)(O:¬∃k,0<=k/\k<s.n/\s.X k<0):x<=1073741824↔YJ s:=by
 obtain⟨c1,Y,W⟩:=ZkI (n:=s.n) (x:=s.val) (y:=s.den) (f:=s.X) hn
 constructor
 {
 intro hx
 have a1:=I s.n hn Oa
 have a2:=I (s.n+1) Oa Oa
 exact⟨⟨h1,Oa⟩,⟨U,Oa⟩,fun k h D=>⟨Int.not_lt.1 fun J=>O ⟨k,h,D,J⟩,by have:=I k h Oa;rw [c1 k h D] at this;omega⟩⟩}
 {
 rintro⟨b1,b2,Z⟩
 obtain⟨k,h,D,F⟩:=N
 by_cases e:k<s.n
 · rw [c1 k h e] at F;have:=Z k h e;omega
 {
 by_cases e2:k=s.n
 · rw [e2,Y] at F;omega
 · rw [show k=s.n+1 by omega,W] at F;omega}}
theorem ZqC(w0:World):
   Calls Om 89 [.int Oi x].toArray w0 fun e w=>∃v,e= .returned v/\v=B (x<0)/\Sat w0 w []:=by
 refine iE Tryz.func89 Tryz.ntmps89 fun w h=> ?_
 refine fQ<|(zP)<|iT<|(Oo)<|jk<|Oj ?_
 exact⟨Zm Oa,h⟩
theorem Zk0{v:Value}{n:Int}(w0:World)(F:Row w0 v 1 n (ints f)):
   Calls Om 147 [v,.func (.func 89) #[] #[]].toArray w0 fun e w=>∃v,e= .returned v/\∃r:Int,v= .int Oi r/\((r= -1/\∀k,0<=k->k<n->¬(f k<0))\/(0<=r/\r<n/\(f r<0)))/\Sat w0 w []:=by
 have hn:=F.fP.n0;have W:=F.fP.n1
 refine iE Tryz.func147 Tryz.ntmps147 fun w h=> ?_
 refine fQ<|(zP)<|l9<|(zP)<|(zV (iW Zb F.fP))<|(zP)<|nI<|ny (fun U M w=>∃(i:Int),U=((n-i).toNat)/\(0<=i)/\(i<=n)/\(∀k,0<=k->k<i->¬(f k<0))/\M= [(0,v),(1,.func (.func 89) #[] #[]),(7,.int Oi n),(8,.int Oi i)]/\Sat w0 w []) ⟨0,rfl,Oa,Oa,?_,rfl,h⟩ ?_
 {
 intro k N h1;omega}
 clear h w
 rintro U M w ⟨i,rfl,N,h1,O,rfl,h⟩
 refine fQ<|(zP)<|nG<|Zf ?_ ?_<;>intro hc
 {
 refine oC<|(On)<|iT<|(Oo)<|(zV (iy (kk:=i) Zb F.fP))<|(zV (iR (u:= .int Oi (f i)) dw (F.below h.below)))<|iJ (xc0 Zp2) (ZqC (x:=(f i)) w) ?_;rintro _ w ⟨rfl,D⟩
 replace h:=h.cmp D;clear D
 refine ig<|Zf ?_ ?_<;>intro hc
 {
 refine fQ<|(On)<|sG<|Oj ?_
 exact⟨i,rfl,.inr ⟨by omega,Oa,‹f i<0›⟩,h⟩}
 refine rU<|(zV (Zg (r:=i+1)))<|(zP)<|iq<|jm ⟨i+1,rfl,Oa,Oa,?_,rfl,h⟩
 {
 intro k J Y;rcases Int.lt_or_eq_of_le (show k<=i by omega) with I|I;exact O k J I;rw [I];assumption}}
 refine oM<|(zP)<|jk<|Oj ?_
 exact⟨-1,rfl,.inl ⟨rfl,fun k N h1=>O k N Oa⟩,h⟩
theorem X3{v:Value}{n:Int}(w0:World)(J:Row w0 v 1 n (ints f)):
   Calls Om 90 [v,.func (.func 89) #[] #[]].toArray w0 fun e w=>∃v,e= .returned v/\v=B (∃k,0<=k/\k<n/\(f k<0))/\Sat w0 w []:=by
 refine iE Tryz.func90 Tryz.ntmps90 fun w F=> ?_
 refine fQ<|(zP)<|iT<|(On)<|iJ (xc0 WP) (Zk0 w (J.below F.below)) ?_;rintro _ w ⟨W,rfl,I,D⟩
 replace F:=F.cmp D;clear D
 refine(On)<|jk<|Oj ?_
 exact⟨Zm (by
  rcases I with⟨h1,h2⟩|⟨h1,h2,h3⟩
  · exact⟨fun h=>Oa,fun⟨k,U,O,N⟩=>absurd N (h2 k U O)⟩
  · exact⟨fun _=>⟨_,h1,h2,h3⟩,fun _=>h1⟩),F⟩
theorem Zac{vX vY:Value}{s:So}(w0:World)(N:Row w0 vX 1 s.n (ints s.X))(hY:Row w0 vY 1 s.m (ints s.Y))(yj:s.n<=1000):
   Calls Om 42 [.agg #[vX,vY,.int Oi s.val,.int Oi s.den]].toArray w0 fun e w=>∃v,e= .returned v/\v=B (YJ s)/\Sat w0 w []:=by
 have hn:=N.fP.n0;have ad:=N.fP.n1
 refine iE Tryz.func42 Tryz.ntmps42 fun w h=> ?_
 refine fQ<|iG (nS (cs:= [_,_,_,_]) h) ?_;rintro _ w ⟨O,rfl,h⟩
 refine(zP)<|nG<|lg [0] [0] 1000 nP h ?_;clear h;intro w h
 refine(b_ 0 (h_ 0 oV))<|(iQ 1 (fun w h=>(g_ 0 dV h)))<|(b_ 3 (h_ 2 uY))<|(iQ 4 (fun w h=>(g_ 0 dw h)))<|(b_ 5 (h_ 3 oQ))<|(iQ 6 (fun w h=>(g_ 0 dw h)))<|Xw (r:= [2,7]) ((ZY ?_ (ZY ?_ Xv)))
 {
 refine Fb (xc0 oD) (lU (n:=s.n) (f:=s.X) w (N.below h.below) Oa) ?_;rintro aa w ⟨_,rfl,qb,D⟩
 replace h:=(h.comp D).n2;clear D
 refine⟨⟨fun _=>h.pk [0],h.pk [0]⟩,?_⟩
 refine oZ 7 (pO (n:=2) (len:=2) (pv:= [(0,.int Oi s.val),(1,.int Oi s.den)]) (cs:= [.int Oi s.val,.int Oi s.den]) (c:=ints (fun k=> [s.val,s.den].getD k.toNat 0)) Zb Zq h) ?_;rintro v1 w ⟨h,ac⟩
 refine⟨⟨fun _=>h.pk [0],h.pk [0]⟩,?_⟩
 refine oZ 8 (pz 1 (r:=s.n+2) (f:=ints (cat s.n s.X (two s.val s.den))) Zb Zq h (h.f_ 2 rfl) (by exact Xs _ _ _)) ?_;rintro v2 w ⟨h,ab⟩
 refine⟨⟨fun _=>h.pk [0],h.pk [0]⟩,?_⟩
 refine(b_ 9 nU)<|lS<|iP<|fQ ?_
 refine(zP)<|iT<|(zV (h_ 3 oQ))<|(zV (g_ 0 dw h))<|(On)<|lX 17 ?_ ?_<;>intro hc
 {
 refine(zV (h_ 2 uY))<|(zV (g_ 0 dw h))<|(Oo)<|lX 22 ?_ ?_<;>intro hc
 {
 refine(zV (h_ 0 oV))<|(zV (g_ 0 dV h))<|(zP)<|iJ (xc0 Ux) (X3 (n:=s.n) (f:=s.X) w (N.below h.below)) ?_;rintro _ w ⟨rfl,D⟩
 replace h:=h.cmp D;clear D
 refine(Oo)<|lX 29 ?_ ?_<;>intro hc
 {
 refine(zP)<|iJ (xc0 J_) (JZ (n:=(s.n+2)) (f:=(cat s.n s.X (two s.val s.den))) w (h.f_ 1 rfl) Oa) ?_;rintro _ w ⟨x1,rfl,Y,Z,D⟩
 replace h:=h.cmp D;clear D
 refine(Oo)<|jk<|Oj ?_
 exact⟨Zm (Kk hn Y Z Oa Oa (show¬(∃k,0<=k/\k<s.n/\s.X k<0) by first|assumption|exact fun hh=>absurd hh ‹_›)),h.nl⟩}
 iterate 3 refine oq ?_
 refine(On)<|jk<|Oj ?_
 exact⟨Zi (by rintro⟨O,W,J⟩;first|omega|(obtain⟨k,I,F,U⟩:=(show∃k,0<=k/\k<s.n/\s.X k<0 by first|assumption|exact Od (by assumption));have:=J k I F;omega)),h.nl⟩}
 iterate 5 refine oq ?_
 refine zs2 ?_
 iterate 3 refine oq ?_
 refine(On)<|jk<|Oj ?_
 exact⟨Zi (by rintro⟨O,W,J⟩;first|omega|(obtain⟨k,I,F,U⟩:=(show∃k,0<=k/\k<s.n/\s.X k<0 by first|assumption|exact Od (by assumption));have:=J k I F;omega)),h.nl⟩}
 iterate 3 refine oq ?_
 refine zs2 ?_
 iterate 5 refine oq ?_
 refine zs2 ?_
 iterate 3 refine oq ?_
 refine(On)<|jk<|Oj ?_
 exact⟨Zi (by rintro⟨O,W,J⟩;first|omega|(obtain⟨k,I,F,U⟩:=(show∃k,0<=k/\k<s.n/\s.X k<0 by first|assumption|exact Od (by assumption));have:=J k I F;omega)),h.nl⟩}
 refine tC (pO (n:=2) (len:=2) (pv:= [(0,.int Oi s.val),(1,.int Oi s.den)]) (cs:= [.int Oi s.val,.int Oi s.den]) (c:=ints (fun k=> [s.val,s.den].getD k.toNat 0)) Zb Zq h) ?_;rintro v1 w ⟨h,ac⟩
 refine⟨⟨fun _=>h.pk [0],h.pk [0]⟩,?_⟩
 refine pK 2 (xc0 oD) (lU (n:=s.n) (f:=s.X) w (N.below h.below) Oa) ?_;rintro aa w ⟨_,rfl,qb,D⟩
 replace h:=(h.comp D).n3;clear D
 refine⟨⟨fun _=>h.pk [0],h.pk [0]⟩,?_⟩
 refine oZ 8 (pz 2 (r:=s.n+2) (f:=ints (cat s.n s.X (two s.val s.den))) Zb Zq h (h.f_ 1 rfl) (by exact Xs _ _ _)) ?_;rintro v2 w ⟨h,ab⟩
 refine⟨⟨fun _=>h.pk [0],h.pk [0]⟩,?_⟩
 refine(b_ 9 nU)<|lS<|iP<|fQ ?_
 refine(zP)<|iT<|(zV (h_ 3 oQ))<|(zV (g_ 0 dw h))<|(On)<|lX 17 ?_ ?_<;>intro hc
 {
 refine(zV (h_ 2 uY))<|(zV (g_ 0 dw h))<|(Oo)<|lX 22 ?_ ?_<;>intro hc
 {
 refine(zV (h_ 0 oV))<|(zV (g_ 0 dV h))<|(zP)<|iJ (xc0 Ux) (X3 (n:=s.n) (f:=s.X) w (N.below h.below)) ?_;rintro _ w ⟨rfl,D⟩
 replace h:=h.cmp D;clear D
 refine(Oo)<|lX 29 ?_ ?_<;>intro hc
 {
 refine(zP)<|iJ (xc0 J_) (JZ (n:=(s.n+2)) (f:=(cat s.n s.X (two s.val s.den))) w (h.f_ 2 rfl) Oa) ?_;rintro _ w ⟨x1,rfl,Y,Z,D⟩
 replace h:=h.cmp D;clear D
 refine(Oo)<|jk<|Oj ?_
 exact⟨Zm (Kk hn Y Z Oa Oa (show¬(∃k,0<=k/\k<s.n/\s.X k<0) by first|assumption|exact fun hh=>absurd hh ‹_›)),h.nl⟩}
 iterate 3 refine oq ?_
 refine(On)<|jk<|Oj ?_
 exact⟨Zi (by rintro⟨O,W,J⟩;first|omega|(obtain⟨k,I,F,U⟩:=(show∃k,0<=k/\k<s.n/\s.X k<0 by first|assumption|exact Od (by assumption));have:=J k I F;omega)),h.nl⟩}
 iterate 5 refine oq ?_
 refine zs2 ?_
 iterate 3 refine oq ?_
 refine(On)<|jk<|Oj ?_
 exact⟨Zi (by rintro⟨O,W,J⟩;first|omega|(obtain⟨k,I,F,U⟩:=(show∃k,0<=k/\k<s.n/\s.X k<0 by first|assumption|exact Od (by assumption));have:=J k I F;omega)),h.nl⟩}
 iterate 3 refine oq ?_
 refine zs2 ?_
 iterate 5 refine oq ?_
 refine zs2 ?_
 iterate 3 refine oq ?_
 refine(On)<|jk<|Oj ?_
 exact⟨Zi (by rintro⟨O,W,J⟩;first|omega|(obtain⟨k,I,F,U⟩:=(show∃k,0<=k/\k<s.n/\s.X k<0 by first|assumption|exact Od (by assumption));have:=J k I F;omega)),h.nl⟩
end Go.Proofs.YtpnamgfdakfccaaGreat
namespace Go.Proofs.YtpnamgfdakfccaaGreat
open Go Go.RowKit Go.Proofs.Gw
theorem Znt:Zc Om 281=true:=Oc
theorem OH:Zc Om 42=true:=Oc
theorem Qc:ZN Om 297=some (.agg #[.int Oi 0,.int Oi 0],2,16):=Oc
theorem T0:ZC Om 297=some 2:=Oc
theorem Zhr{x y:Int}(F:0<=x)(D:1<=y):1<=(Int.gcd x y:Int):=by
 have:Int.gcd x y≠0:=fun h=>by have:=(Int.gcd_eq_zero_iff.1 h).2;omega
 omega
def Zri(s:So)(x y e:Int):Prop:=(¬YJ s/\x=0/\y=0/\e=1)\/(YJ s/\x=s.val.tdiv (Int.gcd s.val s.den)/\y=s.den.tdiv (Int.gcd s.val s.den)/\e=0)
theorem Zf3{U O:Value}{s:So}(w0:World)(N:Row w0 U 1 s.n (ints s.X))(hY:Row w0 O 1 s.m (ints s.Y))(yj:s.n<=1000):
   Calls Om 224 [.agg #[U,O,.int Oi s.val,.int Oi s.den]].toArray w0 fun e w=>∃v,e= .returned v/\∃(x y e:Int),v= .tuple #[.agg #[.int Oi x,.int Oi y],.int Oi e]/\Zri s x y e/\Sat w0 w []:=by
 have hn:=N.fP.n0;have Z:=N.fP.n1
 refine iE Tryz.func224 Tryz.ntmps224 fun w D=> ?_
 refine fQ<|iG (nS (cs:= [_,_,_,_]) D) ?_;rintro _ w ⟨g1,rfl,D⟩
 refine iG (oh (cs:= [_,_]) Qc D) ?_;rintro _ w ⟨g2,rfl,D⟩
 refine(zP)<|l9<|(zV (lH 0 ZW D))<|iJ (xc0 OH) (Zac (s:=s) w (N.below D.below) (hY.below D.below) Oa) ?_;rintro _ w ⟨rfl,F⟩
 replace D:=D.cmp F;clear F
 refine(zP)<|ig<|Zf ?_ ?_<;>intro hc
 {
 refine fQ<|(zV (lF (v:= .agg #[.int Oi 0,.int Oi 0])))<|lJ (nD 1 T0 D) ?_;clear D;rintro w D
 refine(zP)<|j_<|Ye 1 T0 D ⟨_,rfl,?_⟩
 exact⟨0,0,1,rfl,.inl ⟨‹¬YJ s›,rfl,rfl,rfl⟩,D.nl⟩}
 refine ZX<|iI (h_ 2 uY) ?_
 have I:YJ s:=by first|assumption|exact Od ‹_›
 obtain⟨⟨d1,d2⟩,⟨d3,d4⟩,d5⟩:=id I
 refine(zV (g_ 0 dw D))<|(zV (h_ 3 oQ))<|(zV (g_ 0 dw D))<|iJ (xc0 Znt) (ZqH (x:=s.val) (y:=s.den) w Oa Oa) ?_;rintro _ w ⟨rfl,F⟩
 replace D:=D.cmp F;clear F
 refine iI nU ?_
 have J:=Zhr (x:=s.val) (y:=s.den) Oa Oa
 have Y:=YM (a:=s.val) (d:=(Int.gcd s.val s.den:Int)) (A:=9223372036854775807) J Oa
 have W:=YM (a:=s.den) (d:=(Int.gcd s.val s.den:Int)) (A:=9223372036854775807) J Oa
 refine nG<|lg [0,1] [0] 9 nP D ?_;clear D;intro w D
 refine(b_ 0 (h_ 2 uY))<|(iQ 1 (fun w D=>(g_ 0 dw D)))<|(b_ 2 gu)<|(b_ 3 (V3 (r:=(Int.tdiv s.val (Int.gcd s.val s.den:Int)))))<|(b_ 4 (h_ 3 oQ))<|(iQ 5 (fun w D=>(g_ 0 dw D)))<|(b_ 6 gu)<|(b_ 7 (V3 (r:=(Int.tdiv s.den (Int.gcd s.val s.den:Int)))))<|(b_ 8 (lF (v:= .agg #[.int Oi (Int.tdiv s.val (Int.gcd s.val s.den:Int)),.int Oi (Int.tdiv s.den (Int.gcd s.val s.den:Int))])))<|nR 9 (nD 1 T0 D) ?_;clear D;rintro w D
 refine⟨⟨fun h=>absurd h (by decide),D.pk [0]⟩,?_⟩
 refine(b_ 10 nU)<|lS<|iP<|sZ<|Ye 1 T0 D ⟨_,rfl,?_⟩
 exact⟨_,_,0,rfl,.inr ⟨I,rfl,rfl,rfl⟩,D.nl⟩
def VF(p:cO)(i:Int):Of:=fun j=>if j=i then min (p.D i) ((p.bP+p.aV).tdiv (p.L i+p.aV)) else 0
theorem Zg2(p:cO)(i:Int):upd (fun _=>0) i (min (p.D i) ((p.bP+p.aV).tdiv (p.L i+p.aV)))=VF p i:=by
 funext j;unfold upd VF;rfl
theorem Zqz{vL vD:Value}{p:cO}{gp:Nat}{i:Int}(w0:World)(I:(iO.blk gp [vL,vD,.int Oi p.bP,.int Oi p.aV]).holds w0)(h:oO w0 vL vD p)(F:p.Ok)(U:0<=i)(O:i<p.m):
   Calls Om 158 [.int Oi i,Or gp].toArray w0 fun e w=>∃v,e= .returned v/\∃r,v=r/\iK r p.m/\Sat w0 w [.own r 1 3 p.m (ints (VF p i))]:=by
 obtain⟨hm,ac,hd,hd1,hs,hk⟩:=h.Oq
 have ab:=F.d;have aa:=F.m1;have qM:=F.m2;have Y:=F.s1;have W:=F.s2;have ae:=F.k1;have ad:=F.k2;have he:=F.all i U O;unfold cO.each at he
 have Z:=YM (a:=p.bP+p.aV) (d:=p.L i+p.aV) (A:=2100) Oa Oa
 refine iE Tryz.func158 Tryz.ntmps158 fun w D=> ?_
 refine fQ<|(zP)<|iT<|(zV (h_ 0 lu))<|(zV (wR dV (iO.holds.cell I (o:=0) rfl) D))<|(zV (iW Zb h.L.fP))<|iG (uF Zb Zq D) ?_;rintro v1 w ⟨D,J⟩
 refine(zP)<|nG<|lg [0] [] 23 nP D ?_;clear D;intro w D
 refine(b_ 0 gu)<|(b_ 1 gu)<|(b_ 2 (h_ 1 jF))<|(iQ 3 (fun w D=>(wR dV (iO.holds.cell I (o:=1) rfl) D)))<|(b_ 4 gu)<|(b_ 5 (iy (kk:=i) Zb h.D.fP))<|oH 6 (fun w D=>(iR (u:= .int Oi (p.D i)) dw (h.D.below D.below))) ?_
 have N:=h.iD i
 refine(b_ 7 (h_ 2 o_))<|(iQ 8 (fun w D=>(wR dw (iO.holds.cell I (o:=2) rfl) D)))<|(b_ 9 (h_ 3 nZ))<|(iQ 10 (fun w D=>(wR dw (iO.holds.cell I (o:=3) rfl) D)))<|(b_ 11 (Zg (r:=p.bP+p.aV)))<|(b_ 12 (h_ 0 lu))<|(iQ 13 (fun w D=>(wR dV (iO.holds.cell I (o:=0) rfl) D)))<|(b_ 14 gu)<|(b_ 15 (iy (kk:=i) Zb h.L.fP))<|oH 16 (fun w D=>(iR (u:= .int Oi (p.L i)) dw (h.L.below D.below))) ?_
 have N:=h.iL i
 refine(b_ 17 (h_ 3 nZ))<|(iQ 18 (fun w D=>(wR dw (iO.holds.cell I (o:=3) rfl) D)))<|(b_ 19 (Zg (r:=p.L i+p.aV)))<|(b_ 20 (V3 (r:=(Int.tdiv (p.bP+p.aV) (p.L i+p.aV)))))<|(b_ 21 (TS (r:=(min (p.D i) (Int.tdiv (p.bP+p.aV) (p.L i+p.aV))))))<|(b_ 22 (iy (kk:=i) Zb J))<|nR 23 (rV 0 dw D (ZA _ _ _)) ?_;clear D;rintro w D
 refine⟨⟨fun h=>absurd h (by decide),D.nl⟩,?_⟩
 refine lS<|iP<|fQ ?_
 refine(On)<|jk<|Oj ?_
 rw [Zg2] at D
 exact⟨_,rfl,J,D⟩
variable {i:Int}
theorem Zn1:Zc Om 158=true:=Oc
def A8(p:cO):Nat->Int
  |0=>0
  |k+1=>if 0<p.D k then A8 p k+1 else A8 p k
def Es(p:cO):Nat->Int->Int
  |0=>fun _=>0
  |k+1=>if 0<p.D k then lD (Es p k) (A8 p k) p.m else Es p k
def Et(p:cO):Nat->Int->Int->Int
  |0=>fun _ _=>0
  |k+1=>if 0<p.D k then lD (Et p k) (A8 p k) (VF p k) else Et p k
theorem ZbY(p:cO)(h:0<=i):A8 p (i+1).toNat=if 0<p.D i then A8 p i.toNat+1 else A8 p i.toNat:=by
 obtain⟨k,rfl⟩:=Int.eq_ofNat_of_zero_le h;rw [show((k:Int)+1).toNat=k+1 by omega,Int.toNat_natCast];rfl
theorem ZbZ(p:cO)(h:0<=i):Es p (i+1).toNat=if 0<p.D i then lD (Es p i.toNat) (A8 p i.toNat) p.m else Es p i.toNat:=by
 obtain⟨k,rfl⟩:=Int.eq_ofNat_of_zero_le h;rw [show((k:Int)+1).toNat=k+1 by omega,Int.toNat_natCast];rfl
theorem Zb0(p:cO)(h:0<=i):Et p (i+1).toNat=if 0<p.D i then lD (Et p i.toNat) (A8 p i.toNat) (VF p i) else Et p i.toNat:=by
 obtain⟨k,rfl⟩:=Int.eq_ofNat_of_zero_le h;rw [show((k:Int)+1).toNat=k+1 by omega,Int.toNat_natCast];rfl
theorem MW(p:cO):∀k:Nat,0<=A8 p k/\A8 p k<=k
 |0=>by simp [A8]
 | k+1=>by
   have:=MW p k
   simp only [A8];split<;>omega
def S_(p:cO)(n:Int)(ln:Of)(g:Og)(e:Int):Prop:=(¬p.Ok/\n=0/\e=1)\/(p.Ok/\n=A8 p p.m.toNat/\ln=Es p p.m.toNat/\g=Et p p.m.toNat/\e=0)
theorem ZiK{vL vD:Value}{p:cO}(w0:World)(h:oO w0 vL vD p):
   Calls Om 85 [.agg #[vL,vD,.int Oi p.bP,.int Oi p.aV]].toArray w0 fun e w=>∃v,e= .returned v/\∃r n vv ln g e,v= .tuple #[r,.int Oi e]/\S_ p n ln g e/\iK r n/\Sat w0 w [.own r 1 22 n vv,.sem (Frame.rows 3 n vv ln g)]:=by
 obtain⟨hm,ah,hd,hd1,hs,hk⟩:=h.Oq
 refine iE Tryz.func85 Tryz.ntmps85 fun w D=> ?_
 refine fQ<|iG (nS (cs:= [_,_,_,_]) D) ?_;rintro _ w ⟨g1,rfl,D⟩
 refine(On)<|l9<|(zV (lH 0 iM D))<|iJ (xc0 XU) (Yd (p:=p) w (h.below D.below)) ?_;rintro _ w ⟨rfl,N⟩
 replace D:=D.cmp N;clear N
 refine(zP)<|ig<|Zf ?_ ?_<;>intro hc
 {
 refine fQ<|(On)<|j_<|rD ⟨_,rfl,?_⟩
 exact⟨_,0,fun _=>undef,fun _=>0,fun _ _=>0,1,rfl,.inl ⟨‹¬p.Ok›,rfl,rfl⟩,d_,((D.sub (.cons _ .slnil)).fU 1 22 (fun _=>undef)).iF 3 (fun _=>undef) (fun _=>0) (fun _ _=>0)⟩}
 refine ZX<|(zV wX)<|(zP)<|iT<|(zP)<|l9<|(zV (h_ 1 jF))<|(zV (g_ 0 dV D))<|(zV (iW Zb h.D.fP))<|(zP)<|nI ?_
 have J:p.Ok:=by first|assumption|exact Od ‹_›
 have af:=J.d;have ae:=J.m1;have qM:=J.m2
 replace D:=D.fU 1 22 (fun _=>Oh)
 replace D:=D.iF 3 (fun _=>Oh) (fun _=>0) (fun _ _=>0)
 have zL:=fun k (k0:0<=k) (k1:k<0)=>D.iw 2 rfl k0 k1
 refine ny (fun mm M w=>∃(I:Int) (Y:Ov) (lC:Of) (gC:Og) (i:Int) (Z:Value),mm=((p.d-i).toNat)/\(0<=i)/\(i<=p.d)/\(I=A8 p i.toNat)/\(lC=Es p i.toNat)/\(gC=Et p i.toNat)/\(iK Z I)/\M= [(2,Oh),(3,.int Oi 0),(4,.func (.func 158) #[] #[Or g1]),(5,Z),(13,vD),(14,.int Oi p.d),(15,.int Oi i)]/\Sat w0 w [.blk g1 [vL,vD,.int Oi p.bP,.int Oi p.aV],.own Z 1 22 I Y,.sem (Frame.rows 3 I Y lC gC)]) ⟨0,(fun _=>Oh),(fun _=>0),(fun _ _=>0),0,Oh,rfl,Oa,Oa,?_,?_,?_,?_,rfl,D⟩ ?_
 {
 rfl}
 {
 rfl}
 {
 rfl}
 {
 exact d_}
 clear D w
 rintro mm M w ⟨I,Y,lC,gC,i,Z,rfl,W,h1,F,O,U,aa,rfl,D⟩
 have q9:=fun k (k0:0<=k) (k1:k<I)=>D.iw 2 rfl k0 k1
 have ag:=MW p i.toNat
 refine fQ<|(zP)<|nG<|Zf ?_ ?_<;>intro hc
 {
 refine oC<|(zP)<|(zV (iy (kk:=i) Zb h.D.fP))<|iI (iR (u:= .int Oi (p.D i)) dw (h.D.below D.below)) ?_
 have ai:=h.iD i
 refine(On)<|iT<|(On)<|ig<|Zf ?_ ?_<;>intro hc
 {
 refine lG<|(Oo)<|iJ (uU (vs:= [_]) Zn1) (Zqz (p:=p) (i:=i) w (D.holds _ (List.mem_of_getElem? (i:=0) rfl)) (h.below D.below) J Oa Oa) ?_;rintro bG w ⟨_,rfl,cg,N⟩
 replace D:=(D.comp N).n4;clear N
 refine iG (pO (n:=1) (len:=1) (pv:= [(0,bG)]) (cs:= [bG]) (c:=(fun _=>bG)) Zk ZQ D (hf:=by obtain⟨_,_,_,_,rfl,_⟩:=cg;kernel_rfl)) ?_;rintro v1 w ⟨D,ad⟩
 refine iG (pz 1 (r:=I+1) Zk ZQ D (D.f_ 4 rfl) (YA _ _ _) (h1:=fun _ _ _=>cg.one)) ?_;rintro v2 w ⟨D,ab⟩
 replace D:=Sat.merge (l1:= [_,_]) (l2:= []) (l3:= [_]) D Oa
 have xV:=fun k (k0:0<=k) (k1:k<I+1)=>D.iw 2 rfl k0 k1
 refine(zP)<|nT<|(zV (Zg (r:=i+1)))<|(zP)<|iq<|jm ⟨I+1,lD Y I bG,lD lC I p.m,lD gC I (VF p i),i+1,v2,rfl,Oa,Oa,?_,?_,?_,?_,rfl,D.pk [0,1,2]⟩
 {
 rw [ZbY p W,<-F];first|rw [if_pos Oa]|rw [if_neg Oa]}
 {
 rw [ZbZ p W,<-O,<-F];first|rw [if_pos Oa]|rw [if_neg Oa]}
 {
 rw [Zb0 p W,<-U,<-F];first|rw [if_pos Oa]|rw [if_neg Oa]}
 {
 exact ab}}
 refine rU<|(zV (Zg (r:=i+1)))<|(zP)<|iq<|jm ⟨I,Y,lC,gC,i+1,Z,rfl,Oa,Oa,?_,?_,?_,?_,rfl,D⟩
 {
 rw [ZbY p W,<-F];first|rw [if_pos Oa]|rw [if_neg Oa]}
 {
 rw [ZbZ p W,<-O,<-F];first|rw [if_pos Oa]|rw [if_neg Oa]}
 {
 rw [Zb0 p W,<-U,<-F];first|rw [if_pos Oa]|rw [if_neg Oa]}
 {
 exact aa}}
 refine oM<|(Oo)<|jk<|rD ⟨_,rfl,?_⟩
 have ac:i=p.m:=Oa
 rw [ac] at F O U
 exact⟨_,_,_,_,_,0,rfl,.inr ⟨J,F,O,U,rfl⟩,aa,D.pk [1,2]⟩
end Go.Proofs.YtpnamgfdakfccaaGreat
namespace Go.Proofs.Gw
open Go Go.RowKit
theorem bnd{P:Int->Prop}{n:Int}(h:∀k,k<n.toNat->P (k:Int)):∀i,0<=i->i<n->P i:=fun i D F=>by
 have:=h i.toNat Oa;rwa [Int.toNat_of_nonneg D] at this
def NC:Lp:=⟨2,2,2,fun k=> [1,1].getD k.toNat 0,ZK 2 2,ZK (fun k=> [2,1].getD k.toNat 0) (fun k=> [1,3].getD k.toNat 0),fun k=> [3,4].getD k.toNat 0⟩
theorem ZE(pv:Ov)(cnt:Of){k i:Int}(h:k=2*i):∀(j:Nat) u, [pv i,Value.int Oi (cnt i)][j]? =some u->Ze pv cnt (k+j)=u:=fun j u D=>by
 rcases j with _|_|j
 · cases D;exact Zjr pv cnt Oa
 · cases D;exact Si pv cnt Oa
 · simp at D
theorem Xk{pv:Ov}{cnt:Of}(h:∀i,(pv i).oneCell'=true)(k:Int):(Ze pv cnt k).oneCell'=true:=by
 unfold Ze
 split
 · exact h _
 · rfl
theorem Xr(pv:Ov)(cnt:Of)(n:Int)(r:Value)(x:Int):cat (n*2) (Ze pv cnt) (Ze (fun _=>r) (fun _=>x))=Ze (lD pv n r) (snoc cnt n x):=by
 funext k
 unfold cat Ze lD snoc
 by_cases h:k<n*2
 {
 have D:k/2<n:=Oa
 simp only [if_pos h,if_pos D]}
 {
 have D:¬k/2<n:=Oa
 simp only [if_neg h,if_neg D]
 by_cases e:k%2=0
 · rw [if_pos e,if_pos Oa]
 · rw [if_neg e,if_neg Oa]}
theorem ZbO(pv:Ov)(cnt:Of){k i x:Int}(h:k=2*i+1):upd (Ze pv cnt) k (.int Oi x)=Ze pv (upd cnt i x):=by
 funext j;unfold upd Ze;dsimp only
 by_cases e:j=k
 · rw [if_pos e,if_neg Oa,if_pos Oa]
 {
 rw [if_neg e]
 by_cases e0:j%2=0
 · rw [if_pos e0,if_pos e0]
 · rw [if_neg e0,if_neg e0,if_neg Oa]}
structure tq (w:World) (v:Value) (n:Int) (pv:Ov) (ln:Of) (pt:Og) (cnt:Of):Prop where
  row:Row w v 2 n (Ze pv cnt)
  p:∀i,0<=i->i<n->Row w (pv i) 1 (ln i) (ints (pt i))
  room:∀i,0<=i->i<n->UE (pv i)
theorem tq.below{w w':World}{v:Value}{n:Int}{pv:Ov}{ln:Of}{pt:Og}{cnt:Of}(h:tq w v n pv ln pt cnt)(D:Below w.heap.size w w'):tq w' v n pv ln pt cnt:=
 ⟨h.row.below D,fun i F h1=>(h.p i F h1).below D,h.room⟩
end Go.Proofs.Gw
namespace Go.Proofs.YtpnamgfdakfccaaGreat
open Go Go.RowKit Go.Proofs.Gw
variable {i:Int}
theorem Xb:ZN Om 97=some (.agg #[Oh,.int Oi 0],2,32):=Oc
theorem ZP:Zy Om 29=some (97,2):=Oc
def wU(s:So):Nat->Int
  |0=>0
  |k+1=>if s.den<=s.X k then wU s k+1 else wU s k
def Dl(s:So)(ml:Of):Nat->Int->Int
  |0=>fun _=>0
  |k+1=>if s.den<=s.X k then lD (Dl s ml k) (wU s k) (ml k) else Dl s ml k
def Dn(s:So)(mf:Og):Nat->Int->Int->Int
  |0=>fun _ _=>0
  |k+1=>if s.den<=s.X k then lD (Dn s mf k) (wU s k) (mf k) else Dn s mf k
def Dp(s:So):Nat->Int->Int
  |0=>fun _=>0
  |k+1=>if s.den<=s.X k then snoc (Dp s k) (wU s k) ((s.X k).tdiv s.den) else Dp s k
theorem ZcE(s:So)(h:0<=i):wU s (i+1).toNat=if s.den<=s.X i then wU s i.toNat+1 else wU s i.toNat:=by
 obtain⟨k,rfl⟩:=Int.eq_ofNat_of_zero_le h;rw [show((k:Int)+1).toNat=k+1 by omega,Int.toNat_natCast];rfl
theorem ZcF(s:So)(ml:Of)(h:0<=i):Dl s ml (i+1).toNat=if s.den<=s.X i then lD (Dl s ml i.toNat) (wU s i.toNat) (ml i) else Dl s ml i.toNat:=by
 obtain⟨k,rfl⟩:=Int.eq_ofNat_of_zero_le h;rw [show((k:Int)+1).toNat=k+1 by omega,Int.toNat_natCast];rfl
theorem ZcG(s:So)(mf:Og)(h:0<=i):Dn s mf (i+1).toNat=if s.den<=s.X i then lD (Dn s mf i.toNat) (wU s i.toNat) (mf i) else Dn s mf i.toNat:=by
 obtain⟨k,rfl⟩:=Int.eq_ofNat_of_zero_le h;rw [show((k:Int)+1).toNat=k+1 by omega,Int.toNat_natCast];rfl
theorem ZcH(s:So)(h:0<=i):Dp s (i+1).toNat=if s.den<=s.X i then snoc (Dp s i.toNat) (wU s i.toNat) ((s.X i).tdiv s.den) else Dp s i.toNat:=by
 obtain⟨k,rfl⟩:=Int.eq_ofNat_of_zero_le h;rw [show((k:Int)+1).toNat=k+1 by omega,Int.toNat_natCast];rfl
theorem Nc(s:So):∀k:Nat,0<=wU s k/\wU s k<=k
 |0=>by simp [wU]
 | k+1=>by
   have:=Nc s k
   simp only [wU];split<;>omega
def Zph(s:So)(u:Int)(ml:Of)(mf:Og)(n:Int)(ln:Of)(pt:Og)(cnt:Of)(e:Int):Prop:=
  (¬(YJ s/\u=s.n)/\n=0/\e=1)\/(YJ s/\u=s.n/\n=wU s u.toNat/\ln=Dl s ml u.toNat/\pt=Dn s mf u.toNat/\cnt=Dp s u.toNat/\e=0)
theorem Zgb{vM:Value}{u:Int}{mv:Ov}{ml:Of}{mf:Og}{vX vY:Value}{s:So}(w0:World)(hM:sO w0 vM u mv ml mf)(Y:Row w0 vX 1 s.n (ints s.X))(hY:Row w0 vY 1 s.m (ints s.Y))(yj:s.n<=1000)(ae:∀k,0<=k->k<u->ml k<=100000):
   Calls Om 150 [vM,.agg #[vX,vY,.int Oi s.val,.int Oi s.den]].toArray w0 fun e w=>∃v,e= .returned v/\∃r n pv ln pt cnt e,v= .tuple #[r,.int Oi e]/\Zph s u ml mf n ln pt cnt e/\iK r n/\Sat w0 w [.own r 2 97 n (Ze pv cnt),.sem (Frame.rows 3 n pv ln pt)]:=by
 have hn:=Y.fP.n0;have ak:=Y.fP.n1
 have hu:=hM.row.fP.n0;have ah:=hM.row.fP.n1
 refine iE Tryz.func150 Tryz.ntmps150 fun w h=> ?_
 refine fQ<|iG (nS (cs:= [_,_,_,_]) h) ?_;rintro _ w ⟨g1,rfl,h⟩
 refine(On)<|l9<|(zV (lH 0 ZW h))<|iJ (xc0 OH) (Zac (s:=s) w (Y.below h.below) (hY.below h.below) Oa) ?_;rintro _ w ⟨rfl,J⟩
 replace h:=h.cmp J;clear J
 refine(On)<|lX 12 ?_ ?_<;>intro hc
 {
 iterate 6 refine oq ?_
 refine(zP)<|ig<|rW<|fQ ?_
 refine(On)<|j_<|rD ⟨_,rfl,?_⟩
 exact⟨_,0,fun _=>undef,fun _=>0,fun _ _=>0,fun _=>0,1,rfl,.inl ⟨by first|exact fun hh=>absurd hh.1 ‹¬YJ s›|(rintro⟨_,hh⟩;omega),rfl,rfl⟩,d_,((h.sub (.cons _ .slnil)).fU 2 97 (Ze (fun _=>undef) (fun _=>0))).iF 3 (fun _=>undef) (fun _=>0) (fun _ _=>0)⟩}
 refine(zP)<|(zV (iW Zk hM.row.fP))<|(zV (h_ 0 oV))<|(zV (g_ 0 dV h))<|(zV (iW Zb Y.fP))<|(On)<|ig<|Zf ?_ ?_<;>intro hc
 {
 refine fQ<|(On)<|j_<|rD ⟨_,rfl,?_⟩
 exact⟨_,0,fun _=>undef,fun _=>0,fun _ _=>0,fun _=>0,1,rfl,.inl ⟨by first|exact fun hh=>absurd hh.1 ‹¬YJ s›|(rintro⟨_,hh⟩;omega),rfl,rfl⟩,d_,((h.sub (.cons _ .slnil)).fU 2 97 (Ze (fun _=>undef) (fun _=>0))).iF 3 (fun _=>undef) (fun _=>0) (fun _ _=>0)⟩}
 refine ZX<|(zP)<|l9<|(zV (h_ 0 oV))<|(zV (g_ 0 dV h))<|(zV (iW Zb Y.fP))<|(zP)<|nI ?_
 have ab:YJ s:=by first|assumption|exact Od ‹_›
 obtain⟨⟨d1,d2⟩,⟨d3,d4⟩,d5⟩:=id ab
 have ad:u=s.n:=Oa
 replace h:=h.fU 2 97 (Ze (fun _=>Oh) (fun _=>0))
 replace h:=h.iF 3 (fun _=>Oh) (fun _=>0) (fun _ _=>0)
 have zL:=fun k (k0:0<=k) (k1:k<0)=>h.iw 2 rfl k0 k1
 refine ny (fun mm M w=>∃(F:Int) (Z:Ov) (lC:Of) (gC:Og) (cC:Of) (i:Int) (wC:Value),mm=((s.n-i).toNat)/\(0<=i)/\(i<=s.n)/\(F=wU s i.toNat)/\(lC=Dl s ml i.toNat)/\(gC=Dn s mf i.toNat)/\(cC=Dp s i.toNat)/\(iK wC F)/\M= [(0,vM),(3,Or g1),(4,Oh),(5,.int Oi 0),(6,wC),(21,vX),(22,.int Oi s.n),(23,.int Oi i)]/\Sat w0 w [.blk g1 [vX,vY,.int Oi s.val,.int Oi s.den],.own wC 2 97 F (Ze Z cC),.sem (Frame.rows 3 F Z lC gC)]) ⟨0,(fun _=>Oh),(fun _=>0),(fun _ _=>0),(fun _=>0),0,Oh,rfl,Oa,Oa,?_,?_,?_,?_,?_,rfl,h⟩ ?_
 {
 rfl}
 {
 rfl}
 {
 rfl}
 {
 rfl}
 {
 exact d_}
 clear h w
 rintro mm M w ⟨F,Z,lC,gC,cC,i,wC,rfl,N,h1,D,O,U,W,aa,rfl,h⟩
 have q9:=fun k (k0:0<=k) (k1:k<F)=>h.iw 2 rfl k0 k1
 have aj:=Nc s i.toNat
 refine fQ<|(zP)<|nG<|Zf ?_ ?_<;>intro hc
 {
 refine oC<|(zP)<|(zV (iy (kk:=i) Zb Y.fP))<|(zV (iR (u:= .int Oi (s.X i)) dw (Y.below h.below)))<|(On)<|iT<|(zP)<|(zV (h_ 3 oQ))<|(zV (g_ 0 dw h))<|(zP)<|ig<|Zf ?_ ?_<;>intro hc
 {
 refine lg [0] [0] 1000 nP h ?_;clear h;intro w h
 refine(b_ 0 gu)<|(b_ 1 gu)<|(b_ 2 gu)<|(b_ 3 (iy (kk:=i) Zk hM.row.fP))<|oH 4 (fun w h=>(iR (u:=(mv i)) dV (hM.row.below h.below))) ?_
 have mN:=ae i N Oa
 refine(b_ 6 gu)<|(b_ 7 (h_ 3 oQ))<|oH 8 (fun w h=>(g_ 0 dw h)) ?_
 have ai:=YM (a:=s.X i) (d:=s.den) (A:=1073741824) Oa (by have:=d5 i N Oa;omega)
 refine(b_ 9 (V3 (r:=(Int.tdiv (s.X i) s.den))))<|pK 5 (xc0 oD) (lU (n:=(ml i)) (f:=(mf i)) w ((hM.p i Oa Oa).below h.below) Oa) ?_;rintro I w ⟨_,rfl,qb,J⟩
 replace h:=(h.comp J).n4;clear J
 refine⟨⟨fun _=>h.pk [0],h.pk [0]⟩,?_⟩
 refine ou 10 (lF (v:= .agg #[I,.int Oi (Int.tdiv (s.X i) s.den)]) (hr:=by obtain⟨_,_,_,_,rfl,_⟩:=qb;kernel_rfl)) ?_
 refine oZ 11 (pO (n:=1) (len:=1) (pv:= [(0,.agg #[I,.int Oi (Int.tdiv (s.X i) s.den)])]) (cs:= [I,.int Oi (Int.tdiv (s.X i) s.den)]) (c:=Ze (fun _=>I) (fun _=>(Int.tdiv (s.X i) s.den))) ZP Xb h (hf:=by obtain⟨_,_,_,_,rfl,_⟩:=qb;kernel_rfl)) ?_;rintro v1 w ⟨h,ag⟩
 refine⟨⟨fun _=>h.pk [0],h.pk [0]⟩,?_⟩
 refine oZ 12 (pz 1 (r:=F+1) ZP Xb h (h.f_ 4 rfl) (Xr _ _ _ _ _) (h1:=fun k _ _=>Xk (fun _=>qb.one) k)) ?_;rintro v2 w ⟨h,ac⟩
 replace h:=Sat.merge (l1:= [_,_]) (l2:= []) (l3:= [_]) h Oa
 have xV:=fun k (k0:0<=k) (k1:k<F+1)=>h.iw 2 rfl k0 k1
 refine⟨⟨fun _=>h.pk [0],h.pk [0]⟩,?_⟩
 refine(b_ 13 nU)<|lS<|ng<|iP<|lG ?_
 refine(zV (Zg (r:=i+1)))<|(zP)<|iq<|jm ⟨F+1,lD Z F I,lD lC F (ml i),lD gC F (mf i),(snoc cC F (Int.tdiv (s.X i) s.den)),i+1,v2,rfl,Oa,Oa,?_,?_,?_,?_,?_,rfl,h.pk [0,1,2]⟩
 {
 rw [ZcE s N,<-D];first|rw [if_pos Oa]|rw [if_neg Oa]}
 {
 rw [ZcF s ml N,<-O,<-D];first|rw [if_pos Oa]|rw [if_neg Oa]}
 {
 rw [ZcG s mf N,<-U,<-D];first|rw [if_pos Oa]|rw [if_neg Oa]}
 {
 rw [ZcH s N,<-W,<-D];first|rw [if_pos Oa]|rw [if_neg Oa]}
 {
 exact ac}}
 refine rU<|(zV (Zg (r:=i+1)))<|(zP)<|iq<|jm ⟨F,Z,lC,gC,cC,i+1,wC,rfl,Oa,Oa,?_,?_,?_,?_,?_,rfl,h⟩
 {
 rw [ZcE s N,<-D];first|rw [if_pos Oa]|rw [if_neg Oa]}
 {
 rw [ZcF s ml N,<-O,<-D];first|rw [if_pos Oa]|rw [if_neg Oa]}
 {
 rw [ZcG s mf N,<-U,<-D];first|rw [if_pos Oa]|rw [if_neg Oa]}
 {
 rw [ZcH s N,<-W,<-D];first|rw [if_pos Oa]|rw [if_neg Oa]}
 {
 exact aa}}
 refine oM<|(Oo)<|jk<|rD ⟨_,rfl,?_⟩
 have af:i=u:=Oa
 rw [af] at D O U W
 exact⟨_,_,_,_,_,_,0,rfl,.inr ⟨ab,ad,D,O,U,W,rfl⟩,aa,h.pk [1,2]⟩
end Go.Proofs.YtpnamgfdakfccaaGreat
namespace Go.Proofs.YtpnamgfdakfccaaGreat
open Go Go.RowKit Go.Proofs.Gw
def BI(s:So)(k:Int)(ok:Prop):Prop:=(¬YJ s/\k=0/\¬ok)\/(YJ s/\(∀j,0<=j->j<s.n->(s.X j).tmod s.den=0)/\k=0/\¬ok)\/(YJ s/\0<=k/\k<s.n/\(s.X k).tmod s.den≠0/\(∀j,0<=j->j<k->(s.X j).tmod s.den=0)/\ok)
end Go.Proofs.YtpnamgfdakfccaaGreat
namespace Go.Proofs.Gw
open Go Go.RowKit
def Frame.dq(E:TypeId)(v:Value)(n:Int)(f:Of):Frame where
  holds w:=0<=n/\n<=140737488355328/\((v=Oh/\n=0)\/∃g off cap cur,v= .slice (some ⟨g,off,none⟩) n.toNat cap/\w.heap[g]? =some (.cells cur E (0,0))/\n.toNat<=cap/\cap<=maxLen/\off+cap<=cur.size/\
    ∀k:Nat,(k:Int)<n->cur[off+k]? =some (.int Oi (f k)))
  has g:=∃a l c,v= .slice (some a) l c/\a.block=g
  keep h hk:=by
    obtain⟨h0,h1,h|⟨g,off,cap,cur,rfl,hg,h⟩⟩:=h
    · exact⟨h0,h1,.inl h⟩
    · exact⟨h0,h1,.inr ⟨g,off,cap,cur,rfl,by rw [hk g ⟨_,_,_,rfl,rfl⟩];exact hg,h⟩⟩
  lt h hg:=by
    obtain⟨_,_,h|⟨g,off,cap,cur,rfl,h2,_⟩⟩:=h
    · obtain⟨rfl,_⟩:=h;obtain⟨_,_,_,e,_⟩:=hg;cases e
    · obtain⟨_,_,_,e,rfl⟩:=hg;cases e;exact(Array.getElem?_eq_some_iff.1 h2).1
section
variable {P:Program} {L:List (Nat×Value)} {w w0:World} {o:Oper} {x y z:Operand} {T T':TypeId} {l:List iO} {E:TypeId} {v:Value} {n:Int} {f:Of}
theorem Frame.dq.row(h:(Frame.dq E v n f).holds w):Row w v 1 n (ints f):=by
 obtain⟨I,h1,⟨rfl,rfl⟩|⟨g,off,cap,cur,rfl,F,_,_,_,hc⟩⟩:=h
 · exact Tz _ _ _
 {
 refine⟨⟨I,h1,_,_,rfl,.inr ⟨g,off,rfl⟩⟩,fun k J=> ?_⟩
 have D:(k:Int)<n:=Oa
 have:=hc k D
 show w.cell? ⟨g,off+(k:Int).toNat,none⟩=_
 rw [cell_of_row w g _ cur E (0,0) F]
 rw [show(k:Int).toNat=k by omega,this];rfl}
theorem Frame.dq.roomy(h:(Frame.dq E v n f).holds w):UE v:=fun a len cap e=>by
 obtain⟨_,_,⟨rfl,_⟩|⟨g,off,D,cur,rfl,_,F,_⟩⟩:=h
 · cases e;omega
 · cases e;exact F
theorem Sat.wO(h:Sat w0 w l)(i:Nat)(hi:l[i]? =some (.sem (Frame.dq E v n f))):(Frame.dq E v n f).holds w:=h.holds _ (List.mem_of_getElem? hi)
theorem Sat.Gq(h:Sat w0 w l)(E:TypeId)(f:Of):Sat w0 w (l++ [.sem (Frame.dq E Oh 0 f)]):=by
 refine h.comp (m:= [.sem (Frame.dq E Oh 0 f)]) ⟨Below.refl _ _,?_,?_,List.pairwise_singleton _ _⟩
 {
 intro e D
 obtain rfl:=List.mem_singleton.1 D
 exact⟨by omega,Oa,.inl ⟨rfl,rfl⟩⟩}
 {
 intro e D g F
 obtain rfl:=List.mem_singleton.1 D
 obtain⟨_,_,_,e,_⟩:=F;cases e}
theorem Sat.Ak{F G:Frame}(h:Sat w0 w l)(i:Nat)(hi:l[i]? =some (.sem F))(N:F.holds w->G.holds w)(I:∀g,G.has g->F.has g):Sat w0 w (l.set i (.sem G)):=by
 have D:=h
 rw [Z3 hi] at D
 rw [YE hi]
 exact D.turn (d:= .sem F) (fun k _ _=>rfl) rfl rfl rfl (Nat.le_refl _) (N (h.holds _ (List.mem_of_getElem? hi))) (fun g J=> .inl (I g J))
theorem Sat.Gp(h:Sat w0 w l)(i:Nat)(q:Nat)(hq:(q:Int)<=n)(hi:l[i]? =some (.sem (Frame.dq E v n f)):=by exact rfl):Sat w0 w (l.set i (.sem (Frame.dq E (D9 v q) q f))):=
 h.Ak i hi (fun⟨h0,h1,hd⟩=>⟨by omega,Oa,by
   rcases hd with⟨rfl,rfl⟩|⟨g,off,cap,cur,rfl,hg,h2,h3,h4,h5⟩
   · exact .inl ⟨by obtain rfl:q=0:=Oa
                    rfl,Oa⟩
   · exact .inr ⟨g,off,cap,cur,by simp [D9],hg,Oa,h3,h4,fun k hk=>h5 k Oa⟩⟩) (fun g ⟨a',lh,c,e,eb⟩=>by
   cases v with
   |slice a len cap=>cases e;exact⟨_,_,_,rfl,eb⟩
   |_=>cases e)
theorem ZfW{e:Int}(h:iK v n)(D:0<=e)(h1:e<=n):iK (D9 v e.toNat) e:=by
 have:=QV (q:=e.toNat) h Oa
 rwa [Int.toNat_of_nonneg D] at this
theorem K7{m:Int}(h:iK v n)(hr:UE v)(h1:1<=n)(e:n-1=m):iK (XB v 1) m:=by
 subst e;exact(YR (q:=1) h hr Oa).fP
theorem Sat.Jw(h:Sat w0 w l)(i:Nat){m:Int}(e:n=m)(hi:l[i]? =some (.sem (Frame.dq E v n f)):=by exact rfl):Sat w0 w (l.set i (.sem (Frame.dq E v m f))):=by subst e;exact h.Ak i hi id fun _ D=>D
theorem Sat.Ei(h:Sat w0 w l)(i:Nat)(q:Nat)(D:(q:Int)<n)(hi:l[i]? =some (.sem (Frame.dq E v n f)):=by exact rfl):Sat w0 w (l.set i (.sem (Frame.dq E (XB v q) (n-q) (fun k=>f (k+q))))):=
 h.Ak i hi (fun⟨I,h1,hd⟩=>⟨by omega,Oa,by
   rcases hd with⟨rfl,rfl⟩|⟨g,off,cap,cur,rfl,hg,h2,h3,h4,h5⟩
   · omega
   · refine .inr ⟨g,off+q,cap-q,cur,?_,hg,Oa,Oa,Oa,fun k F=> ?_⟩
     · unfold XB;dsimp only;rw [if_neg Oa];simp;try omega
     · rw [show off+q+k=off+(k+q) by omega,h5 (k+q) Oa];congr 3⟩) (fun g ⟨a',lh,c,e,eb⟩=>by
   cases v with
   | slice a len cap=>cases a with
     |none=>simp [XB] at e
     | some a=>
       unfold XB at e;dsimp only at e
       split at e
       · cases e;exact⟨_,_,_,rfl,eb⟩
       · cases e;exact⟨_,_,_,rfl,eb⟩
   |_=>cases e)
theorem NQ{u:Value}{b:Nat}{a:Int}{Y:Value}(i:Nat)(ht:Zy P T=some (E,1))(he:ZN P E=some (Y,1,b))(hS:Sat w0 w l)(hu:Row w u 1 1 (ints fun _=>a))(ho:o.op= .call {callee:= .builtin .append,args:= #[x,y],argTypes:= #[T,T]}:=by exact rfl)(hz:Y.cells.size=1:=by exact rfl)
   (hi:l[i]? =some (.sem (Frame.dq E v n f)):=by exact rfl) (hx:iZ L x=some v:=by exact rfl) (hy:iZ L y=some u:=by exact rfl) (hb:b*(n+1)<=140737488355328:=by omega) (ab:n+1<=140737488355328:=by omega):
   ∃q w',Runs P L w o (.value q) w'/\Sat w0 w' (l.set i (.sem (Frame.dq E q (n+1) (snoc f n a))))/\iK q (n+1):=by
 obtain⟨U,_⟩:=Zv ht
 obtain⟨inf,x5,Z,hsz,ad⟩:=Ys he
 have hd:=hS.wO i hi
 have qu:=Frame.dq.row hd
 obtain⟨h0,h1,hd⟩:=hd
 obtain⟨_,_,ua,F,rfl,ag⟩:=hu.fP
 obtain⟨O,D,rfl⟩:∃O D,ua=some ⟨O,D,none⟩:=by rcases ag with h|h;omega;exact h
 have yd:∀j t, [Value.int Oi a][j]? =some t->w.cell? ((⟨O,D,none⟩:Addr).add j)=some t:=fun j t I=>by
   rcases j with _|j
   {
   cases I
   have:=hu.2 0 Oa
   rw [Addr.add_eq _ rfl];simpa [pW,ints] using this}
   · simp at I
 have W:(n.toNat+1)*b<=140737488355328:=by
   have:(((n.toNat+1)*b:Nat):Int)=b*(n+1):=by rw [Int.natCast_mul,Int.natCast_add,Int.toNat_of_nonneg h0,Int.mul_comm];rfl
   omega
 have h':=hS
 rw [Z3 hi] at h'
 have key:∃q w',(∀ty:TypeId,(Builtin.append_ #[T,T] ty #[v,.slice (some ⟨O,D,none⟩) 1 F]).run P w= .ok q w')/\(Frame.dq E q (n+1) (snoc f n a)).holds w'/\(∀k,k<w.heap.size->¬(Frame.dq E v n f).has k->w'.heap[k]? =w.heap[k]?)/\w'.tape=w.tape/\w'.os=w.os/\w'.output=w.output/\w.heap.size<=w'.heap.size/\
     (∀g,(Frame.dq E q (n+1) (snoc f n a)).has g->(Frame.dq E v n f).has g\/w.heap.size<=g):=by
   have jv:n.toNat+1<=maxLen:=by unfold maxLen;omega
   have grown:∀(old:Nat),old<n.toNat+1->∀(N:List Value),N.length=n.toNat->(∀k:Nat,(k:Int)<n->N[k]? =some (.int Oi (f k)))->
       (Frame.dq E (.slice (some ⟨w.heap.size,0,none⟩) (n.toNat+1) (grownCap w (n.toNat+1) old E)) (n+1) (snoc f n a)).holds (w.drew.alloc (.cells (N.toArray++ [Value.int Oi a].toArray++Builtin.zeroCells Y.cells (grownCap w (n.toNat+1) old E-(n.toNat+1))) E)):=fun old ho N af ae=>by
     have aq:=grownCap_ge w (n.toNat+1) old E
     have an:grownCap w (n.toNat+1) old E<=maxLen:=grownCap_le_maxLen w (n.toNat+1) old E jv
     refine⟨by omega,ab,.inr ⟨w.heap.size,0,_,_,by rw [show(n+1).toNat=n.toNat+1 by omega],heap_alloc_new w.drew _,Oa,an,?_,fun k J=> ?_⟩⟩
     · simp only [Array.size_append,List.size_toArray,size_zeroCells,hz,af,List.length_cons,List.length_nil];omega
     {
     have e1:(N.toArray++ [Value.int Oi a].toArray++Builtin.zeroCells Y.cells (grownCap w (n.toNat+1) old E-(n.toNat+1)))[0+k]? =(N++ [Value.int Oi a])[k]? :=by
       rw [Nat.zero_add,Array.getElem?_append_left (by simp;omega)];simp
     rw [e1,List.getElem?_append]
     by_cases hk2:(k:Int)<n
     · rw [if_pos Oa,ae k hk2,Zt hk2]
     · rw [if_neg Oa,show k-N.length=0 by omega,Zu hk2];rfl}
   rcases hd with⟨rfl,rfl⟩|⟨g,off,cap,cur,rfl,hg,h2,h3,h4,h5⟩
   {
   refine⟨_,_,fun ty=>run_append_nil (P:=P) w T ty E inf Y U x5 Z ⟨O,D,none⟩ 1 F [Value.int Oi a] (by rw [hsz];rfl) yd Oa Oa (by rw [ad];omega),?_,fun k J _=>heap_alloc_old w.drew _ J,rfl,rfl,rfl,by simp,fun g ⟨_,_,_,e,W⟩=>by cases e;exact .inr (Nat.le_of_eq W)⟩
   have:=grown 0 Oa [] rfl (fun k J=>Oa)
   simpa using this}
   {
   by_cases qC:n.toNat+1<=cap
   {
   have yI:∀k,k<cur.size->w.cell? ⟨g,k,none⟩=cur[k]? :=fun k _=>cell_of_row w g k cur E (0,0) hg
   refine⟨_,_,fun ty=>run_append_room_cells (P:=P) w T ty E inf U x5 g off n.toNat cap ⟨O,D,none⟩ 1 F [Value.int Oi a] (by rw [hsz];rfl) yd (fun u hu=>by simp at hu;subst hu;rfl) qC (fun j I=>by
       simp at I;subst I
       rw [hsz,Nat.mul_one,yI _ Oa];simp;omega) (fun j I=>by
       simp at I;subst I
       simp [World.frozen?,hg]),?_,fun k J al=> ?_,rfl,rfl,rfl,?_,fun g' ⟨_,_,_,e,W⟩=> .inl (by cases e;exact⟨_,_,_,rfl,W⟩)⟩
   {
   refine⟨by omega,ab,.inr ⟨g,off,cap,cur.setIfInBounds (off+n.toNat) (.int Oi a),by rw [show(n+1).toNat=n.toNat+1 by omega],?_,Oa,h3,by simp;omega,fun k J=> ?_⟩⟩
   · simp [World.setCells,World.setCell,Array.getElem?_modify,hg,hsz]
   · rw [Array.getElem?_setIfInBounds]
     by_cases hk2:(k:Int)<n
     · rw [if_neg Oa,h5 k hk2,Zt hk2]
     · rw [if_pos Oa,if_pos Oa,Zu hk2]}
   · exact Below.heap_setCell _ _ _ _ fun e=>al (by rw [e];exact⟨_,_,_,rfl,rfl⟩)
   · simp [World.setCells,World.setCell]}
   {
   have aa:∀k:Nat,(k:Int)<n->(Zs f n|>.map (Value.int .i64))[k]? =some (.int Oi (f k)):=fun k J=>by
     have am:k<n.toNat:=Oa
     simp [Zs,am]
   have ac:(Zs f n|>.map (Value.int .i64)).length=n.toNat:=by simp [Zs]
   refine⟨_,_,fun ty=>run_append_grow (P:=P) w T ty E inf Y U x5 Z ⟨g,off,none⟩ n.toNat cap (Zs f n|>.map (Value.int .i64)) (by rw [hsz,ac];omega) (fun j t I=> ?_) ⟨O,D,none⟩ 1 F [Value.int Oi a] (by rw [hsz];rfl) yd Oa Oa (growslice_fits Oa (by rw [ad];exact W)),?_,fun k J _=>heap_alloc_old w.drew _ J,rfl,rfl,rfl,by simp,fun g ⟨_,_,_,e,W⟩=>by cases e;exact .inr (Nat.le_of_eq W)⟩
   · have ap:j<n.toNat:=by
       have:=(List.getElem?_eq_some_iff.1 I).1;omega
     rw [aa j Oa] at I;cases I
     rw [Addr.add_eq _ rfl,cell_of_row w g _ cur E (0,0) hg];exact h5 j Oa
   · exact grown cap Oa _ ac aa}}
 obtain⟨q,w',hr,hq,ao,ah,ak,aj,ai,hh⟩:=key
 refine⟨q,w',fun ρ h=> ?_,?_,(Frame.dq.row hq).fP⟩
 · simp [execOp,ho,resolve,invoke,builtin,h _ _ hx,h _ _ hy,hr]
 {
 rw [YE hi]
 exact h'.turn ao ah ak aj ai hq hh}
end
end Go.Proofs.Gw
namespace Go.Proofs.Gw
open Go Go.RowKit
variable {M cap i k m r y:Int} {A g x:Of}
structure DQ (A:Of) (M k q:Int) (g:Of):Prop where
  q0:0<=q
  rng:∀i,0<=i->i<q->max 0 (k-1-M)<=g i/\g i<=k-1
  mon:∀i,0<=i->i+1<q->g i<g (i+1)/\A (g (i+1))<A (g i)
  dom:∀j,max 0 (k-1-M)<=j->j<=k-1->∃i,0<=i/\i<q/\j<=g i/\A j<=A (g i)
structure E_ (A:Of) (M k q:Int) (g:Of):Prop where
  q0:0<=q
  rng:∀i,0<=i->i<q->max 0 (k-1-M)<=g i/\g i<=k-1
  mon:∀i,0<=i->i+1<q->g i<g (i+1)/\A (g (i+1))<A (g i)
  dom:∀j,max 0 (k-1-M)<=j->j<=k-1->(∃i,0<=i/\i<q/\j<=g i/\A j<=A (g i))\/A j<=A k
theorem DQ.start(A:Of)(M:Int)(g:Of):DQ A M 0 0 g:=⟨by omega,fun i _ _=>Oa,fun i _ _=>Oa,fun j _ _=>Oa⟩
theorem DQ.p{q:Int}(h:DQ A M k q g):E_ A M k q g:=⟨h.q0,h.rng,h.mon,fun j a b=> .inl (h.dom j a b)⟩
theorem E_.pop{q:Int}(h:E_ A M k q g)(N:0<q)(O:A (g (q-1))<=A k):E_ A M k (q-1) g:=
 ⟨by omega,fun i D F=>h.rng i D Oa,fun i D F=>h.mon i D Oa,fun j J I=>by
   rcases h.dom j J I with⟨i,D,F,h1,h2⟩|h1
   {
   by_cases e:i=q-1
   · subst e;exact .inr Oa
   · exact .inl ⟨i,D,Oa,h1,h2⟩}
   · exact .inr h1⟩
structure D_ (A:Of) (M k q:Int) (g:Of):Prop where
  q0:1<=q
  rng:∀i,0<=i->i<q->max 0 (k-1-M)<=g i/\g i<=k
  mon:∀i,0<=i->i+1<q->g i<g (i+1)/\A (g (i+1))<A (g i)
  dom:∀j,max 0 (k-1-M)<=j->j<=k->∃i,0<=i/\i<q/\j<=g i/\A j<=A (g i)
  last:g (q-1)=k
theorem E_.push{q:Int}(h:E_ A M k q g)(N:0<=k)(hM:0<=M)(U:q<=0\/A k<A (g (q-1))):D_ A M k (q+1) (snoc g q k):=by
 have J:=h.q0
 refine⟨by omega,fun i D F=> ?_,fun i D F=> ?_,fun j I O=> ?_,?_⟩
 {
 by_cases e:i<q
 · rw [Zt e];have:=h.rng i D e;omega
 · rw [Zu e];omega}
 {
 rw [Zt (show i<q by omega)]
 by_cases e:i+1<q
 · rw [Zt e];exact h.mon i D e
 {
 rw [Zu e]
 obtain rfl:i=q-1:=Oa
 have:=h.rng (q-1) D Oa
 omega}}
 {
 by_cases e:j=k
 · subst e;exact⟨q,Oa,Oa,by rw [Zu Oa];omega,by rw [Zu Oa];omega⟩
 {
 rcases h.dom j I Oa with⟨i,D,F,h1,h2⟩|h1
 · exact⟨i,D,Oa,by rw [Zt F];exact h1,by rw [Zt F];exact h2⟩
 · exact⟨q,Oa,Oa,by rw [Zu Oa];omega,by rw [Zu Oa];exact h1⟩}}
 · rw [Zu Oa]
theorem D_.up{A:Of}{M k q:Int}{g:Of}(h:D_ A M k q g):∀i:Nat,(i:Int)<q->g 0+i<=g i/\A (g i)<=A (g 0)
 |0,_=>⟨by simp,Int.le_refl _⟩
 | i+1,hi=>by
   have h1:=h.up i Oa
   have D:=h.mon i Oa Oa
   rw [show((i+1:Nat):Int)=(i:Int)+1 by omega]
   omega
theorem D_.keep{q:Int}(h:D_ A M k q g)(I:0<=k)(U:¬g 0<k-M):DQ A M (k+1) q g:=by
 have O:=h.q0
 refine⟨by omega,fun i D F=> ?_,h.mon,fun j N J=>h.dom j Oa Oa⟩
 have h1:=h.up i.toNat Oa
 rw [Int.toNat_of_nonneg D] at h1
 have:=h.rng i D F;have:=h.rng 0 Oa Oa
 omega
theorem D_.more{q:Int}(h:D_ A M k q g)(hM:0<=M)(F:g 0<k-M):1<q:=by
 have:=h.q0;have D:=h.last
 by_cases e:q=1
 · subst e;rw [show(1:Int)-1=0 by omega] at D;omega
 · omega
theorem D_.drop{q p:Int}(h:D_ A M k q g)(J:0<=k)(hM:0<=M)(W:g 0<k-M)(e:q-1=p:=by omega):DQ A M (k+1) p (fun i=>g (i+1)):=by
 subst e
 have U:=h.q0
 refine⟨by omega,fun i F D=> ?_,fun i F D=>h.mon (i+1) Oa Oa,fun j O N=> ?_⟩
 {
 have h1:=h.up (i+1).toNat Oa
 rw [Int.toNat_of_nonneg Oa] at h1
 have I:=h.rng (i+1) Oa Oa;have Y:=h.rng 0 Oa Oa
 omega}
 {
 obtain⟨i,F,D,h1,I⟩:=h.dom j Oa Oa
 by_cases e:i=0
 · subst e;omega
 · exact⟨i-1,Oa,Oa,by rw [show i-1+1=i by omega];exact h1,by rw [show i-1+1=i by omega];exact I⟩}
theorem DQ.best{q:Int}(h:DQ A M (k+1) q g)(J:0<=k)(hM:0<=M):0<q/\max 0 (k-M)<=g 0/\g 0<=k/\∀j,max 0 (k-M)<=j->j<=k->A j<=A (g 0):=by
 obtain⟨i,D,F,_,_⟩:=h.dom k Oa Oa
 have hr:=h.rng 0 Oa Oa
 have up:∀i:Nat,(i:Int)<q->A (g i)<=A (g 0):=fun i=>by
   induction i with
   |zero=>intro _;exact Int.le_refl _
   | succ i ih=>
     intro hi
     have h1:=ih Oa
     have I:=h.mon i Oa Oa
     rw [show((i+1:Nat):Int)=(i:Int)+1 by omega]
     omega
 refine⟨by omega,Oa,Oa,fun j O N=> ?_⟩
 obtain⟨i,D,F,h1,I⟩:=h.dom j Oa Oa
 have:=up i.toNat Oa
 rw [Int.toNat_of_nonneg D] at this
 omega
theorem DQ.len{q:Int}(h:DQ A M k q g)(I:0<=k):q<=k:=by
 have up:∀i:Nat,(i:Int)<q->g 0+i<=g i:=fun i=>by
   induction i with
   |zero=>intro _;simp
   | succ i ih=>
     intro hi
     have h1:=ih Oa
     have F:=h.mon i Oa Oa
     rw [show((i+1:Nat):Int)=(i:Int)+1 by omega]
     omega
 rcases Int.lt_or_le 0 q with D|D
 {
 have h1:=up (q-1).toNat Oa
 rw [Int.toNat_of_nonneg Oa] at h1
 have F:=h.rng 0 Oa D;have J:=h.rng (q-1) Oa Oa
 omega}
 · omega
theorem TQ{T:Of}{s b:Int}(Z:1<=s)(hM:0<=M)(Y:0<=r)(W:r<s)(F:0<=k)(b0:max 0 (k-M)<=b)(b1:b<=k)(N:∀j,max 0 (k-M)<=j->j<=k->T (r+j*s)-j*y<=T (r+b*s)-b*y):
   R T s y M.toNat (r+k*s)=T (r+b*s)-b*y+k*y:=by
 have J:0<=k*s:=Int.mul_nonneg F Oa
 apply Int.le_antisymm
 {
 obtain⟨n,h1,h2,U⟩:=EZ T s y M.toNat (r+k*s) Oa
 have I:(n:Int)<=k:=by
   rcases Int.lt_or_le k n with h|h
   · have:=Int.mul_le_mul_of_nonneg_right (show k+1<=(n:Int) by omega) (show 0<=s by omega)
     rw [Int.add_mul] at this;omega
   · exact h
 have O:=N (k-n) Oa Oa
 have D:r+(k-n)*s=r+k*s-n*s:=by rw [Int.sub_mul];omega
 rw [D,Int.sub_mul] at O
 rw [U];omega}
 {
 have h1:=Fj T s y M.toNat (k-b).toNat (r+k*s) Oa (by
   have:=Int.mul_le_mul_of_nonneg_right (show(((k-b).toNat:Nat):Int)<=k by omega) (show 0<=s by omega);omega)
 rw [Int.toNat_of_nonneg Oa,Int.sub_mul,Int.sub_mul] at h1
 have D:r+k*s-(k*s-b*s)=r+b*s:=Oa
 rw [D] at h1;omega}
def LY(T:Of)(s y m n r k:Int)(g:Of):Prop:=∀c,0<=c->c<n->(c%s<r\/(c%s=r/\c<r+k*s))->g c=R T s y m.toNat c
theorem P_{s:Int}(h:0<=k)(D:1<=s):k<=k*s:=by
 have:=Int.mul_le_mul_of_nonneg_left D h;omega
theorem KL{j s n:Int}(J:1<=s)(I:0<=r)(F:0<=j)(D:j<=k)(h:r+k*s<n):0<=j*s/\j*s<=k*s/\r+j*s<n:=by
 have h1:=Int.mul_nonneg F (show 0<=s by omega)
 have N:=Int.mul_le_mul_of_nonneg_right D (show 0<=s by omega)
 omega
theorem Wd{j:Int}(F:0<=j)(D:j<=4001)(y0:0<=y)(h:y<=1073741824):0<=j*y/\j*y<=4296041037824:=by
 have h1:=Int.mul_nonneg F y0
 have I:=Int.mul_le_mul D h y0 Oa
 omega
theorem LY.start(T:Of){s n:Int}(h:∀c,0<=c->c<n->c%s<r->g c=R T s y m.toNat c):LY T s y m n r 0 g:=fun c D c1 hc=>by
 rcases hc with hc|⟨_,hc⟩
 · exact h c D c1 hc
 {
 by_cases hs:c%s<r
 · exact h c D c1 hs
 {
 exfalso
 rename_i hr
 have:c%s<=c:=by
   by_cases hs0:0<s
   · rcases Int.lt_or_le c s with h1|h1
     · rw [Int.emod_eq_of_lt D h1];omega
     · have:=Int.emod_lt_of_pos c hs0;omega
   {
   by_cases e:s=0
   · subst e;simp
   {
   have h1:=Int.emod_lt_of_pos c (show 0< -s by omega)
   rw [Int.emod_neg] at h1
   have I:=Int.emod_emod_of_dvd c (show(-s)∣s from⟨-1,Oa⟩)
   rcases Int.lt_or_le c (-s) with F|F
   · have:=Int.emod_eq_of_lt D F;rw [Int.emod_neg] at this;omega
   · omega}}
 omega}}
theorem LY.step{T:Of}{s n v:Int}(h:LY T s y m n r k g)(U:1<=s)(N:0<=r)(J:r<s)(O:0<=k)(hv:R T s y m.toNat (r+k*s)=v):LY T s y m n r (k+1) (upd g (r+k*s) v):=fun c I c1 hc=>by
 by_cases e:c=r+k*s
 · subst e;rw [Zp,hv]
 {
 rw [upd_ne _ _ e]
 refine h c I c1 ?_
 rcases hc with hc|⟨hc,D⟩
 · exact .inl hc
 {
 refine .inr ⟨hc,?_⟩
 have h1:=Int.mul_ediv_add_emod c s
 rw [hc] at h1
 rcases Int.lt_trichotomy (c/s) k with F|F|F
 · have:=Int.mul_le_mul_of_nonneg_left (show c/s+1<=k by omega) (show 0<=s by omega)
   rw [Int.mul_add,Int.mul_comm s k] at this;omega
 · rw [F,Int.mul_comm] at h1;omega
 · have:=Int.mul_le_mul_of_nonneg_left (show k+1<=c/s by omega) (show 0<=s by omega)
   rw [Int.mul_add,Int.mul_comm s k] at this
   rw [Int.add_mul] at D;omega}}
theorem LY.fin{T:Of}{s n:Int}(h:LY T s y m n r k g)(F:¬r+k*s<n):∀c,0<=c->c<n->c%s<r+1->g c=R T s y m.toNat c:=fun c D c1 hc=>h c D c1 Oa
structure Its where
  n:Int
  S:Of
  V:Of
  M:Of
def Xj(s v m:Int):Prop:=1<=s/\s<=4000/\0<=v/\v<=1073741824/\0<=m/\m<=1000
def Its.each(t:Its)(i:Int):Prop:=Xj (t.S i) (t.V i) (t.M i)
structure Its.Ok (t:Its) (cap:Int):Prop where
  n:t.n<=20
  c0:0<=cap
  c1:cap<=4000
  all:∀i,0<=i->i<t.n->t.each i
def KT(t:Its):Nat->Int->Int
  |0=>fun _=>0
  |k+1=>R (KT t k) (t.S (t.n-1-k)) (t.V (t.n-1-k)) (t.M (t.n-1-k)).toNat
def KI(t:Its)(i:Int):Of:=KT t (t.n-i).toNat
theorem Zpg(t:Its):KI t t.n=fun _=>0:=by unfold KI;rw [show(t.n-t.n).toNat=0 by omega];rfl
theorem S9(t:Its)(D:0<=i)(h:i<t.n):KI t i=R (KI t (i+1)) (t.S i) (t.V i) (t.M i).toNat:=by
 unfold KI
 rw [show(t.n-i).toNat=(t.n-(i+1)).toNat+1 by omega]
 show R _ _ _ _=_
 rw [show t.n-1-(((t.n-(i+1)).toNat:Nat):Int)=i by omega]
theorem Y4{t:Its}{cap:Int}(h:t.Ok cap):∀k:Nat,(k:Int)<=t.n->∀c,0<=c->0<=KT t k c/\KT t k c<=c*1073741824
 |0,_,c,hc=>⟨Int.le_refl _,by show 0<=_;omega⟩
 | k+1,hk,c,hc=>by
   have D:=h.all (t.n-1-k) Oa Oa
   unfold Its.each Xj at D
   exact MF D.1 D.2.2.1 D.2.2.2.1 (fun c F=>Y4 h k Oa c F) _ c hc
theorem WA{t:Its}(h:t.Ok cap)(I:0<=i)(F:i<=t.n){c:Int}(D:0<=c):0<=KI t i c/\KI t i c<=c*1073741824:=Y4 h _ Oa c D
def KU(t:Its)(x:Of)(i:Nat):Int:=Zd (fun k=>x k*t.S k) i
def KX(t:Its)(cap:Int)(x:Of)(n:Int):Prop:=∀i,0<=i->i<n->0<=x i/\x i<=t.M i/\x i*t.S i<=cap-KU t x i.toNat/\KI t (i+1) (cap-KU t x i.toNat-x i*t.S i)+x i*t.V i=KI t i (cap-KU t x i.toNat)/\
  ∀j,x i<j->j<=t.M i->j*t.S i<=cap-KU t x i.toNat->KI t (i+1) (cap-KU t x i.toNat-j*t.S i)+j*t.V i≠KI t i (cap-KU t x i.toNat)
theorem Zlu(t:Its)(x:Of)(h:0<=i):KU t x (i+1).toNat=KU t x i.toNat+x i*t.S i:=ZI _ h
theorem RT(t:Its){z:Of}{n:Nat}(h:∀i,0<=i->i<(n:Int)->x i=z i):KU t x n=KU t z n:=Zh fun i F D=>by rw [h i F D]
theorem KX.snoc{t:Its}{cap:Int}{x:Of}{i n:Int}(h:KX t cap x i)(W:0<=i)(n0:0<=n)(n1:n<=t.M i)(n2:n*t.S i<=cap-KU t x i.toNat)(I:KI t (i+1) (cap-KU t x i.toNat-n*t.S i)+n*t.V i=KI t i (cap-KU t x i.toNat))
   (J:∀j,n<j->j<=t.M i->j*t.S i<=cap-KU t x i.toNat->KI t (i+1) (cap-KU t x i.toNat-j*t.S i)+j*t.V i≠KI t i (cap-KU t x i.toNat)):KX t cap (snoc x i n) (i+1):=fun k D U=>by
 have F:KU t (Gw.snoc x i n) k.toNat=KU t x k.toNat:=RT t fun q O N=>Zt Oa
 rw [F]
 by_cases e:k<i
 · rw [Zt e];exact h k D e
 {
 obtain rfl:k=i:=Oa
 rw [Zu Oa];exact⟨n0,n1,n2,I,J⟩}
theorem Zlt(t:Its)(x:Of)(n:Int)(h:0<=i):KU t (snoc x i n) (i+1).toNat=KU t x i.toNat+n*t.S i:=by
 rw [Zlu t _ h,Zu Oa]
 congr 1
 exact RT t fun q F D=>Zt Oa
theorem ZqT{t:Its}(h:t.Ok cap){c:Int}(F:0<=i)(D:i<t.n)(O:0<=c):∃j,0<=j/\j<=t.M i/\j*t.S i<=c/\KI t (i+1) (c-j*t.S i)+j*t.V i=KI t i c:=by
 have I:=h.all i F D
 unfold Its.each Xj at I
 obtain⟨j,h1,N,J⟩:=EZ (KI t (i+1)) (t.S i) (t.V i) (t.M i).toNat c O
 exact⟨j,Oa,Oa,N,by rw [S9 t F D,J]⟩
theorem KX.same{t:Its}{cap:Int}{x z:Of}:∀{n:Nat},KX t cap x n->KX t cap z n->∀i,0<=i->i<(n:Int)->x i=z i
 |0,_,_,i,_,_=>Oa
 | n+1,hx,hz,i,i0,i1=>by
   have D:=KX.same (n:=n) (fun i a b=>hx i a Oa) (fun i a b=>hz i a Oa)
   by_cases e:i=n
   {
   have O:KU t x i.toNat=KU t z i.toNat:=RT t fun k N k1=>D k N Oa
   obtain⟨a1,a2,J,I,F⟩:=hx i i0 i1
   obtain⟨b1,Z,Y,W,U⟩:=hz i i0 i1
   rw [O] at J I F
   rcases Int.lt_trichotomy (x i) (z i) with h|h|h
   · exact absurd W (F _ h Z Y)
   · exact h
   · exact absurd I (U _ h a2 J)}
   · exact D i i0 Oa
end Go.Proofs.Gw
namespace Go.Proofs.Gw
open Go Go.RowKit
variable {i k:Int}
def okF(kind k c:Int):Prop:=(kind=0/\k=0)\/(kind=1/\1<=k/\k<=100)\/(kind=2/\1<=k/\k<=c.tdiv 2)
def dfv(kind k x c:Int):Int:=
  if kind=0 then x else if kind=1 then(if((k+1)*x).tmod c=0 then k*x else((k+1)*x).tdiv c*c) else(if c-k<x then c else if x<k then 0 else x)
def Z5(W H N:Of):Ov:=fun k=>if k%3=0 then .int Oi (W (k/3)) else if k%3=1 then .int Oi (H (k/3)) else .int Oi (N (k/3))
theorem ZkE(W H N:Of)(h:k=3*i):Z5 W H N k= .int Oi (W i):=by
 subst h;unfold Z5;rw [if_pos Oa];congr 2;omega
theorem ZkD(W H N:Of)(h:k=3*i+1):Z5 W H N k= .int Oi (H i):=by
 subst h;unfold Z5;rw [if_neg Oa,if_pos Oa];congr 2;omega
theorem ZkC(W H N:Of)(h:k=3*i+2):Z5 W H N k= .int Oi (N i):=by
 subst h;unfold Z5;rw [if_neg Oa,if_neg Oa];congr 2;omega
theorem U3(W H N:Of)(h:k=3*i):∀(j:Nat) u, [Value.int Oi (W i),.int Oi (H i),.int Oi (N i)][j]? =some u->Z5 W H N (k+j)=u:=fun j u D=>by
 rcases j with _|_|_|j
 · cases D;exact ZkE W H N Oa
 · cases D;exact ZkD W H N Oa
 · cases D;exact ZkC W H N Oa
 · simp at D
theorem ZdP(W H N:Of)(k:Int):(Z5 W H N k).oneCell'=true:=by
 unfold Z5
 split
 · rfl
 · split<;>rfl
theorem Zbi{W H N D F N':Of}{n:Int}(h:∀k,0<=k->k<n->W k=D k/\H k=F k/\N k=N' k):∀k,0<=k->k<n*(3:Nat)->Z5 W H N k=Z5 D F N' k:=fun k U O=>by
 obtain⟨h1,J,I⟩:=h (k/3) Oa Oa
 unfold Z5
 rw [h1,J,I]
theorem ZdZ(W H N:Of)(n a b c:Int):cat (n*3) (Z5 W H N) (Z5 (fun _=>a) (fun _=>b) (fun _=>c))=Z5 (snoc W n a) (snoc H n b) (snoc N n c):=by
 funext k
 unfold cat Z5 snoc
 by_cases h:k<n*3
 {
 have:k/3<n:=Oa
 simp only [if_pos h,if_pos this]}
 {
 have:¬k/3<n:=Oa
 have e:(k-n*3)%3=k%3:=Oa
 simp only [if_neg h,if_neg this,e]}
end Go.Proofs.Gw
namespace Go.Proofs.Gw
open Go Go.RowKit
def base(k:Nat):List (Int×Int):=(0,0)::(List.range k).map fun i:Nat=>(1,(i:Int)+1)
def before(i j I J:Int):Prop:=i<I\/(i=I/\j<J)
end Go.Proofs.Gw
namespace Go.Proofs.YtpnamgfdakfccaaGreat
open Go Go.RowKit Go.Proofs.Gw
variable {vI:Value}
theorem Znq:Zc Om 286=true:=Oc
theorem Znp:Zc Om 287=true:=Oc
theorem Znh:Zc Om 310=true:=Oc
theorem U4:Zc Om 311=true:=Oc
theorem oN:Zw Om 247 0=some 0:=Oc
theorem qQ:Zw Om 247 1=some 1:=Oc
theorem tZ:Zw Om 247 2=some 2:=Oc
theorem XN:Zy Om 245=some (247,3):=Oc
theorem Ji:ZC Om 247=some 3:=Oc
theorem ZqF{a b c:Int}(w0:World):
   Calls Om 286 [.agg #[.int Oi a,.int Oi b,.int Oi c]].toArray w0 fun e w=>∃v,e= .returned v/\v=B (¬Xj a b c)/\Sat w0 w []:=by
 refine iE Tryz.func286 Tryz.ntmps286 fun w h=> ?_
 refine fQ<|iG (nS (cs:= [_,_,_]) h) ?_;rintro _ w ⟨D,rfl,h⟩
 refine(zP)<|iT<|(zV (h_ 0 oN))<|(zV (g_ 0 dw h))<|(On)<|lX 6 ?_ ?_<;>intro hc;rotate_left
 refine(zV (h_ 0 oN))<|(zV (g_ 0 dw h))<|(Oo)<|lX 11 ?_ ?_<;>intro hc;rotate_left
 refine(zV (h_ 1 qQ))<|(zV (g_ 0 dw h))<|(Oo)<|lX 16 ?_ ?_<;>intro hc;rotate_left
 refine(zV (h_ 1 qQ))<|(zV (g_ 0 dw h))<|(Oo)<|lX 21 ?_ ?_<;>intro hc;rotate_left
 refine(zV (h_ 2 tZ))<|(zV (g_ 0 dw h))<|(Oo)<|lX 26 ?_ ?_<;>intro hc;rotate_left
 refine(zV (h_ 2 tZ))<|(zV (g_ 0 dw h))<|(Oo)<|jk<|Oj ?_
 exact⟨Zm (by unfold Xj;omega),h.nl⟩
 all_goals
  refine pR ?_
  refine jk<|Oj ?_
  exact⟨Yk (by unfold Xj;omega),h.nl⟩
theorem ZiT{t:Its}(w0:World)(F:Row w0 vI 3 t.n (Z5 t.S t.V t.M)):
   Calls Om 310 [vI,.func (.func 286) #[] #[]].toArray w0 fun e w=>∃v,e= .returned v/\∃r:Int,v= .int Oi r/\((r= -1/\∀k,0<=k->k<t.n->¬(¬Xj (t.S k) (t.V k) (t.M k)))\/(0<=r/\r<t.n/\(¬Xj (t.S r) (t.V r) (t.M r))))/\Sat w0 w []:=by
 have hn:=F.fP.n0;have W:=F.fP.n1
 refine iE Tryz.func310 Tryz.ntmps310 fun w h=> ?_
 refine fQ<|(zP)<|l9<|(zP)<|(zV (iW XN F.fP))<|(zP)<|nI<|ny (fun U M w=>∃(i:Int),U=((t.n-i).toNat)/\(0<=i)/\(i<=t.n)/\(∀k,0<=k->k<i->¬(¬Xj (t.S k) (t.V k) (t.M k)))/\M= [(0,vI),(1,.func (.func 286) #[] #[]),(7,.int Oi t.n),(8,.int Oi i)]/\Sat w0 w []) ⟨0,rfl,Oa,Oa,?_,rfl,h⟩ ?_
 {
 intro k N h1;omega}
 clear h w
 rintro U M w ⟨i,rfl,N,h1,O,rfl,h⟩
 refine fQ<|(zP)<|nG<|Zf ?_ ?_<;>intro hc
 {
 refine oC<|(On)<|iT<|(Oo)<|(zV (iy (kk:=3*i) XN F.fP))<|(zV (uT (cs:= [.int Oi (t.S i),.int Oi (t.V i),.int Oi (t.M i)]) Ji (F.below h.below) (U3 (k:=3*i) (i:=i) t.S t.V t.M Oa)))<|iJ (xc0 Znq) (ZqF (a:=(t.S i)) (b:=(t.V i)) (c:=(t.M i)) w) ?_;rintro _ w ⟨rfl,D⟩
 replace h:=h.cmp D;clear D
 refine ig<|Zf ?_ ?_<;>intro hc
 {
 refine fQ<|(On)<|sG<|Oj ?_
 exact⟨i,rfl,.inr ⟨by omega,Oa,‹¬Xj (t.S i) (t.V i) (t.M i)›⟩,h⟩}
 refine rU<|(zV (Zg (r:=i+1)))<|(zP)<|iq<|jm ⟨i+1,rfl,Oa,Oa,?_,rfl,h⟩
 {
 intro k J Y;rcases Int.lt_or_eq_of_le (show k<=i by omega) with I|I;exact O k J I;rw [I];assumption}}
 refine oM<|(zP)<|jk<|Oj ?_
 exact⟨-1,rfl,.inl ⟨rfl,fun k N h1=>O k N Oa⟩,h⟩
theorem ZiZ{t:Its}(w0:World)(J:Row w0 vI 3 t.n (Z5 t.S t.V t.M)):
   Calls Om 287 [vI,.func (.func 286) #[] #[]].toArray w0 fun e w=>∃v,e= .returned v/\v=B (∃k,0<=k/\k<t.n/\(¬Xj (t.S k) (t.V k) (t.M k)))/\Sat w0 w []:=by
 refine iE Tryz.func287 Tryz.ntmps287 fun w F=> ?_
 refine fQ<|(zP)<|iT<|(On)<|iJ (xc0 Znh) (ZiT w (J.below F.below)) ?_;rintro _ w ⟨W,rfl,I,D⟩
 replace F:=F.cmp D;clear D
 refine(On)<|jk<|Oj ?_
 exact⟨Zm (by
  rcases I with⟨h1,h2⟩|⟨h1,h2,h3⟩
  · exact⟨fun h=>Oa,fun⟨k,U,O,N⟩=>absurd N (h2 k U O)⟩
  · exact⟨fun _=>⟨_,h1,h2,h3⟩,fun _=>h1⟩),F⟩
theorem ZiQ{t:Its}{cap:Int}(w0:World)(O:Row w0 vI 3 t.n (Z5 t.S t.V t.M)):
   Calls Om 233 [vI,.int Oi cap].toArray w0 fun e w=>∃v,e= .returned v/\v=B (t.Ok cap)/\Sat w0 w []:=by
 have hn:=O.fP.n0
 refine iE Tryz.func233 Tryz.ntmps233 fun w h=> ?_
 refine fQ<|(zP)<|iT<|(zP)<|iT<|(zP)<|(zV (iW XN O.fP))<|(On)<|lX 9 ?_ ?_<;>intro hc
 {
 refine qE ?_
 refine lX 13 ?_ ?_<;>intro hc
 {
 refine qE ?_
 refine lX 17 ?_ ?_<;>intro hc
 {
 refine(On)<|iJ (xc0 Znp) (ZiZ (t:=t) w (O.below h.below)) ?_;rintro _ w ⟨rfl,D⟩
 replace h:=h.cmp D;clear D
 refine(Oo)<|jk<|Oj ?_
 exact⟨Zm (by exact⟨fun U=>⟨by omega,Oa,Oa,fun k I F=>Od fun N=>U ⟨k,I,F,N⟩⟩,fun J ⟨k,I,F,N⟩=>N (J.all k I F)⟩),h⟩}
 iterate 4 refine oq ?_
 refine(On)<|jk<|Oj ?_
 exact⟨Zi (by rintro⟨h1,h2,h3,h4⟩;omega),h⟩}
 refine(zO)<|(zO)<|zs2 ?_
 iterate 4 refine oq ?_
 refine(On)<|jk<|Oj ?_
 exact⟨Zi (by rintro⟨h1,h2,h3,h4⟩;omega),h⟩}
 refine(zO)<|(zO)<|(On)<|(zO)<|oq ?_
 refine zs2 ?_
 iterate 4 refine oq ?_
 refine(On)<|jk<|Oj ?_
 exact⟨Zi (by rintro⟨h1,h2,h3,h4⟩;omega),h⟩
theorem U6{W:Value}{n s y m r:Int}{T:Of}{gn gr gx:Nat}{k:Int}(w0:World)(U:(iO.blk gn [W]).holds w0)(O:(iO.blk gr [.int Oi r]).holds w0)(D:(iO.blk gx [.int Oi s,.int Oi y,.int Oi m]).holds w0)(N:Row w0 W 1 n (ints T))(J:∀c,0<=c->c<n->0<=T c/\T c<=4398046511104)(Z:1<=s)(ab:n<=4001)(Y:0<=y/\y<=1073741824)(r0:0<=r)(F:0<=k)(I:r+k*s<n):
   Calls Om 311 [.int Oi k,Or gn,Or gr,Or gx].toArray w0 fun e w=>∃v,e= .returned v/\v= .int Oi (T (r+k*s)-k*y)/\Sat w0 w []:=by
 have ac:=N.fP.n1
 have jD:=P_ F Z
 have ae:=KL Z r0 F (Int.le_refl _) I
 have ad:=Wd F Oa Y.1 Y.2
 have aa:=J (r+k*s) Oa Oa
 refine iE Tryz.func311 Tryz.ntmps311 fun w h=> ?_
 refine fQ<|(zP)<|nG<|lg [] [] 1000 nP h ?_;clear h;intro w h
 refine(iQ 0 (fun w h=>(wR dV (iO.holds.cell U (o:=0) rfl) h)))<|(iQ 1 (fun w h=>(wR dw (iO.holds.cell O (o:=0) rfl) h)))<|(b_ 2 gu)<|(b_ 3 (h_ 0 oN))<|(iQ 4 (fun w h=>(wR dw (iO.holds.cell D (o:=0) rfl) h)))<|(b_ 5 (Yf (r:=(k*s)) (e:=rfl)))<|(b_ 6 (Zg (r:=r+(k*s))))<|(b_ 7 (iy (kk:=r+(k*s)) Zb N.fP))<|(iQ 8 (fun w h=>(iR (u:= .int Oi (T (r+(k*s)))) dw (N.below h.below))))<|(b_ 9 gu)<|(b_ 10 (h_ 1 qQ))<|(iQ 11 (fun w h=>(wR dw (iO.holds.cell D (o:=1) rfl) h)))<|(b_ 12 (Yf (r:=(k*y)) (e:=rfl)))<|(b_ 13 (Zr (r:=(T (r+(k*s)))-(k*y))))<|ou 14 nU ?_
 refine lS<|iP<|sZ<|Oj ?_
 exact⟨rfl,h⟩
theorem ZkX{vN:Value}{n s y m:Int}{T:Of}(w0:World)(hN:Row w0 vN 1 n (ints T))(Z:∀c,0<=c->c<n->0<=T c/\T c<=4398046511104)(hs:1<=s)(ak:s<=4000)(ad:n<=4001)(Y:0<=y/\y<=1073741824)(hm:0<=m/\m<=1000):
   Calls Om 288 [.agg #[.int Oi s,.int Oi y,.int Oi m],vN].toArray w0 fun e w=>∃v,e= .returned v/\∃r,v=r/\iK r n/\Sat w0 w [.own r 1 3 n (ints (R T s y m.toNat))]:=by
 have aw:=hN.fP.n0
 refine iE Tryz.func288 Tryz.ntmps288 fun w D=> ?_
 refine fQ<|iG (nS (cs:= [_,_,_]) D) ?_;rintro _ w ⟨g1,rfl,D⟩
 refine iG (nS (cs:= [_]) D (hc:=iK.cells hN.fP)) ?_;rintro _ w ⟨g2,rfl,D⟩
 refine(zP)<|iT<|(zV (g_ 1 dV D))<|(zV (iW Zb hN.fP))<|iG (uF Zb Zq D) ?_;rintro v1 w ⟨D,ag⟩
 refine(zP)<|l9<|(zV (h_ 0 oN))<|(zV (g_ 0 dw D))<|(zV (g_ 1 dV D))<|(zV (iW Zb hN.fP))<|(zV (TS (r:=(min s n))))<|(zP)<|nI<|ny (fun mm M w=>∃(r:Int) (g:Of),mm=((min s n-r).toNat)/\(0<=r)/\(r<=min s n)/\(∀c,0<=c->c<n->c%s<r->g c=R T s y m.toNat c)/\M= [(2,Or g1),(3,Or g2),(4,Oh),(5,v1),(17,.int Oi (min s n)),(18,.int Oi r)]/\Sat w0 w [.blk g1 [.int Oi s,.int Oi y,.int Oi m],.blk g2 [vN],.own v1 1 3 n (ints g)]) ⟨0,(fun _=>0),rfl,Oa,Oa,?_,rfl,D⟩ ?_
 {
 intro c c0 c1 c2;have:=Int.emod_nonneg c (show s≠0 by omega);omega}
 clear D w
 rintro mm M w ⟨r,g,rfl,r0,r1,hg,rfl,D⟩
 refine fQ<|(zP)<|nG<|Zf ?_ ?_<;>intro hc
 {
 refine oC<|(zP)<|iG (oh (cs:= [_]) Zq D) ?_;rintro _ w ⟨g3,rfl,D⟩
 refine lJ (xsb 3 dw D) ?_;clear D;rintro w D
 refine iT<|(zP)<|iT<|(zV wX)<|(zP)<|iT<|(zP)<|nI ?_
 replace D:=D.Gq 3 (fun _=>0)
 refine ny (fun mm M w=>∃(q:Int) (k:Int) (W:Of) (wq:Value) (I:Of),mm=((n-k).toNat)/\(0<=k)/\(k<=n)/\(DQ (fun j=>T (r+j*s)-j*y) m k q I)/\(LY T s y m n r k W)/\(iK wq q)/\M= [(2,Or g1),(3,Or g2),(4,Oh),(5,v1),(6,Or g3),(7,wq),(8,.func (.func 311) #[] #[Or g2,Or g3,Or g1]),(9,.int Oi k),(17,.int Oi (min s n)),(18,.int Oi r)]/\Sat w0 w [.blk g1 [.int Oi s,.int Oi y,.int Oi m],.blk g2 [vN],.own v1 1 3 n (ints W),.blk g3 [.int Oi r],.sem (Frame.dq 3 wq q I)]) ⟨0,0,g,Oh,(fun _=>0),rfl,Oa,Oa,?_,?_,?_,rfl,D⟩ ?_
 {
 exact DQ.start _ _ _}
 {
 exact LY.start T hg}
 {
 exact d_}
 clear D w
 rintro mm M w ⟨q,k,W,wq,I,rfl,O,k1,al,ai,am,rfl,D⟩
 refine lW<|fQ<|(zV (g_ 3 dw D))<|(zP)<|(zV (h_ 0 oN))<|(zV (g_ 0 dw D))<|iI (Yf (r:=(k*s)) (e:=rfl) (hr:=(by have h1:=Int.mul_nonneg O (show 0<=s by omega);have h2:=Int.mul_le_mul (show k<=4001 by omega) ak Oa (show 0<=(4001:Int) by omega);unfold I64;omega))) ?_
 have jD:=P_ O hs
 have mP:0<=k*s/\k*s<=16008000:=by have h1:=Int.mul_nonneg O (show 0<=s by omega);have h2:=Int.mul_le_mul (show k<=4001 by omega) ak Oa (show 0<=(4001:Int) by omega);omega
 refine(zV (Zg (r:=r+(k*s))))<|(zV (g_ 1 dV D))<|(zV (iW Zb hN.fP))<|(zP)<|ig<|Zf ?_ ?_<;>intro hc
 {
 refine nX<|iP<|lW<|o7<|lW<|o7 ?_
 have jO:=al.p
 refine ny (fun mm M w=>∃(F:Int) (wp:Value),mm=F.toNat/\(E_ (fun j=>T (r+j*s)-j*y) m k F I)/\(F<=k)/\(iK wp F)/\M= [(2,Or g1),(3,Or g2),(4,Oh),(5,v1),(6,Or g3),(7,wp),(8,.func (.func 311) #[] #[Or g2,Or g3,Or g1]),(9,.int Oi k),(17,.int Oi (min s n)),(18,.int Oi r)]/\Sat w0 w [.blk g1 [.int Oi s,.int Oi y,.int Oi m],.blk g2 [vN],.own v1 1 3 n (ints W),.blk g3 [.int Oi r],.sem (Frame.dq 3 wp F I)]) ⟨q,wq,rfl,?_,?_,?_,rfl,D⟩ ?_
 {
 exact jO}
 {
 exact al.len O}
 {
 exact am}
 clear D w
 rintro mm M w ⟨F,wp,rfl,ah,au,ac,rfl,D⟩
 have mC:=ah.q0
 refine lW<|fQ<|(zP)<|(zV (iW Zb ac))<|(On)<|lX 36 ?_ ?_<;>intro hc
 {
 refine(Oo)<|(zV (iW Zb ac))<|(zV (Zr (r:=F-1)))<|(zV (iy (kk:=F-1) Zb ac))<|iI (iR (u:= .int Oi (I (F-1))) dw (Frame.dq.row (D.wO 4 rfl))) ?_
 have av:=ah.rng (F-1) Oa Oa
 have mQ:=KL hs r0 (show 0<=I (F-1) by omega) (show I (F-1)<=k by omega) (show r+k*s<n by omega)
 refine iJ (uU (vs:= [_]) U4) (U6 (k:=(I (F-1))) (n:=n) (T:=T) w (D.holds _ (List.mem_of_getElem? (i:=1) rfl)) (D.holds _ (List.mem_of_getElem? (i:=3) rfl)) (D.holds _ (List.mem_of_getElem? (i:=0) rfl)) (hN.below D.below) Z hs ad Y Oa Oa Oa) ?_;rintro _ w ⟨rfl,N⟩
 replace D:=D.cmp N;clear N
 refine(On)<|iJ (uU (vs:= [_]) U4) (U6 (k:=k) (n:=n) (T:=T) w (D.holds _ (List.mem_of_getElem? (i:=1) rfl)) (D.holds _ (List.mem_of_getElem? (i:=3) rfl)) (D.holds _ (List.mem_of_getElem? (i:=0) rfl)) (hN.below D.below) Z hs ad Y Oa Oa Oa) ?_;rintro _ w ⟨rfl,N⟩
 replace D:=D.cmp N;clear N
 refine(On)<|ig<|Zf ?_ ?_<;>intro hc
 {
 refine nX<|iP<|o7<|lG<|(On)<|(zV (iW Zb ac))<|(zV (Zr (r:=F-1)))<|iI (Qu (i:=F-1) (F-1).toNat Zb ac (Frame.dq.roomy (D.wO 4 rfl))) ?_
 have f8:=(ZfW (e:=F-1) ac Oa Oa)
 replace D:=D.Gp (n:=F) 4 (F-1).toNat Oa
 replace D:=D.Jw 4 (by omega:((F-1).toNat:Int)=F-1)
 refine(zP)<|iq<|ng<|jm ⟨F-1,(D9 wp (F-1).toNat),rfl,?_,?_,?_,rfl,D⟩
 {
 exact ah.pop Oa (by show T _-_<=T _-_;omega)}
 {
 omega}
 {
 exact f8}}
 refine oM<|(On)<|iG (pO (n:=1) (len:=1) (pv:= [(0,.int Oi k)]) (cs:= [.int Oi k]) (c:=ints (fun _=>k)) Zb Zq D) ?_;rintro v2 w ⟨D,ap⟩
 refine iG (NQ 4 Zb Zq D (D.f_ 5 rfl)) ?_;rintro v3 w ⟨D,af⟩
 have aa:=ah.push O hm.1 (by show _<=_\/T _-_<T _-_;omega)
 have hdr:=aa.rng 0 Oa Oa
 refine(zP)<|ig<|lW<|lW<|lg [0,1,2,3,4,5] [0,1,2,3,4,5] 1000 nP D ?_;clear D;intro w D
 refine(b_ 0 gu)<|(b_ 1 (iy (kk:=0) Zb af))<|(iQ 2 (fun w D=>(iR (u:= .int Oi ((snoc I F k) 0)) dw (Frame.dq.row (D.wO 4 rfl)))))<|(b_ 3 gu)<|(b_ 4 (h_ 2 tZ))<|(iQ 5 (fun w D=>(g_ 0 dw D)))<|(b_ 6 (Zr (r:=k-m)))<|(b_ 7 Z6)<|lS<|iP ?_
 refine Zf ?_ ?_<;>intro hc
 {
 refine lG<|iI gu ?_
 have an:=aa.more hm.1 Oa
 refine RU rfl rfl rfl (Y0 (q:=1) rfl Zb rfl rfl rfl af rfl Oa Oa) ?_
 have cL:=(K7 (m:=F) af (Frame.dq.roomy (D.wO 4 rfl)) Oa Oa)
 replace D:=D.Ei (n:=F+1) 4 1 Oa
 replace D:=D.Jw 4 (by omega:(F+1-((1:Nat):Int):Int)=F)
 replace D:Sat w0 w [.blk g1 [.int Oi s,.int Oi y,.int Oi m],.blk g2 [vN],.own v1 1 3 n (ints W),.blk g3 [.int Oi r],.sem (Frame.dq 3 (XB v3 1) F (fun J=>(snoc I F k) (J+1))),.own v2 1 3 1 (ints (fun _=>k))]:=D
 refine(zP)<|ig<|lg [0,1,2,3,4,5] [0,1,3,4,5] 18 nP D ?_;clear D;intro w D
 refine ou 0 gu ?_
 have yH:DQ (fun j=>T (r+j*s)-j*y) m (k+1) (F) ((fun J=>(snoc I F k) (J+1))):=aa.drop O hm.1 Oa
 have U:=yH.best O hm.1
 have aj:max 0 (k-m)<=((fun J=>(snoc I F k) (J+1))) 0:=U.2.1
 have ab:((fun J=>(snoc I F k) (J+1))) 0<=k:=U.2.2.1
 have dK:=KL hs r0 (show 0<=((fun J=>(snoc I F k) (J+1))) 0 by omega) ab (show r+k*s<n by omega)
 have dI:=Wd O Oa Y.1 Y.2
 have dJ:=Wd (show 0<=((fun J=>(snoc I F k) (J+1))) 0 by omega) Oa Y.1 Y.2
 have dm:=Z (r+((fun J=>(snoc I F k) (J+1))) 0*s) Oa Oa
 refine(iQ 1 (fun w D=>(g_ 2 dw D)))<|(b_ 2 gu)<|(b_ 3 (h_ 0 oN))<|(iQ 4 (fun w D=>(g_ 0 dw D)))<|(b_ 5 (Yf (r:=(k*s)) (e:=rfl)))<|(b_ 6 (Zg (r:=r+(k*s))))<|(b_ 7 gu)<|(b_ 8 gu)<|(b_ 9 (iy (kk:=0) Zb cL))<|(iQ 10 (fun w D=>(iR (u:= .int Oi ((fun J=>(snoc I F k) (J+1)) 0)) dw (Frame.dq.row (D.wO 3 rfl)))))<|(b_ 12 gu)<|(b_ 13 (h_ 1 qQ))<|(iQ 14 (fun w D=>(g_ 0 dw D)))<|(b_ 15 (Yf (r:=(k*y)) (e:=rfl)))<|pK 11 (uU (vs:= [_]) U4) (U6 (k:=((fun J=>(snoc I F k) (J+1)) 0)) (n:=n) (T:=T) w (D.holds _ (List.mem_of_getElem? (i:=1) rfl)) (D.holds _ (List.mem_of_getElem? (i:=3) rfl)) (D.holds _ (List.mem_of_getElem? (i:=0) rfl)) (hN.below D.below) Z hs ad Y Oa Oa Oa) ?_;rintro _ w ⟨rfl,N⟩
 replace D:=D.cmp N;clear N
 refine⟨⟨fun _=>D,D.pk [0,1,3,4,5]⟩,?_⟩
 refine(b_ 16 (Zg (r:=(T (r+((fun J=>(snoc I F k) (J+1)) 0)*s)-((fun J=>(snoc I F k) (J+1)) 0)*y)+(k*y))))<|(b_ 17 (iy (kk:=r+(k*s)) Zb ag))<|nR 18 (rV 2 dw D (ZA _ _ _)) ?_;clear D;rintro w D
 refine⟨⟨fun h=>absurd h (by decide),D.pk [0,1,3,4,5]⟩,?_⟩
 refine lS<|ng<|iP<|lG ?_
 refine(zP)<|(zV (Zg (r:=k+1)))<|(zP)<|iq<|jm ⟨F,k+1,(upd W (r+(k*s)) ((T (r+((fun J=>(snoc I F k) (J+1)) 0)*s)-((fun J=>(snoc I F k) (J+1)) 0)*y)+(k*y))),(XB v3 1),(fun J=>(snoc I F k) (J+1)),rfl,Oa,Oa,?_,?_,?_,rfl,D.pk [0,1,2,3,4]⟩
 {
 exact yH}
 {
 exact ai.step hs r0 Oa O (TQ hs hm.1 r0 Oa O U.2.1 U.2.2.1 (fun j j0 j1=>U.2.2.2 j j0 j1))}
 {
 exact cL}}
 refine nX<|iP<|lg [0,1,2,3,4,5] [0,1,3,4,5] 18 nP D ?_;clear D;intro w D
 refine ou 0 gu ?_
 have yH:DQ (fun j=>T (r+j*s)-j*y) m (k+1) (F+1) ((snoc I F k)):=aa.keep O Oa
 have U:=yH.best O hm.1
 have aj:max 0 (k-m)<=((snoc I F k)) 0:=U.2.1
 have ab:((snoc I F k)) 0<=k:=U.2.2.1
 have dK:=KL hs r0 (show 0<=((snoc I F k)) 0 by omega) ab (show r+k*s<n by omega)
 have dI:=Wd O Oa Y.1 Y.2
 have dJ:=Wd (show 0<=((snoc I F k)) 0 by omega) Oa Y.1 Y.2
 have dm:=Z (r+((snoc I F k)) 0*s) Oa Oa
 refine(iQ 1 (fun w D=>(g_ 2 dw D)))<|(b_ 2 gu)<|(b_ 3 (h_ 0 oN))<|(iQ 4 (fun w D=>(g_ 0 dw D)))<|(b_ 5 (Yf (r:=(k*s)) (e:=rfl)))<|(b_ 6 (Zg (r:=r+(k*s))))<|(b_ 7 gu)<|(b_ 8 gu)<|(b_ 9 (iy (kk:=0) Zb af))<|(iQ 10 (fun w D=>(iR (u:= .int Oi ((snoc I F k) 0)) dw (Frame.dq.row (D.wO 3 rfl)))))<|(b_ 12 gu)<|(b_ 13 (h_ 1 qQ))<|(iQ 14 (fun w D=>(g_ 0 dw D)))<|(b_ 15 (Yf (r:=(k*y)) (e:=rfl)))<|pK 11 (uU (vs:= [_]) U4) (U6 (k:=((snoc I F k) 0)) (n:=n) (T:=T) w (D.holds _ (List.mem_of_getElem? (i:=1) rfl)) (D.holds _ (List.mem_of_getElem? (i:=3) rfl)) (D.holds _ (List.mem_of_getElem? (i:=0) rfl)) (hN.below D.below) Z hs ad Y Oa Oa Oa) ?_;rintro _ w ⟨rfl,N⟩
 replace D:=D.cmp N;clear N
 refine⟨⟨fun _=>D,D.pk [0,1,3,4,5]⟩,?_⟩
 refine(b_ 16 (Zg (r:=(T (r+((snoc I F k) 0)*s)-((snoc I F k) 0)*y)+(k*y))))<|(b_ 17 (iy (kk:=r+(k*s)) Zb ag))<|nR 18 (rV 2 dw D (ZA _ _ _)) ?_;clear D;rintro w D
 refine⟨⟨fun h=>absurd h (by decide),D.pk [0,1,3,4,5]⟩,?_⟩
 refine lS<|ng<|iP<|lG ?_
 refine(zP)<|(zV (Zg (r:=k+1)))<|(zP)<|iq<|jm ⟨F+1,k+1,(upd W (r+(k*s)) ((T (r+((snoc I F k) 0)*s)-((snoc I F k) 0)*y)+(k*y))),v3,(snoc I F k),rfl,Oa,Oa,?_,?_,?_,rfl,D.pk [0,1,2,3,4]⟩
 {
 exact yH}
 {
 exact ai.step hs r0 Oa O (TQ hs hm.1 r0 Oa O U.2.1 U.2.2.1 (fun j j0 j1=>U.2.2.2 j j0 j1))}
 {
 exact af}}
 iterate 12 refine oq ?_
 refine(zP)<|ig<|uD<|sW<|n_<|n_<|rH<|iP<|fQ ?_
 refine(On)<|iG (pO (n:=1) (len:=1) (pv:= [(0,.int Oi k)]) (cs:= [.int Oi k]) (c:=ints (fun _=>k)) Zb Zq D) ?_;rintro v4 w ⟨D,ao⟩
 refine iG (NQ 4 Zb Zq D (D.f_ 5 rfl)) ?_;rintro v5 w ⟨D,ae⟩
 have aa:=ah.push O hm.1 (by show _<=_\/T _-_<T _-_;omega)
 have hdr:=aa.rng 0 Oa Oa
 refine(zP)<|ig<|lW<|lW<|lg [0,1,2,3,4,5] [0,1,2,3,4,5] 1000 nP D ?_;clear D;intro w D
 refine(b_ 0 gu)<|(b_ 1 (iy (kk:=0) Zb ae))<|(iQ 2 (fun w D=>(iR (u:= .int Oi ((snoc I F k) 0)) dw (Frame.dq.row (D.wO 4 rfl)))))<|(b_ 3 gu)<|(b_ 4 (h_ 2 tZ))<|(iQ 5 (fun w D=>(g_ 0 dw D)))<|(b_ 6 (Zr (r:=k-m)))<|(b_ 7 Z6)<|lS<|iP ?_
 refine Zf ?_ ?_<;>intro hc
 {
 refine lG<|iI gu ?_
 have an:=aa.more hm.1 Oa
 refine RU rfl rfl rfl (Y0 (q:=1) rfl Zb rfl rfl rfl ae rfl Oa Oa) ?_
 have cK:=(K7 (m:=F) ae (Frame.dq.roomy (D.wO 4 rfl)) Oa Oa)
 replace D:=D.Ei (n:=F+1) 4 1 Oa
 replace D:=D.Jw 4 (by omega:(F+1-((1:Nat):Int):Int)=F)
 replace D:Sat w0 w [.blk g1 [.int Oi s,.int Oi y,.int Oi m],.blk g2 [vN],.own v1 1 3 n (ints W),.blk g3 [.int Oi r],.sem (Frame.dq 3 (XB v5 1) F (fun J=>(snoc I F k) (J+1))),.own v4 1 3 1 (ints (fun _=>k))]:=D
 refine(zP)<|ig<|lg [0,1,2,3,4,5] [0,1,3,4,5] 18 nP D ?_;clear D;intro w D
 refine ou 0 gu ?_
 have yH:DQ (fun j=>T (r+j*s)-j*y) m (k+1) (F) ((fun J=>(snoc I F k) (J+1))):=aa.drop O hm.1 Oa
 have U:=yH.best O hm.1
 have aj:max 0 (k-m)<=((fun J=>(snoc I F k) (J+1))) 0:=U.2.1
 have ab:((fun J=>(snoc I F k) (J+1))) 0<=k:=U.2.2.1
 have dK:=KL hs r0 (show 0<=((fun J=>(snoc I F k) (J+1))) 0 by omega) ab (show r+k*s<n by omega)
 have dI:=Wd O Oa Y.1 Y.2
 have dJ:=Wd (show 0<=((fun J=>(snoc I F k) (J+1))) 0 by omega) Oa Y.1 Y.2
 have dm:=Z (r+((fun J=>(snoc I F k) (J+1))) 0*s) Oa Oa
 refine(iQ 1 (fun w D=>(g_ 2 dw D)))<|(b_ 2 gu)<|(b_ 3 (h_ 0 oN))<|(iQ 4 (fun w D=>(g_ 0 dw D)))<|(b_ 5 (Yf (r:=(k*s)) (e:=rfl)))<|(b_ 6 (Zg (r:=r+(k*s))))<|(b_ 7 gu)<|(b_ 8 gu)<|(b_ 9 (iy (kk:=0) Zb cK))<|(iQ 10 (fun w D=>(iR (u:= .int Oi ((fun J=>(snoc I F k) (J+1)) 0)) dw (Frame.dq.row (D.wO 3 rfl)))))<|(b_ 12 gu)<|(b_ 13 (h_ 1 qQ))<|(iQ 14 (fun w D=>(g_ 0 dw D)))<|(b_ 15 (Yf (r:=(k*y)) (e:=rfl)))<|pK 11 (uU (vs:= [_]) U4) (U6 (k:=((fun J=>(snoc I F k) (J+1)) 0)) (n:=n) (T:=T) w (D.holds _ (List.mem_of_getElem? (i:=1) rfl)) (D.holds _ (List.mem_of_getElem? (i:=3) rfl)) (D.holds _ (List.mem_of_getElem? (i:=0) rfl)) (hN.below D.below) Z hs ad Y Oa Oa Oa) ?_;rintro _ w ⟨rfl,N⟩
 replace D:=D.cmp N;clear N
 refine⟨⟨fun _=>D,D.pk [0,1,3,4,5]⟩,?_⟩
 refine(b_ 16 (Zg (r:=(T (r+((fun J=>(snoc I F k) (J+1)) 0)*s)-((fun J=>(snoc I F k) (J+1)) 0)*y)+(k*y))))<|(b_ 17 (iy (kk:=r+(k*s)) Zb ag))<|nR 18 (rV 2 dw D (ZA _ _ _)) ?_;clear D;rintro w D
 refine⟨⟨fun h=>absurd h (by decide),D.pk [0,1,3,4,5]⟩,?_⟩
 refine lS<|ng<|iP<|lG ?_
 refine(zP)<|(zV (Zg (r:=k+1)))<|(zP)<|iq<|jm ⟨F,k+1,(upd W (r+(k*s)) ((T (r+((fun J=>(snoc I F k) (J+1)) 0)*s)-((fun J=>(snoc I F k) (J+1)) 0)*y)+(k*y))),(XB v5 1),(fun J=>(snoc I F k) (J+1)),rfl,Oa,Oa,?_,?_,?_,rfl,D.pk [0,1,2,3,4]⟩
 {
 exact yH}
 {
 exact ai.step hs r0 Oa O (TQ hs hm.1 r0 Oa O U.2.1 U.2.2.1 (fun j j0 j1=>U.2.2.2 j j0 j1))}
 {
 exact cK}}
 refine nX<|iP<|lg [0,1,2,3,4,5] [0,1,3,4,5] 18 nP D ?_;clear D;intro w D
 refine ou 0 gu ?_
 have yH:DQ (fun j=>T (r+j*s)-j*y) m (k+1) (F+1) ((snoc I F k)):=aa.keep O Oa
 have U:=yH.best O hm.1
 have aj:max 0 (k-m)<=((snoc I F k)) 0:=U.2.1
 have ab:((snoc I F k)) 0<=k:=U.2.2.1
 have dK:=KL hs r0 (show 0<=((snoc I F k)) 0 by omega) ab (show r+k*s<n by omega)
 have dI:=Wd O Oa Y.1 Y.2
 have dJ:=Wd (show 0<=((snoc I F k)) 0 by omega) Oa Y.1 Y.2
 have dm:=Z (r+((snoc I F k)) 0*s) Oa Oa
 refine(iQ 1 (fun w D=>(g_ 2 dw D)))<|(b_ 2 gu)<|(b_ 3 (h_ 0 oN))<|(iQ 4 (fun w D=>(g_ 0 dw D)))<|(b_ 5 (Yf (r:=(k*s)) (e:=rfl)))<|(b_ 6 (Zg (r:=r+(k*s))))<|(b_ 7 gu)<|(b_ 8 gu)<|(b_ 9 (iy (kk:=0) Zb ae))<|(iQ 10 (fun w D=>(iR (u:= .int Oi ((snoc I F k) 0)) dw (Frame.dq.row (D.wO 3 rfl)))))<|(b_ 12 gu)<|(b_ 13 (h_ 1 qQ))<|(iQ 14 (fun w D=>(g_ 0 dw D)))<|(b_ 15 (Yf (r:=(k*y)) (e:=rfl)))<|pK 11 (uU (vs:= [_]) U4) (U6 (k:=((snoc I F k) 0)) (n:=n) (T:=T) w (D.holds _ (List.mem_of_getElem? (i:=1) rfl)) (D.holds _ (List.mem_of_getElem? (i:=3) rfl)) (D.holds _ (List.mem_of_getElem? (i:=0) rfl)) (hN.below D.below) Z hs ad Y Oa Oa Oa) ?_;rintro _ w ⟨rfl,N⟩
 replace D:=D.cmp N;clear N
 refine⟨⟨fun _=>D,D.pk [0,1,3,4,5]⟩,?_⟩
 refine(b_ 16 (Zg (r:=(T (r+((snoc I F k) 0)*s)-((snoc I F k) 0)*y)+(k*y))))<|(b_ 17 (iy (kk:=r+(k*s)) Zb ag))<|nR 18 (rV 2 dw D (ZA _ _ _)) ?_;clear D;rintro w D
 refine⟨⟨fun h=>absurd h (by decide),D.pk [0,1,3,4,5]⟩,?_⟩
 refine lS<|ng<|iP<|lG ?_
 refine(zP)<|(zV (Zg (r:=k+1)))<|(zP)<|iq<|jm ⟨F+1,k+1,(upd W (r+(k*s)) ((T (r+((snoc I F k) 0)*s)-((snoc I F k) 0)*y)+(k*y))),v5,(snoc I F k),rfl,Oa,Oa,?_,?_,?_,rfl,D.pk [0,1,2,3,4]⟩
 {
 exact yH}
 {
 exact ai.step hs r0 Oa O (TQ hs hm.1 r0 Oa O U.2.1 U.2.2.1 (fun j j0 j1=>U.2.2.2 j j0 j1))}
 {
 exact ae}}
 refine sW<|n_<|n_<|rH<|ng<|iP<|lG<|(zV (Zg (r:=r+1)))<|(zP)<|iq<|jm ⟨r+1,W,rfl,Oa,Oa,?_,rfl,D.pk [0,1,2]⟩
 {
 exact ai.fin Oa}}
 refine oM<|(On)<|jk<|Oj ?_
 obtain⟨ar,aq⟩:r=min s n/\r<=n:=Oa
 replace D:=D.nJ 2 rfl (d:=ints (R T s y m.toNat)) (fun c c0 c1=>by
   unfold ints;rw [hg c c0 Oa (by rcases Int.lt_or_le c s with h1|h1;rw [Int.emod_eq_of_lt c0 h1];omega;have:=Int.emod_lt_of_pos c (show 0<s by omega);omega)])
 exact⟨_,rfl,ag,D.pk [2]⟩
end Go.Proofs.YtpnamgfdakfccaaGreat
namespace Go.Proofs.YtpnamgfdakfccaaGreat
open Go Go.RowKit Go.Proofs.Gw
theorem Zno:Zc Om 288=true:=Oc
theorem Sat.Dv{w w0:World}{l:List iO}{E:TypeId}{n:Int}{vv:Ov}{ln:Of}{f:Og}(i:Nat)(h:Sat w0 w l)(hi:l[i]? =some (.sem (Frame.rows E n vv ln f))):Sat w0 w (l.set i (.sem (Frame.rows E n (fun k=>vv (n-1-k)) (fun k=>ln (n-1-k)) (fun k=>f (n-1-k))))):=
 h.Ak i hi (fun⟨h1,J⟩=>⟨fun k F D=>h1 (n-1-k) Oa Oa,fun a b W U O N I=>J (n-1-a) (n-1-b) Oa Oa Oa Oa Oa⟩) fun g ⟨k,F,D,hk⟩=>⟨n-1-k,Oa,Oa,hk⟩
theorem Zl9{w:World}{v:Value}{n:Int}{f g:Of}(h:Row w v 1 n (ints f))(e:f=g):Row w v 1 n (ints g):=e▸h
theorem ZiP{vI:Value}{t:Its}{cap:Int}(w0:World)(W:Row w0 vI 3 t.n (Z5 t.S t.V t.M))(hk:t.Ok cap):
   Calls Om 234 [vI,.int Oi cap].toArray w0 fun e w=>∃v,e= .returned v/\∃r vv,v=r/\iK r (t.n+1)/\Sat w0 w [.own r 1 22 (t.n+1) vv,.sem (Frame.rows 3 (t.n+1) vv (fun _=>cap+1) (KI t))]:=by
 have hn:=W.fP.n0
 have af:=hk.n;have ae:=hk.c0;have ad:=hk.c1
 refine iE Tryz.func234 Tryz.ntmps234 fun w D=> ?_
 refine fQ<|(zP)<|iT<|(zP)<|(zV (iW XN W.fP))<|(zV (Zg (r:=t.n+1)))<|iG (uF Zk ZQ D) ?_;rintro v1 w ⟨D,J⟩
 refine(zP)<|iT<|(On)<|(zV (iW XN W.fP))<|(zP)<|(zV (Zg (r:=cap+1)))<|iG (uF Zb Zq D) ?_;rintro v2 w ⟨D,ab⟩
 refine(zV (iy (kk:=t.n) Zk J))<|lJ (rV 0 dV D rfl (hv:=ab.one)) ?_;clear D;rintro w D
 refine l9<|(zP)<|(zV (iW XN W.fP))<|(zV (Zr (r:=t.n-1)))<|(zP)<|nI ?_
 replace D:=D.iF 3 (fun _=>Oh) (fun _=>cap+1) (fun j=>KI t (t.n-j))
 have zL:=fun k (I:0<=k) (F:k<0)=>D.iw 2 rfl I F
 replace D:=Sat.Bd (l1:= [_]) (l2:= []) (l3:= []) D Oa
 have q9:=fun k (I:0<=k) (F:k<1)=>D.iw 1 rfl I F
 replace D:=D.oP (xk:=lD (fun _=>Oh) 0 v2) (vT:=fun _=>cap+1) (f':=fun j=>KI t (t.n-j)) 1 rfl (fun k I F=>by
   by_cases e:k<0
   · exact⟨rfl,Zl e,fun j _ _=>by rw [Zl e]⟩
   {
   have O:k=0:=Oa
   refine⟨rfl,Zo e,fun j _ _=> ?_⟩
   rw [Zo e,O];rw [show t.n-(0:Int)=t.n by omega,Zpg]})
 have kI:=fun k (I:0<=k) (F:k<1)=>D.iw 1 rfl I F
 refine ny (fun mm M w=>∃(nC:Int) (Y:Ov) (U:Ov) (i:Int),mm=((i+1).toNat)/\(-1<=i)/\(i<=t.n-1)/\(nC=t.n-i)/\(∀j,0<=j->j<nC->Y (t.n-j)=U j)/\M= [(0,vI),(4,Oh),(5,v1),(6,.int Oi i)]/\Sat w0 w [.own v1 1 22 (t.n+1) Y,.sem (Frame.rows 3 nC U (fun _=>cap+1) (fun j=>KI t (t.n-j)))]) ⟨1,upd (fun _=> Oh) t.n (v2),lD (fun _=>Oh) 0 v2,(t.n-1),rfl,Oa,Oa,Oa,?_,rfl,D⟩ ?_
 {
 intro j j0 j1;obtain rfl:j=0:=Oa
 rw [show t.n-(0:Int)=t.n by omega,iU,Zo Oa]}
 clear D w
 rintro mm M w ⟨nC,Y,U,i,rfl,i0,i1,Z,N,rfl,D⟩
 have xV:=fun k (I:0<=k) (F:k<nC)=>D.iw 1 rfl I F
 refine lW<|fQ<|(On)<|ig<|Zf ?_ ?_<;>intro hc
 {
 refine nX<|iP<|lW<|o7<|lg [0,1] [1] 13 nP D ?_;clear D;intro w D
 refine(b_ 0 gu)<|(b_ 1 gu)<|(b_ 2 gu)<|(b_ 3 gu)<|(b_ 4 (iy (kk:=3*i) XN W.fP))<|oH 5 (fun w D=>(uT (cs:= [.int Oi (t.S i),.int Oi (t.V i),.int Oi (t.M i)]) Ji (W.below D.below) (U3 (k:=3*i) (i:=i) t.S t.V t.M Oa))) ?_
 have ac:=hk.all i Oa Oa;unfold Its.each Xj at ac
 refine(b_ 6 gu)<|(b_ 7 gu)<|(b_ 8 (Zg (r:=i+1)))<|(b_ 9 (iy (kk:=i+1) Zk J))<|sQ 10 (fun w D=>(iR (u:=(U (t.n-i-1))) dV (D.f_ 0 rfl) (e:=(by have:=N (t.n-i-1) Oa Oa;rwa [show t.n-(t.n-i-1)=i+1 by omega] at this)))) ?_
 refine pK 11 (xc0 Zno) (ZkX (n:=cap+1) (s:=(t.S i)) (y:=(t.V i)) (m:=(t.M i)) (T:=KI t (i+1)) w (Zl9 (D.lI (k:=t.n-i-1) 1 rfl Oa Oa) (by show KI t (t.n-(t.n-i-1))=_;congr 1;omega)) (fun c c0 c1=>by have:=WA hk (i:=i+1) Oa Oa c0;omega) Oa Oa Oa Oa Oa) ?_;rintro aH w ⟨_,rfl,da,aa⟩
 replace D:=(D.comp aa).n3;clear aa
 refine⟨⟨fun _=>D.pk [0,1],D.pk [1]⟩,?_⟩
 refine(b_ 12 (iy (kk:=i) Zk J))<|nR 13 (rV 0 dV D rfl (hv:=da.one)) ?_;clear D;rintro w D
 refine⟨⟨fun h=>absurd h (by decide),D.pk [1]⟩,?_⟩
 refine lS<|ng<|iP<|lG ?_
 refine(zP)<|(zV (Zr (r:=i-1)))<|(zP)<|iq ?_
 replace D:=Sat.merge (l1:= [_]) (l2:= []) (l3:= []) D Oa
 have jh:=fun k (I:0<=k) (F:k<nC+1)=>D.iw 1 rfl I F
 replace D:=D.oP (xk:=lD U nC aH) (vT:=fun _=>cap+1) (f':=fun j=>KI t (t.n-j)) 1 rfl (fun k I F=>by
   by_cases e:k<nC
   · exact⟨rfl,Zl e,fun j _ _=>by rw [Zl e]⟩
   · have O:k=nC:=Oa
     refine⟨rfl,Zo e,fun j _ _=> ?_⟩
     rw [Zo e,O];rw [Z,show t.n-(t.n-i)=i by omega,S9 t (i:=i) Oa Oa])
 have kH:=fun k (I:0<=k) (F:k<nC+1)=>D.iw 1 rfl I F
 refine jm ⟨nC+1,upd Y i (aH),lD U nC aH,i-1,rfl,Oa,Oa,Oa,?_,rfl,D⟩
 {
 intro j j0 j1;by_cases e:j=nC
 · rw [e,Z,show t.n-(t.n-i)=i by omega,iU,Zo Oa]
 · rw [lZ Oa,Zl Oa];exact N j j0 Oa}}
 refine oM<|(On)<|jk<|Oj ?_
 obtain rfl:i= -1:=Oa
 obtain rfl:nC=t.n+1:=Oa
 replace D:=Sat.Dv 1 D rfl
 replace D:=D.oP (xk:=Y) (vT:=fun _=>cap+1) (f':=KI t) 1 rfl (fun k I F=>⟨by rw [<-N _ Oa Oa];congr 1;omega,rfl,fun j _ _=>by show KI t (t.n-(t.n+1-1-k)) j=_;congr 1;omega⟩)
 exact⟨_,_,rfl,J,D.pk [0,1]⟩
variable {cap i j:Int}
theorem ZnF:Zc Om 233=true:=Oc
theorem ZnE:Zc Om 234=true:=Oc
theorem LK:ZN Om 247=some (.agg #[.int Oi 0,.int Oi 0,.int Oi 0],3,24):=Oc
def ZqS(t:Its)(cap n:Int)(x:Of)(val e:Int):Prop:=(¬t.Ok cap/\n=0/\val=0/\e=1)\/(t.Ok cap/\n=t.n/\KX t cap x t.n/\val=KI t 0 cap/\e=0)
theorem QJ{t:Its}(N:t.Ok cap){c:Int}(J:0<=i)(I:i<t.n)(F:0<=j)(D:j<=c.tdiv (t.S i))(O:0<=c):0<=j*t.S i/\j*t.S i<=c:=by
 have h:=N.all i J I
 unfold Its.each Xj at h
 have U:=Yw (a:=c) (b:=t.S i) O h.1
 have h1:=Int.mul_nonneg F (show 0<=t.S i by omega)
 have W:=Int.mul_le_mul_of_nonneg_right D (show 0<=t.S i by omega)
 omega
theorem P8{t:Its}(I:t.Ok cap){c:Int}(F:0<=i)(D:i<t.n)(h:j*t.S i<=c)(N:0<=c):j<=c.tdiv (t.S i):=by
 have J:=I.all i F D
 unfold Its.each Xj at J
 rw [Int.tdiv_eq_ediv_of_nonneg N]
 exact(Int.le_ediv_iff_mul_le Oa).2 h
theorem P9{t:Its}(N:t.Ok cap)(J:0<=i)(I:i<t.n)(F:0<=j)(D:j<=4001):0<=j*t.V i/\j*t.V i<=4296041037824:=by
 have h:=N.all i J I
 unfold Its.each Xj at h
 exact Wd F D h.2.2.1 h.2.2.2.1
theorem ZiR{vI:Value}{t:Its}(w0:World)(Y:Row w0 vI 3 t.n (Z5 t.S t.V t.M)):
   Calls Om 166 [vI,.int Oi cap].toArray w0 fun e w=>∃v,e= .returned v/\∃r n x val e,v= .tuple #[r,.int Oi val,.int Oi e]/\ZqS t cap n x val e/\iK r n/\Sat w0 w [.own r 1 3 n (ints x)]:=by
 have hn:=Y.fP.n0
 refine iE Tryz.func166 Tryz.ntmps166 fun w h=> ?_
 refine fQ<|(Oo)<|l9<|(On)<|iJ (xc0 ZnF) (ZiQ (t:=t) (cap:=cap) w (Y.below h.below)) ?_;rintro _ w ⟨rfl,F⟩
 replace h:=h.cmp F;clear F
 refine(zP)<|ig<|Zf ?_ ?_<;>intro hc
 {
 refine fQ<|(Oo)<|j_<|Eo ⟨_,rfl,?_⟩
 exact⟨_,0,fun _=>0,0,1,rfl,.inl ⟨‹¬t.Ok cap›,rfl,rfl,rfl⟩,d_,(h.fU 1 3 (ints fun _=>0)).pk [0]⟩}
 refine ZX<|iI gu ?_
 have D:t.Ok cap:=by first|assumption|exact Od ‹_›
 refine(zP)<|iJ (xc0 ZnE) (ZiP (t:=t) (cap:=cap) w (Y.below h.below) D) ?_;rintro yT w ⟨_,N,rfl,yX,F⟩
 replace h:=(h.comp F).n2;clear F
 have zN:=fun k (k0:0<=k) (k1:k<(t.n+1))=>h.iw 1 rfl k0 k1
 refine(zP)<|iT<|(On)<|l9<|(zP)<|(zV (iW XN Y.fP))<|(zP)<|nI ?_
 replace h:=h.fU 1 3 (ints (fun _=>0))
 have av:=D.n;have au:=D.c0;have ar:=D.c1
 refine ny (fun Z M w=>∃(J:Int) (c:Int) (i:Int) (W:Value) (U:Of),Z=((t.n-i).toNat)/\(0<=i)/\(i<=t.n)/\(J=i)/\(0<=c)/\(c<=cap)/\(c=cap-KU t U i.toNat)/\(KX t cap U i)/\(iK W J)/\M= [(1,.int Oi cap),(4,W),(5,.int Oi 0),(6,.int Oi 0),(7,yT),(8,.int Oi c),(20,vI),(21,.int Oi t.n),(22,.int Oi i)]/\Sat w0 w [.own yT 1 22 (t.n+1) N,.sem (Frame.rows 3 (t.n+1) N (fun _=>cap+1) (KI t)),.own W 1 3 J (ints U)]) ⟨0,cap,0,Oh,(fun _=>0),rfl,Oa,Oa,Oa,Oa,Oa,?_,?_,?_,rfl,h⟩ ?_
 {
 show cap=cap-0;omega}
 {
 intro k k0 k1;omega}
 {
 exact d_}
 clear h w
 rintro Z M w ⟨J,c,i,W,U,rfl,I,i1,O,c0,c1,al,ab,ae,rfl,h⟩
 refine fQ<|(zP)<|nG<|Zf ?_ ?_<;>intro hc
 {
 refine oC<|(zP)<|(zV (iy (kk:=3*i) XN Y.fP))<|iI (uT (cs:= [.int Oi (t.S i),.int Oi (t.V i),.int Oi (t.M i)]) Ji (Y.below h.below) (U3 (k:=3*i) (i:=i) t.S t.V t.M Oa)) ?_
 have ad:=D.all i I Oa;unfold Its.each Xj at ad
 obtain⟨j0,az,ay,ak,aj⟩:=ZqT D I (by omega:i<t.n) (c:=c) Oa
 have ax:=P8 D I (by omega:i<t.n) ak Oa
 have an:=Yw (a:=c) (b:=t.S i) Oa ad.1
 refine iG (oh (cs:= [_,_,_]) LK h) ?_;rintro _ w ⟨g1,rfl,h⟩
 refine(zP)<|lJ (nD 3 Ji h) ?_;clear h;rintro w h
 refine nG<|lg [0,1,2,3] [0,1,2,3] 1000 nP h ?_;clear h;intro w h
 refine(b_ 0 (h_ 2 tZ))<|(iQ 1 (fun w h=>(g_ 3 dw h)))<|(b_ 2 gu)<|(b_ 3 (h_ 0 oN))<|(iQ 4 (fun w h=>(g_ 3 dw h)))<|(b_ 5 (V3 (r:=(Int.tdiv c (t.S i)))))<|(b_ 6 (TS (r:=(min (t.M i) (Int.tdiv c (t.S i))))))<|(b_ 7 nU)<|lS<|iP<|lW<|o7<|ny (fun Z M w=>∃(n:Int),Z=((n-j0).toNat)/\(j0<=n)/\(n<=min (t.M i) (c.tdiv (t.S i)))/\(∀j,n<j->j<=t.M i->j*t.S i<=c->KI t (i+1) (c-j*t.S i)+j*t.V i≠KI t i c)/\M= [(1,.int Oi cap),(4,W),(5,.int Oi 0),(6,.int Oi 0),(7,yT),(8,.int Oi c),(9,.int Oi i),(10,Or g1),(11,.int Oi n),(20,vI),(21,.int Oi t.n),(22,.int Oi i)]/\Sat w0 w [.own yT 1 22 (t.n+1) N,.sem (Frame.rows 3 (t.n+1) N (fun _=>cap+1) (KI t)),.own W 1 3 J (ints U),.blk g1 [.int Oi (t.S i),.int Oi (t.V i),.int Oi (t.M i)]]) ⟨(min (t.M i) (c.tdiv (t.S i))),rfl,Oa,Oa,?_,rfl,h⟩ ?_
 {
 intro j h1 h2 h3;have:=P8 D I (by omega:i<t.n) h3 Oa;omega}
 clear h w
 rintro Z M w ⟨n,rfl,ap,ao,qa,rfl,h⟩
 refine lW<|lW<|lg [0,1,2,3] [0,1,2,3] 1000 nP h ?_;clear h;intro w h
 refine(b_ 0 gu)<|(b_ 1 gu)<|(b_ 2 (Zg (r:=i+1)))<|(b_ 3 (iy (kk:=i+1) Zk yX))<|(iQ 4 (fun w h=>(iR (u:=(N (i+1))) dV (h.f_ 0 rfl))))<|(b_ 5 gu)<|ou 6 gu ?_
 have ac:=QJ D I (by omega:i<t.n) (show 0<=n by omega) (show n<=c.tdiv (t.S i) by omega) Oa
 have ai:=P9 D I (by omega:i<t.n) (show 0<=n by omega) Oa
 have ah:=WA D (i:=i+1) Oa Oa (c:=c-n*t.S i) Oa
 have ag:=WA D (i:=i) Oa Oa (c:=c) Oa
 refine(b_ 7 (h_ 0 oN))<|(iQ 8 (fun w h=>(g_ 3 dw h)))<|(b_ 9 (Yf (r:=(n*(t.S i))) (e:=rfl)))<|(b_ 10 (Zr (r:=c-(n*(t.S i)))))<|(b_ 11 (iy (kk:=c-(n*(t.S i))) Zb (zN (i+1) Oa Oa)))<|(iQ 12 (fun w h=>(iR (u:= .int Oi ((KI t) (i+1) (c-(n*(t.S i))))) dw (h.lI (k:=i+1) 1 rfl Oa Oa))))<|(b_ 13 gu)<|(b_ 14 (h_ 1 qQ))<|(iQ 15 (fun w h=>(g_ 3 dw h)))<|(b_ 16 (Yf (r:=(n*(t.V i))) (e:=rfl)))<|(b_ 17 (Zg (r:=((KI t) (i+1) (c-(n*(t.S i))))+(n*(t.V i)))))<|(b_ 18 gu)<|(b_ 19 gu)<|(b_ 20 (iy (kk:=i) Zk yX))<|oH 21 (fun w h=>(iR (u:=(N i)) dV (h.f_ 0 rfl))) ?_
 refine(b_ 22 gu)<|(b_ 23 (iy (kk:=c) Zb (zN i Oa Oa)))<|(iQ 24 (fun w h=>(iR (u:= .int Oi ((KI t) i c)) dw (h.lI (k:=i) 1 rfl Oa Oa))))<|(b_ 25 Xf)<|lS<|iP ?_
 refine Zf ?_ ?_<;>intro hc
 {
 refine nX<|iP<|o7<|lG<|(zP)<|(zV (Zr (r:=n-1)))<|(zP)<|iq<|ng ?_
 have aq:j0≠n:=fun hh=>by rw [hh] at aj;omega
 refine jm ⟨n-1,rfl,Oa,Oa,?_,rfl,h⟩
 {
 intro j h1 h2 h3;by_cases e:j=n
 · rw [e];assumption
 · exact qa j Oa h2 h3}}
 refine oM<|iI gu ?_
 have ac:=QJ D I (by omega:i<t.n) (show 0<=n by omega) (show n<=c.tdiv (t.S i) by omega) Oa
 have ai:=P9 D I (by omega:i<t.n) (show 0<=n by omega) Oa
 have ah:=WA D (i:=i+1) Oa Oa (c:=c-n*t.S i) Oa
 have ag:=WA D (i:=i) Oa Oa (c:=c) Oa
 have aa:KI t (i+1) (c-n*t.S i)+n*t.V i=KI t i c:=Oa
 refine(zP)<|iG (pO (n:=1) (len:=1) (pv:= [(0,.int Oi n)]) (cs:= [.int Oi n]) (c:=ints (fun _=>n)) Zb Zq h) ?_;rintro v1 w ⟨h,am⟩
 refine iG (pz 2 (r:=J+1) Zb Zq h (h.f_ 4 rfl) (ZR _ _ _)) ?_;rintro v2 w ⟨h,af⟩
 refine(zP)<|ig<|lG<|(On)<|(zV (h_ 0 oN))<|(zV (g_ 3 dw h))<|(zV (Yf (r:=(n*(t.S i))) (e:=rfl)))<|(zV (Zr (r:=c-(n*(t.S i)))))<|(zP)<|nT<|(zV (Zg (r:=i+1)))<|(zP)<|iq<|jm ⟨J+1,c-(n*(t.S i)),i+1,v2,(snoc U J n),rfl,Oa,Oa,Oa,Oa,Oa,?_,?_,?_,rfl,h.pk [0,1,2]⟩
 {
 rw [O,Zlt t U n I];omega}
 {
 rw [O];rw [al] at qa ac aa;exact KX.snoc ab I Oa Oa Oa aa (fun j j0 j1 j2=>qa j j0 j1 j2)}
 {
 exact af}}
 refine sW<|n_<|n_<|rH<|iP<|lW<|lg [0,1,2] [0,1,2] 1000 nP h ?_;clear h;intro w h
 refine(b_ 0 gu)<|(b_ 1 gu)<|ou 2 (iy (kk:=0) Zk yX) ?_
 have aw:=WA D (i:=0) Oa Oa (c:=cap) Oa
 refine(iQ 3 (fun w h=>(iR (u:=(N 0)) dV (h.f_ 0 rfl))))<|(b_ 4 gu)<|(b_ 5 (iy (kk:=cap) Zb (zN 0 Oa Oa)))<|(iQ 6 (fun w h=>(iR (u:= .int Oi ((KI t) 0 cap)) dw (h.lI (k:=0) 1 rfl Oa Oa))))<|(b_ 7 nU)<|(b_ 8 nU)<|(b_ 9 nU)<|lS<|iP<|sZ<|Eo ⟨_,rfl,?_⟩
 obtain rfl:i=t.n:=Oa
 subst O
 exact⟨_,_,_,_,0,rfl,.inr ⟨D,rfl,ab,rfl,rfl⟩,ae,h.pk [2]⟩
end Go.Proofs.YtpnamgfdakfccaaGreat
namespace Go.Proofs.YtpnamgfdakfccaaGreat
open Go Go.RowKit Go.Proofs.Gw
variable {y:Of}
theorem ZnW:Zc Om 165=true:=Oc
theorem ZnV:Zc Om 166=true:=Oc
theorem ZnG:Zc Om 232=true:=Oc
def Rl(n:Int):Prop:=n<0\/1073741824<n
def GH(p:cO)(n:Int)(y:Of):Prop:=p.Ok/\n=p.m/\V2 p y
def Wu(p:cO)(y:Of):Its:=⟨p.m,fun i=>p.L i+p.aV,y,p.D⟩
theorem Zml{p:cO}(h:p.Ok)(I:V2 p y):(Wu p y).Ok (p.bP+p.aV):=by
 have h1:=h.m2;have Y:=h.s1;have W:=h.s2;have U:=h.k1;have O:=h.k2
 refine⟨h1,Oa,Oa,fun i F D=> ?_⟩
 have J:=h.all i F D
 have N:=I i F D
 unfold cO.each at J
 show Xj (p.L i+p.aV) (y i) (p.D i)
 unfold Xj;omega
def WC(p:cO)(y:Of):Int:=KI (Wu p y) 0 (p.bP+p.aV)
noncomputable def aC(p:cO)(y:Of):Of:= @dite _ (∃x,KX (Wu p y) (p.bP+p.aV) x p.m) (Classical.propDecidable _) (fun h=>Classical.choose h) fun _ _=>0
theorem ZqO{p:cO}(D:0<=p.m){x:Of}(h:KX (Wu p y) (p.bP+p.aV) x p.m):∀i,0<=i->i<p.m->x i=aC p y i:=by
 have hex:∃x,KX (Wu p y) (p.bP+p.aV) x p.m:=⟨x,h⟩
 have I:=Classical.choose_spec hex
 unfold aC
 rw [dif_pos hex]
 intro i F J
 exact KX.same (n:=p.m.toNat) (by rw [Int.toNat_of_nonneg D];exact h) (by rw [Int.toNat_of_nonneg D];exact I) i F Oa
def LV(p:cO)(n:Int)(y:Of)(na:Int)(a:Of)(worth e:Int):Prop:=(¬GH p n y/\na=0/\worth=0/\e=1)\/(GH p n y/\na=p.m/\a=aC p y/\(∃x,KX (Wu p y) (p.bP+p.aV) x p.m)/\worth=WC p y/\e=0)
theorem Zov{x:Int}(w0:World):
   Calls Om 232 [.int Oi x].toArray w0 fun e w=>∃v,e= .returned v/\v=B (Rl x)/\Sat w0 w []:=by
 refine iE Tryz.func232 Tryz.ntmps232 fun w h=> ?_
 refine fQ<|(zP)<|iT<|(Oo)<|lX 5 ?_ ?_<;>intro hc
 {
 refine(zO)<|(zO)<|(On)<|jk<|Oj ?_
 exact⟨Yk (by unfold Rl;omega),h⟩}
 refine qE ?_
 refine jk<|Oj ?_
 exact⟨Zm (by unfold Rl;omega),h⟩
theorem ZkY{v:Value}{n:Int}{f:Of}(w0:World)(F:Row w0 v 1 n (ints f)):
   Calls Om 147 [v,.func (.func 232) #[] #[]].toArray w0 fun e w=>∃v,e= .returned v/\∃r:Int,v= .int Oi r/\((r= -1/\∀k,0<=k->k<n->¬(Rl (f k)))\/(0<=r/\r<n/\(Rl (f r))))/\Sat w0 w []:=by
 have hn:=F.fP.n0;have W:=F.fP.n1
 refine iE Tryz.func147 Tryz.ntmps147 fun w h=> ?_
 refine fQ<|(zP)<|l9<|(zP)<|(zV (iW Zb F.fP))<|(zP)<|nI<|ny (fun U M w=>∃(i:Int),U=((n-i).toNat)/\(0<=i)/\(i<=n)/\(∀k,0<=k->k<i->¬(Rl (f k)))/\M= [(0,v),(1,.func (.func 232) #[] #[]),(7,.int Oi n),(8,.int Oi i)]/\Sat w0 w []) ⟨0,rfl,Oa,Oa,?_,rfl,h⟩ ?_
 {
 intro k N h1;omega}
 clear h w
 rintro U M w ⟨i,rfl,N,h1,O,rfl,h⟩
 refine fQ<|(zP)<|nG<|Zf ?_ ?_<;>intro hc
 {
 refine oC<|(On)<|iT<|(Oo)<|(zV (iy (kk:=i) Zb F.fP))<|(zV (iR (u:= .int Oi (f i)) dw (F.below h.below)))<|iJ (xc0 ZnG) (Zov (x:=(f i)) w) ?_;rintro _ w ⟨rfl,D⟩
 replace h:=h.cmp D;clear D
 refine ig<|Zf ?_ ?_<;>intro hc
 {
 refine fQ<|(On)<|sG<|Oj ?_
 exact⟨i,rfl,.inr ⟨by omega,Oa,‹Rl (f i)›⟩,h⟩}
 refine rU<|(zV (Zg (r:=i+1)))<|(zP)<|iq<|jm ⟨i+1,rfl,Oa,Oa,?_,rfl,h⟩
 {
 intro k J Y;rcases Int.lt_or_eq_of_le (show k<=i by omega) with I|I;exact O k J I;rw [I];assumption}}
 refine oM<|(zP)<|jk<|Oj ?_
 exact⟨-1,rfl,.inl ⟨rfl,fun k N h1=>O k N Oa⟩,h⟩
theorem Zk9{v:Value}{n:Int}{f:Of}(w0:World)(J:Row w0 v 1 n (ints f)):
   Calls Om 90 [v,.func (.func 232) #[] #[]].toArray w0 fun e w=>∃v,e= .returned v/\v=B (∃k,0<=k/\k<n/\(Rl (f k)))/\Sat w0 w []:=by
 refine iE Tryz.func90 Tryz.ntmps90 fun w F=> ?_
 refine fQ<|(zP)<|iT<|(On)<|iJ (xc0 WP) (ZkY w (J.below F.below)) ?_;rintro _ w ⟨W,rfl,I,D⟩
 replace F:=F.cmp D;clear D
 refine(On)<|jk<|Oj ?_
 exact⟨Zm (by
  rcases I with⟨h1,h2⟩|⟨h1,h2,h3⟩
  · exact⟨fun h=>Oa,fun⟨k,U,O,N⟩=>absurd N (h2 k U O)⟩
  · exact⟨fun _=>⟨_,h1,h2,h3⟩,fun _=>h1⟩),F⟩
theorem ZiD{vL vD:Value}{p:cO}{O:Value}{n:Int}(w0:World)(h:oO w0 vL vD p)(I:Row w0 O 1 n (ints y)):
   Calls Om 165 [.agg #[vL,vD,.int Oi p.bP,.int Oi p.aV],O].toArray w0 fun e w=>∃v,e= .returned v/\v=B (GH p n y)/\Sat w0 w []:=by
 obtain⟨hm,ac,hd,hd1,hs,U⟩:=h.Oq
 have ab:=I.fP.n0;have aa:=I.fP.n1
 refine iE Tryz.func165 Tryz.ntmps165 fun w D=> ?_
 refine fQ<|iG (nS (cs:= [_,_,_,_]) D) ?_;rintro _ w ⟨g1,rfl,D⟩
 refine(zP)<|iT<|(zV (lH 0 iM D))<|iJ (xc0 XU) (Yd (p:=p) w (h.below D.below)) ?_;rintro _ w ⟨rfl,F⟩
 replace D:=D.cmp F;clear F
 refine(zP)<|lX 7 ?_ ?_<;>intro hc
 {
 refine(zP)<|(zV (iW Zb I.fP))<|(zV (h_ 0 lu))<|(zV (g_ 0 dV D))<|(zV (iW Zb h.L.fP))<|(Oo)<|lX 15 ?_ ?_<;>intro hc
 {
 refine(zP)<|iJ (xc0 Ux) (Zk9 (n:=n) (f:=y) w (I.below D.below)) ?_;rintro _ w ⟨rfl,F⟩
 replace D:=D.cmp F;clear F
 refine(Oo)<|jk<|Oj ?_
 exact⟨Zm (by exact⟨fun Z=>⟨by assumption,Oa,fun k J Y=>by have:¬Rl (y k):=fun hh=>Z ⟨k,J,Oa,hh⟩;unfold Rl at this;omega⟩,fun⟨h1,W,N⟩ ⟨k,J,Y,U⟩=>by have:=N k J Oa;unfold Rl at U;omega⟩),D.nl⟩}
 iterate 3 refine oq ?_
 refine(On)<|jk<|Oj ?_
 exact⟨Zi (by rintro⟨h1,W,N⟩;first|exact absurd h1 ‹_›|omega),D.nl⟩}
 iterate 6 refine oq ?_
 refine zs2 ?_
 iterate 3 refine oq ?_
 refine(On)<|jk<|Oj ?_
 exact⟨Zi (by rintro⟨h1,W,N⟩;first|exact absurd h1 ‹_›|omega),D.nl⟩
theorem ZkT{vL vD:Value}{p:cO}{vY:Value}{n:Int}(w0:World)(h:oO w0 vL vD p)(W:Row w0 vY 1 n (ints y)):
   Calls Om 88 [.agg #[vL,vD,.int Oi p.bP,.int Oi p.aV],vY].toArray w0 fun e w=>∃v,e= .returned v/\∃r na a I e,v= .tuple #[r,.int Oi I,.int Oi e]/\LV p n y na a I e/\iK r na/\Sat w0 w [.own r 1 3 na (ints a)]:=by
 obtain⟨hm,ao,hd,hd1,hs,hk⟩:=h.Oq
 have al:=W.fP.n0;have ak:=W.fP.n1
 refine iE Tryz.func88 Tryz.ntmps88 fun w D=> ?_
 refine fQ<|iG (nS (cs:= [_,_,_,_]) D) ?_;rintro _ w ⟨g1,rfl,D⟩
 refine(Oo)<|l9<|(zV (lH 0 iM D))<|(zP)<|iJ (xc0 ZnW) (ZiD (p:=p) (n:=n) (y:=y) w (h.below D.below) (W.below D.below)) ?_;rintro _ w ⟨rfl,J⟩
 replace D:=D.cmp J;clear J
 refine(zP)<|ig<|Zf ?_ ?_<;>intro hc
 {
 refine fQ<|(Oo)<|j_<|Eo ⟨_,rfl,?_⟩
 exact⟨_,0,fun _=>0,0,1,rfl,.inl ⟨‹¬GH p n y›,rfl,rfl,rfl⟩,d_,(D.fU 1 3 (ints fun _=>0)).pk [1]⟩}
 refine ZX<|(zP)<|l9<|(zV (h_ 0 lu))<|(zV (g_ 0 dV D))<|(zV (iW Zb h.L.fP))<|(zP)<|nI ?_
 have O:GH p n y:=by first|assumption|exact Od ‹_›
 obtain⟨F,aj,aa⟩:=id O
 have ai:=F.s1;have ah:=F.s2;have aq:=F.k1;have ap:=F.k2;have an:=F.m2;have am:=F.d
 replace D:=D.fU 3 247 (Z5 (fun _=>0) (fun _=>0) (fun _=>0))
 refine ny (fun mm M w=>∃(N:Int) (fS:Of) (fV:Of) (fM:Of) (i:Int) (Y:Value),mm=((p.m-i).toNat)/\(0<=i)/\(i<=p.m)/\(N=i)/\(∀k,0<=k->k<i->fS k=(Wu p y).S k/\fV k=(Wu p y).V k/\fM k=(Wu p y).M k)/\(iK Y N)/\M= [(1,vY),(2,Or g1),(4,Oh),(5,.int Oi 0),(6,.int Oi 0),(7,Y),(15,vL),(16,.int Oi p.m),(17,.int Oi i)]/\Sat w0 w [.blk g1 [vL,vD,.int Oi p.bP,.int Oi p.aV],.own Y 3 247 N (Z5 fS fV fM)]) ⟨0,(fun _=>0),(fun _=>0),(fun _=>0),0,Oh,rfl,Oa,Oa,Oa,?_,?_,rfl,D⟩ ?_
 {
 intro k Z k1;omega}
 {
 exact d_}
 clear D w
 rintro mm M w ⟨N,fS,fV,fM,i,Y,rfl,h0,h1,ac,U,af,rfl,D⟩
 refine fQ<|(zP)<|nG<|Zf ?_ ?_<;>intro hc
 {
 refine oC<|(zP)<|(zV (iy (kk:=i) Zb h.L.fP))<|iI (iR (u:= .int Oi (p.L i)) dw (h.L.below D.below)) ?_
 have ae:=h.iL i
 have he:=F.all i h0 Oa;unfold cO.each at he
 refine(On)<|ig<|lg [0] [0] 1000 nP D ?_;clear D;intro w D
 refine(b_ 0 gu)<|(b_ 1 gu)<|(b_ 2 (h_ 3 nZ))<|(iQ 3 (fun w D=>(g_ 0 dw D)))<|(b_ 4 (Zg (r:=p.L i+p.aV)))<|(b_ 5 gu)<|(b_ 6 gu)<|(b_ 7 (iy (kk:=i) Zb W.fP))<|(iQ 8 (fun w D=>(iR (u:= .int Oi (y i)) dw (W.below D.below))))<|(b_ 9 (h_ 1 jF))<|(iQ 10 (fun w D=>(g_ 0 dV D)))<|(b_ 11 gu)<|(b_ 12 (iy (kk:=i) Zb h.D.fP))<|oH 13 (fun w D=>(iR (u:= .int Oi (p.D i)) dw (h.D.below D.below))) ?_
 have ae:=h.iD i
 refine(b_ 14 (lF (v:= .agg #[.int Oi (p.L i+p.aV),.int Oi (y i),.int Oi (p.D i)])))<|oZ 15 (pO (n:=1) (len:=1) (pv:= [(0,.agg #[.int Oi (p.L i+p.aV),.int Oi (y i),.int Oi (p.D i)])]) (cs:= [.int Oi (p.L i+p.aV),.int Oi (y i),.int Oi (p.D i)]) (c:=Z5 (fun _=>p.L i+p.aV) (fun _=>(y i)) (fun _=>p.D i)) XN LK D) ?_;rintro v1 w ⟨D,ag⟩
 refine⟨⟨fun _=>D.pk [0],D.pk [0]⟩,?_⟩
 refine oZ 16 (pz 1 (r:=N+1) XN LK D (D.f_ 2 rfl) (ZdZ ..) (h1:=(fun k _ _=>ZdP _ _ _ k))) ?_;rintro v2 w ⟨D,ab⟩
 refine⟨⟨fun _=>D.pk [0],D.pk [0]⟩,?_⟩
 refine(b_ 17 nU)<|lS<|ng<|iP<|lG ?_
 refine(zV (Zg (r:=i+1)))<|(zP)<|iq<|jm ⟨N+1,(snoc fS N (p.L i+p.aV)),(snoc fV N (y i)),(snoc fM N (p.D i)),i+1,v2,rfl,Oa,Oa,Oa,?_,?_,rfl,D.pk [0,1]⟩
 {
 intro k Z k1;by_cases e:k<i
 · rw [Zt Oa,Zt Oa,Zt Oa];exact U k Z e
 · obtain rfl:k=i:=Oa
   rw [Zu Oa,Zu Oa,Zu Oa];exact⟨rfl,rfl,rfl⟩}
 {
 exact ab}}
 refine oM<|iI gu ?_
 obtain rfl:i=p.m:=Oa
 subst ac
 replace D:=D.nJ 1 rfl (d:=Z5 (Wu p y).S (Wu p y).V (Wu p y).M) (Zbi U)
 refine(zV (h_ 2 o_))<|(zV (g_ 0 dw D))<|(zV (h_ 3 nZ))<|(zV (g_ 0 dw D))<|(zV (Zg (r:=p.bP+p.aV)))<|iJ (xc0 ZnV) (ZiR (t:=(Wu p y)) (cap:=(p.bP+p.aV)) w (D.f_ 1 rfl)) ?_;rintro _ w ⟨ki,eN,kg,kh,kZ,rfl,dH,dc,J⟩
 replace D:=(D.comp J).n3;clear J
 refine En ?_
 refine jk<|Eo ⟨_,rfl,?_⟩
 have ad:=Zml F aa
 obtain⟨_,q2,q3,q4,q5⟩:=dH.resolve_left (fun hh=>hh.1 ad)
 replace q2:eN=p.m:=q2
 subst q2
 replace D:=D.nJ 2 rfl (d:=ints (aC p y)) (fun k Z k1=>by unfold ints;rw [ZqO Oa q3 k Z Oa])
 exact⟨_,_,_,_,_,rfl,.inr ⟨O,rfl,rfl,⟨_,q3⟩,q4,q5⟩,dc,D.pk [2]⟩
end Go.Proofs.YtpnamgfdakfccaaGreat
namespace Go.Proofs.Gw
open Go Go.RowKit
section
variable {P:Program} {L:List (Nat×Value)} {w w0:World} {o:Oper} {x y z:Operand} {T T':TypeId} {l:List iO} {E:TypeId}
theorem Tg(g q:Nat)(E:TypeId):∀(vs:List Value) (k:Nat) (cur:List Value) (w:World),w.heap[g]? =some (.cells cur.toArray E (0,0))->q+k+vs.length<=cur.length->(∀v∈vs,v.oneCell'=true)->
   ∃w',(storeCells ⟨g,q,none⟩ vs k).run P w= .ok () w'/\w'.heap[g]? =some (.cells (cur.take (q+k)++vs++cur.drop (q+k+vs.length)).toArray E (0,0))/\(∀j,j≠g->w'.heap[j]? =w.heap[j]?)/\w'.tape=w.tape/\w'.os=w.os/\w'.output=w.output/\w'.heap.size=w.heap.size
 | [],k,cur,w,hg,hk,_=>⟨w,rfl,by simp [hg],fun _ _=>rfl,rfl,rfl,rfl,rfl⟩
 | v::vs,k,cur,w,hg,hk,h1=>by
   simp only [List.length_cons] at hk
   have hv:=h1 v (by simp)
   have hlt:q+k<cur.length:=Oa
   have hc:w.cell? ⟨g,q+k,none⟩=some cur[q+k]:=by simp [World.cell?,hg,hlt]
   have hf:w.frozen? ⟨g,q+k,none⟩=false:=by simp [World.frozen?,hg]
   have h:(w.setCell ⟨g,q+k,none⟩ v).heap[g]? =some (.cells (cur.set (q+k) v).toArray E (0,0)):=by simp [World.setCell,Array.getElem?_modify,hg]
   obtain⟨w',Y,W,U,O,N,J,I⟩:=Tg g q E vs (k+1) (cur.set (q+k) v) (w.setCell ⟨g,q+k,none⟩ v) h (by simp;omega) (fun u F=>h1 u (by simp [F]))
   refine⟨w',?_,?_,fun j D=> ?_,O,N,J,?_⟩
   {
   have e0:(⟨g,q,none⟩:Addr).add k=⟨g,q+k,none⟩:=by rw [Addr.add_eq _ rfl]
   simp only [storeCells,Sem.run_bind,e0]
   rw [run_store P w _ v _ hv,hc]
   simp only [hf]
   exact Y}
   {
   rw [W]
   congr 3
   have e1:(cur.set (q+k) v).take (q+(k+1))=cur.take (q+k)++ [v]:=by
     rw [show q+(k+1)=q+k+1 by omega,List.take_set,List.take_succ_eq_append_getElem hlt,List.set_append_right _ _ (by simp;omega)]
     simp [Nat.min_eq_left (Nat.le_of_lt hlt)]
   have Z:(cur.set (q+k) v).drop (q+(k+1)+vs.length)=cur.drop (q+k+(v::vs).length):=by
     rw [List.drop_set_of_lt Oa];congr 1;simp;omega
   rw [e1,Z];simp}
   · rw [U j D];exact Below.heap_setCell _ _ _ _ D
   · rw [I];simp [World.setCell]
theorem xsp(i:Nat){g q k:Nat}{cs ds es:List Value}(N:ZC P T=some k)(F:Sat w0 w l)(O:o.op= .store T x y:=by exact rfl)(hi:l[i]? =some (.blk g cs):=by exact rfl)(J:iZ L x=some (.pointer (some ⟨g,q,none⟩)):=by exact rfl)(I:iZ L y=some (.agg ds.toArray):=by exact rfl)
   (U:ds.length=k:=by exact rfl) (hc:Nat.ble (q+ds.length) cs.length=true:=by exact rfl) (Z:cs.take q++ds++cs.drop (q+ds.length)=es:=by exact rfl) (hd:∀v∈ds,v.oneCell'=true:=by repeat' first|exact Zj|apply Za rfl):∃w',Runs P L w o .skip w'/\Sat w0 w' (l.set i (.blk g es)):=by
 obtain⟨_,hsz⟩:=Xo (w:=w) N
 obtain⟨E,Y⟩:=F.holds _ (List.mem_of_getElem? hi)
 obtain⟨w',h3,h4,h5,h6,h7,h8,h9⟩:=Tg (P:=P) g q E ds 0 cs w Y (by have:=Nat.le_of_ble_eq_true hc;omega) hd
 refine⟨w',fun ρ h=> ?_,?_⟩
 · simp [execOp,O,h _ _ J,h _ _ I,Instr.storeAt,Instr.sureAddr,storeVar,Value.cells,hsz,U,h3]
 {
 have D:=F
 rw [Z3 hi] at D
 rw [YE hi]
 refine D.turn (fun j _ W=>h5 j (fun e=>W (by rw [e];rfl))) h6 h7 h8 Oa ⟨E,?_⟩ (fun _ h=> .inl h)
 rw [h4,Nat.add_zero,Z]}
theorem Zo7{l:List iO}(h:(Frame.rG l).holds w)(is:List Nat)(hn:is.Nodup:=by decide):(Frame.rG (AQ l is)).holds w:=by
 refine⟨fun e he=> ?_,?_⟩
 · obtain⟨i,_,hi⟩:=X4 he;exact h.1 e (List.mem_of_getElem? hi)
 {
 have U:=h.2
 induction is with
 |nil=>exact List.Pairwise.nil
 | cons i is ih=>
   obtain⟨D,hn⟩:=List.nodup_cons.1 hn
   unfold AQ
   cases hi:l[i]? with
   |none=>exact ih hn
   | some e=>
     refine List.pairwise_cons.2 ⟨fun e' O=> ?_,ih hn⟩
     obtain⟨j,hj,I⟩:=X4 O
     have J:=(List.getElem?_eq_some_iff.1 hi)
     have F:=(List.getElem?_eq_some_iff.1 I)
     obtain⟨W,Y⟩:=J
     obtain⟨Z,fL⟩:=F
     have N:i≠j:=fun e=>D (e▸hj)
     rcases Nat.lt_or_gt_of_ne N with h1|h1
     · have:=List.pairwise_iff_getElem.1 U i j W Z h1
       rw [Y,fL] at this;exact this
     · have:=List.pairwise_iff_getElem.1 U j i Z W h1
       rw [Y,fL] at this;exact this.symm}
theorem Zln{l:List iO}(is:List Nat){g:Nat}(h:(Frame.rG (AQ l is)).has g):(Frame.rG l).has g:=by
 obtain⟨e,F,D⟩:=h
 obtain⟨i,_,hi⟩:=X4 F
 exact⟨e,List.mem_of_getElem? hi,D⟩
def Frame.gives(F:Frame)(l:List iO):Prop:=(∀w,F.holds w->(Frame.rG l).holds w)/\∀g,(Frame.rG l).has g->F.has g
theorem Rv{l m:List iO}(is:List Nat)(e:AQ l is=m:=by exact rfl)(hn:is.Nodup:=by decide):(Frame.rG l).gives m:=by
 subst e;exact⟨fun w h=>Zo7 h is hn,fun g h=>Zln is h⟩
theorem Sat.given{l:List iO}(h:Sat w0 w l)(i:Nat){F:Frame}{m:List iO}(D:F.gives m)(hi:l[i]? =some (.sem F):=by exact rfl):Sat w0 w (l.set i (.sem (Frame.rG m))):=by
 have I:=h
 rw [Z3 hi] at I
 rw [YE hi]
 exact I.turn (d:= .sem F) (fun k _ _=>rfl) rfl rfl rfl (Nat.le_refl _) (D.1 _ (h.holds _ (List.mem_of_getElem? hi))) (fun g J=> .inl (D.2 g J))
end
end Go.Proofs.Gw
namespace Go.Proofs.Gw
open Go Go.RowKit
def FZ(r:Option Nat):Fence:={fn:=fun _=>True,depth:=none,alive:=false,round:=r}
theorem WB{P:Program}{f:FuncId}{args:Array Value}{w:World}{R:Ending->World->Prop}{r:Option Nat}{n:Nat}(h:Calls P f args w R):CallsIn (FZ r) n P f args w R:=
 (callsIn_wide (n:=n)).2 h
theorem Td{P:Program}{f:FuncId}{args:Array Value}{w:World}{R:Ending->World->Prop}{r:Option Nat}{n:Nat}(h:CallsIn (FZ r) n P f args w R):Calls P f args w R:=
 (callsIn_wide (n:=n)).1 h
abbrev xC(a:Act)(n:Nat)(ds:List Deferred)(L:List (Nat×Value)):Prop:=Fr a n ds L
def Ap(o:Oper):Bool:=match o.op with
  | .defer _=>false
  |_=>true
theorem Y8{o:Oper}(h:Ap o=true)(r:Option Nat)(ρ:Operand->Value):o.semAt r ρ=execOp ρ o:=
 Oper.semAt_eq _ _ _ (by intro c hc;unfold Ap at h;rw [hc] at h;cases h)
section
variable {P:Program} {l rest:List Oper} {Q Q':Exit->Act->World->Prop} {w w' w0:World} {o:Oper} {n d:Nat} {L M:List (Nat×Value)} {x y:Code} {c:Operand} {e:Exit} {p:Prop} {r:Option Nat} {ds:List Deferred}
def Hl(P:Program)(r:Option Nat)(n:Nat)(l:List Oper)(Q:Exit->Act->World->Prop)(rest:List Oper)(ds:List Deferred)(L:List (Nat×Value))(w:World):Prop:=∀a,xC a n ds L->wpListIn (FZ r) 0 P l.toArray Q rest a w
def Hc(P:Program)(r:Option Nat)(n:Nat)(Q:Exit->Act->World->Prop)(x:Code)(ds:List Deferred)(L:List (Nat×Value))(w:World):Prop:=∀a,xC a n ds L->x.wpIn (FZ r) 0 P Q a w
abbrev He(n:Nat)(Q:Exit->Act->World->Prop)(e:Exit)(ds:List Deferred)(L:List (Nat×Value))(w:World):Prop:=Ge n ds Q e L w
theorem Ru{b:Bool}{a:Act}(D:xC a n ds L)(h:pG l L o=some b):Region.wanted o (yielded l.toArray a.tmps)=b:=by
 exact(Z7 h).wanted D
theorem hlv{v:Value}(hr:Runs P L w o (.value v) w')(K:Hl P r n l Q rest ds ((d,v)::L) w')(F:pG l L o=some true:=by exact rfl)(hd:o.dst=some d:=by exact rfl)(h:Nat.blt d n=true:=by exact rfl)(hn:Ap o=true:=by exact rfl):Hl P r n l Q (o::rest) ds L w:=fun a D=>by
 unfold wpListIn
 rw [if_pos (Ru D F)]
 refine⟨fun _ _=>trivial,?_⟩
 rw [Y8 hn,hr _ D.wP,Oper.uponIn_value,hd]
 exact K _ (D.put (by simpa [Nat.blt_eq] using h) v)
theorem hlo(K:Hl P r n l Q rest ds ((d,undef)::L) w)(F:pG l L o=some false:=by exact rfl)(hd:o.dst=some d:=by exact rfl)(h:Nat.blt d n=true:=by exact rfl):Hl P r n l Q (o::rest) ds L w:=fun a D=>by
 unfold wpListIn
 rw [if_neg (by rw [Ru D F];simp)]
 refine⟨fun _ _=>trivial,?_⟩
 rw [hd]
 exact K _ (D.put (by simpa [Nat.blt_eq] using h) undef)
def G9(P:Program)(l:Nat)(vs:List Value)(w:World)(R:Value->World->Prop):Prop:=
  ∃fn tmps assign body,(Instr.yield l vs.toArray).run P w= .ok (.round l fn tmps assign body) w/\RoundIn (FZ none) 0 P l fn tmps assign body w fun e w'=>∃v,e= .returned v/\R v w'
theorem Nr{F:Nat}{D:Array Operand}{ts:Array TypeId}{vs:List Value}{z:Operand}{N:Next}(I:(Instr.yield F vs.toArray).run P w= .ok N w)(O:o.op= .call {callee:= .value z,args:=D,argTypes:=ts})(J:iZ L z=some (.func (.yield F) #[] #[]))(U:Te L D vs):Runs P L w o N w:=fun ρ h=>by
 have h1:=U ρ h
 simp [execOp,O,resolve,h _ _ J,Deferred.ofValue,invoke,h1,I]
theorem EG{N:Nat}{J:Array Operand}{ts:Array TypeId}{vs:List Value}{z:Operand}{R:Value->World->Prop}(hY:G9 P N vs w R)(K:∀v w',R v w'->Hl P none n l Q rest ds ((d,v)::L) w')
   (O:o.op= .call {callee:= .value z,args:=J,argTypes:=ts}:=by exact rfl) (W:iZ L z=some (.func (.yield N) #[] #[]):=by exact rfl) (Z:Te L J vs:=by repeat' first|exact G6|apply Wz rfl)
   (Y:pG l L o=some true:=by exact rfl) (hd:o.dst=some d:=by exact rfl) (D:Nat.blt d n=true:=by exact rfl):Hl P none n l Q (o::rest) ds L w:=fun a I=>by
 obtain⟨fn,tmps,assign,body,U,F⟩:=hY
 have hr:=Nr (P:=P) (L:=L) (o:=o) U O W Z
 unfold wpListIn
 rw [if_pos (Ru I Y)]
 refine⟨fun _ _=>trivial,?_⟩
 rw [Y8 (by unfold Ap;rw [O]),hr _ I.wP,Oper.uponIn_round]
 refine⟨fun h=>(by cases h),F.mono fun e w' ⟨v,he,F⟩=> ?_⟩
 subst he
 rw [hd]
 exact K v w' F _ (I.put (by simpa [Nat.blt_eq] using D) v)
theorem hln(K:He n Q .normal ds L w):Hl P r n l Q [] ds L w:=K
theorem NY(d:Nat){u v:Value}(e:v=u)(K:Hl P r n l Q rest ds ((d,u)::L) w)(hd:lk L d=some v:=by exact rfl):Hl P r n l Q rest ds L w:=fun a h=>K a (h.as hd e)
theorem jw(h:Hc P r n (Exit.then (y.wpIn (FZ r) 0 P Q) Q) x ds L w):Hc P r n Q (.seq x y) ds L w:=fun a D=>wpIn_seq (h a D)
theorem hrg{id:Nat}(h:Hl P r n l Q l ds L w):Hc P r n Q (.region id l.toArray false) ds L w:=fun a D=>wpIn_region_lit (h a D)
def Rm(Q:Exit->Act->World->Prop):Exit->Act->World->Prop:=fun e a w=>e= .normal/\Q .normal a w
theorem Zcp:¬LetsOut (Rm Q):=fun⟨_,_,h⟩=>by cases h.1
theorem ZjI{row:String}{args:Array Value}{R:Value->World->Prop}(h:Rows P row args w R):RowsIn (FZ r) 0 P row args w R:=fun c cs _=>by
 obtain⟨v,w',h1,D⟩:=h c cs
 exact⟨v,w',h1,(stepsIn_wide (P:=P)).2 D⟩
theorem WI{ops:Array Oper}{Qn:Exit->Act->World->Prop}(I:∀a w,Qn .normal a w->Q .normal a w)(F:∀W a w,¬Qn (.panic W) a w)(D:¬LetsOut Qn)(hn:ops.toList.all Ap=true):∀(is:List Nat) (a:Act) (w:World),wpOps P ops Qn is a w->wpOpsIn (FZ r) 0 P ops Q is a w
 | [],a,w,h=>I _ _ h
 | i::is,a,w,h=>by
   unfold wpOps at h
   unfold wpOpsIn
   cases O:ops[i]? with
   |none=>simp only [O] at h⊢;exact WI I F D hn is a w h
   | some o=>
     simp only [O] at h⊢
     have Y:Ap o=true:=List.all_eq_true.1 hn o (by
       obtain⟨hi,rfl⟩:=Array.getElem?_eq_some_iff.1 O
       simp)
     by_cases hw:Region.wanted o (yielded ops a.tmps)=true
     {
     rw [if_pos hw] at h⊢
     refine⟨fun _ _=>trivial,?_⟩
     rw [Y8 Y]
     rcases h with h|h
     {
     unfold Oper.wp at h
     cases U:(execOp a.eval o).run P w with
     | ok N w1=>
       rw [U] at h
       cases N with
       |value v=>exact WI I F D hn is _ _ h
       |skip=>exact WI I F D hn is _ _ h
       |defer d=>exact WI I F D hn is _ _ h
       | enter f args=>
         refine⟨fun h=>(by cases h),WB (Calls.mono h fun e w' J=> ?_)⟩
         cases e with
         |returned v=>exact WI I F D hn is _ _ J
         |panicked W=>exact absurd J (F _ _ _)
         |outgrown=>exact absurd J D
       | row rw args=>
         refine⟨fun h=>(by cases h),ZjI (Rows.mono h fun v w' J=>WI I F D hn is _ _ J)⟩
       |_=>exact h.elim
     | halt x w1=>
       rw [U] at h
       cases x with
       |panic v=>exact absurd h (F _ _ _)
       |_=>exact h.elim}
     · exact absurd h.2 D}
     · rw [if_neg hw] at h⊢
       exact⟨fun _ _=>trivial,WI I F D hn is _ _ h⟩
theorem ZpA:∀a w,Rm Q .normal a w->Q .normal a w:=fun _ _ h=>h.2
theorem Zpz:∀D a w,¬Rm Q (.panic D) a w:=fun _ _ _ h=>by cases h.1
theorem zh(h:Ge n ds Q .normal L w):Ge n ds (Rm Q) .normal L w:=fun a D=>⟨rfl,h a D⟩
theorem Zcm{ops:Array Oper}{a:Act}(h:wpList P ops Q ops.toList a w):wpOps P ops Q (List.range ops.size) a w:=by
 rw [List.range_eq_range',<-Array.length_toList,wpOps_eq_wpList ops.toList 0 (by simp)];exact h
theorem hrz{id:Nat}(h:Gl P n ds l (Rm Q) l L w)(hn:l.all Ap=true:=by exact rfl):Hc P r n Q (.region id l.toArray false) ds L w:=fun a D=>
 wpIn_region (WI ZpA Zpz Zcp (by simpa using hn) _ _ _ (Zcm (by have:=h a D;simpa using this)))
theorem hdst{w0:World}{id:Nat}{m m0 m1:List iO}{fuel:Nat}(is D:List Nat)(brk:Nat)(W:P.follows .mixedOrders=true)(O:Sat w0 w m)(K:∀w',Sat w0 w' m->Gd P n ds l (Rm Q) (fun w'=>Sat w0 w' m0) (fun w'=>Sat w0 w' m1) brk fuel (Array.replicate fuel false) L w')
   (h0:AQ m is=m0:=by exact rfl) (h1:AQ m D=m1:=by exact rfl) (J:is.Nodup:=by decide) (I:D.Nodup:=by decide) (hn:l.length=fuel:=by exact rfl) (F:l.all Ap=true:=by exact rfl):Hc P r n Q (.region id l.toArray true) ds L w:=fun a Y=>by
 subst h0;subst h1;subst hn
 refine wpIn_region_draw fun t=>WI (Qn:=NoPanic (Rm Q)) (fun _ _ h=>h.2) (fun _ _ _ h=>h.elim) (fun⟨_,_,h⟩=>by cases h.1) (by simpa using F) _ _ _ ?_
 simp only [Region.schedule,W,Bool.true_or,if_true]
 have N:Closed l.toArray (Array.replicate l.length false):=by have:=Closed.start (ops:=l.toArray);simpa using this
 have Z:=VL _ _ _ _ (K w.drew O.draw N ⟨fun _=>O.draw.pk is J,O.draw.pk D I⟩ a Y)
 have U:=wpAny_sound l.length t _ a _ Z
 have e:l.toArray.size=l.length:=by simp
 first|exact U|(unfold Region.linearise;rw [e];exact U)
theorem Yv(D:p->Hc P r n Q x ds L w)(hf:¬p->Hc P r n Q y ds L w)(hc:iZ L c=some (B p):=by exact rfl):Hc P r n Q (.cond c x y) ds L w:=fun a h=>by
 have:=h.wP _ _ hc
 by_cases hp:p
 · exact wpIn_cond_true (by rw [this,ZV hp]) (D hp a h)
 · exact wpIn_cond_false (by rw [this,ZB hp]) (hf hp a h)
theorem hct(h:Hc P r n Q x ds L w)(hc:iZ L c=some (.bool true):=by exact rfl):Hc P r n Q (.cond c x y) ds L w:=fun a D=>wpIn_cond_true (D.wP _ _ hc) (h a D)
theorem hcf(h:Hc P r n Q y ds L w)(hc:iZ L c=some (.bool false):=by exact rfl):Hc P r n Q (.cond c x y) ds L w:=fun a D=>wpIn_cond_false (D.wP _ _ hc) (h a D)
theorem hsk(h:He n Q .normal ds L w):Hc P r n Q .skip ds L w:=fun a D=>wpIn_skip (h a D)
theorem hrt(h:He n Q .ret ds L w):Hc P r n Q .ret ds L w:=fun a D=>wpIn_ret (h a D)
theorem hxt{id:Nat}(h:He n Q (.exit id) ds L w):Hc P r n Q (.exit id) ds L w:=fun a D=>wpIn_exit (h a D)
theorem hbk{id:Nat}(h:Hc P r n (Exit.inBlock id Q) x ds L w):Hc P r n Q (.block id x) ds L w:=fun a D=>wpIn_block (h a D)
theorem htn(h:Hc P r n Q y ds L w):He n (Exit.then (y.wpIn (FZ r) 0 P Q) Q') .normal ds L w:=h
theorem wM{F:Fence}{nn:Nat}{body:Code}{a:Act}(I:Nat->Act->World->Prop){m:Nat}(h0:I m a w)(round:∀m a w,I m a w->body.wpIn F nn P (Exit.then (fun Y w'=>∃m',m'<m/\I m' Y w') Q) a w):(Code.loop body).wpIn F nn P Q a w:=by
 intro b k cs aa hb hr
 have key:∀m a w,I m a w->∃e Y w',Q e Y w'/\ArrivesIn (Machine.fenced P F) P (lone (b.atR a (.code body:: .inLoop body::k)) cs w) b k cs e Y w':=by
   intro m
   induction m using Nat.strongRecOn with
   | _ m ih=>
     intro a w hI
     obtain⟨e,D,h,O,N⟩:=round m a w hI b (.inLoop body::k) cs aa hb hr
     cases e with
     | normal=>
       obtain⟨m',hlt,W⟩:=O
       obtain⟨e₂,a₂,Z,U,J⟩:=ih m' hlt D h W
       exact⟨e₂,a₂,Z,U,.of_steps (StepsIn.trans N (.one (fenced_calm hb hr rfl) stepR_inLoop)) J⟩
     |exit id=>exact⟨_,D,h,O,.pass (x:= .inLoop body) rfl (fun _ _=> .inl (by simp)) N⟩
     |goto l=>exact⟨_,D,h,O,.pass (x:= .inLoop body) rfl (fun _ _=> .inl (by simp)) N⟩
     |ret=>exact⟨_,D,h,O,.pass (x:= .inLoop body) rfl (fun _ _=> .inl (by simp)) N⟩
     |panic ch=>exact⟨_,D,h,O,.pass (x:= .inLoop body) rfl (fun _ _=> .inl (by simp)) N⟩
     |outgrown=>exact⟨_,D,h,O,.pass (x:= .inLoop body) rfl (fun _ _=> .inl (by simp)) N⟩
 obtain⟨e,Y,w',O,N⟩:=key m a w h0
 exact⟨e,Y,w',O,.of_steps (.one (fenced_calm hb hr rfl) stepR_loop) N⟩
theorem hlp(J:Nat->List (Nat×Value)->World->Prop){m:Nat}(I:J m M w)(round:∀m M w,J m M w->Hc P r n (Exit.then (fun a w=>∃D,D<m/\∃h,J D h w/\xC a n ds h) Q) x ds M w)
   (hM:Sub L M:=by repeat' first|exact D5|refine AV rfl ?_):Hc P r n Q (.loop x) ds L w:=fun a F=>
 wM (fun m a w=>∃M,J m M w/\xC a n ds M) ⟨M,I,F.sub hM⟩ fun m a w ⟨h,hJ,hF'⟩=>round m h w hJ a hF'
theorem hlq{J:Nat->List (Nat×Value)->World->Prop}{m h:Nat}(F:J h M w)(hlt:h<m:=by omega)(hM:Sub L M:=by repeat' first|exact D5|refine AV rfl ?_):He n (Exit.then (fun a w=>∃h,h<m/\∃D,J h D w/\xC a n ds D) Q) .normal ds L w:=
 fun a I=>⟨h,hlt,M,F,I.sub hM⟩
theorem GK{f:FuncId}{fn:Func}{vs:List Value}{R:Ending->World->Prop}(hf:P.funcs[f]? =some fn)(hn:fn.ntmps=n)(K:∀w,Sat w0 w []->Hc P none n (bodyPostM (FZ none) 0 P fn R) x [] (num 0 vs) w)(D:fn.body=some x:=by exact rfl)(hv:Nat.ble vs.length n=true:=by exact rfl):Calls P f vs.toArray w0 R:=
 Td (r:=none) (n:=0) (callsIn_of_wp_marks hf D trivial (by
   rw [hn]
   exact K _ (Sat.start w0) _ ((Fr.enter (vs:=vs.toArray) (by simpa using Nat.le_of_ble_eq_true hv) fun t v h=>by have:=(Je vs 0 t v h).2;simpa using this))))
theorem FI{f:FuncId}{fn:Func}{vs:List Value}{R:Ending->World->Prop}(hf:P.funcs[f]? =some fn)(hn:fn.ntmps=n)(K:Hc P none n (bodyPost P fn R) x [] (num 0 vs) w)(h:fn.body=some x:=by exact rfl)(hv:Nat.ble vs.length n=true:=by exact rfl):Calls P f vs.toArray w R:=
 enter hf h hn hv fun a D=>(wpIn_wide (n:=0)).1 (K a D)
theorem JG{fn:Func}{R:Ending->World->Prop}(h:Ge n [] (bodyPost P fn R) .ret L w):He n (bodyPostM (FZ none) 0 P fn R) .ret [] L w:=fun a D=>by
 obtain⟨_,v,h1,F⟩:=h a D
 have e:=D.defers
 show LeavesInM _ _ _ _ _ _ a.defers _ _
 rw [e]
 exact⟨v,h1,F⟩
def Frame.obj(g:Nat)(o:Obj):Frame where
  holds w:=w.heap[g]? =some o
  has k:=k=g
  keep h hk:=(hk g rfl).trans h
  lt h hg:=by rw [hg];exact(Array.getElem?_eq_some_iff.1 h).1
abbrev sH(D:Nat)(b:Bool):iO:= .sem (Frame.obj D (.deferred (if b then some [] else none)))
def BZ(D:Nat):Deferred:={target:= .collected D,args:= #[]}
theorem Sat.putObj{l1 l2:List iO}{g:Nat}{o o':Obj}(h:Sat w0 w (l1++ .sem (Frame.obj g o)::l2)):Sat w0 (w.putObj g o') (l1++ .sem (Frame.obj g o')::l2):=by
 have F:w.heap[g]? =some o:=h.get
 refine h.turn (d:= .sem (Frame.obj g o)) (fun k _ D=>World.putObj_heap_other (fun e=>D e)) rfl rfl rfl (by simp) ?_ (fun _ h=> .inl h)
 exact World.putObj_heap_same (Array.getElem?_eq_some_iff.1 F).1
theorem VG{fn:Func}{R:Ending->World->Prop}{E:List iO}{D:Nat}(i:Nat)(F:Sat w0 w E)(K:∀w',Sat w0 w' (E.set i (sH D false))->Ge n [] (bodyPost P fn R) .ret L w')(hi:E[i]? =some (sH D true):=by exact rfl):He n (bodyPostM (FZ none) 0 P fn R) .ret [BZ D] L w:=fun a h=>by
 have e:=h.defers
 show LeavesInM _ _ _ _ _ _ a.defers _ _
 rw [e]
 have J:w.heap[D]? =some (.deferred (some [])):=F.holds _ (List.mem_of_getElem? hi)
 refine⟨by simp,.inl ⟨D,_,rfl,run_takeDeferred J,?_⟩⟩
 have h1:Sat w0 (w.putObj D (.deferred none)) (E.set i (sH D false)):=by
   have I:=F
   rw [Z3 hi] at I
   rw [YE hi]
   exact I.putObj
 obtain⟨_,v,O,N⟩:=K _ h1 {a with defers:= []} ⟨h.size,rfl,h.get⟩
 exact⟨v,O,N⟩
end
theorem FH{J:List (Nat×Value)->List iO->Prop}{F:List iO->List iO}{Q:Exit->Act->World->Prop}{w w0:World}{n:Nat}{L M:List (Nat×Value)}{es:List iO}(D:J M es)(h:Sat w0 w (F es))(hM:Sub L M:=by repeat' first|exact D5|refine AV rfl ?_):
 Ge n [] (Exit.then (fun a w'=>∃M es,J M es/\xC a n [] M/\Sat w0 w' (F es)) Q) .normal L w:=fun a I=>⟨M,es,D,I.sub hM,h⟩
theorem DX{P:Program}{L:List (Nat×Value)}{w:World}{n:Nat}{fn:Func}{R:Ending->World->Prop}{T1 T2 T3 T4:TypeId}{N J I F:Nat}{a1 a2 a3 a4:Addr}{Y W U O:Value}(t1:ZF P T1=true)(t2:ZF P T2=true)(t3:ZF P T3=true)(t4:ZF P T4=true)(c1:w.cell? a1=some Y)(c2:w.cell? a2=some W)(c3:w.cell? a3=some U)(c4:w.cell? a4=some O)(h:R (.returned (.tuple #[Y,W,U,O])) w)
   (hr:fn.results= #[.cell N T1,.cell J T2,.cell I T3,.cell F T4]:=by exact rfl) (h1:lk L N=some (.pointer (some a1)):=by exact rfl) (h2:lk L J=some (.pointer (some a2)):=by exact rfl) (h3:lk L I=some (.pointer (some a3)):=by exact rfl) (h4:lk L F=some (.pointer (some a4)):=by exact rfl):Ge n [] (bodyPost P fn R) .ret L w:=fun a D=>by
 refine⟨D.defers,_,?_,h⟩
 obtain⟨⟨_,_,q1⟩,_⟩:=YN (w:=w) t1
 obtain⟨⟨_,_,q2⟩,_⟩:=YN (w:=w) t2
 obtain⟨⟨_,_,q3⟩,_⟩:=YN (w:=w) t3
 obtain⟨⟨_,_,q4⟩,_⟩:=YN (w:=w) t4
 have e1:=D.get N _ h1
 have e2:=D.get J _ h2
 have e3:=D.get I _ h3
 have Z:=D.get F _ h4
 rw [Array.getD_eq_getD_getElem?] at e1 e2 e3 Z
 simp [results,hr,e1,e2,e3,Z,asAddr,loadVar,q1,q2,q3,q4,c1,c2,c3,c4]
theorem NS{P:Program}{L:List (Nat×Value)}{w:World}{n:Nat}{fn:Func}{R:Ending->World->Prop}{T1 T2:TypeId}{F D:Nat}{W a2:Addr}{N J:Value}(Z:ZF P T1=true)(Y:ZF P T2=true)(c1:w.cell? W=some N)(c2:w.cell? a2=some J)(h:R (.returned (.tuple #[N,J])) w)
   (hr:fn.results= #[.cell F T1,.cell D T2]:=by exact rfl) (h1:lk L F=some (.pointer (some W)):=by exact rfl) (h2:lk L D=some (.pointer (some a2)):=by exact rfl):Ge n [] (bodyPost P fn R) .ret L w:=fun a I=>by
 refine⟨I.defers,_,?_,h⟩
 obtain⟨⟨_,_,q1⟩,_⟩:=YN (w:=w) Z
 obtain⟨⟨_,_,q2⟩,_⟩:=YN (w:=w) Y
 have U:=I.get F _ h1
 have O:=I.get D _ h2
 rw [Array.getD_eq_getD_getElem?] at U O
 simp [results,hr,U,O,asAddr,loadVar,q1,q2,c1,c2]
theorem Yg{l m:List iO}(h:∀f:iO->Nat,(l.map f).sum=(m.map f).sum):l.Perm m:=by
 classical
 rw [List.perm_iff_count]
 intro z
 have:=h (fun x=>if x=z then 1 else 0)
 have e:∀l:List iO,(l.map fun x=>if x=z then 1 else 0).sum=l.count z:=fun l=>by
   induction l with
   |nil=>rfl
   | cons x l ih=>
     rw [List.map_cons,List.sum_cons,ih,List.count_cons]
     by_cases hx:x=z
     · subst hx;simp;omega
     · simp [hx]
 rw [e,e] at this
 exact this
section
variable {P:Program} {Q:Exit->Act->World->Prop} {w w' w0:World} {n:Nat} {L:List (Nat×Value)} {ds:List Deferred}
def Hg{St X Tt:Type}(P:Program)(w0:World)(gf:FuncId)(lb:List Value)(Sh:List iO)(enc:X->List Value)(Pre:St->X->Frame->Prop)(Nx:St->X->St->Prop)(Sx:St->X->Tt->Prop)(s0:St)(Fin:St->Frame->Prop)(E8:Tt->Frame->Prop):Prop:=
  ∀(l:Nat) (C:St->Frame) (D:Tt->Frame) (w:World),Sat w0 w (.sem (C s0)::Sh)->
    (∀s x rest w,Pre s x rest->Sat w0 w (.sem (C s)::(Sh++ [.sem rest]))->G9 P l (enc x) w fun v w'=>
      (v= .bool true/\∃s',Nx s x s'/\Sat w0 w' (.sem (C s')::(Sh++ [.sem rest])))\/(v= .bool false/\∃t,Sx s x t/\Sat w0 w' (.sem (D t)::(Sh++ [.sem rest]))))->
    Calls P gf (.func (.yield l) #[] #[]::lb).toArray w fun e w'=>∃v,e= .returned v/\
      ((∃s rest,Fin s rest/\Sat w0 w' (.sem (C s)::(Sh++ [.sem rest])))\/(∃t rest,E8 t rest/\Sat w0 w' (.sem (D t)::(Sh++ [.sem rest]))))
def DY:List Nat->List Value->List (Nat×Value)->List (Nat×Value)
  |t::ts,v::vs,L=>DY ts vs ((t,v)::L)
  |_,_,L=>L
theorem MJ{a:Act}:∀(ts:List Nat) (vs:List Value) (T:Array Value) {L:List (Nat×Value)},xC {tmps:=T,defers:= []} n [] L->(ts.all fun t=>Nat.blt t n)=true->
   xC {tmps:=(ts.zip vs).foldl (fun t (p:Nat×Value)=>t.setIfInBounds p.1 p.2) T,defers:= []} n [] (DY ts vs L)
 | [],vs,T,L,h,_=>by simpa [DY] using h
 |t::ts, [],T,L,h,_=>by simpa [DY] using h
 | t::ts,v::vs,T,L,h,hb=>by
   simp only [List.all_cons,Bool.and_eq_true] at hb
   have h1:=h.put (by simpa [Nat.blt_eq] using hb.1) v
   simp only [List.zip_cons_cons,List.foldl_cons,DY]
   exact MJ (a:=a) ts vs _ h1 hb.2
def H6{St Tt:Type}(w0:World)(C:St->List iO)(D:Tt->List iO)(jc:Tt->Code)(Sh:List iO)(N:St->Prop)(S:Tt->Prop)(rest:Frame):Exit->Act->World->Prop
  | .normal,_,w'=>∃s',N s'/\Sat w0 w' (C s'++(Sh++ [.sem rest]))
  | .ret,_,w'=>∃t,S t/\jc t= .ret/\Sat w0 w' (D t++(Sh++ [.sem rest]))
  | .exit id,_,w'=>∃t,S t/\jc t= .exit id/\Sat w0 w' (D t++(Sh++ [.sem rest]))
  |_,_,_=>False
theorem D6{St Tt:Type}{w0 w:World}{C:St->List iO}{D:Tt->List iO}{h:Tt->Code}{Sh:List iO}{N:St->Prop}{S:Tt->Prop}{rest:Frame}{n:Nat}{L:List (Nat×Value)}(s':St)(I:N s')(F:Sat w0 w (C s'++(Sh++ [.sem rest]))):Ge n [] (H6 w0 C D h Sh N S rest) .normal L w:=fun _ _=>⟨s',I,F⟩
theorem FK{St Tt:Type}{w0 w:World}{C:St->List iO}{D:Tt->List iO}{h:Tt->Code}{Sh:List iO}{N:St->Prop}{S:Tt->Prop}{rest:Frame}{n:Nat}{L:List (Nat×Value)}(t:Tt)(J:S t)(F:h t= .ret)(I:Sat w0 w (D t++(Sh++ [.sem rest]))):Ge n [] (H6 w0 C D h Sh N S rest) .ret L w:=fun _ _=>⟨t,J,F,I⟩
def Ql:Code->Exit
  | .ret=> .ret
  | .exit id=> .exit id
  |_=> .normal
theorem Sat.wz{l1 l2 l3:List iO}(h:Sat w0 w (l1++ .sem (Frame.rG l2)::l3)):Sat w0 w (l1++(l2++l3)):=h.unbundle
theorem hrf{St X Tt:Type}{gf:FuncId}{lb:List Value}{g:Operand}{U:Array Tmp}{assign body:Code}{Sh:List iO}{enc:X->List Value}{ae:St->X->Frame->Prop}{Nx:St->X->St->Prop}{Sx:St->X->Tt->Prop}{Fin:St->Frame->Prop}{aa:Tt->Frame->Prop}
   (C:St->List iO) (D:Tt->List iO) (jc:Tt->Code) (s0:St) (J:X->List (Nat×Value)->List iO->Prop) (hit:Hg P w0 gf lb Sh enc ae Nx Sx s0 Fin aa) (hS:Sat w0 w (C s0++Sh)) (N:Zc P gf=true)
   (aj:∀x,(enc x).length=U.size) (am:∀t,jc t= .ret\/∃id,jc t= .exit id)
   (zc:∀l s x rest w,ae s x rest->∀F,(∀w,F.holds w->rest.holds w)->Sat w0 w (C s++(Sh++ [.sem F]))->Hc P (some l) n (Exit.then (fun a w'=>∃M es,J x M es/\xC a n [] M/\Sat w0 w' (C s++(Sh++(.sem F::es)))) (fun _ _ _=>False)) assign [] (DY U.toList (enc x) L) w)
   (bB:∀l s x M es rest w,ae s x rest->J x M es->∀F,(∀w,F.holds w->rest.holds w)->Sat w0 w (C s++(Sh++(.sem F::es)))->Hc P (some l) n (H6 w0 C D jc Sh (Nx s x) (Sx s x) F) body [] M w)
   (zq:∀Dk s rest w',Fin s rest->Sat w0 w' (C s++(Sh++ [.sem rest,sH Dk true]))->He n Q .normal (BZ Dk::ds) L w')
   (aX:∀Dk t rest w',aa t rest->Sat w0 w' (D t++(Sh++ [.sem rest,sH Dk true]))->He n Q (Ql (jc t)) (BZ Dk::ds) L w')
   (hg:iZ L g=some (.func (.func gf) #[] lb.toArray):=by exact rfl) (ak:(U.toList.all fun t=>Nat.blt t n)=true:=by exact rfl):Hc P none n Q (.rangeFunc g U assign body) ds L w:=by
 intro a hF
 refine wpIn_rangeFunc ?_
 intro fn ax
 obtain⟨rec,xp⟩:∃rec:LoopState->Option Code->Loop,rec=fun O Y=>{state:=O,pending:=Y,fn,tmps:=a.tmps,params:=U,assign,body,defers:=w.heap.size}:=⟨_,rfl⟩
 obtain⟨W1,ag⟩:∃W1,(w.alloc (.deferred (some []))).alloc (.loop (rec .ready none))=W1:=⟨_,rfl⟩
 obtain⟨l,hl⟩:∃l,w.heap.size+1=l:=⟨_,rfl⟩
 obtain⟨Dk,ac⟩:∃Dk,w.heap.size=Dk:=⟨_,rfl⟩
 have av:Sat w0 W1 ((C s0++Sh)++ [sH Dk true]++ [.sem (Frame.obj l (.loop (rec .ready none)))]):=by
   rw [<-ag]
   refine(hS.alloc _ (e:=sH Dk true) ?_ ?_).alloc _ (e:= .sem (Frame.obj l (.loop (rec .ready none)))) ?_ ?_
   · rw [<-ac];exact heap_alloc_new w _
   · intro g hg;rw [<-ac] at hg;exact hg
   · have:=heap_alloc_new (w.alloc (.deferred (some []))) (.loop (rec .ready none))
     rw [World.size_alloc,hl] at this;exact this
   · intro g hg;rw [World.size_alloc,hl];exact hg
 have eval:a.eval g= .func (.func gf) #[] lb.toArray:=hF.wP _ _ hg
 have dM:∃I,P.funcs[gf]? =some I/\I.body.isSome=true/\(I.name== "runtime.NumGoroutine")=false:=by
   unfold Zc at N
   cases hf:P.funcs[gf]? with
   |none=>simp [hf] at N
   | some I=>
     simp only [hf,Bool.and_eq_true,Bool.not_eq_true'] at N
     exact⟨I,rfl,N.1,N.2⟩
 obtain⟨I,ap,af,ao⟩:=dM
 have dS:I.body≠none:=by intro e;rw [e] at af;simp at af
 have dR:I.name≠ "runtime.NumGoroutine" :=by simpa using ao
 let C':St->Frame:=fun s=>Frame.rG (C s++ [.sem (Frame.obj l (.loop (rec .ready none))),sH Dk true])
 let D':Tt->Frame:=fun t=>Frame.rG (D t++ [.sem (Frame.obj l (.loop (rec .done (some (jc t))))),sH Dk true])
 have au:Sat w0 W1 (.sem (C' s0)::Sh):=by
   have h1:Sat w0 W1 (Sh++(C s0++ [.sem (Frame.obj l (.loop (rec .ready none))),sH Dk true])):=av.perm (Yg fun f=>by simp only [List.map_append,List.map_cons,List.map_nil,List.sum_append,List.sum_cons,List.sum_nil];omega)
   have Z:=h1.bundle
   exact Z.perm List.perm_append_comm
 refine⟨l, [BZ Dk],W1,{target:= .fn (.func gf) lb.toArray,args:= #[.func (.yield l) #[] #[]]},W1,gf, #[.func (.yield l) #[] #[]]++lb.toArray,W1,?_,?_,?_,?_,fun h=>(by cases h),?_⟩
 · rw [<-ag,xp,<-hl,<-ac];exact run_enterLoop_outer _ _ _ _ _
 {
 simp only [resolve,eval]
 simp [go_sem]}
 · intro f' ay;trivial
 · simp [invoke,go_sem,callFunc,ap,dS,dR]
 have ad:(#[.func (.yield l) #[] #[]]++lb.toArray:Array Value)=(.func (.yield l) #[] #[]::lb).toArray:=by simp
 rw [ad]
 refine WB ((hit l C' D' W1 au ?_).mono ?_)
 {
 intro s x rest W qe ar
 have h1:Sat w0 W (C s++(Sh++ [.sem rest,.sem (Frame.obj l (.loop (rec .ready none))),sH Dk true])):=by
   have:=Sat.wz (l1:= []) ar
   exact this.perm (Yg fun f=>by simp only [List.map_append,List.map_cons,List.map_nil,List.sum_append,List.sum_cons,List.sum_nil];omega)
 have ab:W.heap[l]? =some (.loop (rec .ready none)):=h1.holds (.sem (Frame.obj l (.loop (rec .ready none)))) (by simp)
 have hy:=run_yield (P:=P) (args:=(enc x).toArray) ab (by rw [xp];simp [aj x])
 rw [xp] at hy
 refine⟨fn,_,assign,body,hy,roundIn_of_wpIn trivial ?_⟩
 clear hy
 let r1:Frame:=Frame.rG [.sem rest,.sem (Frame.obj l (.loop (rec .ready none))),sH Dk true]
 have Z:Sat w0 W (C s++(Sh++ [.sem r1])):=by
   rw [<-List.append_assoc] at h1⊢
   exact h1.bundle
 have an:xC {tmps:=(U.zip (enc x).toArray).foldl (fun t (p,v)=>t.setIfInBounds p v) a.tmps,defers:= []} n [] (DY U.toList (enc x) L):=by
   have:=MJ (a:=a) (n:=n) U.toList (enc x) a.tmps (L:=L) ⟨hF.size,rfl,hF.get⟩ ak
   have e:(U.zip (enc x).toArray).foldl (fun t (p,v)=>t.setIfInBounds p v) a.tmps=(U.toList.zip (enc x)).foldl (fun t (p:Nat×Value)=>t.setIfInBounds p.1 p.2) a.tmps:=by
     rw [<-Array.foldl_toList,Array.toList_zip]
   rw [e];exact this
 refine Go.wpIn_mono (zc l s x rest W qe r1 (fun w h=>h.1 (.sem rest) (by simp)) Z _ an) ?_
 intro e a1 Wa hp
 cases e<;>try exact hp.elim
 obtain⟨M,es,hJ,aw,aq⟩:=hp
 have h3:Sat w0 Wa ((C s++(Sh++([.sem rest]++es))++ [sH Dk true])++ .sem (Frame.obj l (.loop (rec .ready none))):: []):=by
   have:=Sat.wz (l1:=C s++Sh) (l3:=es) (by rw [List.append_assoc];exact aq)
   exact this.perm (Yg fun f=>by simp only [List.map_append,List.map_cons,List.map_nil,List.sum_append,List.sum_cons,List.sum_nil];omega)
 have ab:Wa.heap[l]? =some (.loop (rec .ready none)):=h3.get
 refine⟨_,run_beginRound ab (by rw [xp]),?_⟩
 have h4:=h3.putObj (o':= .loop {rec .ready none with state:= .busy})
 let r2:Frame:=Frame.rG [.sem rest,.sem (Frame.obj l (.loop {rec .ready none with state:= .busy})),sH Dk true]
 have h5:Sat w0 (Wa.putObj l (.loop {rec .ready none with state:= .busy})) (C s++(Sh++(.sem r2::es))):=by
   have h:Sat w0 (Wa.putObj l (.loop {rec .ready none with state:= .busy})) ((C s++(Sh++es))++ [.sem rest,.sem (Frame.obj l (.loop {rec .ready none with state:= .busy})),sH Dk true]):=by
     exact h4.perm (Yg fun f=>by simp only [List.map_append,List.map_cons,List.map_nil,List.sum_append,List.sum_cons,List.sum_nil];omega)
   have hb:Sat w0 (Wa.putObj l (.loop {rec .ready none with state:= .busy})) ((C s++(Sh++es))++ [.sem r2]):=h.bundle
   exact hb.perm (Yg fun f=>by simp only [List.map_append,List.map_cons,List.map_nil,List.sum_append,List.sum_cons,List.sum_nil];omega)
 refine Go.wpIn_mono (bB l s x M es rest _ qe hJ r2 (fun w h=>h.1 (.sem rest) (by simp)) h5 _ aw) ?_
 have fin:∀(jump:Option Code) (A:List iO) (W3:World),Sat w0 W3 (A++(Sh++ [.sem r2]))->
     (Instr.endRound l jump).run P W3= .ok (.bool jump.isNone) (W3.putObj l (.loop (rec (if jump.isNone then .ready else .done) jump)))/\
     Sat w0 (W3.putObj l (.loop (rec (if jump.isNone then .ready else .done) jump))) (.sem (Frame.rG (A++ [.sem (Frame.obj l (.loop (rec (if jump.isNone then .ready else .done) jump))),sH Dk true]))::(Sh++ [.sem rest])):=fun jump A W3 hA=>by
   have h6:Sat w0 W3 ((Sh++ [.sem rest]++(A++ [sH Dk true]))++ .sem (Frame.obj l (.loop {rec .ready none with state:= .busy})):: []):=by
     have:=Sat.wz (l1:=A++Sh) (l3:= []) (by rw [List.append_assoc];exact hA)
     exact this.perm (Yg fun f=>by simp only [List.map_append,List.map_cons,List.map_nil,List.sum_append,List.sum_cons,List.sum_nil];omega)
   have al:W3.heap[l]? =some (.loop {rec .ready none with state:= .busy}):=h6.get
   have hr:=run_endRound (P:=P) jump al
   have h7:=h6.putObj (o':= .loop (rec (if jump.isNone then .ready else .done) jump))
   refine⟨by rw [xp] at hr⊢;exact hr,?_⟩
   have h8:Sat w0 (W3.putObj l (.loop (rec (if jump.isNone then .ready else .done) jump))) ((Sh++ [.sem rest])++(A++ [.sem (Frame.obj l (.loop (rec (if jump.isNone then .ready else .done) jump))),sH Dk true])):=by
     exact h7.perm (Yg fun f=>by simp only [List.map_append,List.map_cons,List.map_nil,List.sum_append,List.sum_cons,List.sum_nil];omega)
   exact h8.bundle.perm List.perm_append_comm
 intro e a3 W3 hp
 cases e with
 | normal=>
   obtain⟨s',hn,hA⟩:=hp
   obtain⟨hr,h6⟩:=fin none _ _ hA
   exact⟨_,_,hr,_,rfl,.inl ⟨rfl,s',hn,h6⟩⟩
 | ret=>
   obtain⟨t,hn,hj,hA⟩:=hp
   obtain⟨hr,h6⟩:=fin (some .ret) _ _ hA
   refine⟨_,_,hr,_,rfl,.inr ⟨rfl,t,hn,?_⟩⟩
   simp only [D',hj];exact h6
 | exit id=>
   obtain⟨t,hn,hj,hA⟩:=hp
   obtain⟨hr,h6⟩:=fin (some (.exit id)) _ _ hA
   refine⟨_,_,hr,_,rfl,.inr ⟨rfl,t,hn,?_⟩⟩
   simp only [D',hj];exact h6
 |goto t=>exact hp.elim
 |panic ch=>exact hp.elim
 |outgrown=>exact hp.elim}
 {
 have out:∀(O:LoopState) (Y:Option Code) (A:List iO) (rest:Frame) (W2:World),O≠ .busy->Sat w0 W2 (.sem (Frame.rG (A++ [.sem (Frame.obj l (.loop (rec O Y))),sH Dk true]))::(Sh++ [.sem rest]))->
     (Instr.endLoop l).run P W2= .ok Y (W2.putObj l (.loop {rec O Y with state:= .exhausted}))/\Sat w0 (W2.putObj l (.loop {rec O Y with state:= .exhausted})) (A++(Sh++ [.sem rest,sH Dk true])):=fun O Y A rest W2 ai h=>by
   have h1:=Sat.wz (l1:= []) h
   have Z:Sat w0 W2 ((A++(Sh++ [.sem rest,sH Dk true]))++ .sem (Frame.obj l (.loop (rec O Y))):: []):=by
     exact h1.perm (Yg fun f=>by simp only [List.map_append,List.map_cons,List.map_nil,List.sum_append,List.sum_cons,List.sum_nil];omega)
   have hl:W2.heap[l]? =some (.loop (rec O Y)):=Z.get
   have h3:=Z.putObj (o':= .loop {rec O Y with state:= .exhausted})
   refine⟨?_,h3.sub (List.sublist_append_left _ _)⟩
   have:=run_endLoop (P:=P) hl (by rw [xp];exact ai)
   rw [xp] at this⊢;exact this
 rintro e W2 ⟨v,rfl,h⟩
 have ah:∀{L'},xC a n ds L'->xC {a with defers:= [BZ Dk]++a.defers} n (BZ Dk::ds) L':=fun h=>⟨h.size,by rw [<-h.defers];rfl,h.get⟩
 rcases h with⟨s,rest,qr,h⟩|⟨t,rest,qr,h⟩
 · obtain⟨h1,Z⟩:=out .ready none _ rest W2 (by simp) h
   exact⟨none,_,h1,zq Dk s rest _ qr Z _ (ah hF)⟩
 {
 obtain⟨h1,Z⟩:=out .done (some (jc t)) _ rest W2 (by simp) h
 refine⟨some (jc t),_,h1,?_⟩
 have h3:=aX Dk t rest _ qr Z _ (ah hF)
 rcases am t with hj|⟨id,hj⟩
 · rw [hj] at h3⊢;exact wpIn_ret h3
 · rw [hj] at h3⊢;exact wpIn_exit h3}}
end
end Go.Proofs.Gw
namespace Go.Proofs.YtpnamgfdakfccaaGreat
open Go Go.RowKit Go.Proofs.Gw
theorem Zp5:Zc Om 85=true:=Oc
theorem Zp4:Zc Om 86=true:=Oc
theorem Gy:Zc Om 87=true:=Oc
theorem Zp3:Zc Om 88=true:=Oc
theorem LJ:ZN Om 100=some (.agg #[Oh,Oh,Oh,.int Oi 0,.int Oi 0,.int Oi 0],6,96):=Oc
theorem u_:Zw Om 100 0=some 0:=Oc
theorem Vg:Zw Om 100 1=some 5:=Oc
theorem rZ:Zw Om 56 1=some 1:=Oc
theorem oz:ZF Om 35=true:=Oc
theorem UL:ZC Om 100=some 6:=Oc
structure CX where
  u:Int
  vP:Value
  vv:Ov
  ml:Of
  mf:Og
  vX:Value
  vY:Value
  s:So
  e:Int
inductive Fa (p:cO):Int->(Of)->(Og)->Int->Prop
  |start {u e:Int} {ml:Of} {mf:Og} (h:S_ p u ml mf e):Fa p u ml mf e
  |go {u na worth f:Int} {ml:Of} {mf:Og} {a:Of} {s:So} (h:Fa p u ml mf 0) (hs:qP p u ml mf s 0) (hp:LV p s.m s.Y na a worth f) (hn:¬(f=0/\worth<=s.den)):Fa p (u+1) (lD ml u na) (lD mf u a) f
def JX(p:cO)(s:So):Prop:=∃na a worth,LV p s.m s.Y na a worth 0/\worth<=s.den
def Zrm(x:CX):List iO:= [.own x.vP 1 22 x.u x.vv,.sem (Frame.rows 3 x.u x.vv x.ml x.mf),.own x.vX 1 3 x.s.n (ints x.s.X),.own x.vY 1 3 x.s.m (ints x.s.Y)]
def Ie(p:cO)(s:List CX)(x:CX)(rest:Gw.Frame):Prop:=(∀y∈s,y.e=0)/\iK x.vP x.u/\iK x.vX x.s.n/\iK x.vY x.s.m/\(x.e=0->Frame.gives rest (Zrm x))/\
  ∃e,Fa p x.u x.ml x.mf e/\((e≠0/\x.e=e/\x.s=So.zero)\/(e=0/\qP p x.u x.ml x.mf x.s x.e))
def Zrn(p:cO)(s:List CX)(rest:Gw.Frame):Prop:=∃s' x,s=s'++ [x]/\Ie p s' x rest/\(x.e=0->JX p x.s)
theorem qP.few{p:cO}{u:Int}{ml:Of}{mf:Og}{s:So}(h:qP p u ml mf s 0):p.Ok/\u<=60/\s.m=p.m:=by
 rcases h with⟨_,_,h⟩|⟨_,_,_,h⟩|⟨_,_,_,_,_,_,h⟩|⟨h1,h2,h3,h4,h5,h6,h7⟩|⟨h1,h2,h3,h4,h5⟩
 · omega
 · omega
 · omega
 · exact⟨h1.1,h3,by rw [h6];rfl⟩
 {
 refine⟨h1.1,h3,?_⟩
 have:=(vZ.chk (p:=XR p u mf) (by have:=h1.1.m1;show 0<=p.m;omega) h5 rfl).m
 exact this}
theorem Zi0{v:Value}{n:Int}{vv:Ov}(w0:World)(J:(iO.own v 1 22 n vv).holds w0)(h1:∀k,0<=k->k<n->(vv k).oneCell'=true)(hn:n<=1000000):Calls Om 86 [v].toArray w0 fun e w=>∃u,e= .returned u/\∃r,u=r/\iK r n/\Sat w0 w [.own r 1 22 n vv]:=by
 have U:=J.row
 obtain⟨F,Z,⟨rfl,rfl⟩|⟨g,cap,cur,rfl,N,h2,h3,h4,h5⟩⟩:=J
 {
 refine(W6 0 0 w0).mono fun e w ⟨D,hw⟩=>⟨_,D,_,rfl,d_,?_⟩
 rw [hw]
 exact(Sat.start w0).fU 1 22 vv}
 {
 obtain⟨i,hi,W,I,hb⟩:=Ys ZQ
 refine(UM i Oh 1 24 hi W I hb rfl (by decide) (fun w=>by simp [sizeOf,typeInfo,hi,I]) g 0 n.toNat cap (cellsOf vv n.toNat) w0 (by rw [YG];omega) (by unfold maxLen;omega) Oa (fun j u h=> ?_) (fun u Y=> ?_)).mono fun e w ⟨r,D,hr,_,hB⟩=>⟨r,D,r,rfl,?_⟩
 {
 rw [l7] at h
 split at h
 {
 rename_i hlt
 cases h
 have:=U.2 j Oa
 rw [<-this];simp [pW]}
 · cases h}
 {
 obtain⟨j,h⟩:=List.getElem?_of_mem Y
 rw [l7] at h
 split at h
 · cases h;exact h1 j Oa Oa
 · cases h}
 · have O:(iO.own r 1 22 n vv).holds w:=iO.holds.uX F Oa (by rw [Nat.mul_one];exact hr)
   exact⟨O.row.fP,hB,fun e D=>by obtain rfl:=List.mem_singleton.1 D;exact O,fun e D g N=>by obtain rfl:=List.mem_singleton.1 D;exact(hr.lt g N).1,List.pairwise_singleton _ _⟩}
theorem Zd2{vL vD:Value}{p:cO}{gp:Nat}(w0:World)(h:oO w0 vL vD p):Hg (St:=List CX) (X:=CX) (Tt:=CX) Om w0 84 [Or gp] [.blk gp [vL,vD,.int Oi p.bP,.int Oi p.aV]] (fun x=> [.agg #[x.vP,x.vX,x.vY,.int Oi x.s.val,.int Oi x.s.den,.int Oi x.e]]) (Ie p) (fun s x s1=>s1=s++ [x]) (fun _ _ _=>False) ([]) (Zrn p) (fun _ _=>False):=by
 intro l C D w F hY
 obtain⟨hm,ap,hd,hd1,hs,hk⟩:=h.Oq
 refine FI Tryz.func84 Tryz.ntmps84 ?_
 refine jw<|hrz ?_
 refine iI (lH 1 iM F) ?_
 refine iJ (xc0 Zp5) (ZiK (p:=p) w (h.below F.below)) ?_;rintro _ w ⟨bV,z8,aL,bW,bX,jX,rfl,bm,dt,I⟩
 replace F:Sat w0 w [.sem (C []),.blk gp [vL,vD,.int Oi p.bP,.int Oi p.aV],.own bV 1 22 z8 aL,.sem (Frame.rows 3 z8 aL bW bX)]:=F.comp I;clear I
 have ja:=fun k (U:0<=k) (O:k<z8)=>F.iw 3 rfl U O
 refine uK ?_
 refine iq<|zh<|htn<|hbk<|hlp (fun mm M w=>∃(s:List CX) (u:Int) (Z:Value) (vv:Ov) (ml:Of) (mf:Og) (e:Int),mm=((62-u).toNat)/\(Fa p u ml mf e)/\(∀y∈s,y.e=0)/\(iK Z u)/\(u<=61)/\M= [(0,.func (.yield l) #[] #[]),(1,Or gp),(3,Z),(4,.int Oi e)]/\Sat w0 w [.sem (C s),.blk gp [vL,vD,.int Oi p.bP,.int Oi p.aV],.own Z 1 22 u vv,.sem (Frame.rows 3 u vv ml mf)]) ⟨[],z8,bV,aL,bW,bX,jX,rfl,?_,?_,?_,?_,rfl,F⟩ ?_
 {
 exact .start bm}
 {
 intro y W;cases W}
 {
 exact dt}
 {
 rcases bm with⟨_,h9,_⟩|⟨h9,h8,_⟩
 · omega
 · have:=MW p p.m.toNat;have:=h9.m2;have:=h9.m1;omega}
 clear F w
 rintro mm M w ⟨s,u,Z,vv,ml,mf,e,rfl,ab,xX,af,mw,rfl,F⟩
 have an:=fun k (U:0<=k) (O:k<u)=>F.iw 3 rfl U O
 have al:=af.n0
 refine hbk<|jw<|hrz ?_
 refine iI gu ?_
 refine iJ (xc0 Zp4) (Zi0 w (F.holds _ (List.mem_of_getElem? (i:=2) rfl)) (fun k U O=>(F.iw 3 rfl U O).one) Oa) ?_;rintro N w ⟨_,rfl,yw,I⟩
 replace F:Sat w0 w [.sem (C s),.blk gp [vL,vD,.int Oi p.bP,.int Oi p.aV],.own Z 1 22 u vv,.sem (Frame.rows 3 u vv ml mf),.own N 1 22 u vv]:=F.comp I;clear I
 refine iI (lF (v:= .agg #[N,Oh,Oh,.int Oi 0,.int Oi 0]) (hr:=by obtain⟨_,_,_,_,rfl,_⟩:=yw;kernel_rfl)) ?_
 refine iI gu ?_
 refine iI (lF (v:= .agg #[N,Oh,Oh,.int Oi 0,.int Oi 0,.int Oi e]) (hr:=by obtain⟨_,_,_,_,rfl,_⟩:=yw;kernel_rfl)) ?_
 refine iG (oh (cs:= [_,_,_,_,_,_]) LJ F) ?_;rintro _ w ⟨g1,rfl,F⟩
 replace F:=F.n6
 refine lJ (nD 5 UL F (hd:=(Za yw.one (Za rfl (Za rfl (Za rfl (Za rfl (Za rfl Zj)))))))) ?_;clear F;rintro w F
 replace F:=F.n6
 refine iq<|zh<|htn<|jw<|jw<|hrz ?_
 refine zs2 ?_
 refine iq<|zh<|htn ?_
 refine Yv ?_ ?_<;>intro hc
 {
 refine hrz ?_
 refine iI (lH 1 iM F) ?_
 refine iI gu ?_
 refine iJ (xc0 Gy) (CP (p:=p) (u:=u) (ml:=ml) (mf:=mf) w (h.below F.below) (⟨(F.f_ 2 rfl),fun k U O=>F.lI 3 rfl U O,fun k U O=>F.lV 3 rfl U O⟩:sO _ Z u vv ml mf)) ?_;rintro _ w ⟨yM,yL,J,aD,rfl,bo,aU,aT,I⟩
 replace F:Sat w0 w [.sem (C s),.blk gp [vL,vD,.int Oi p.bP,.int Oi p.aV],.own Z 1 22 u vv,.sem (Frame.rows 3 u vv ml mf),.own N 1 22 u vv,.blk g1 [N,Oh,Oh,.int Oi 0,.int Oi 0,.int Oi e],.own yM 1 3 J.n (ints J.X),.own yL 1 3 J.m (ints J.Y)]:=F.comp I;clear I
 refine C9 ?_
 refine iI (h_ 0 u_) ?_
 refine iI (h_ 1 rZ) ?_
 refine lJ (xsp 5 ZW F (hd:=(Za aU.one (Za aT.one (Za rfl (Za rfl Zj)))))) ?_;clear F;rintro w F
 replace F:=F.n8
 refine iI (h_ 5 Vg) ?_
 refine lJ (xsb 5 oz F) ?_;clear F;rintro w F
 replace F:=F.n8
 refine iq<|zh<|htn<|jw<|jw<|hrg ?_
 refine hlv gu ?_
 refine hlv (lH 5 UL F) ?_
 have Y:Ie p s ⟨u,N,vv,ml,mf,yM,yL,J,aD⟩ (Frame.rG [.own Z 1 22 u vv,.sem (Frame.rows 3 u vv ml mf),.own N 1 22 u vv,.blk g1 [N,yM,yL,.int Oi J.val,.int Oi J.den,.int Oi aD],.own yM 1 3 J.n (ints J.X),.own yL 1 3 J.m (ints J.Y)]):=⟨xX,yw,aU,aT,fun _=>Rv [2,1,4,5],e,ab,.inr ⟨by assumption,bo⟩⟩
 refine EG (hY s _ _ w Y (Sat.bundle (l1:= [_,_]) F)) ?_;rintro _ w (⟨rfl,ac,qs,F⟩|⟨rfl,ah,xe,F⟩)
 {
 replace F:=Sat.unbundle (l1:= [_,_]) (l3:= []) F
 replace F:=F.n8
 refine hlv tH ?_
 refine hlv gu ?_
 refine hlv (h_ 5 Vg) ?_
 refine hlv (g_ 5 oz F) ?_
 refine hlv Xf ?_
 refine hlv pY ?_
 refine hln<|htn ?_
 refine Yv ?_ ?_<;>intro hc
 {
 refine hrt<|m_<|og<|m_<|og<|Ae ⟨_,rfl,?_⟩
 subst qs
 exact .inl ⟨_,_,⟨s,_,rfl,⟨Y.1,Y.2.1,Y.2.2.1,Y.2.2.2.1,fun _=>Rv [2,1,4,5],Y.2.2.2.2.2⟩,by first|exact fun hh=>absurd hh (by assumption)|exact fun _=>⟨_,_,_,(by rw [show(0:Int)=zx by omega];exact yn),by show aF<=J.den;omega⟩⟩,Sat.bundle (l1:= [_,_]) F⟩}
 refine hsk<|htn<|jw<|hrz ?_
 refine iI (lH 1 iM F) ?_
 refine iI (h_ 0 u_) ?_
 refine iI (h_ 1 rZ) ?_
 refine iI (h_ 2 z_) ?_
 refine iI (g_ 5 dV F) ?_
 refine iJ (xc0 Zp3) (ZkT (p:=p) (n:=J.m) (y:=J.Y) w (h.below F.below) (F.f_ 7 rfl)) ?_;rintro _ w ⟨xN,aQ,aE,aF,zx,rfl,y3,yY,I⟩
 replace F:Sat w0 w [.sem (C ac),.blk gp [vL,vD,.int Oi p.bP,.int Oi p.aV],.own Z 1 22 u vv,.sem (Frame.rows 3 u vv ml mf),.own N 1 22 u vv,.blk g1 [N,yM,yL,.int Oi J.val,.int Oi J.den,.int Oi aD],.own yM 1 3 J.n (ints J.X),.own yL 1 3 J.m (ints J.Y),.own xN 1 3 aQ (ints aE)]:=F.comp I;clear I
 refine zs2 ?_
 have aa:=bo;rw [show aD=0 by omega] at aa
 obtain⟨ao,gY,am⟩:=aa.few
 refine uK ?_
 refine iq<|zh<|htn<|jw<|jw<|hrz ?_
 refine C9 ?_
 refine lX 51 ?_ ?_<;>intro hc
 {
 refine iI gu ?_
 refine iI (h_ 0 u_) ?_
 refine iI (h_ 1 rZ) ?_
 refine iI (h_ 4 oQ) ?_
 refine iI (g_ 5 dw F) ?_
 refine zs2 ?_
 have yn:=y3
 refine iq<|zh<|htn ?_
 refine Yv ?_ ?_<;>intro hc
 {
 refine hrt<|m_<|og<|m_<|og<|Ae ⟨_,rfl,?_⟩
 subst qs
 exact .inl ⟨_,_,⟨s,_,rfl,⟨Y.1,Y.2.1,Y.2.2.1,Y.2.2.2.1,fun _=>Rv [2,1,4,5],Y.2.2.2.2.2⟩,by first|exact fun hh=>absurd hh (by assumption)|exact fun _=>⟨_,_,_,(by rw [show(0:Int)=zx by omega];exact yn),by show aF<=J.den;omega⟩⟩,Sat.bundle (l1:= [_,_]) F⟩}
 refine hsk<|htn<|hrz ?_
 refine zs2 ?_
 refine iG (pO (n:=1) (len:=1) (pv:= [(0,xN)]) (cs:= [xN]) (c:=(fun _=>xN)) Zk ZQ F (hf:=by obtain⟨_,_,_,_,rfl,_⟩:=yY;kernel_rfl)) ?_;rintro v1 w ⟨F,ak⟩
 replace F:=F.n10
 refine iG (pz 2 (r:=u+1) Zk ZQ F (F.f_ 9 rfl) (YA _ _ _) (h1:=fun _ _ _=>yY.one)) ?_;rintro v2 w ⟨F,ae⟩
 replace F:=F.n10
 replace F:=Sat.merge (l1:= [_,_,_]) (l2:= [_,_,_,_]) (l3:= [_]) F Oa
 have q9:=fun k (U:0<=k) (O:k<u+1)=>F.iw 3 rfl U O
 replace F:=F.n9
 refine C9 ?_
 refine iq<|zh<|ng<|hlq ⟨ac,u+1,v2,lD vv u xN,lD ml u aQ,lD mf u aE,zx,rfl,?_,?_,?_,?_,rfl,F.pk [0,1,2,3]⟩
 {
 exact .go (by rw [show(0:Int)=e by omega];exact ab) aa y3 Oa}
 {
 rw [qs];intro y W;rcases List.mem_append.1 W with W|W
 · exact xX y W
 · obtain rfl:=List.mem_singleton.1 W;show aD=0;omega}
 {
 exact ae}
 {
 omega}}
 iterate 6 refine oq ?_
 refine iI pY ?_
 have yn:=y3
 refine iq<|zh<|htn<|hcf<|hsk<|htn<|hrz ?_
 refine zs2 ?_
 refine iG (pO (n:=1) (len:=1) (pv:= [(0,xN)]) (cs:= [xN]) (c:=(fun _=>xN)) Zk ZQ F (hf:=by obtain⟨_,_,_,_,rfl,_⟩:=yY;kernel_rfl)) ?_;rintro v3 w ⟨F,aj⟩
 replace F:=F.n10
 refine iG (pz 2 (r:=u+1) Zk ZQ F (F.f_ 9 rfl) (YA _ _ _) (h1:=fun _ _ _=>yY.one)) ?_;rintro v4 w ⟨F,ad⟩
 replace F:=F.n10
 replace F:=Sat.merge (l1:= [_,_,_]) (l2:= [_,_,_,_]) (l3:= [_]) F Oa
 have xV:=fun k (U:0<=k) (O:k<u+1)=>F.iw 3 rfl U O
 replace F:=F.n9
 refine C9 ?_
 refine iq<|zh<|ng<|hlq ⟨ac,u+1,v4,lD vv u xN,lD ml u aQ,lD mf u aE,zx,rfl,?_,?_,?_,?_,rfl,F.pk [0,1,2,3]⟩
 {
 exact .go (by rw [show(0:Int)=e by omega];exact ab) aa y3 Oa}
 {
 rw [qs];intro y W;rcases List.mem_append.1 W with W|W
 · exact xX y W
 · obtain rfl:=List.mem_singleton.1 W;show aD=0;omega}
 {
 exact ad}
 {
 omega}}
 {
 replace F:=Sat.unbundle (l1:= [_,_]) (l3:= []) F
 replace F:=F.n8
 refine hlv tJ ?_
 refine hlv gu ?_
 iterate 3 refine hlo ?_
 refine hlv qj ?_
 refine hln<|htn<|hct<|hrt<|m_<|og<|m_<|og<|Ae ⟨_,rfl,?_⟩
 exact xe.elim}}
 refine hsk<|htn<|jw<|jw<|hrg ?_
 refine hlv gu ?_
 refine hlv (lH 5 UL F) ?_
 have xb:Ie p s ⟨u,N,vv,ml,mf,Oh,Oh,So.zero,e⟩ (Frame.rG [.own Z 1 22 u vv,.sem (Frame.rows 3 u vv ml mf),.own N 1 22 u vv,.blk g1 [N,Oh,Oh,.int Oi 0,.int Oi 0,.int Oi e]]):=⟨xX,yw,d_,d_,fun hh=>absurd hh (by assumption),e,ab,.inl ⟨by assumption,rfl,rfl⟩⟩
 refine EG (hY s _ _ w xb (Sat.bundle (l1:= [_,_]) F)) ?_;rintro _ w (⟨rfl,ai,ay,F⟩|⟨rfl,ag,dT,F⟩)
 {
 replace F:=Sat.unbundle (l1:= [_,_]) (l3:= []) F
 replace F:=F.n6
 refine hlv tH ?_
 refine hlv gu ?_
 refine hlv (h_ 5 Vg) ?_
 refine hlv (g_ 5 oz F) ?_
 refine hlv Xf ?_
 refine hlv pY ?_
 refine hln<|htn ?_
 refine Yv ?_ ?_<;>intro hc
 {
 refine hrt<|m_<|og<|m_<|og<|Ae ⟨_,rfl,?_⟩
 subst ay
 exact .inl ⟨_,_,⟨s,_,rfl,⟨xb.1,xb.2.1,xb.2.2.1,xb.2.2.2.1,fun hh=>absurd hh (by assumption),xb.2.2.2.2.2⟩,by first|exact fun hh=>absurd hh (by assumption)|exact fun _=>⟨_,_,_,(by rw [show(0:Int)=zx by omega];exact yn),by show aF<=J.den;omega⟩⟩,Sat.bundle (l1:= [_,_]) F⟩}
 exfalso;omega}
 {
 replace F:=Sat.unbundle (l1:= [_,_]) (l3:= []) F
 replace F:=F.n6
 refine hlv tJ ?_
 refine hlv gu ?_
 iterate 3 refine hlo ?_
 refine hlv qj ?_
 refine hln<|htn<|hct<|hrt<|m_<|og<|m_<|og<|Ae ⟨_,rfl,?_⟩
 exact dT.elim}
theorem Zge{vL vD:Value}{p:cO}(w0:World)(h:oO w0 vL vD p):
   Calls Om 41 [.agg #[vL,vD,.int Oi p.bP,.int Oi p.aV]].toArray w0 fun e w=>∃v,e= .returned v/\∃g,v= .func (.func 84) #[] #[Or g]/\Sat w0 w [.blk g [vL,vD,.int Oi p.bP,.int Oi p.aV]]:=by
 refine iE Tryz.func41 Tryz.ntmps41 fun w D=> ?_
 refine fQ<|iG (nS (cs:= [_,_,_,_]) D) ?_;rintro _ w ⟨F,rfl,D⟩
 refine(zP)<|iT<|(zV wX)<|(zP)<|jk<|Oj ?_
 exact⟨_,rfl,D⟩
theorem Zqk:Zc Om 41=true:=Oc
theorem Zp6:Zc Om 84=true:=Oc
theorem J7:ZN Om 56=some (.agg #[Oh,Oh,Oh,.int Oi 0,.int Oi 0],5,88):=Oc
theorem Wl:ZC Om 56=some 5:=Oc
def CX.wu:CX:=⟨0,Oh,fun _=>undef,fun _=>0,fun _ _=>0,Oh,Oh,So.zero,0⟩
def Up(s:List CX):CX:=s.getLast?.getD CX.wu
theorem Rt(s:List CX)(x:CX):Up (s++ [x])=x:=by simp [Up]
def Bq(p:cO)(u:Int)(ml:Of)(mf:Og)(s:So)(e:Int):Prop:=(¬p.Ok/\u=0/\s=So.zero/\e=1)\/
  (p.Ok/\e≠0/\u=0/\s=So.zero/\∃u1 ND mf1 e1,Fa p u1 ND mf1 e1/\((e1≠0/\e=e1)\/(e1=0/\∃s1,qP p u1 ND mf1 s1 e)))\/(p.Ok/\e=0/\Fa p u ml mf 0/\qP p u ml mf s 0/\JX p s)
theorem Zc2{vL vD:Value}{p:cO}(w0:World)(h:oO w0 vL vD p):
   Calls Om 16 [.agg #[vL,vD,.int Oi p.bP,.int Oi p.aV]].toArray w0 fun e w=>∃v,e= .returned v/\∃vP vv vX vY u ml mf s e,v= .tuple #[.agg #[vP,vX,vY,.int Oi s.val,.int Oi s.den],.int Oi e]/\Bq p u ml mf s e/\iK vP u/\iK vX s.n/\iK vY s.m/\Sat w0 w [.own vP 1 22 u vv,.sem (Frame.rows 3 u vv ml mf),.own vX 1 3 s.n (ints s.X),.own vY 1 3 s.m (ints s.Y)]:=by
 obtain⟨hm,ae,hd,hd1,hs,hk⟩:=h.Oq
 refine GK Tryz.func16 Tryz.ntmps16 fun w D=> ?_
 refine jw<|hrz ?_
 refine iG (nS (cs:= [_,_,_,_]) D) ?_;rintro _ w ⟨g1,rfl,D⟩
 refine iG (oh (cs:= [_,_,_,_,_]) J7 D) ?_;rintro _ w ⟨g2,rfl,D⟩
 refine(zP)<|iq<|zh<|htn<|jw<|jw<|hrz ?_
 refine(zV (lH 0 iM D))<|iJ (xc0 XU) (Yd (p:=p) w (h.below D.below)) ?_;rintro _ w ⟨rfl,O⟩
 replace D:=D.cmp O;clear O
 refine(zP)<|iq<|zh<|htn ?_
 refine Yv ?_ ?_<;>intro hc
 {
 refine jw<|hrz ?_
 refine(zV (lF (v:= .agg #[Oh,Oh,Oh,.int Oi 0,.int Oi 0])))<|lJ (nD 1 Wl D) ?_;clear D;rintro w D
 refine(zP)<|iq<|zh<|htn<|hrt<|m_<|JG<|Ye 1 Wl D ⟨_,rfl,?_⟩
 exact⟨_,fun _=>undef,_,_,0,fun _=>0,fun _ _=>0,So.zero,1,rfl,.inl ⟨‹¬p.Ok›,rfl,rfl,rfl⟩,d_,d_,d_,((((D.sub (.cons _ (.cons _ .slnil))).fU 1 22 (fun _=>undef)).iF 3 (fun _=>undef) (fun _=>0) (fun _ _=>0)).fU 1 3 (ints So.zero.X)).fU 1 3 (ints So.zero.Y)⟩}
 refine hsk<|htn<|jw<|hrz ?_
 refine iG (oh (cs:= [_,_,_,_,_,_]) LJ D) ?_;rintro _ w ⟨g3,rfl,D⟩
 refine iq<|zh<|htn<|jw<|jw<|hrz ?_
 refine iI (lH 0 iM D) ?_
 have ac:p.Ok:=by first|assumption|exact Od ‹_›
 refine iJ (xc0 Zqk) (Zge (p:=p) w (h.below D.below)) ?_;rintro _ w ⟨g4,rfl,O⟩
 replace D:=(D.comp O).n4;clear O
 refine iq<|zh<|htn<|hbk<| ?_
 refine hrf (St:=List CX) (X:=CX) (Tt:=CX) (fun s=> [.blk g1 [vL,vD,.int Oi p.bP,.int Oi p.aV],.blk g2 [Oh,Oh,Oh,.int Oi 0,.int Oi 0],.blk g3 [(Up s).vP,(Up s).vX,(Up s).vY,.int Oi ((Up s).s.val),.int Oi ((Up s).s.den),.int Oi ((Up s).e)]]) (fun t=> []) (fun _=> .ret) [] (fun x M es=>∃(g5:Nat),M= [(0,.agg #[vL,vD,.int Oi p.bP,.int Oi p.aV]),(1,Or g1),(2,Or g2),(3,.int Oi 0),(6,.agg #[vL,vD,.int Oi p.bP,.int Oi p.aV]),(7,B (p.Ok)),(8,B (¬(p.Ok))),(4,Or g3),(10,.agg #[vL,vD,.int Oi p.bP,.int Oi p.aV]),(11,.func (.func 84) #[] #[Or g4]),(12,.agg #[x.vP,x.vX,x.vY,.int Oi x.s.val,.int Oi x.s.den,.int Oi x.e]),(5,Or g5)]/\es= [.blk g5 [x.vP,x.vX,x.vY,.int Oi x.s.val,.int Oi x.s.den,.int Oi x.e]]) (Zd2 (gp:=g4) w0 h) (D) Zp6 (fun _=>rfl) (fun _=> .inl rfl) ?_ ?_ ?_ ?_
 {
 intro lq s x rest w F qG ad D
 have N:=F.2.1;have J:=F.2.2.1;have I:=F.2.2.2.1
 refine hrz ?_
 refine iG (oh (cs:= [_,_,_,_,_,_]) LJ D) ?_;rintro _ w ⟨g5,rfl,D⟩
 refine lJ (nD 5 UL D (hd:=(Za N.one (Za J.one (Za I.one (Za rfl (Za rfl (Za rfl Zj)))))))) ?_;clear D;rintro w D
 refine iq<|zh<|FH ⟨g5,rfl,rfl⟩ D}
 {
 rintro lq s x _ _ rest w F ⟨g5,rfl,rfl⟩ qG ad D
 have N:=F.2.1;have J:=F.2.2.1;have I:=F.2.2.2.1
 refine hbk<|hrz ?_
 refine(zV (lH 5 UL D))<|lJ (nD 2 UL D (hd:=(Za N.one (Za J.one (Za I.one (Za rfl (Za rfl (Za rfl Zj)))))))) ?_;clear D;rintro w D
 refine iq<|zh<|ng ?_
 obtain⟨s1,ab⟩:∃s1,s1=s++ [x]:=⟨_,rfl⟩
 have e1:Up s1=x:=by rw [ab,Rt]
 rw [<-e1] at D
 refine D6 s1 ab (D.pk [0,1,2,3,4])}
 {
 intro Dk s rest w qr D
 obtain⟨s9,x,rfl,F,fH⟩:=qr
 have N:=F.2.1;have J:=F.2.2.1;have I:=F.2.2.2.1
 rw [Rt] at D
 refine ng<|htn<|jw<|jw<|hrz ?_
 refine(zV (h_ 5 Vg))<|(zV (g_ 2 oz D))<|(zP)<|iq<|zh<|htn ?_
 refine Yv ?_ ?_<;>intro hc
 {
 refine jw ?_
 refine hdst [0,1,2,3,4,5] [0,2,3,4,5] 3 nP D ?_;clear D;intro w D
 refine(b_ 0 (lF (v:= .agg #[Oh,Oh,Oh,.int Oi 0,.int Oi 0])))<|(b_ 1 (h_ 5 Vg))<|(iQ 2 (fun w D=>(g_ 1 oz D)))<|nR 3 (nD 1 Wl D) ?_;clear D;rintro w D
 refine⟨⟨fun h=>absurd h (by decide),D.pk [0,2,3,4,5]⟩,?_⟩
 refine(b_ 4 nU)<|lS<|zh<|htn<|hrt<|m_<|VG 5 D fun w D=>Ye 1 Wl D ⟨_,rfl,?_⟩
 obtain⟨e1,aa,Z⟩:=F.2.2.2.2.2
 exact⟨_,fun _=>undef,_,_,0,fun _=>0,fun _ _=>0,So.zero,x.e,rfl,.inr (.inl ⟨ac,by assumption,rfl,rfl,_,_,_,e1,aa,by rcases Z with⟨U,W,_⟩|⟨U,W⟩;exact .inl ⟨U,W⟩;exact .inr ⟨U,_,W⟩⟩),d_,d_,d_,((((D.sub (.cons _ (.cons _ (.cons _ (.cons _ (.cons _ (.cons _ .slnil))))))).fU 1 22 (fun _=>undef)).iF 3 (fun _=>undef) (fun _=>0) (fun _ _=>0)).fU 1 3 (ints So.zero.X)).fU 1 3 (ints So.zero.Y)⟩}
 refine hsk<|htn<|jw<|hrz ?_
 refine(zV (h_ 0 u_))<|(zV (C_ 2 (ds:= [x.vP,x.vX,x.vY,.int Oi x.s.val,.int Oi x.s.den]) Wl D))<|lJ (nD 1 Wl D (hd:=(Za N.one (Za J.one (Za I.one (Za rfl (Za rfl Zj))))))) ?_;clear D;rintro w D
 refine(zP)<|iq<|zh<|htn<|hrt<|VG 5 D fun w D=>Ye 1 Wl D ⟨_,rfl,?_⟩
 have Y:x.e=0:=Oa
 obtain⟨e1,aa,Z⟩:=F.2.2.2.2.2
 obtain⟨U,W⟩:e1=0/\qP p x.u x.ml x.mf x.s 0:=by rcases Z with⟨U,W,_⟩|⟨U,W⟩;exact absurd Oa U;exact⟨U,Y▸W⟩
 subst U
 replace D:=D.given 4 (F.2.2.2.2.1 Y)
 replace D:=Sat.unbundle (l1:= [_,_,_,_]) (l3:= [_]) D
 exact⟨_,x.vv,_,_,_,_,_,x.s,0,rfl,.inr (.inr ⟨ac,rfl,aa,W,fH Y⟩),N,J,I,D.pk [4,5,6,7]⟩}
 {
 intro Dk t rest w qr D
 exact qr.elim}
theorem Aa{p:cO}(F:p.Ok){i:Int}(D:0<=i)(h:i<p.m):0<=p.D i/\p.D i<=1000/\1<=p.L i/\p.L i<=p.bP:=by
 have I:=F.all i D h
 unfold cO.each at I;omega
structure E5 (p:cO) (u:Int) (ml:Of) (mf:Og) (s:So):Prop where
  pats:UF p u ml mf
  u0:0<=u
  n:s.n=u
  m:s.m=p.m
  d1:1<=s.den
  d2:s.den<=1073741824
  v:0<=s.val/\s.val<=1073741824
  X:∀j,0<=j->j<u->0<=s.X j/\s.X j<=1073741824
  Y:∀i,0<=i->i<p.m->0<=s.Y i/\s.Y i<=1073741824
  rows:∀k,0<=k->k<p.m->p.D k*s.den<=Zd (fun j=>mf j k*s.X j) u.toNat
  cols:∀j,0<=j->j<u->Zd (fun k=>mf j k*s.Y k) p.m.toNat<=s.den
  cX:Zd s.X u.toNat=s.val
  bY:Zd (fun k=>p.D k*s.Y k) p.m.toNat=s.val
theorem qP.ok{p:cO}{u:Int}{ml:Of}{mf:Og}{s:So}(O:0<=u)(h:qP p u ml mf s 0):E5 p u ml mf s:=by
 rcases h with⟨_,_,h⟩|⟨_,_,_,h⟩|⟨_,_,_,_,_,_,h⟩|⟨h1,h2,h3,h4,h5,h6,h7⟩|⟨h1,h2,h3,h4,h5⟩
 · omega
 · omega
 · omega
 {
 have N:=h1.1.m1;have hd:=h1.1.d
 subst h6;subst h4
 have z:∀f:Of,Zd (fun k=>f k*0) p.m.toNat=0:=fun f=>by rw [XF,Int.mul_zero]
 refine⟨h1,Oa,rfl,rfl,by show(1:Int)<=1;decide,by show(1:Int)<=1073741824;decide,⟨Int.le_refl _,by show(0:Int)<=1073741824;decide⟩,fun j a b=>Oa,fun i _ _=>⟨Int.le_refl _,by show(0:Int)<=1073741824;decide⟩,fun k D I=> ?_,fun j a b=>Oa,rfl,z p.D⟩
 have:=h5 k D Oa
 show p.D k*1<=0
 omega}
 {
 have N:=h1.1.m1
 have hc:=vZ.chk (p:=XR p u mf) (by show 0<=p.m;omega) h5 rfl
 have hv:s.val=Zd s.X u.toNat:=by
   have:=hc.cX
   rw [<-this];exact Zh fun k _ _=>by show 1*s.X k=_;omega
 refine⟨h1,Oa,hc.n,hc.m,hc.d1,hc.d2,⟨?_,hc.v.2⟩,hc.X,hc.Y,fun k D I=> ?_,fun j F J=> ?_,hv.symm,hc.bY⟩
 · rw [hv];exact Z8 fun j F J=>(hc.X j F (by show j<u;omega)).1
 · exact hc.rows k D I
 {
 have:=hc.cols j F J
 have e:(XR p u mf).c j*s.den=s.den:=by show 1*s.den=_;omega
 rw [e] at this;exact this}}
theorem Zfr{p:cO}{n:Int}{a:Of}(h:Z4 p n a):(∀i,0<=i->i<p.m->0<=a i/\a i<=p.D i)/\ZD p a p.m.toNat<=p.bP+p.aV:=
 ⟨fun i F D=>⟨(h.1.all i F D).1,h.2 i F (by rw [h.1.eq];exact D)⟩,h.1.used⟩
theorem Zh7{p:cO}{s:So}(h:JX p s):WC p s.Y<=s.den:=by
 obtain⟨F,a,D,h1,I⟩:=h
 rcases h1 with⟨_,_,_,h1⟩|⟨_,_,_,_,h1,_⟩
 · omega
 · omega
theorem Bq.okS{p:cO}{u e:Int}{ml:Of}{mf:Og}{s:So}(D:0<=u)(h:Bq p u ml mf s e)(F:e=0):E5 p u ml mf s/\WC p s.Y<=s.den:=by
 rcases h with⟨_,_,_,h⟩|⟨_,h,_⟩|⟨_,_,_,h1,h2⟩
 · omega
 · exact absurd F h
 · exact⟨h1.ok D,Zh7 h2⟩
end Go.Proofs.YtpnamgfdakfccaaGreat
namespace Go.Proofs.Gw
open Go Go.RowKit
variable {a b i r:Int}
def rE(i k:Int):Int:=if k<i then k else k+1
def Ac(i r:Int):Int:=if r<i then r else r-1
theorem Q7(e:i≠r):rE i (Ac i r)=r:=by
 unfold rE Ac
 by_cases h:r<i
 · rw [if_pos h,if_pos h]
 · rw [if_neg h,if_neg Oa];omega
theorem ZgG(e:i≠r)(D:i≠r+1):rE i (Ac i r+1)=r+1:=by
 unfold rE Ac
 by_cases h:r<i
 · rw [if_pos h,if_pos Oa]
 · rw [if_neg h,if_neg Oa];omega
theorem QD{k:Int}(e:i≠r)(h:k≠Ac i r):rE i k≠r:=by
 unfold Ac at h;unfold rE
 split
 · split at h<;>omega
 · split at h<;>omega
theorem L8{n:Int}(e:i≠r)(D:0<=r)(h:r<=n)(I:0<=i)(F:i<=n):0<=Ac i r/\Ac i r<n:=by
 unfold Ac;split<;>omega
def alt(i:Int):Int:=if i%2=0 then 1 else-1
def rC:Nat->(Og)->Int
  |0,_=>1
  |n+1,A=>Zd (fun i=>alt i*A i 0*rC n (fun k m=>A (rE i k) (m+1))) (n+1)
theorem Yx:∀{n:Nat} {A B:Og},(∀k m,0<=k->k<(n:Int)->0<=m->m<(n:Int)->A k m=B k m)->rC n A=rC n B
 |0,_,_,_=>rfl
 | n+1,A,B,h=>by
   simp only [rC]
   refine Zh fun i F D=> ?_
   rw [h i 0 F D Oa Oa,Yx (n:=n) (fun k m O N J I=>h (rE i k) (m+1) (by unfold rE;split<;>omega) (by unfold rE;split<;>omega) Oa Oa)]
theorem WN:∀{n:Nat} {A U V:Og} {r a b:Int},0<=r->r<(n:Int)->(∀m,0<=m->m<(n:Int)->A r m=a*U r m+b*V r m)->
   (∀k m,0<=k->k<(n:Int)->0<=m->m<(n:Int)->k≠r->U k m=A k m)->(∀k m,0<=k->k<(n:Int)->0<=m->m<(n:Int)->k≠r->V k m=A k m)->rC n A=a*rC n U+b*rC n V
 |0,_,_,_,_,_,_,h0,h1,_,_,_=>Oa
 | n+1,A,U,V,r,a,b,r0,r1,h,hU,hV=>by
   simp only [rC]
   have key:=Xn (n:=n+1) (D:=1) (A:=a) (B:= -b) (h:=fun i=>alt i*A i 0*rC n (fun k m=>A (rE i k) (m+1))) (f:=fun i=>alt i*U i 0*rC n (fun k m=>U (rE i k) (m+1))) (g:=fun i=>alt i*V i 0*rC n (fun k m=>V (rE i k) (m+1))) (fun i O Y=> ?_)
   · grind
   {
   by_cases e:i=r
   {
   subst e
   have e1:rC n (fun k m=>U (rE i k) (m+1))=rC n (fun k m=>A (rE i k) (m+1)):=Yx fun k m N J I F=>hU _ _ (by unfold rE;split<;>omega) (by unfold rE;split<;>omega) Oa Oa (by unfold rE;split<;>omega)
   have e2:rC n (fun k m=>V (rE i k) (m+1))=rC n (fun k m=>A (rE i k) (m+1)):=Yx fun k m N J I F=>hV _ _ (by unfold rE;split<;>omega) (by unfold rE;split<;>omega) Oa Oa (by unfold rE;split<;>omega)
   rw [e1,e2,h 0 Oa Oa]
   grind}
   {
   have hr:=Q7 e
   have Z:=L8 (n:=n) e r0 Oa O Oa
   have ih:=WN (n:=n) (A:=fun k m=>A (rE i k) (m+1)) (U:=fun k m=>U (rE i k) (m+1)) (V:=fun k m=>V (rE i k) (m+1)) (r:=Ac i r) (a:=a) (b:=b) Z.1 Z.2
     (fun m I F=>by show A (rE i (Ac i r)) _=_*U (rE i (Ac i r)) _+_*V (rE i (Ac i r)) _;rw [hr];exact h (m+1) Oa Oa)
     (fun k m N J I F W=>hU _ _ (by unfold rE;split<;>omega) (by unfold rE;split<;>omega) Oa Oa (QD e W))
     (fun k m N J I F W=>hV _ _ (by unfold rE;split<;>omega) (by unfold rE;split<;>omega) Oa Oa (QD e W))
   rw [ih,hU i 0 O Y Oa Oa e,hV i 0 O Y Oa Oa e]
   grind}}
theorem Zfj{f:Of}{n:Nat}(F:0<=r)(D:r+1<(n:Int))(h:∀i,0<=i->i<(n:Int)->i≠r->i≠r+1->f i=0)(N:f r+f (r+1)=0):Zd f n=0:=by
 rw [Z1 (s:=r) F Oa,Z1 (s:=r+1) Oa D]
 have:Zd (fun j=>if j=r+1 then 0 else if j=r then 0 else f j) n=Zd (fun _=>0) n:=Zh fun i J I=>by
   by_cases e:i=r+1
   · rw [if_pos e]
   {
   rw [if_neg e]
   by_cases e2:i=r
   · rw [if_pos e2]
   · rw [if_neg e2];exact h i J I e2 e}
 rw [this,ZH,if_neg Oa];omega
theorem Md:∀{n:Nat} {A:Og} {r:Int},0<=r->r+1<(n:Int)->(∀m,0<=m->m<(n:Int)->A r m=A (r+1) m)->rC n A=0
 |0,_,_,h0,h1,_=>Oa
 | n+1,A,r,r0,r1,h=>by
   simp only [rC]
   refine Zfj r0 r1 (fun i I i1 D F=> ?_) ?_
   {
   have Y:=L8 (n:=n) D r0 Oa I Oa
   have W:=L8 (n:=n) F Oa Oa I Oa
   have U:Ac i (r+1)=Ac i r+1:=by unfold Ac;split<;>(split<;>omega)
   have O:=Md (n:=n) (A:=fun k m=>A (rE i k) (m+1)) (r:=Ac i r) Y.1 Oa (fun m N J=>by
     show A (rE i (Ac i r)) _=A (rE i (Ac i r+1)) _
     rw [Q7 D,ZgG D F];exact h _ Oa Oa)
   rw [O];simp}
   {
   have e:rC n (fun k m=>A (rE r k) (m+1))=rC n (fun k m=>A (rE (r+1) k) (m+1)):=Yx fun k m k0 k1 N J=>by
     by_cases hk:k=r
     · have D:rE r k=r+1:=by unfold rE;rw [if_neg Oa];omega
       have F:rE (r+1) k=r:=by unfold rE;rw [if_pos Oa];omega
       rw [D,F];exact(h _ Oa Oa).symm
     · have D:rE r k=rE (r+1) k:=by unfold rE;split<;>(split<;>omega)
       rw [D]
   have Z:alt (r+1)= -alt r:=by unfold alt;split<;>(split<;>omega)
   rw [e,<-h 0 Oa Oa,Z]
   grind}
def YS(A:Og)(a b:Int)(u v:Of):Og:=fun k=>if k=a then u else if k=b then v else A k
theorem UN(A:Og)(a b:Int)(u v:Of):YS A a b u v a=u:=if_pos rfl
theorem Ra(A:Og)(u v:Of)(h:a≠b):YS A a b u v b=v:=by unfold YS;rw [if_neg (fun e=>h e.symm),if_pos rfl]
theorem Zl8(A:Og){k:Int}(u v:Of)(D:k≠a)(h:k≠b):YS A a b u v k=A k:=by unfold YS;rw [if_neg D,if_neg h]
theorem _Z{n:Nat}{A:Og}(Z:0<=a)(Y:a<(n:Int))(W:0<=b)(O:b<(n:Int))(F:a≠b)(I:∀w:Of,rC n (YS A a b w w)=0)(u v:Of):rC n (YS A a b u v)= -rC n (YS A a b v u):=by
 have N:∀x y z:Of,rC n (YS A a b (fun m=>x m+y m) z)=rC n (YS A a b x z)+rC n (YS A a b y z):=fun x y z=>by
   have:=WN (n:=n) (A:=YS A a b (fun m=>x m+y m) z) (U:=YS A a b x z) (V:=YS A a b y z) (r:=a) (a:=1) (b:=1) Z Y (fun m _ _=>by rw [UN,UN,UN];omega)
     (fun k m _ _ _ _ D=>by unfold YS;rw [if_neg D,if_neg D]) (fun k m _ _ _ _ D=>by unfold YS;rw [if_neg D,if_neg D])
   omega
 have J:∀x y z:Of,rC n (YS A a b z (fun m=>x m+y m))=rC n (YS A a b z x)+rC n (YS A a b z y):=fun x y z=>by
   have:=WN (n:=n) (A:=YS A a b z (fun m=>x m+y m)) (U:=YS A a b z x) (V:=YS A a b z y) (r:=b) (a:=1) (b:=1) W O (fun m _ _=>by rw [Ra _ _ _ F,Ra _ _ _ F,Ra _ _ _ F];omega)
     (fun k m _ _ _ _ D=>by unfold YS;rw [if_neg D,if_neg D]) (fun k m _ _ _ _ D=>by unfold YS;rw [if_neg D,if_neg D])
   omega
 have h:=I (fun m=>u m+v m)
 rw [N,J,J,I u,I v] at h
 omega
theorem Zfo(A:Og)(a b:Int):YS A a b (A a) (A b)=A:=by
 funext k;unfold YS
 by_cases h:k=a
 · rw [if_pos h,h]
 {
 rw [if_neg h]
 by_cases h2:k=b
 · rw [if_pos h2,h2]
 · rw [if_neg h2]}
theorem Me:∀(d:Nat) {n:Nat} {A:Og} {a b:Int},0<=a->b=a+1+d->b<(n:Int)->(∀m,0<=m->m<(n:Int)->A a m=A b m)->rC n A=0
 |0,n,A,a,b,a0,hb,b1,h=>Md a0 Oa (fun m F D=>by rw [h m F D,show b=a+1 by omega])
 | d+1,n,A,a,b,a0,hb,b1,h=>by
   have I:=_Z (n:=n) (A:=A) (a:=b-1) (b:=b) Oa Oa Oa b1 Oa (fun w=>Md (r:=b-1) Oa Oa (fun m _ _=>by rw [UN,show b-1+1=b by omega,Ra _ _ _ Oa])) (A (b-1)) (A b)
   rw [Zfo] at I
   have:=Me d (n:=n) (A:=YS A (b-1) b (A b) (A (b-1))) (a:=a) (b:=b-1) a0 Oa Oa (fun m F D=>by rw [UN,Zl8 _ _ _ Oa Oa];exact h m F D)
   omega
theorem TL{n:Nat}{A:Og}(U:0<=a)(O:a<(n:Int))(N:0<=b)(J:b<(n:Int))(D:a≠b)(h:∀m,0<=m->m<(n:Int)->A a m=A b m):rC n A=0:=by
 rcases Int.lt_or_gt_of_ne D with e|e
 · exact Me (b-a-1).toNat U Oa J h
 · exact Me (a-b-1).toNat N Oa O (fun m I F=>(h m I F).symm)
theorem _0{n:Nat}(A:Og)(J:0<=a)(I:a<(n:Int))(F:0<=b)(D:b<(n:Int))(h:a≠b)(u v:Of):rC n (YS A a b u v)= -rC n (YS A a b v u):=
 _Z J I F D h (fun w=>TL J I F D h fun m _ _=>by rw [UN,Ra _ _ _ h]) u v
theorem TK{n:Nat}(A:Og){s:Int}(F:0<=s)(D:s<(n:Int))(c:Of)(G:Og):∀K:Nat,rC n (upd A s (fun m=>Zd (fun k=>c k*G k m) K))=Zd (fun k=>c k*rC n (upd A s (G k))) K
 | 0=>by
   have:=WN (n:=n) (A:=upd A s (fun m=>Zd (fun k=>c k*G k m) 0)) (U:=A) (V:=A) (r:=s) (a:=0) (b:=0) F D (fun m _ _=>by rw [iU];simp [Zd]) (fun k m _ _ _ _ h=>by rw [lZ h]) (fun k m _ _ _ _ h=>by rw [lZ h])
   simp only [Zd] at*;omega
 | K+1=>by
   have I:=TK A F D c G K
   have:=WN (n:=n) (A:=upd A s (fun m=>Zd (fun k=>c k*G k m) (K+1))) (U:=upd A s (fun m=>Zd (fun k=>c k*G k m) K)) (V:=upd A s (G K)) (r:=s) (a:=1) (b:=c K) F D
     (fun m _ _=>by rw [iU,iU,iU];simp [Zd]) (fun k m _ _ _ _ h=>by rw [lZ h,lZ h]) (fun k m _ _ _ _ h=>by rw [lZ h,lZ h])
   rw [this,I];simp only [Zd];omega
def zu(k m:Int):Int:=if k=m then 1 else 0
theorem LH:∀n:Nat,rC n zu=1
 |0=>rfl
 | n+1=>by
   simp only [rC]
   have e:Zd (fun i=>alt i*zu i 0*rC n (fun k m=>zu (rE i k) (m+1))) (n+1)=alt 0*zu 0 0*rC n (fun k m=>zu (rE 0 k) (m+1)):=by
     rw [Z1 (s:=0) Oa Oa]
     have:Zd (fun j=>if j=0 then 0 else alt j*zu j 0*rC n (fun k m=>zu (rE j k) (m+1))) (n+1)=Zd (fun _=>0) (n+1):=Zh fun i U O=>by
       by_cases e:i=0
       · rw [if_pos e]
       · rw [if_neg e];unfold zu;rw [if_neg e];simp
     rw [this,ZH];omega
   rw [e]
   have D:rC n (fun k m=>zu (rE 0 k) (m+1))=rC n zu:=Yx fun k m N J I F=>by
     have h1:rE 0 k=k+1:=by unfold rE;rw [if_neg Oa]
     rw [h1];unfold zu
     by_cases h:k=m
     · rw [if_pos h,if_pos Oa]
     · rw [if_neg h,if_neg Oa]
   rw [D,LH n];rfl
end Go.Proofs.Gw
namespace Go.Proofs.Gw
open Go Go.RowKit
variable {col uq:Int} {t:Tb}
theorem W0(f:Of):∀n:Nat,Zd f (n+1)=f 0+Zd (fun j=>f (j+1)) n
 |0=>by simp [Zd]
 | n+1=>by
   have:=W0 f n
   simp only [Zd] at*
   rw [this,show((n+1:Nat):Int)=(n:Int)+1 by omega];omega
theorem Xl{f:Of}{n:Nat}{s:Int}(F:0<=s)(D:s<(n:Int))(h:∀k,0<=k->k<(n:Int)->k≠s->f k=0):Zd f n=f s:=by
 rw [Z1 F D]
 have:Zd (fun j=>if j=s then 0 else f j) n=Zd (fun _=>0) n:=Zh fun i J I=>by
   by_cases e:i=s
   · rw [if_pos e]
   · rw [if_neg e];exact h i J I e
 rw [this,ZH];omega
theorem ZbV{f:Of}{n:Nat}{s j:Int}(I:0<=s)(F:s<(n:Int))(U:0<=j)(O:j<(n:Int))(D:s≠j)(h:∀k,0<=k->k<(n:Int)->k≠s->k≠j->f k=0):Zd f n=f s+f j:=by
 rw [Z1 I F,Xl (s:=j) U O (fun k N J W=>by
   by_cases e:k=s
   · rw [if_pos e]
   · rw [if_neg e];exact h k N J e W),if_neg (fun e=>D e.symm)]
def tY(p:Lp)(q m:Int):Int:=if q<p.n then(if m=q+1 then 1 else 0) else if m=0 then-p.b (q-p.n) else p.A (q-p.n) (m-1)
def cst(p:Lp)(m:Int):Int:=if m=0 then 0 else p.c (m-1)
def slt(p:Lp)(t:Tb)(k m:Int):Int:=if k=0 then(if m=0 then 1 else 0) else tY p (t.F (k-1)) m
def tX(p:Lp)(t:Tb)(i m:Int):Int:=if i=0 then cst p m else tY p (t.B (i-1)) m
structure uS (p:Lp) (t:Tb) (uq:Int):Prop where
  e:uq=1\/uq= -1
  nf:t.nf=p.n
  n1:1<=p.n
  den:uq*t.den=rC (p.n.toNat+1) (slt p t)
  cell:∀i j,0<=i->i<=t.nb->0<=j->j<=t.nf->uq*t.C i j=rC (p.n.toNat+1) (upd (slt p t) j (tX p t i))
  NH:∀m,0<=m->m<=p.n->AU t (if m=0 then 1 else 0) (cst p m) (fun q=>tY p q m)
theorem ZbP{α:Type}(f:Int->α){a b:Int}(x y:α)(h:a≠b):upd (upd f a x) b y=upd (upd f b y) a x:=by
 funext k;unfold upd
 by_cases e:k=a
 · rw [if_pos e,if_neg Oa,if_pos e]
 · rw [if_neg e,if_neg e]
theorem Kb{α:Type}(f:Int->α)(a:Int)(x y:α):upd (upd f a x) a y=upd f a y:=by
 funext k;unfold upd
 by_cases e:k=a
 · rw [if_pos e,if_pos e]
 · rw [if_neg e,if_neg e,if_neg e]
theorem Wi{α:Type}(f:Int->α)(a:Int):upd f a (f a)=f:=by
 funext k;unfold upd
 by_cases e:k=a
 · rw [if_pos e,e]
 · rw [if_neg e]
theorem V5(A:Og){a b:Int}(u v:Of)(h:a≠b):upd (upd A a u) b v=YS A a b u v:=by
 funext k;unfold upd YS
 by_cases e:k=a
 · rw [if_pos e,if_neg Oa,if_pos e]
 · rw [if_neg e,if_neg e]
theorem uS.row{p:Lp}(h:uS p t uq){i:Int}(J:0<=i)(I:i<=t.nb){m:Int}(F:0<=m)(D:m<=p.n):t.den*tX p t i m=Zd (fun k=>t.C i k*slt p t k m) (p.n.toNat+1):=by
 have:=h.NH m F D i J I
 have hn:=h.nf
 have e:XX t (cst p m) (fun q=>tY p q m) i=tX p t i m:=rfl
 rw [e] at this
 rw [this,W0]
 unfold Wc
 rw [hn]
 have:Zd (fun j=>t.C i (j+1)*tY p (t.F j) m) p.n.toNat=Zd (fun j=>t.C i (j+1)*slt p t (j+1) m) p.n.toNat:=Zh fun j O N=>by
   unfold slt;rw [if_neg Oa,show j+1-1=j by omega]
 rw [this];unfold slt;rw [if_pos rfl]
theorem uS.key{p:Lp}(h:uS p t uq){r s i j:Int}(r0:0<=r)(r1:r<=t.nb)(D:0<=s)(s1:s<=t.nf)(Y:0<=i)(W:i<=t.nb)(N:0<=j)(j1:j<=t.nf)(I:j≠s):
   t.den*(uq*rC (p.n.toNat+1) (upd (upd (slt p t) j (tX p t i)) s (tX p t r)))=t.C r s*t.C i j-t.C i s*t.C r j:=by
 have aa:=h.nf;have ab:=h.n1
 have hN:((p.n.toNat+1:Nat):Int)=p.n+1:=Oa
 have hl:=WN (n:=p.n.toNat+1) (A:=upd (upd (slt p t) j (tX p t i)) s (fun m=>Zd (fun k=>t.C r k*slt p t k m) (p.n.toNat+1))) (U:=upd (upd (slt p t) j (tX p t i)) s (tX p t r)) (V:=upd (upd (slt p t) j (tX p t i)) s (tX p t r)) (r:=s) (a:=t.den) (b:=0) D Oa
   (fun m m0 m1=>by rw [iU,iU,<-h.row r0 r1 m0 Oa];omega) (fun k m _ _ _ _ F=>by rw [lZ F,lZ F]) (fun k m _ _ _ _ F=>by rw [lZ F,lZ F])
 rw [TK _ D Oa] at hl
 have Z:=ZbV (f:=fun k=>t.C r k*rC (p.n.toNat+1) (upd (upd (slt p t) j (tX p t i)) s (slt p t k))) (n:=p.n.toNat+1) (s:=s) (j:=j) D Oa N Oa (fun e=>I e.symm) (fun k k0 k1 J O=>by
   have:=TL (n:=p.n.toNat+1) (A:=upd (upd (slt p t) j (tX p t i)) s (slt p t k)) (a:=k) (b:=s) k0 k1 D Oa J (fun m _ _=>by rw [iU,lZ J,lZ O])
   rw [this,Int.mul_zero])
 have J:upd (upd (slt p t) j (tX p t i)) s (slt p t s)=upd (slt p t) j (tX p t i):=by rw [ZbP _ _ _ I,Wi]
 have O:rC (p.n.toNat+1) (upd (upd (slt p t) j (tX p t i)) s (slt p t j))= -rC (p.n.toNat+1) (upd (slt p t) s (tX p t i)):=by
   rw [V5 _ _ _ I,_0 _ N Oa D Oa I,<-V5 _ _ _ I,Wi]
 rw [J,O,<-h.cell i j Y W N j1,<-h.cell i s Y W D s1] at Z
 rw [Z] at hl
 rcases h.e with he|he<;>subst he<;>grind
theorem K9{p:Lp}(h:uS p t uq){row:Int}(U:Tj t row col):EO t row col:=by
 obtain⟨Z,Y,W,c0,c1,N⟩:=U
 intro i j J I F D hi O
 have:=h.key (r:=row+1) (s:=col+1) (i:=i) (j:=j) Oa Oa Oa Oa J I F D O
 exact Int.tmod_eq_zero_of_dvd ⟨_,this.symm⟩
theorem Q8(p:Lp)(t:Tb){row:Int}(D:0<=col)(h:0<=row):slt p (piv t row col)=upd (slt p t) (col+1) (tX p t (row+1)):=by
 funext k m
 by_cases e:k=col+1
 {
 subst e
 rw [iU];unfold slt tX
 rw [if_neg Oa,if_neg Oa,show col+1-1=col by omega,show row+1-1=row by omega]
 show tY p (upd t.F col (t.B row) col) m=_
 rw [iU]}
 {
 rw [lZ e];unfold slt
 by_cases e0:k=0
 · rw [if_pos e0,if_pos e0]
 {
 rw [if_neg e0,if_neg e0]
 show tY p (upd t.F col (t.B row) (k-1)) m=_
 rw [lZ Oa]}}
theorem Zj5(p:Lp)(t:Tb){row:Int}(D:0<=col)(h:0<=row):tX p (piv t row col)=upd (tX p t) (row+1) (slt p t (col+1)):=by
 funext k m
 by_cases e:k=row+1
 {
 subst e
 rw [iU];unfold slt tX
 rw [if_neg Oa,if_neg Oa,show col+1-1=col by omega,show row+1-1=row by omega]
 show tY p (upd t.B row (t.F col) row) m=_
 rw [iU]}
 {
 rw [lZ e];unfold tX
 by_cases e0:k=0
 · rw [if_pos e0,if_pos e0]
 {
 rw [if_neg e0,if_neg e0]
 show tY p (upd t.B row (t.F col) (k-1)) m=_
 rw [lZ Oa]}}
theorem _2{p:Lp}(h:uS p t uq){row:Int}(N:Tj t row col):uS p (piv t row col) (uq*sg (t.C (row+1) (col+1))):=by
 have hd:=K9 h N
 have jG:=fun m m0 Z=>(SX N hd _ _ _).1 (h.NH m m0 Z)
 obtain⟨hp,D,r1,O,c1,ab⟩:=N
 have I:=h.nf;have J:=h.n1;have hd1:=hp.d1
 have aa:sg (t.C (row+1) (col+1))*sg (t.C (row+1) (col+1))=1:=by rcases T8 (t.C (row+1) (col+1)) with e|e<;>rw [e]<;>rfl
 refine⟨?_,I,J,?_,?_,jG⟩
 · rcases h.e with e|e<;>rcases T8 (t.C (row+1) (col+1)) with Y|Y<;>rw [e,Y]<;>simp
 {
 rw [QU,Q8 p t O D,<-h.cell (row+1) (col+1) Oa Oa Oa Oa]
 grind}
 {
 intro i j W i1 F j1
 have U:i<=t.nb:=i1
 have j2:j<=t.nf:=j1
 rw [Th,Q8 p t O D,Zj5 p t O D]
 have e0:uq*sg (t.C (row+1) (col+1))*(sg (t.C (row+1) (col+1))*Yh t (row+1) (col+1) i j)=uq*Yh t (row+1) (col+1) i j:=by grind
 rw [e0]
 unfold Yh
 by_cases hi:i=row+1
 {
 subst hi
 rw [iU]
 by_cases hj:j=col+1
 · subst hj
   rw [if_pos ⟨rfl,rfl⟩,Kb,Wi];exact h.den
 · rw [if_neg Oa,if_pos rfl,V5 _ _ _ (fun e=>hj e.symm),_0 _ Oa Oa F Oa (fun e=>hj e.symm),<-V5 _ _ _ (fun e=>hj e.symm),Wi,<-h.cell _ _ Oa Oa F Oa]
   grind}
 {
 rw [lZ hi]
 by_cases hj:j=col+1
 · subst hj
   rw [if_neg Oa,if_neg hi,if_pos rfl,Kb];exact h.cell _ _ W U Oa Oa
 {
 rw [if_neg Oa,if_neg hi,if_neg hj]
 have hk:=h.key (r:=row+1) (s:=col+1) (i:=i) (j:=j) Oa Oa Oa Oa W U F j2 hj
 rw [<-hk,Int.mul_tdiv_cancel_left _ Oa,ZbP _ _ _ (fun e=>hj e.symm)]
 rcases h.e with e|e<;>rw [e]<;>grind}}}
theorem ZdN{p:Lp}(hl:wL p)(hm:0<=p.m):uS p (Zx p) 1:=by
 have hn:=hl.n1
 have hN:((p.n.toNat+1:Nat):Int)=p.n+1:=Oa
 have hs:∀k m,0<=k->k<((p.n.toNat+1:Nat):Int)->0<=m->m<((p.n.toNat+1:Nat):Int)->slt p (Zx p) k m=zu k m:=fun k m Z Y O N=>by
   unfold slt zu
   by_cases e:k=0
   {
   subst e;rw [if_pos rfl]
   by_cases D:m=0
   · rw [if_pos D,if_pos D.symm]
   · rw [if_neg D,if_neg (fun h=>D h.symm)]}
   {
   rw [if_neg e]
   show tY p (k-1) m=_
   unfold tY
   rw [if_pos Oa]
   by_cases D:k=m
   · rw [if_pos Oa,if_pos D]
   · rw [if_neg Oa,if_neg D]}
 refine⟨.inl rfl,rfl,hn,?_,?_,?_⟩
 · rw [Yx hs,LH];rfl
 {
 intro i j i0 i1 U j1
 have i2:i<=p.m:=i1
 have j2:j<=p.n:=j1
 have W:rC (p.n.toNat+1) (upd (slt p (Zx p)) j (tX p (Zx p) i))=rC (p.n.toNat+1) (upd zu j (fun m=>Zd (fun k=>tX p (Zx p) i k*zu k m) (p.n.toNat+1))):=Yx fun k m Z Y O N=>by
   by_cases e:k=j
   · subst e
     rw [iU,iU,Xl (s:=m) O N (fun q I F J=>by unfold zu;rw [if_neg J];omega)]
     unfold zu;rw [if_pos rfl];omega
   · rw [lZ e,lZ e];exact hs k m Z Y O N
 have D:tX p (Zx p) i j=(Zx p).C i j:=by
   unfold tX
   show _=(if i=0 then(if j=0 then 0 else p.c (j-1)) else if j=0 then-p.b (i-1) else p.A (i-1) (j-1))
   by_cases e:i=0
   · rw [if_pos e,if_pos e];rfl
   {
   rw [if_neg e,if_neg e]
   show tY p (p.n+(i-1)) j=_
   unfold tY
   rw [if_neg Oa,show p.n+(i-1)-p.n=i-1 by omega]}
 rw [W,TK _ U Oa,Xl (s:=j) U Oa (fun q I F J=>by
   have:=TL (n:=p.n.toNat+1) (A:=upd zu j (zu q)) (a:=q) (b:=j) I F U Oa J (fun m _ _=>by rw [iU,lZ J])
   rw [this,Int.mul_zero]),Wi,LH,D];omega}
 {
 intro m O N
 refine(sK hl hm _ _ _).2 ⟨?_,fun i i0 i1=> ?_⟩
 {
 unfold cst
 by_cases e:m=0
 {
 rw [if_pos e]
 have:ZG p.c (fun q=>tY p q m) p.n.toNat=Zd (fun _=>0) p.n.toNat:=Zh fun q I F=>by
   dsimp only;unfold tY;rw [if_pos Oa,if_neg Oa];omega
 rw [this,ZH]}
 {
 rw [if_neg e]
 have:ZG p.c (fun q=>tY p q m) p.n.toNat=_:=Xl (s:=m-1) Oa Oa (fun q I F J=>by
   dsimp only;unfold tY;rw [if_pos Oa,if_neg Oa];omega)
 rw [this];dsimp only;unfold tY;rw [if_pos Oa,if_pos Oa];omega}}
 {
 have W:tY p (p.n+i) m=if m=0 then-p.b i else p.A i (m-1):=by
   unfold tY;rw [if_neg Oa,show p.n+i-p.n=i by omega]
 rw [W]
 by_cases e:m=0
 {
 rw [if_pos e,if_pos e]
 have:ZG (p.A i) (fun q=>tY p q m) p.n.toNat=Zd (fun _=>0) p.n.toNat:=Zh fun q I F=>by
   dsimp only;unfold tY;rw [if_pos Oa,if_neg Oa];omega
 rw [this,ZH];omega}
 {
 rw [if_neg e,if_neg e]
 have:ZG (p.A i) (fun q=>tY p q m) p.n.toNat=_:=Xl (s:=m-1) Oa Oa (fun q I F J=>by
   dsimp only;unfold tY;rw [if_pos Oa,if_neg Oa];omega)
 rw [this];dsimp only;unfold tY;rw [if_pos Oa,if_pos Oa];omega}}}
end Go.Proofs.Gw
namespace Go.Proofs.Gw
open Go Go.RowKit
theorem RD(t:Tb)(r:Int):∀K:Nat,0<=Yc t r K->0<t.C (r+1) (Yc t r K+1)/\∀j:Int,0<=j->j<K->0<t.C (r+1) (j+1)->t.C 0 (Yc t r K+1)*t.C (r+1) (j+1)<=t.C 0 (j+1)*t.C (r+1) (Yc t r K+1)
 |0,h=>by unfold Yc at h;omega
 | k+1,h=>by
   have N:=RD t r k
   have O:=RC t r k
   unfold Yc at h⊢
   by_cases h1:t.C (r+1) (k+1)<=0
   {
   rw [if_pos h1] at h⊢
   obtain⟨I,a2⟩:=N h
   refine⟨I,fun j D J F=> ?_⟩
   by_cases e:j=k
   · subst e;omega
   · exact a2 j D Oa F}
   {
   rw [if_neg h1] at h⊢
   by_cases h2:Yc t r k<0
   {
   rw [if_pos h2]
   refine⟨by omega,fun j D J F=> ?_⟩
   by_cases e:j=k
   · subst e;exact Int.le_refl _
   · have:=O h2 j D Oa;omega}
   {
   rw [if_neg h2] at h⊢
   obtain⟨I,a2⟩:=N Oa
   by_cases h3:t.C 0 (k+1)*t.C (r+1) (Yc t r k+1)<t.C 0 (Yc t r k+1)*t.C (r+1) (k+1)\/(t.C 0 (k+1)*t.C (r+1) (Yc t r k+1)=t.C 0 (Yc t r k+1)*t.C (r+1) (k+1)/\t.F k<t.F (Yc t r k))
   {
   rw [if_pos h3]
   refine⟨by omega,fun j D J F=> ?_⟩
   by_cases e:j=k
   · subst e;exact Int.le_refl _
   {
   have W:=a2 j D Oa F
   have U:t.C 0 (k+1)*t.C (r+1) (Yc t r k+1)<=t.C 0 (Yc t r k+1)*t.C (r+1) (k+1):=Oa
   have Z:=Int.mul_le_mul_of_nonneg_right U (Int.le_of_lt F)
   have Y:=Int.mul_le_mul_of_nonneg_right W (show 0<=t.C (r+1) (k+1) by omega)
   refine Int.le_of_mul_le_mul_left ?_ I
   grind}}
   {
   rw [if_neg h3]
   refine⟨I,fun j D J F=> ?_⟩
   by_cases e:j=k
   · subst e;omega
   · exact a2 j D Oa F}}}
theorem Zaa{t:Tb}(O:lK t)(hc:t.costs){r:Int}(Y:0<=r)(h:0<=Yc t r t.nf.toNat):(piv t r (Yc t r t.nf.toNat)).costs:=by
 obtain⟨W,a2⟩:=RD t r _ h
 intro j F J
 have D:j<=t.nf:=J
 rw [Th]
 have N:sg (t.C (r+1) (Yc t r t.nf.toNat+1))=1:=by unfold sg;rw [if_neg Oa]
 rw [N,Int.one_mul]
 unfold Yh
 rw [if_neg Oa,if_neg Oa]
 have hr:=Wy t r t.nf.toNat
 split
 · exact hc j F D
 {
 refine Int.tdiv_nonneg ?_ (by have:=O.d1;omega)
 have c1:=hc j F D
 have U:=hc (Yc t r t.nf.toNat+1) Oa Oa
 rcases Int.lt_or_le 0 (t.C (r+1) j) with h1|h1
 {
 have:=a2 (j-1) Oa Oa (by rw [show j-1+1=j by omega];exact h1)
 rw [show j-1+1=j by omega] at this
 grind}
 {
 have Z:=Int.mul_nonneg (Int.le_of_lt W) c1
 have I:=Int.mul_nonneg U (show 0<= -t.C (r+1) j by omega)
 rw [Int.mul_neg] at I
 omega}}
theorem ZgJ{p:Lp}{k:Nat}{t u:Tb}{e:Int}(h:Run k t u e):lK t->t.costs->(∃uq,uS p t uq)->e=0\/e=2\/e=9\/e=19:=by
 induction h with
 | stop h hd=>
   intro D hc _
   rcases h with⟨h1,_⟩|⟨_,_,_,_,_,_,h⟩|⟨_,_,_,_,_,_,_,h⟩|⟨_,_,_,_,_,_,_,h⟩
   · exact absurd ⟨D,hc⟩ h1
   · exact .inl h
   · exact .inr (.inr (.inr h))
   · exact .inl h
 |lim=>intro _ _ _;exact .inr (.inr (.inl rfl))
 | @bad k t t' r c e h hpv he=>
   rintro D hc ⟨uq,hi⟩
   have F:Tj t r c:=by
     rcases h with⟨h1,_⟩|⟨_,_,_,_,_,h,_⟩|⟨_,_,_,_,_,_,_,h⟩|⟨_,_,h1,h2,h3,h4,_⟩
     · exact absurd ⟨D,hc⟩ h1
     · cases h
     · omega
     {
     have N:=YO t t.nb.toNat
     have J:=Wy t (YD t t.nb.toNat) t.nf.toNat
     have I:=(RD t _ _ h2).1
     subst h3;subst h4
     exact⟨D,h1,Oa,h2,Oa,Oa⟩}
   have hd:=K9 hi F
   rcases hpv with⟨h1,_⟩|⟨_,h1,_⟩|⟨_,_,_,_,h1⟩|⟨_,_,_,_,h1⟩
   · exact absurd F h1
   · exact absurd hd h1
   · exact .inr (.inl h1)
   · exact absurd h1 he
 | @go k t t' u r c e h hpv hr ih=>
   rintro D hc ⟨uq,hi⟩
   rcases hpv with⟨_,_,h1⟩|⟨_,_,_,h1⟩|⟨_,_,_,_,h1⟩|⟨F,_,hp',rfl,_⟩
   · omega
   · omega
   · omega
   {
   refine ih hp' ?_ ⟨_,_2 hi F⟩
   rcases h with⟨h1,_⟩|⟨_,_,_,_,_,h,_⟩|⟨_,_,_,_,_,_,_,h⟩|⟨_,_,h1,h2,h3,h4,_⟩
   · exact absurd ⟨D,hc⟩ h1
   · cases h
   · omega
   · subst h3;subst h4
     exact Zaa D hc h1 h2}
theorem Ks{p:Lp}(h:wL p)(hm:0<=p.m):lK (Zx p)/\(Zx p).costs:=by
 have hn:=h.n1;have I:=h.n2;have J:=h.m2
 refine⟨⟨hn,I,J,rfl,by show(1:Int)<=1;decide,by show(1:Int)<=1073741824;decide,rfl,?_,?_⟩,?_⟩
 {
 refine vk.congr (c:=fun k=>k) ⟨fun i N F=>⟨N,F⟩,fun i j _ _ _ _ e=>e⟩ fun k Y W=> ?_
 show k=cat p.n (fun j=>j) (fun i=>p.n+i) k
 unfold cat
 by_cases e:k<p.n
 · rw [if_pos e]
 · rw [if_neg e];show k=p.n+(k-p.n);omega}
 {
 intro i N F
 refine⟨rfl,fun j U D=> ?_⟩
 have O:j<p.n+1:=D
 have Z:i<p.m+1:=F
 show-1073741824<=(if i=0 then(if j=0 then 0 else p.c (j-1)) else if j=0 then-p.b (i-1) else p.A (i-1) (j-1))/\(if i=0 then(if j=0 then 0 else p.c (j-1)) else if j=0 then-p.b (i-1) else p.A (i-1) (j-1))<=1073741824
 by_cases e:i=0
 {
 rw [if_pos e]
 by_cases e2:j=0
 · rw [if_pos e2];omega
 · rw [if_neg e2];have:=h.c (j-1) Oa Oa;omega}
 {
 rw [if_neg e]
 by_cases e2:j=0
 · rw [if_pos e2];have:=h.b (i-1) Oa Oa;omega
 · rw [if_neg e2];have:=(h.rows (i-1) Oa Oa).2 (j-1) Oa Oa;omega}}
 {
 intro j U D
 have O:j<=p.n:=D
 show 0<=(if(0:Int)=0 then(if j=0 then 0 else p.c (j-1)) else if j=0 then-p.b (0-1) else p.A (0-1) (j-1))
 rw [if_pos rfl,if_neg Oa];exact(h.c (j-1) Oa Oa).1}
end Go.Proofs.Gw
namespace Go.Proofs.YtpnamgfdakfccaaGreat
open Go Go.RowKit Go.Proofs.Gw
theorem ZjW{x:Of}{n:Nat}{k:Int}(F:0<=k)(D:k<(n:Int))(h:∀j,0<=j->j<(n:Int)->j≠k->x j=0):Zd x n=x k:=by
 rw [Z1 (s:=k) F D]
 have:Zd (fun j=>if j=k then 0 else x j) n=Zd (fun _=>0) n:=Zh fun j J I=>by
   by_cases e:j=k
   · rw [if_pos e]
   · rw [if_neg e,h j J I e]
 rw [this,ZH];omega
theorem Ro{p:cO}(D:p.Ok){i:Int}(N:0<=i)(O:i<p.m):Z4 p p.m (VF p i)/\(0<p.D i->1<=VF p i i):=by
 have Y:=D.m1;have Z:=D.k1;have U:=D.s1
 have hd:=Aa D N O
 have W:=Yw (a:=p.bP+p.aV) (b:=p.L i+p.aV) Oa Oa
 have h0:0<=(p.bP+p.aV).tdiv (p.L i+p.aV):=Int.tdiv_nonneg Oa Oa
 have h1:1<=(p.bP+p.aV).tdiv (p.L i+p.aV):=by
   rw [Int.tdiv_eq_ediv_of_nonneg Oa]
   exact(Int.le_ediv_iff_mul_le Oa).2 Oa
 have hv:VF p i i=min (p.D i) ((p.bP+p.aV).tdiv (p.L i+p.aV)):=if_pos rfl
 have F:∀j,j≠i->VF p i j=0:=fun j e=>if_neg e
 refine⟨⟨⟨D,rfl,fun j J I=> ?_,?_⟩,fun j J I=> ?_⟩,fun h=>by rw [hv];omega⟩
 {
 by_cases e:j=i
 · rw [e,hv];omega
 · rw [F j e];omega}
 {
 have e:ZD p (VF p i) p.m.toNat=VF p i i*(p.L i+p.aV):=ZjW (x:=fun j=>VF p i j*(p.L j+p.aV)) N Oa fun j _ _ e=>by show VF p i j*_=0;rw [F j e,Int.zero_mul]
 rw [e,hv]
 have h2:=Int.mul_le_mul_of_nonneg_right (show min (p.D i) ((p.bP+p.aV).tdiv (p.L i+p.aV))<=(p.bP+p.aV).tdiv (p.L i+p.aV) by omega) (show 0<=p.L i+p.aV by omega)
 have h3:(p.bP+p.aV).tdiv (p.L i+p.aV)*(p.L i+p.aV)<=p.bP+p.aV:=by
   rw [Int.tdiv_eq_ediv_of_nonneg Oa]
   exact Int.ediv_mul_le _ Oa
 omega}
 {
 by_cases e:j=i
 · rw [e,hv];omega
 · rw [F j e];exact(Aa D J I).1}
theorem ZpD{p:cO}{u:Int}{ml:Of}{mf:Og}(h:UF p u ml mf)(U:1<=u)(I:u<=60)(W:p.m<=16):wL (XR p u mf):=by
 have J:=h.1
 refine⟨U,I,W,J.d,fun j _ _=>by show(0:Int)<=1/\(1:Int)<=1000000;omega,fun i F D=> ?_,fun i F D=>⟨rfl,fun j O N=> ?_⟩⟩
 {
 have:=Aa J F D
 show-1000000<=p.D i/\p.D i<=1000000;omega}
 {
 have h1:=(Zfr (h.2 j O N)).1 i F D
 have:=Aa J F D
 show-1000000<=mf j i/\mf j i<=1000000;omega}
end Go.Proofs.YtpnamgfdakfccaaGreat
