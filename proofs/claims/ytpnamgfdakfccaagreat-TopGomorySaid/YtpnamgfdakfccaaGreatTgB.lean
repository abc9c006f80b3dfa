import Derived.Test.YtpnamgfdakfccaaGreatTgA
import Derived.Test.YtpnamgfdakfccaaGreatProg
set_option linter.unusedVariables false
set_option linter.unusedSimpArgs false
set_option maxRecDepth 20000
set_option maxHeartbeats 4000000
namespace Go.Proofs.YtpnamgfdakfccaaGreat
open Go Go.RowKit Go.Proofs.Gw
variable {m:Int} {f:Of} {v:Value}
theorem WP:Zc Om 147=true:=Oc
theorem Znm:Zc Om 290=true:=Oc
theorem Ux:Zc Om 90=true:=Oc
theorem dw:ZF Om 3=true:=Oc
theorem Zb:Zy Om 22=some (3,1):=Oc
theorem Zo4{x:Int}{F:Addr}(w0:World)(h:w0.cell? F=some (.int Oi m))(I:0<=m/\m<=1099511627776):
   Calls Om 290 [.int Oi x,.pointer (some F)].toArray w0 fun e w=>∃v,e= .returned v/\v=B (¬(-m<=x/\x<=m))/\Sat w0 w []:=by
 refine iE Tryz.func290 Tryz.ntmps290 fun w D=> ?_
 refine fQ<|(zP)<|iT<|(zP)<|(zV (wR dw h D))<|(zV (ET (r:= -m)))<|(On)<|lX 8 ?_ ?_<;>intro hc
 {
 iterate 3 refine oq ?_
 refine(On)<|jk<|Oj ?_
 exact⟨Yk Oa,D⟩}
 refine(zP)<|(zV (wR dw h D))<|(Oo)<|jk<|Oj ?_
 exact⟨Zm Oa,D⟩
theorem Zk3{n:Int}{U:Addr}(w0:World)(F:Row w0 v 1 n (ints f))(I:w0.cell? U=some (.int Oi m))(hm:0<=m/\m<=1099511627776):
   Calls Om 147 [v,.func (.func 290) #[] #[.pointer (some U)]].toArray w0 fun e w=>∃v,e= .returned v/\∃r:Int,v= .int Oi r/\((r= -1/\∀k,0<=k->k<n->¬(¬(-m<=f k/\f k<=m)))\/(0<=r/\r<n/\(¬(-m<=f r/\f r<=m))))/\Sat w0 w []:=by
 have hn:=F.fP.n0;have Z:=F.fP.n1
 refine iE Tryz.func147 Tryz.ntmps147 fun w h=> ?_
 refine fQ<|(zP)<|l9<|(zP)<|(zV (iW Zb F.fP))<|(zP)<|nI<|ny (fun Y M w=>∃(i:Int),Y=((n-i).toNat)/\(0<=i)/\(i<=n)/\(∀k,0<=k->k<i->¬(¬(-m<=f k/\f k<=m)))/\M= [(0,v),(1,.func (.func 290) #[] #[.pointer (some U)]),(7,.int Oi n),(8,.int Oi i)]/\Sat w0 w []) ⟨0,rfl,Oa,Oa,?_,rfl,h⟩ ?_
 {
 intro k O h1;omega}
 clear h w
 rintro Y M w ⟨i,rfl,O,h1,W,rfl,h⟩
 refine fQ<|(zP)<|nG<|Zf ?_ ?_<;>intro hc
 {
 refine oC<|(On)<|iT<|(Oo)<|(zV (iy (kk:=i) Zb F.fP))<|(zV (iR (u:= .int Oi (f i)) dw (F.below h.below)))<|iJ (uU (vs:= [_]) Znm) (Zo4 (x:=(f i)) (m:=m) w (h.ref I) hm) ?_;rintro _ w ⟨rfl,D⟩
 replace h:=h.cmp D;clear D
 refine ig<|Zf ?_ ?_<;>intro hc
 {
 refine fQ<|(On)<|sG<|Oj ?_
 exact⟨i,rfl,.inr ⟨by omega,Oa,‹¬(-m<=f i/\f i<=m)›⟩,h⟩}
 refine rU<|(zV (Zg (r:=i+1)))<|(zP)<|iq<|jm ⟨i+1,rfl,Oa,Oa,?_,rfl,h⟩
 {
 intro k N aa;rcases Int.lt_or_eq_of_le (show k<=i by omega) with J|J;exact W k N J;rw [J];assumption}}
 refine oM<|(zP)<|jk<|Oj ?_
 exact⟨-1,rfl,.inl ⟨rfl,fun k O h1=>W k O Oa⟩,h⟩
theorem Zld{n:Int}{N:Addr}(w0:World)(U:Row w0 v 1 n (ints f))(J:w0.cell? N=some (.int Oi m))(O:0<=m/\m<=1099511627776):
   Calls Om 90 [v,.func (.func 290) #[] #[.pointer (some N)]].toArray w0 fun e w=>∃v,e= .returned v/\v=B (∃k,0<=k/\k<n/\(¬(-m<=f k/\f k<=m)))/\Sat w0 w []:=by
 refine iE Tryz.func90 Tryz.ntmps90 fun w F=> ?_
 refine fQ<|(zP)<|iT<|(On)<|iJ (xc0 WP) (Zk3 w (U.below F.below) (F.ref J) O) ?_;rintro _ w ⟨r1,rfl,I,D⟩
 replace F:=F.cmp D;clear D
 refine(On)<|jk<|Oj ?_
 exact⟨Zm (by
  rcases I with⟨h1,h2⟩|⟨h1,h2,h3⟩
  · exact⟨fun h=>Oa,fun⟨k,Z,Y,W⟩=>absurd W (h2 k Z Y)⟩
  · exact⟨fun _=>⟨_,h1,h2,h3⟩,fun _=>h1⟩),F⟩
theorem VD{n:Int}(w0:World)(U:Row w0 v 1 n (ints f))(O:0<=m/\m<=1099511627776):
   Calls Om 236 [v,.int Oi m].toArray w0 fun e w=>∃v,e= .returned v/\v=B (wo f n m)/\Sat w0 w []:=by
 refine iE Tryz.func236 Tryz.ntmps236 fun w D=> ?_
 refine fQ<|iG (nS (cs:= [_]) D) ?_;rintro _ w ⟨W,rfl,D⟩
 refine(zP)<|iT<|(zP)<|(zV wX)<|iJ (xc0 Ux) (Zld (m:=m) w (U.below D.below) (D.lM 0 rfl rfl) O) ?_;rintro _ w ⟨rfl,F⟩
 replace D:=D.cmp F;clear F
 refine(On)<|jk<|Oj ?_
 exact⟨Zm ⟨fun h k J I=>Od fun N=>h ⟨k,J,I,N⟩,fun h ⟨k,J,I,N⟩=>N (h k J I)⟩,D.nl⟩
theorem Oz{n:Int}(w0:World)(D:Row w0 v 1 n (ints f))(hn:1<=n):
   Calls Om 238 [v].toArray w0 fun e w=>∃v,e= .returned v/\∃x:Int,v= .int Oi x/\(∃k,0<=k/\k<n/\f k=x)/\(∀k,0<=k->k<n->x<=f k)/\Sat w0 w []:=by
 have W:=D.fP.n1
 refine iE Tryz.func238 Tryz.ntmps238 fun w h=> ?_
 refine fQ<|(zP)<|l9<|(zP)<|(zV (iW Zb D.fP))<|(zV (Dc Z6))<|ig<|uD<|nX<|iP<|fQ ?_
 refine(zP)<|(zV (iy (kk:=0) Zb D.fP))<|(zV (iR (u:= .int Oi (f 0)) dw (D.below h.below)))<|(zP)<|l9<|(zP)<|nI<|ny (fun O M w=>∃(x:Int) (i:Int),O=((n-i).toNat)/\(1<=i)/\(i<=n)/\(∃k,0<=k/\k<n/\f k=x)/\(∀k,0<=k->k<i->x<=f k)/\M= [(0,v),(2,.int Oi 0),(3,.int Oi x),(4,.int Oi i)]/\Sat w0 w []) ⟨(f 0),1,rfl,Oa,Oa,?_,?_,rfl,h⟩ ?_
 {
 exact⟨0,Oa,Oa,rfl⟩}
 {
 intro k I U;rw [show k=0 by omega];exact Int.le_refl _}
 clear h w
 rintro O M w ⟨x,i,rfl,Y,h1,hex,N,rfl,h⟩
 refine lW<|fQ<|(On)<|(zV (iW Zb D.fP))<|(zP)<|ig<|Zf ?_ ?_<;>intro hc
 {
 refine nX<|iP<|lW<|o7<|lG<|(Oo)<|(zV (iy (kk:=i) Zb D.fP))<|(zV (iR (u:= .int Oi (f i)) dw (D.below h.below)))<|(zV (TS (r:=(min x (f i)))))<|(zP)<|nT<|(zP)<|(zV (Zg (r:=i+1)))<|(zP)<|iq<|jm ⟨(min x (f i)),i+1,rfl,Oa,Oa,?_,?_,rfl,h⟩
 {
 rcases Int.le_total x (f i) with F|F
 · first|(rw [Int.min_eq_left F];exact hex)|(rw [Int.min_eq_right F];exact⟨i,Oa,Oa,rfl⟩)
 · first|(rw [Int.min_eq_right F];exact⟨i,Oa,Oa,rfl⟩)|(rw [Int.min_eq_left F];exact hex)}
 {
 intro k I U;rcases Int.lt_or_eq_of_le (show k<=i by omega) with J|J
 · have:=N k I J;omega
 · rw [J];omega}}
 refine oM<|(On)<|jk<|Oj ?_
 exact⟨_,rfl,hex,fun k I U=>N k I Oa,h⟩
theorem JZ{n:Int}(w0:World)(D:Row w0 v 1 n (ints f))(hn:1<=n):
   Calls Om 91 [v].toArray w0 fun e w=>∃v,e= .returned v/\∃x:Int,v= .int Oi x/\(∃k,0<=k/\k<n/\f k=x)/\(∀k,0<=k->k<n->f k<=x)/\Sat w0 w []:=by
 have W:=D.fP.n1
 refine iE Tryz.func91 Tryz.ntmps91 fun w h=> ?_
 refine fQ<|(zP)<|l9<|(zP)<|(zV (iW Zb D.fP))<|(zV (Dc Z6))<|ig<|uD<|nX<|iP<|fQ ?_
 refine(zP)<|(zV (iy (kk:=0) Zb D.fP))<|(zV (iR (u:= .int Oi (f 0)) dw (D.below h.below)))<|(zP)<|l9<|(zP)<|nI<|ny (fun O M w=>∃(x:Int) (i:Int),O=((n-i).toNat)/\(1<=i)/\(i<=n)/\(∃k,0<=k/\k<n/\f k=x)/\(∀k,0<=k->k<i->f k<=x)/\M= [(0,v),(2,.int Oi 0),(3,.int Oi x),(4,.int Oi i)]/\Sat w0 w []) ⟨(f 0),1,rfl,Oa,Oa,?_,?_,rfl,h⟩ ?_
 {
 exact⟨0,Oa,Oa,rfl⟩}
 {
 intro k I U;rw [show k=0 by omega];exact Int.le_refl _}
 clear h w
 rintro O M w ⟨x,i,rfl,Y,h1,hex,N,rfl,h⟩
 refine lW<|fQ<|(On)<|(zV (iW Zb D.fP))<|(zP)<|ig<|Zf ?_ ?_<;>intro hc
 {
 refine nX<|iP<|lW<|o7<|lG<|(Oo)<|(zV (iy (kk:=i) Zb D.fP))<|(zV (iR (u:= .int Oi (f i)) dw (D.below h.below)))<|(zV (FB (r:=(max x (f i)))))<|(zP)<|nT<|(zP)<|(zV (Zg (r:=i+1)))<|(zP)<|iq<|jm ⟨(max x (f i)),i+1,rfl,Oa,Oa,?_,?_,rfl,h⟩
 {
 rcases Int.le_total x (f i) with F|F
 · first|(rw [Int.max_eq_left F];exact hex)|(rw [Int.max_eq_right F];exact⟨i,Oa,Oa,rfl⟩)
 · first|(rw [Int.max_eq_right F];exact⟨i,Oa,Oa,rfl⟩)|(rw [Int.max_eq_left F];exact hex)}
 {
 intro k I U;rcases Int.lt_or_eq_of_le (show k<=i by omega) with J|J
 · have:=N k I J;omega
 · rw [J];omega}}
 refine oM<|(On)<|jk<|Oj ?_
 exact⟨_,rfl,hex,fun k I U=>N k I Oa,h⟩
theorem lU{n:Int}(w0:World)(J:Row w0 v 1 n (ints f))(hn:n<=1000000):Calls Om 66 [v].toArray w0 fun e w=>∃u,e= .returned u/\∃r,u=r/\iK r n/\Sat w0 w [.own r 1 3 n (ints f)]:=by
 have I:=J.fP.n0
 have U:=Z0 f n
 have fin:∀{r:Value} {w:World} {F:List Value},w.ownsRow w0.heap.size 3 1 r n.toNat F->F=cellsOf (ints f) n.toNat->Below w0.heap.size w0 w->iK r n/\Sat w0 w [.own r 1 3 n (ints f)]:=fun {r w F} qu hxs hB=>by
   subst hxs
   have O:(iO.own r 1 3 n (ints f)).holds w:=iO.holds.uX I Oa (by rw [Nat.mul_one];exact qu)
   exact⟨O.row.fP,hB,fun e D=>by obtain rfl:=List.mem_singleton.1 D;exact O,fun e D g W=>by obtain rfl:=List.mem_singleton.1 D;exact(qu.lt g W).1,List.pairwise_singleton _ _⟩
 obtain⟨_,_,a,cap,rfl,h⟩:=J.fP
 cases a with
 | none=>
   have Y:n=0:=by rcases h with h|⟨_,_,h⟩;exact h;cases h
   subst Y
   refine(slices_Clone_int_nil 0 cap w0).mono fun e w ⟨D,hw⟩=>⟨_,D,_,rfl,d_,?_⟩
   rw [hw]
   exact(Sat.start w0).fU 1 3 (ints f)
 | some ad=>
   rcases h with h|⟨b,off,h⟩
   {
   subst h
   refine(slices_Clone_int_zero ad cap w0).mono fun e w ⟨r,D,qu,_,hB⟩=>⟨r,D,r,rfl,?_⟩
   exact fin qu rfl hB}
   {
   cases h
   refine(slices_Clone_int b off n.toNat cap (Zs f n) w0 Oa Oa (fun j N=> ?_)).mono fun e w ⟨r,D,qu,_,hB⟩=>⟨r,D,r,rfl,fin qu ?_ hB⟩
   {
   have:=J.2 j Oa
   simp only [pW,Int.toNat_natCast] at this
   rw [this]
   rw [U] at N
   simp [ints,Zs,N]}
   · rw [List.take_of_length_le Oa,UY];rfl}
end Go.Proofs.YtpnamgfdakfccaaGreat
namespace Go.Proofs.YtpnamgfdakfccaaGreat
open Go Go.RowKit Go.Proofs.Gw
variable {v:Value}
theorem Znl:Zc Om 292=true:=Oc
theorem Znk:Zc Om 293=true:=Oc
theorem Znj:Zc Om 295=true:=Oc
theorem Znf:Zc Om 313=true:=Oc
theorem Zq:ZN Om 3=some (.int Oi 0,1,8):=Oc
theorem dV:ZF Om 22=true:=Oc
theorem Zk:Zy Om 52=some (22,1):=Oc
theorem ZoO{n:Int}(w0:World)(I:0<=n)(h1:n<=1000000):
   Calls Om 295 [Oh,.int Oi n].toArray w0 fun e w=>∃v,e= .returned v/\∃r,v=r/\iK r 0/\Sat w0 w [.own r 1 3 0 (ints (fun _=>0))]:=by
 refine iE Tryz.func295 Tryz.ntmps295 fun w h=> ?_
 refine fQ<|(zP)<|l9<|(zP)<|(zV (Dc Z6))<|ig<|uD<|nX<|iP<|lW<|fQ ?_
 refine(On)<|RU rfl rfl rfl (WM rfl Zb rfl) ?_
 refine(zP)<|(zV (iW Zb d_))<|(zV (Zr (r:=0)))<|(zV (Zr (r:=n)))<|(zP)<|iT<|(On)<|ig<|Zf ?_ ?_<;>intro hc
 {
 refine lG<|(On)<|RU rfl rfl rfl (WM rfl Zb rfl) ?_
 refine(zV (lF (v:=Oh)))<|(zP)<|DZ rfl rfl rfl (RB rfl Zb Tryz.underlying3 Zq rfl Oa rfl rfl Oa Oa h) ?_;rintro F w ⟨h,D⟩
 refine(zP)<|(zV (iW Zb d_))<|RU rfl rfl rfl (Ut rfl Zb rfl rfl D) ?_
 replace h:=h.cut 0 rfl (ints (fun _=>0))
 refine(zP)<|iT<|(On)<|jk<|Oj ?_
 exact⟨_,rfl,(SC D),h⟩}
 refine ZX<|(On)<|jk<|Oj ?_
 exact⟨_,rfl,d_,(h.fU 1 3 (ints fun _=>0)).sub (.cons_cons _ .slnil)⟩
theorem Zc3{n:Int}{vv:Ov}{ln:Of}{f:Og}(w0:World)(hM:NAt w0 v n vv ln f)(Y:∀k,0<=k->k<=n->tot ln k.toNat<=100000):
   Calls Om 243 [v].toArray w0 fun e w=>∃v,e= .returned v/\∃r,v=r/\iK r (tot ln n.toNat)/\Sat w0 w [.own r 1 3 (tot ln n.toNat) (ints (WQ ln f n.toNat))]:=by
 have hn:=hM.row.fP.n0;have ac:=hM.row.fP.n1
 refine iE Tryz.func243 Tryz.ntmps243 fun w h=> ?_
 refine fQ<|(zP)<|iT<|(zP)<|l9<|(zP)<|(zV (iW Zk hM.row.fP))<|(zP)<|nI<|ny (fun I M w=>∃(s:Int) (i:Int),I=((n-i).toNat)/\(0<=i)/\(i<=n)/\(s=tot ln i.toNat)/\(0<=s)/\M= [(0,v),(2,Oh),(3,.int Oi s),(9,v),(10,.int Oi n),(11,.int Oi i)]/\Sat w0 w []) ⟨0,0,rfl,Oa,Oa,?_,Oa,rfl,h⟩ ?_
 {
 rfl}
 clear h w
 rintro I M w ⟨s,i,rfl,D,h1,hs,ab,rfl,h⟩
 refine fQ<|(zP)<|nG<|Zf ?_ ?_<;>intro hc
 {
 refine oC<|(zV (iy (kk:=i) Zk hM.row.fP))<|iI (iR (u:=(vv i)) dV (hM.row.below h.below)) ?_
 have hl:=(hM.p i D Oa).fP.n0;have F:=Y (i+1) Oa Oa;rw [Xy ln D] at F
 refine(zP)<|iT<|(On)<|(zV (iW Zb (hM.p i Oa Oa).fP))<|(zV (Zg (r:=s+(ln i))))<|(zP)<|iT<|(zP)<|(zV (Dc Z6))<|ig<|uD<|nX<|ng<|iP<|lG ?_
 refine(zV (Zg (r:=i+1)))<|(zP)<|iq<|jm ⟨s+(ln i),i+1,rfl,Oa,Oa,?_,Oa,rfl,h⟩
 {
 rw [Xy ln D,hs]}}
 refine oM<|iI gu ?_
 have aa:i=n:=Oa
 have W:=Y n hn (Int.le_refl _);rw [<-aa] at W
 refine iJ (xc0 Znj) (ZoO (n:=s) w Oa Oa) ?_;rintro N w ⟨_,rfl,qb,J⟩
 replace h:=(h.comp J).n1;clear J
 refine(zP)<|l9<|(zP)<|(zV (iW Zk hM.row.fP))<|(zP)<|nI<|ny (fun I M w=>∃(m:Int) (j:Int) (vb:Value) (g:Of),I=((n-j).toNat)/\(0<=j)/\(j<=n)/\(m=tot ln j.toNat)/\(0<=m)/\(g=WQ ln f j.toNat)/\(iK vb m)/\M= [(2,Oh),(6,vb),(25,v),(26,.int Oi n),(27,.int Oi j)]/\Sat w0 w [.own vb 1 3 m (ints g)]) ⟨0,0,N,(fun _=>0),rfl,Oa,Oa,?_,Oa,?_,?_,rfl,h⟩ ?_
 {
 rfl}
 {
 rfl}
 {
 exact qb}
 clear h w
 rintro I M w ⟨m,j,vb,g,rfl,D,h1,Z,ad,hg,O,rfl,h⟩
 refine fQ<|(zP)<|nG<|Zf ?_ ?_<;>intro hc
 {
 refine oC<|(zV (iy (kk:=j) Zk hM.row.fP))<|iI (iR (u:=(vv j)) dV (hM.row.below h.below)) ?_
 have hl:=(hM.p j D Oa).fP.n0;have F:=Y (j+1) Oa Oa;rw [Xy ln D] at F
 refine(zP)<|ig<|lG<|(On)<|iG (pz 0 (r:=m+(ln j)) (f:=ints (cat m g (f j))) Zb Zq h ((hM.p j Oa Oa).below h.below) (by exact Xs _ _ _)) ?_;rintro v1 w ⟨h,U⟩
 refine(zP)<|nT<|(zV (Zg (r:=j+1)))<|(zP)<|iq<|jm ⟨m+(ln j),j+1,v1,(cat m g (f j)),rfl,Oa,Oa,?_,Oa,?_,?_,rfl,h⟩
 {
 rw [Xy ln D,Z]}
 {
 rw [xB ln f D,<-hg,<-Z]}
 {
 exact U}}
 refine oM<|(On)<|jk<|Oj ?_
 obtain rfl:j=n:=Oa
 subst hg;subst Z
 exact⟨_,rfl,O,h⟩
theorem _Y{vs:Value}{n:Int}(w0:World)(h:iK vs n):
   Calls Om 242 [vs].toArray w0 fun e w=>∃v,e= .returned v/\∃g,v= .func (.func 294) #[] #[Or g]/\Sat w0 w [.blk g [vs]]:=by
 refine iE Tryz.func242 Tryz.ntmps242 fun w D=> ?_
 refine fQ<|iG (nS (cs:= [_]) D (hc:=iK.cells h)) ?_;rintro _ w ⟨F,rfl,D⟩
 refine(zP)<|iT<|(zV wX)<|(zP)<|jk<|Oj ?_
 exact⟨_,rfl,D⟩
theorem Zgg{n:Int}{f:Of}{Bs:Nat}{E:TypeId}(w0:World)(F:w0.cell? ⟨Bs,0,none⟩=some v)(N:(iO.own v 1 E n (ints f)).holds w0)(hn:n<=1000000):
   Calls Om 292 [.func (.func 294) #[] #[.pointer (some (⟨Bs,0,none⟩))]].toArray w0 fun e w=>∃v,e= .returned v/\∃r,v=r/\iK r n/\Sat w0 w [.own r 1 3 n (ints f)]:=by
 refine iE Tryz.func292 Tryz.ntmps292 fun w D=> ?_
 refine fQ<|(zP)<|iT<|(zP)<|iJ (xc0 Znf) (Az (f:=f) w (D.ref F) (D.kept N) hn) ?_;rintro I w ⟨_,rfl,J,h⟩
 replace D:=(D.comp h).n1;clear h
 refine(zP)<|jk<|Oj ?_
 exact⟨_,rfl,J,D⟩
theorem Zc0{n:Int}{f:Of}{Bs:Nat}{E:TypeId}(w0:World)(F:w0.cell? ⟨Bs,0,none⟩=some v)(U:(iO.own v 1 E n (ints f)).holds w0)(hn:n<=1000000):
   Calls Om 241 [.func (.func 294) #[] #[.pointer (some (⟨Bs,0,none⟩))]].toArray w0 fun e w=>∃v,e= .returned v/\∃r g,v=r/\iK r n/\Zs g n=((Zs f n).mergeSort fun x y=>decide (x<=y))/\Sat w0 w [.own r 1 3 n (ints g)]:=by
 refine iE Tryz.func241 Tryz.ntmps241 fun w h=> ?_
 refine fQ<|(zP)<|iT<|(zP)<|iJ (xc0 Znl) (Zgg (f:=f) w (h.ref F) (h.kept U) hn) ?_;rintro J w ⟨_,rfl,O,D⟩
 replace h:=(h.comp D).n1;clear D
 refine(zP)<|iT<|(zP)<|iJ (xc0 Znk) (Zfm (fun p cap w=>slices_Sort_int_none p cap w) (fun blk off cap I w=>slices_Sort_int blk off cap I w) (l1:= []) (l2:= []) h) ?_;rintro _ w ⟨rfl,N,W,h⟩
 refine iT<|(On)<|jk<|Oj ?_
 exact⟨_,_,rfl,O,W,h⟩
end Go.Proofs.YtpnamgfdakfccaaGreat
namespace Go.Proofs.YtpnamgfdakfccaaGreat
open Go Go.RowKit Go.Proofs.Gw
variable {ln:Of} {f:Og} {vv:Ov} {v:Value}
theorem IV:Zc Om 159=true:=Oc
theorem IX:Zc Om 230=true:=Oc
theorem IY:Zc Om 236=true:=Oc
theorem ZnC:Zc Om 237=true:=Oc
theorem Py:Zc Om 241=true:=Oc
theorem Pz:Zc Om 242=true:=Oc
theorem PD:Zc Om 243=true:=Oc
theorem Zng:Zc Om 312=true:=Oc
theorem ZQ:ZN Om 22=some (Oh,1,24):=Oc
theorem oU:Zw Om 107 0=some 0:=Oc
theorem oK:Zw Om 107 1=some 1:=Oc
theorem lQ:Zw Om 107 2=some 2:=Oc
theorem nK:Zw Om 107 3=some 3:=Oc
theorem iY:Zw Om 107 4=some 4:=Oc
theorem nP:Tryz.prog.follows .mixedOrders=true:=Oc
theorem Zz:ZF Om 52=true:=Oc
theorem Zon{n q:Int}{f:Of}{O:Addr}(w0:World)(N:Row w0 v 1 n (ints f))(I:w0.cell? O=some (.int Oi q))(W:0<=q/\q<=100):
   Calls Om 312 [v,.pointer (some O)].toArray w0 fun e w=>∃v,e= .returned v/\v=B (¬(n=q+1/\wo f n 1073741824))/\Sat w0 w []:=by
 have U:=N.fP.n1
 refine iE Tryz.func312 Tryz.ntmps312 fun w D=> ?_
 refine fQ<|(zP)<|iT<|(zP)<|(zV (iW Zb N.fP))<|(zV (wR dw I D))<|(zV (Zg (r:=q+1)))<|(On)<|lX 9 ?_ ?_<;>intro hc
 {
 iterate 3 refine oq ?_
 refine(On)<|jk<|Oj ?_
 exact⟨Yk Oa,D⟩}
 refine(zP)<|iJ (xc0 IY) (VD (n:=n) (m:=1073741824) (f:=f) w (N.below D.below) Oa) ?_;rintro _ w ⟨rfl,F⟩
 replace D:=D.cmp F;clear F
 refine(Oo)<|jk<|Oj ?_
 exact⟨Zm (by exact⟨fun h J=>h J.2,fun h J=>h ⟨by omega,J⟩⟩),D⟩
theorem ZoK{n q:Int}{O:Addr}(w0:World)(hM:sO w0 v n vv ln f)(F:w0.cell? O=some (.int Oi q))(Y:0<=q/\q<=100):
   Calls Om 230 [v,.func (.func 312) #[] #[.pointer (some O)]].toArray w0 fun e w=>∃v,e= .returned v/\∃r:Int,v= .int Oi r/\((r= -1/\∀k,0<=k->k<n->¬(¬((ln k)=q+1/\wo (f k) (ln k) 1073741824)))\/(0<=r/\r<n/\(¬((ln r)=q+1/\wo (f r) (ln r) 1073741824))))/\Sat w0 w []:=by
 have hn:=hM.row.fP.n0;have Z:=hM.row.fP.n1
 refine iE Tryz.func230 Tryz.ntmps230 fun w h=> ?_
 refine fQ<|(zP)<|l9<|(zP)<|(zV (iW Zk hM.row.fP))<|(zP)<|nI<|ny (fun W M w=>∃(i:Int),W=((n-i).toNat)/\(0<=i)/\(i<=n)/\(∀k,0<=k->k<i->¬(¬((ln k)=q+1/\wo (f k) (ln k) 1073741824)))/\M= [(0,v),(1,.func (.func 312) #[] #[.pointer (some O)]),(7,.int Oi n),(8,.int Oi i)]/\Sat w0 w []) ⟨0,rfl,Oa,Oa,?_,rfl,h⟩ ?_
 {
 intro k N h1;omega}
 clear h w
 rintro W M w ⟨i,rfl,N,h1,U,rfl,h⟩
 refine fQ<|(zP)<|nG<|Zf ?_ ?_<;>intro hc
 {
 refine oC<|(On)<|iT<|(Oo)<|(zV (iy (kk:=i) Zk hM.row.fP))<|(zV (iR (u:=(vv i)) dV (hM.row.below h.below)))<|iJ (uU (vs:= [_]) Zng) (Zon (n:=(ln i)) (q:=q) (f:=(f i)) w ((hM.p i Oa Oa).below h.below) (h.ref F) Y) ?_;rintro _ w ⟨rfl,D⟩
 replace h:=h.cmp D;clear D
 refine ig<|Zf ?_ ?_<;>intro hc
 {
 refine fQ<|(On)<|sG<|Oj ?_
 exact⟨i,rfl,.inr ⟨by omega,Oa,‹¬((ln i)=q+1/\wo (f i) (ln i) 1073741824)›⟩,h⟩}
 refine rU<|(zV (Zg (r:=i+1)))<|(zP)<|iq<|jm ⟨i+1,rfl,Oa,Oa,?_,rfl,h⟩
 {
 intro k J aa;rcases Int.lt_or_eq_of_le (show k<=i by omega) with I|I;exact U k J I;rw [I];assumption}}
 refine oM<|(zP)<|jk<|Oj ?_
 exact⟨-1,rfl,.inl ⟨rfl,fun k N h1=>U k N Oa⟩,h⟩
theorem ZoY{n q:Int}{N:Addr}(w0:World)(hM:sO w0 v n vv ln f)(J:w0.cell? N=some (.int Oi q))(O:0<=q/\q<=100):
   Calls Om 159 [v,.func (.func 312) #[] #[.pointer (some N)]].toArray w0 fun e w=>∃v,e= .returned v/\v=B (∃k,0<=k/\k<n/\(¬((ln k)=q+1/\wo (f k) (ln k) 1073741824)))/\Sat w0 w []:=by
 refine iE Tryz.func159 Tryz.ntmps159 fun w F=> ?_
 refine fQ<|(zP)<|iT<|(On)<|iJ (xc0 IX) (ZoK w (hM.below F.below) (F.ref J) O) ?_;rintro _ w ⟨Z,rfl,I,D⟩
 replace F:=F.cmp D;clear D
 refine(On)<|jk<|Oj ?_
 exact⟨Zm (by
  rcases I with⟨h1,h2⟩|⟨h1,h2,h3⟩
  · exact⟨fun h=>Oa,fun⟨k,Y,W,U⟩=>absurd U (h2 k Y W)⟩
  · exact⟨fun _=>⟨_,h1,h2,h3⟩,fun _=>h1⟩),F⟩
theorem Zom{n q:Int}{f:Of}{O:Addr}(w0:World)(N:Row w0 v 1 n (ints f))(I:w0.cell? O=some (.int Oi q))(W:0<=q/\q<=100):
   Calls Om 237 [v,.pointer (some O)].toArray w0 fun e w=>∃v,e= .returned v/\v=B (¬(n=q/\wo f n 1000000))/\Sat w0 w []:=by
 have U:=N.fP.n1
 refine iE Tryz.func237 Tryz.ntmps237 fun w D=> ?_
 refine fQ<|(zP)<|iT<|(zP)<|(zV (iW Zb N.fP))<|(zV (wR dw I D))<|(On)<|lX 8 ?_ ?_<;>intro hc
 {
 iterate 3 refine oq ?_
 refine(On)<|jk<|Oj ?_
 exact⟨Yk Oa,D⟩}
 refine(zP)<|iJ (xc0 IY) (VD (n:=n) (m:=1000000) (f:=f) w (N.below D.below) Oa) ?_;rintro _ w ⟨rfl,F⟩
 replace D:=D.cmp F;clear F
 refine(Oo)<|jk<|Oj ?_
 exact⟨Zm (by exact⟨fun h J=>h J.2,fun h J=>h ⟨by omega,J⟩⟩),D⟩
theorem ZoI{n q:Int}{O:Addr}(w0:World)(hM:sO w0 v n vv ln f)(F:w0.cell? O=some (.int Oi q))(Y:0<=q/\q<=100):
   Calls Om 230 [v,.func (.func 237) #[] #[.pointer (some O)]].toArray w0 fun e w=>∃v,e= .returned v/\∃r:Int,v= .int Oi r/\((r= -1/\∀k,0<=k->k<n->¬(¬((ln k)=q/\wo (f k) (ln k) 1000000)))\/(0<=r/\r<n/\(¬((ln r)=q/\wo (f r) (ln r) 1000000))))/\Sat w0 w []:=by
 have hn:=hM.row.fP.n0;have Z:=hM.row.fP.n1
 refine iE Tryz.func230 Tryz.ntmps230 fun w h=> ?_
 refine fQ<|(zP)<|l9<|(zP)<|(zV (iW Zk hM.row.fP))<|(zP)<|nI<|ny (fun W M w=>∃(i:Int),W=((n-i).toNat)/\(0<=i)/\(i<=n)/\(∀k,0<=k->k<i->¬(¬((ln k)=q/\wo (f k) (ln k) 1000000)))/\M= [(0,v),(1,.func (.func 237) #[] #[.pointer (some O)]),(7,.int Oi n),(8,.int Oi i)]/\Sat w0 w []) ⟨0,rfl,Oa,Oa,?_,rfl,h⟩ ?_
 {
 intro k N h1;omega}
 clear h w
 rintro W M w ⟨i,rfl,N,h1,U,rfl,h⟩
 refine fQ<|(zP)<|nG<|Zf ?_ ?_<;>intro hc
 {
 refine oC<|(On)<|iT<|(Oo)<|(zV (iy (kk:=i) Zk hM.row.fP))<|(zV (iR (u:=(vv i)) dV (hM.row.below h.below)))<|iJ (uU (vs:= [_]) ZnC) (Zom (n:=(ln i)) (q:=q) (f:=(f i)) w ((hM.p i Oa Oa).below h.below) (h.ref F) Y) ?_;rintro _ w ⟨rfl,D⟩
 replace h:=h.cmp D;clear D
 refine ig<|Zf ?_ ?_<;>intro hc
 {
 refine fQ<|(On)<|sG<|Oj ?_
 exact⟨i,rfl,.inr ⟨by omega,Oa,‹¬((ln i)=q/\wo (f i) (ln i) 1000000)›⟩,h⟩}
 refine rU<|(zV (Zg (r:=i+1)))<|(zP)<|iq<|jm ⟨i+1,rfl,Oa,Oa,?_,rfl,h⟩
 {
 intro k J aa;rcases Int.lt_or_eq_of_le (show k<=i by omega) with I|I;exact U k J I;rw [I];assumption}}
 refine oM<|(zP)<|jk<|Oj ?_
 exact⟨-1,rfl,.inl ⟨rfl,fun k N h1=>U k N Oa⟩,h⟩
theorem ZoW{n q:Int}{N:Addr}(w0:World)(hM:sO w0 v n vv ln f)(J:w0.cell? N=some (.int Oi q))(O:0<=q/\q<=100):
   Calls Om 159 [v,.func (.func 237) #[] #[.pointer (some N)]].toArray w0 fun e w=>∃v,e= .returned v/\v=B (∃k,0<=k/\k<n/\(¬((ln k)=q/\wo (f k) (ln k) 1000000)))/\Sat w0 w []:=by
 refine iE Tryz.func159 Tryz.ntmps159 fun w F=> ?_
 refine fQ<|(zP)<|iT<|(On)<|iJ (xc0 IX) (ZoI w (hM.below F.below) (F.ref J) O) ?_;rintro _ w ⟨Z,rfl,I,D⟩
 replace F:=F.cmp D;clear D
 refine(On)<|jk<|Oj ?_
 exact⟨Zm (by
  rcases I with⟨h1,h2⟩|⟨h1,h2,h3⟩
  · exact⟨fun h=>Oa,fun⟨k,Y,W,U⟩=>absurd U (h2 k Y W)⟩
  · exact⟨fun _=>⟨_,h1,h2,h3⟩,fun _=>h1⟩),F⟩
theorem Uy{vB O vC:Value}{t:Tb}(w0:World)(N:uI w0 vB O vC vv t):
   Calls Om 291 [.agg #[.int Oi t.vars,.int Oi t.den,vB,O,vC]].toArray w0 fun e w=>∃v,e= .returned v/\v=B (lK t)/\Sat w0 w []:=by
 have hn:=N.F.fP.n0;have af:=N.F.fP.n1;have hb:=N.B.fP.n0;have ai:=N.B.fP.n1;have ah:=N.C.row.fP.n0;have ag:=N.C.row.fP.n1
 refine iE Tryz.func291 Tryz.ntmps291 fun w D=> ?_
 refine fQ<|iG (nS (cs:= [_,_,_,_,_]) D) ?_;rintro _ w ⟨g1,rfl,D⟩
 refine(zP)<|nG<|lg [0] [0] 7 nP D ?_;clear D;intro w D
 refine(b_ 0 (h_ 3 nK))<|(iQ 1 (fun w D=>(g_ 0 dV D)))<|(b_ 2 (iW Zb N.F.fP))<|(b_ 3 (h_ 2 lQ))<|(iQ 4 (fun w D=>(g_ 0 dV D)))<|(b_ 5 (iW Zb N.B.fP))<|oZ 6 (oh (cs:= [_]) Zq D) ?_;rintro _ w ⟨g2,rfl,D⟩
 refine⟨⟨fun _=>D.pk [0],D.pk [0]⟩,?_⟩
 refine nR 7 (xsb 1 dw D) ?_;clear D;rintro w D
 refine⟨⟨fun h=>absurd h (by decide),D.pk [0]⟩,?_⟩
 refine(b_ 8 nU)<|lS<|iP<|lW<|fQ ?_
 refine(zV (g_ 1 dw D))<|(On)<|lX 16 ?_ ?_<;>intro hc;rotate_left
 refine(zV (g_ 1 dw D))<|(Oo)<|lX 20 ?_ ?_<;>intro hc;rotate_left
 refine qE ?_
 refine lX 24 ?_ ?_<;>intro hc;rotate_left
 refine(zV (h_ 0 oU))<|(zV (g_ 0 dw D))<|(zV (g_ 1 dw D))<|(Oo)<|lX 30 ?_ ?_<;>intro hc;rotate_left
 refine(zV (h_ 1 oK))<|(zV (g_ 0 dw D))<|(Oo)<|lX 35 ?_ ?_<;>intro hc;rotate_left
 refine(zV (h_ 1 oK))<|(zV (g_ 0 dw D))<|(Oo)<|lX 40 ?_ ?_<;>intro hc;rotate_left
 refine(zV (h_ 4 iY))<|(zV (g_ 0 Zz D))<|(zV (iW Zk N.C.row.fP))<|(zP)<|(zV (Zg (r:=t.nb+1)))<|(On)<|ig<|Zf ?_ ?_<;>intro hc
 {
 refine fQ<|(zP)<|j_<|Oj ?_
 exact⟨Zi (by intro F;have b1:=F.n1;have b2:=F.n2;have b3:=F.m2;have b4:=F.v;have b5:=F.d1;have b6:=F.d2;have b7:=F.c;first|omega|(have Z:=(Yp Oa qL).2 (F.perm.congr fun k J U=>(VJ t.nf t.nb t.F t.B J).symm) i Oa Oa;omega)),D.nl⟩}
 refine ZX<|(zV (h_ 3 nK))<|(zV (g_ 0 dV D))<|(zV (h_ 2 lQ))<|(zV (g_ 0 dV D))<|iG (pO (n:=2) (len:=2) (pv:= [(0,O),(1,vB)]) (cs:= [O,vB]) (c:=(ZK O vB)) Zk ZQ D (hf:=by obtain⟨_,_,_,_,rfl,_⟩:=N.F.fP;obtain⟨_,_,_,_,rfl,_⟩:=N.B.fP;kernel_rfl)) ?_;rintro v1 w ⟨D,ae⟩
 have ab:=N9 (w:=w) (a:=O) (b:=vB) (n:=t.nf) (m:=t.nb) (f:=t.F) (g:=t.B) (D.f_ 2 rfl) (N.F.below D.below) (N.B.below D.below)
 have aa:∀k:Int,0<=k->k<=2->tot (ZK t.nf t.nb) k.toNat<=100000:=fun k J U=>by
   have:k=0\/k=1\/k=2:=Oa
   rcases this with rfl|rfl|rfl
   · simp [tot]
   · simp [tot,ZK];omega
   · have e2:=Fz t.nf t.nb;rw [show(2:Int).toNat=2 from rfl,e2];omega
 refine iJ (xc0 PD) (Zc3 w ab aa) ?_;rintro W w ⟨_,rfl,qb,I⟩
 rw [show(2:Int).toNat=2 from rfl,Fz] at qb I
 replace D:Sat w0 w [.blk g1 [.int Oi t.vars,.int Oi t.den,vB,O,vC],.blk g2 [.int Oi t.nf],.own v1 1 22 2 (ZK O vB),.own W 1 3 (t.nf+t.nb) (ints (WQ (ZK t.nf t.nb) (ZK t.F t.B) 2))]:=D.comp I
 clear I
 refine iJ (xc0 Pz) (_Y (n:=(t.nf+t.nb)) w qb) ?_;rintro _ w ⟨ad,rfl,I⟩
 replace D:=(D.comp I).n5;clear I
 refine iJ (xc0 Py) (Zc0 (n:=(t.nf+t.nb)) (f:=(WQ (ZK t.nf t.nb) (ZK t.F t.B) 2)) w (D.lM 4 rfl rfl) (D.holds _ (List.mem_of_getElem? (i:=3) rfl)) Oa) ?_;rintro Y w ⟨_,zA,rfl,qd,qL,I⟩
 replace D:=(D.comp I).n6;clear I
 refine(zP)<|l9<|(zP)<|(zV (iW Zb qd))<|(zP)<|nI<|ny (fun mm M w=>∃(i:Int),mm=((t.nf+t.nb-i).toNat)/\(0<=i)/\(i<=t.nf+t.nb)/\(∀k,0<=k->k<i->zA k=k)/\M= [(1,Or g1),(3,Or g2),(56,Y),(57,.int Oi (t.nf+t.nb)),(58,.int Oi i)]/\Sat w0 w [.blk g1 [.int Oi t.vars,.int Oi t.den,vB,O,vC],.blk g2 [.int Oi t.nf],.own v1 1 22 2 (ZK O vB),.own W 1 3 (t.nf+t.nb) (ints (WQ (ZK t.nf t.nb) (ZK t.F t.B) 2)),.blk ad [W],.own Y 1 3 (t.nf+t.nb) (ints zA)]) ⟨0,rfl,Oa,Oa,?_,rfl,D⟩ ?_
 {
 intro k h0 h1;omega}
 clear D w
 rintro mm M w ⟨i,rfl,h0,h1,qa,rfl,D⟩
 refine fQ<|(zP)<|nG<|Zf ?_ ?_<;>intro hc
 {
 refine oC<|(zP)<|(zV (iy (kk:=i) Zb qd))<|(zV (iR (u:= .int Oi (zA i)) dw (D.f_ 5 rfl)))<|(On)<|iT<|(Oo)<|ig<|Zf ?_ ?_<;>intro hc
 {
 refine fQ<|(zP)<|sG<|Oj ?_
 exact⟨Zi (by intro F;have b1:=F.n1;have b2:=F.n2;have b3:=F.m2;have b4:=F.v;have b5:=F.d1;have b6:=F.d2;have b7:=F.c;first|omega|(have Z:=(Yp Oa qL).2 (F.perm.congr fun k J U=>(VJ t.nf t.nb t.F t.B J).symm) i Oa Oa;omega)),D.nl⟩}
 refine rU<|(zV (Zg (r:=i+1)))<|(zP)<|iq<|jm ⟨i+1,rfl,Oa,Oa,?_,rfl,D⟩
 {
 intro k ac aj;rcases Int.lt_or_eq_of_le (show k<=i by omega) with hk|hk;exact qa k ac hk;rw [hk];omega}}
 refine oM<|(zV (h_ 4 iY))<|(zV (g_ 0 Zz D))<|(zV wX)<|iJ (xc0 IV) (ZoY (n:=t.nc) (q:=t.nf) (vv:=vv) (ln:=t.ln) (f:=t.C) w (N.C.below D.below) (D.lM 1 rfl rfl) Oa) ?_;rintro _ w ⟨rfl,I⟩
 replace D:=D.cmp I;clear I
 refine(On)<|jk<|Oj ?_
 refine⟨Zm ⟨fun hx=> ?_,fun F hx=> ?_⟩,D.nl⟩
 {
 refine⟨by omega,Oa,Oa,Oa,Oa,Oa,Oa,((Yp Oa qL).1 fun k J U=>qa k J Oa).congr fun k J U=>VJ t.nf t.nb t.F t.B J,fun k J U=> ?_⟩
 have hy:=Od fun hh=>hx ⟨k,J,U,hh⟩
 exact⟨hy.1,hy.2⟩}
 {
 obtain⟨k,J,U,hh⟩:=hx
 have hr:=F.rows k J U
 exact hh ⟨hr.1,hr.2⟩}
 all_goals
  refine pR ?_
  refine ig<|rW<|fQ ?_
  refine pR ?_
  refine j_<|Oj ?_
  exact⟨Zi (by intro F;have b1:=F.n1;have b2:=F.n2;have b3:=F.m2;have b4:=F.v;have b5:=F.d1;have b6:=F.d2;have b7:=F.c;first|omega|(have Z:=(Yp Oa qL).2 (F.perm.congr fun k J U=>(VJ t.nf t.nb t.F t.B J).symm) i Oa Oa;omega)),D.nl⟩
end Go.Proofs.YtpnamgfdakfccaaGreat
namespace Go.Proofs.YtpnamgfdakfccaaGreat
open Go Go.RowKit Go.Proofs.Gw
theorem Px:Zc Om 238=true:=Oc
theorem I4:Zc Om 291=true:=Oc
theorem iC:ZC Om 107=some 5:=Oc
theorem Vi{v:Value}{n:Int}{vv:Ov}{ln:Of}{f:Og}(w0:World)(hM:sO w0 v n vv ln f)(aa:n<=1000)(O:∀k,0<=k->k<n->ln k<=1000):
   Calls Om 170 [v].toArray w0 fun e w=>∃v,e= .returned v/\∃I U,v=I/\iK I n/\Sat w0 w [.own I 1 22 n U,.sem (Frame.rows 3 n U ln f)]:=by
 have hn:=hM.row.fP.n0;have ab:=hM.row.fP.n1
 refine iE Tryz.func170 Tryz.ntmps170 fun w h=> ?_
 refine fQ<|(zP)<|iT<|(zP)<|(zV (iW Zk hM.row.fP))<|iG (uF Zk ZQ h) ?_;rintro J w ⟨h,D⟩
 refine(zP)<|l9<|(zP)<|(zV (iW Zk hM.row.fP))<|(zP)<|nI ?_
 replace h:=h.iF 3 (fun _=>Oh) ln f
 refine ny (fun W M w=>∃(c:Ov) (i:Int),W=((n-i).toNat)/\(0<=i)/\(i<=n)/\M= [(2,Oh),(3,J),(9,v),(10,.int Oi n),(11,.int Oi i)]/\Sat w0 w [.own J 1 22 n c,.sem (Frame.rows 3 i c ln f)]) ⟨(fun _=>Oh),0,rfl,Oa,Oa,rfl,h⟩ ?_
 clear h w
 rintro W M w ⟨c,i,rfl,h0,h1,rfl,h⟩
 have q9:=fun k (Z:0<=k) (Y:k<i)=>h.iw 1 rfl Z Y
 refine fQ<|(zP)<|nG<|Zf ?_ ?_<;>intro hc
 {
 refine oC<|(zP)<|(zV (iy (kk:=i) Zk hM.row.fP))<|iI (iR (u:=(vv i)) dV (hM.row.below h.below)) ?_
 have ac:=O i h0 Oa;have ad:=(hM.p i h0 Oa).fP.n0
 refine(On)<|iT<|(Oo)<|(zV (iW Zb (hM.p i Oa Oa).fP))<|iG (uF Zb Zq h) ?_;rintro F w ⟨h,N⟩
 refine(zV (iy (kk:=i) Zk D))<|lJ (rV 0 dV h rfl (hv:=N.one)) ?_;clear h;rintro w h
 refine ig<|lG<|(On)<|(zV (iy (kk:=i) Zk D))<|(zV (iR (u:=F) dV (h.f_ 0 rfl) (e:=(iU _ _ _))))<|(zP)<|DZ rfl rfl rfl (Uv 2 rfl Zb rfl rfl h rfl ((hM.p i Oa Oa).below h.below) (fun _ _ _=>rfl)) ?_;rintro _ w ⟨rfl,h⟩
 replace h:=Sat.merge (l1:= [.own J 1 22 n (upd c i (F))]) (l2:= []) (l3:= []) h Oa
 replace h:=h.oP (xk:=upd c i (F)) (vT:=ln) (f':=f) 1 rfl (fun k Z Y=>by
   by_cases e:k<i
   · rw [Zl e,Zl e,Zl e];exact⟨(lZ Oa).symm,rfl,fun _ _ _=>rfl⟩
   · obtain rfl:i=k:=Oa;rw [YP,YP,YP];exact⟨(iU _ _ _).symm,rfl,fun _ _ _=>rfl⟩)
 refine nT<|(zV (Zg (r:=i+1)))<|(zP)<|iq<|jm ⟨upd c i (F),i+1,rfl,Oa,Oa,rfl,h⟩}
 refine oM<|(On)<|jk<|Oj ?_
 obtain rfl:i=n:=Oa
 exact⟨_,_,rfl,D,h⟩
theorem ZoA{vB vF vC:Value}{vv:Ov}{t:Tb}(w0:World)(D:uI w0 vB vF vC vv t):
   Calls Om 239 [.agg #[.int Oi t.vars,.int Oi t.den,vB,vF,vC]].toArray w0 fun e w=>∃v,e= .returned v/\∃r c d e,v= .tuple #[.int Oi r,.int Oi c,.bool d,.int Oi e]/\ug t r c d e/\Sat w0 w []:=by
 have hn:=D.F.fP.n0;have ab:=D.F.fP.n1;have hb:=D.B.fP.n0;have aj:=D.B.fP.n1;have ai:=D.C.row.fP.n0;have ah:=D.C.row.fP.n1
 refine iE Tryz.func239 Tryz.ntmps239 fun w h=> ?_
 refine fQ<|iG (nS (cs:= [_,_,_,_,_]) h) ?_;rintro _ w ⟨g1,rfl,h⟩
 refine qE ?_
 refine l9<|(zV (lH 0 iC h))<|iJ (xc0 I4) (Uy (t:=t) w (D.below h.below)) ?_;rintro _ w ⟨rfl,N⟩
 replace h:=h.cmp N;clear N
 refine(On)<|lX 17 ?_ ?_<;>intro hc
 {
 iterate 7 refine oq ?_
 refine(zP)<|ig<|rW<|fQ ?_
 refine qE ?_
 refine j_<|F6 ⟨_,rfl,?_⟩
 refine⟨_,_,_,_,rfl,.inl ⟨?_,rfl,rfl,rfl,rfl⟩,h.nl⟩
 first|exact fun Z=>absurd Z.1 ‹_›|(rintro⟨_,W⟩;obtain⟨k,k0,k1,k2⟩:=yk;have:=W (k+1) Oa Oa;omega)}
 refine iI (h_ 4 iY) ?_
 have I:=(Od ‹¬¬(lK t)›)
 have b1:=I.n1
 have b2:=I.n2
 have b3:=I.m2
 have b4:=I.v
 have b5:=I.d1
 have b6:=I.d2
 have b7:=I.c
 have af:=I.len (i:=0) Oa Oa
 refine(zV (g_ 0 Zz h))<|(zV (iy (kk:=0) Zk D.C.row.fP))<|(zV (iR (u:=(vv 0)) dV (D.C.row.below h.below)))<|RU rfl rfl rfl (Y0 (q:=1) rfl Zb rfl rfl rfl (D.C.p 0 Oa Oa).fP rfl Oa Oa) ?_
 refine iJ (xc0 Px) (Oz (n:=((t.ln 0)-1)) (f:=(fun k=>(t.C 0) (k+1))) w ((YR (q:=1) (D.C.p 0 Oa Oa).fP (D.C.room 0 Oa Oa) Oa).row Oa ((D.C.p 0 Oa Oa).below h.below)) Oa) ?_;rintro _ w ⟨x1,rfl,yk,yJ,N⟩
 replace h:=h.cmp N;clear N
 refine(On)<|ig<|Zf ?_ ?_<;>intro hc
 {
 refine fQ<|qE ?_
 refine j_<|F6 ⟨_,rfl,?_⟩
 refine⟨_,_,_,_,rfl,.inl ⟨?_,rfl,rfl,rfl,rfl⟩,h.nl⟩
 first|exact fun Z=>absurd Z.1 ‹_›|(rintro⟨_,W⟩;obtain⟨k,k0,k1,k2⟩:=yk;have:=W (k+1) Oa Oa;omega)}
 refine ZX<|(zP)<|l9<|(zV (h_ 2 lQ))<|(zV (g_ 0 dV h))<|(zV (iW Zb D.B.fP))<|(zP)<|nI<|ny (fun Y M w=>∃(r:Int) (i:Int),Y=((t.nb-i).toNat)/\(0<=i)/\(i<=t.nb)/\(r=YD t i.toNat)/\M= [(1,Or g1),(2,.int Oi r),(3,.int Oi 0),(4,.bool false),(5,.int Oi 0),(27,vB),(28,.int Oi t.nb),(29,.int Oi i)]/\Sat w0 w [.blk g1 [.int Oi t.vars,.int Oi t.den,vB,vF,vC]]) ⟨(-1),0,rfl,Oa,Oa,?_,rfl,h⟩ ?_
 {
 rfl}
 clear h w
 rintro Y M w ⟨r,i,rfl,h0,h1,hr,rfl,h⟩
 have J:=YO t i.toNat;rw [<-hr] at J
 refine fQ<|(zP)<|nG<|Zf ?_ ?_<;>intro hc
 {
 refine oC<|(zP)<|(zV (iy (kk:=i) Zb D.B.fP))<|(zV (iR (u:= .int Oi (t.B i)) dw (D.B.below h.below)))<|(On)<|iT<|(zV (h_ 4 iY))<|(zV (g_ 0 Zz h))<|(zP)<|(zV (Zg (r:=i+1)))<|(zV (iy (kk:=i+1) Zk D.C.row.fP))<|iI (iR (u:=(vv (i+1))) dV (D.C.row.below h.below)) ?_
 have xd:=I.len (i:=i+1) Oa Oa
 refine(zV (iy (kk:=0) Zb (D.C.p (i+1) Oa Oa).fP))<|(zV (iR (u:= .int Oi ((t.C (i+1)) 0)) dw ((D.C.p (i+1) Oa Oa).below h.below)))<|(On)<|lX 43 ?_ ?_<;>intro hc
 {
 refine C9 ?_
 have J:=YO t i.toNat;rw [<-hr] at J
 refine lX 46 ?_ ?_<;>intro hc
 {
 iterate 7 refine oq ?_
 refine(On)<|ig<|rW<|lG ?_
 refine(On)<|nT<|(zV (Zg (r:=i+1)))<|(zP)<|iq<|jm ⟨i,i+1,rfl,Oa,Oa,?_,rfl,h⟩
 {
 rw [Vw t h0,<-hr];split<;>omega}}
 refine(zP)<|(zV (h_ 2 lQ))<|(zV (g_ 0 dV h))<|(zP)<|(zV (iy (kk:=r) Zb D.B.fP))<|(zV (iR (u:= .int Oi (t.B r)) dw (D.B.below h.below)))<|(Oo)<|ig<|Zf ?_ ?_<;>intro hc
 {
 refine lG<|(On)<|nT<|(zV (Zg (r:=i+1)))<|(zP)<|iq<|jm ⟨i,i+1,rfl,Oa,Oa,?_,rfl,h⟩
 {
 rw [Vw t h0,<-hr];split<;>omega}}
 refine rU<|(zV (Zg (r:=i+1)))<|(zP)<|iq<|jm ⟨r,i+1,rfl,Oa,Oa,?_,rfl,h⟩
 {
 rw [Vw t h0,<-hr];split<;>omega}}
 iterate 11 refine oq ?_
 refine(zP)<|ig<|uD<|nX<|ng<|iP<|lG ?_
 refine(zV (Zg (r:=i+1)))<|(zP)<|iq<|jm ⟨r,i+1,rfl,Oa,Oa,?_,rfl,h⟩
 {
 rw [Vw t h0,<-hr];split<;>omega}}
 refine uw<|(On)<|ig<|Zf ?_ ?_<;>intro hc
 {
 refine fQ<|qE ?_
 refine j_<|F6 ⟨_,rfl,?_⟩
 obtain rfl:i=t.nb:=Oa
 exact⟨_,_,_,_,rfl,.inr (.inl ⟨I,(fun j O j1=>by have:=yJ (j-1) Oa Oa;rw [show j-1+1=j by omega] at this;omega),Oa,rfl,rfl,rfl,rfl⟩),h.nl⟩}
 refine ZX<|(zP)<|nG<|lg [0] [0] 1000 nP h ?_;clear h;intro w h
 refine ou 0 (h_ 4 iY) ?_
 have ag:i=t.nb:=Oa
 have J:=YO t i.toNat;rw [<-hr] at J;have ae:=I.len (i:=r+1) Oa Oa
 refine(iQ 1 (fun w h=>(g_ 0 Zz h)))<|(b_ 2 (iy (kk:=0) Zk D.C.row.fP))<|(iQ 3 (fun w h=>(iR (u:=(vv 0)) dV (D.C.row.below h.below))))<|NR 4 rfl rfl rfl rfl (by kernel_rfl) rfl (fun w=>(Y0 (q:=1) rfl Zb rfl rfl rfl (D.C.p 0 Oa Oa).fP rfl Oa Oa)) ?_
 refine(b_ 5 (h_ 4 iY))<|(iQ 6 (fun w h=>(g_ 0 Zz h)))<|(b_ 7 gu)<|(b_ 8 (Zg (r:=r+1)))<|(b_ 9 (iy (kk:=r+1) Zk D.C.row.fP))<|(iQ 10 (fun w h=>(iR (u:=(vv (r+1))) dV (D.C.row.below h.below))))<|NR 11 rfl rfl rfl rfl (by kernel_rfl) rfl (fun w=>(Y0 (q:=1) rfl Zb rfl rfl rfl (D.C.p (r+1) Oa Oa).fP rfl Oa Oa)) ?_
 refine(b_ 12 nU)<|(b_ 13 nU)<|lS<|iP<|lW<|fQ ?_
 refine(zP)<|(zV (iW Zb (YR (q:=1) (D.C.p (r+1) Oa Oa).fP (D.C.room (r+1) Oa Oa) Oa).fP))<|(zP)<|nI<|ny (fun Y M w=>∃(c:Int) (j:Int),Y=((t.nf-j).toNat)/\(0<=j)/\(j<=t.nf)/\(c=Yc t r j.toNat)/\M= [(1,Or g1),(2,.int Oi r),(3,.int Oi c),(4,.bool false),(5,.int Oi 0),(8,(XB (vv 0) 1)),(9,(XB (vv (r+1)) 1)),(72,(XB (vv (r+1)) 1)),(73,.int Oi ((t.ln (r+1))-1)),(74,.int Oi j)]/\Sat w0 w [.blk g1 [.int Oi t.vars,.int Oi t.den,vB,vF,vC]]) ⟨(-1),0,rfl,Oa,Oa,?_,rfl,h⟩ ?_
 {
 rfl}
 clear h w
 rintro Y M w ⟨c,j,rfl,O,j1,F,rfl,h⟩
 have U:=Wy t r j.toNat;rw [<-F] at U
 refine fQ<|(zP)<|nG<|Zf ?_ ?_<;>intro hc
 {
 refine oC<|(zP)<|(zV (iy (kk:=j) Zb (YR (q:=1) (D.C.p (r+1) Oa Oa).fP (D.C.room (r+1) Oa Oa) Oa).fP))<|(zV (iR (u:= .int Oi ((t.C (r+1)) (j+1))) dw ((YR (q:=1) (D.C.p (r+1) Oa Oa).fP (D.C.room (r+1) Oa Oa) Oa).row Oa ((D.C.p (r+1) Oa Oa).below h.below))))<|(On)<|l9<|(On)<|ig<|Zf ?_ ?_<;>intro hc
 {
 refine sW<|n_<|rH<|iP<|lG<|(zV (Zg (r:=j+1)))<|(zP)<|iq<|jm ⟨c,j+1,rfl,Oa,Oa,?_,rfl,h⟩
 {
 rw [XG t r O,<-F];(repeat' split)<;>omega}}
 refine XJ<|zs2 ?_
 have U:=Wy t r j.toNat;rw [<-F] at U
 refine ig<|Zf ?_ ?_<;>intro hc
 {
 refine lW<|lg [0] [0] 1000 nP h ?_;clear h;intro w h
 refine ou 0 gu ?_
 have ad:=X6 (I.cell (i:=0) (j:=j+1) Oa Oa Oa Oa) (I.cell (i:=r+1) (j:=c+1) Oa Oa Oa Oa);have ac:=X6 (I.cell (i:=0) (j:=c+1) Oa Oa Oa Oa) (I.cell (i:=r+1) (j:=j+1) Oa Oa Oa Oa)
 have aa:t.F j≠t.F c:=fun Z=>by have:=I.Gj (i:=j) (j:=c) Oa Oa Oa Oa Oa Z;omega
 refine(b_ 1 gu)<|(b_ 2 (iy (kk:=j) Zb (YR (q:=1) (D.C.p 0 Oa Oa).fP (D.C.room 0 Oa Oa) Oa).fP))<|(iQ 3 (fun w h=>(iR (u:= .int Oi ((t.C 0) (j+1))) dw ((YR (q:=1) (D.C.p 0 Oa Oa).fP (D.C.room 0 Oa Oa) Oa).row Oa ((D.C.p 0 Oa Oa).below h.below)))))<|(b_ 4 gu)<|(b_ 5 gu)<|(b_ 6 (iy (kk:=c) Zb (YR (q:=1) (D.C.p (r+1) Oa Oa).fP (D.C.room (r+1) Oa Oa) Oa).fP))<|(iQ 7 (fun w h=>(iR (u:= .int Oi ((t.C (r+1)) (c+1))) dw ((YR (q:=1) (D.C.p (r+1) Oa Oa).fP (D.C.room (r+1) Oa Oa) Oa).row Oa ((D.C.p (r+1) Oa Oa).below h.below)))))<|BJ 8 (fun _=>(Yf (r:=(((t.C 0) (j+1))*((t.C (r+1)) (c+1)))) (e:=rfl) (hr:=(by unfold I64;omega)))) ?_
 refine(b_ 9 gu)<|(b_ 10 gu)<|(b_ 11 (iy (kk:=c) Zb (YR (q:=1) (D.C.p 0 Oa Oa).fP (D.C.room 0 Oa Oa) Oa).fP))<|(iQ 12 (fun w h=>(iR (u:= .int Oi ((t.C 0) (c+1))) dw ((YR (q:=1) (D.C.p 0 Oa Oa).fP (D.C.room 0 Oa Oa) Oa).row Oa ((D.C.p 0 Oa Oa).below h.below)))))<|(b_ 13 gu)<|BJ 14 (fun _=>(Yf (r:=(((t.C 0) (c+1))*((t.C (r+1)) (j+1)))) (e:=rfl) (hr:=(by unfold I64;omega)))) ?_
 refine(b_ 15 nU)<|(b_ 16 nU)<|lS<|iP<|lW ?_
 refine lg [0] [0] 1000 nP h ?_;clear h;intro w h
 refine(b_ 0 gu)<|(b_ 1 gu)<|(b_ 2 YC)<|(b_ 3 gu)<|AO 101 ?_ ?_<;>intro hc
 {
 refine(iV 4)<|(iV 5)<|(iV 6)<|(iV 7)<|(iV 8)<|(iV 9)<|(iV 10)<|(iV 11)<|(iV 12)<|(iV 13)<|(iV 14)<|(iV 15)<|(iV 16)<|(iV 17)<|EU 18 ?_
 refine(iV 19)<|(b_ 20 qj)<|lS<|iP<|rW<|sW<|n_<|rH<|iP<|lG ?_
 refine(zV (Zg (r:=j+1)))<|(zP)<|iq<|jm ⟨c,j+1,rfl,Oa,Oa,?_,rfl,h⟩
 {
 rw [XG t r O,<-F];(repeat' split)<;>omega}}
 refine(b_ 4 gu)<|(b_ 5 gu)<|(b_ 6 Y1)<|(b_ 7 gu)<|AO 105 ?_ ?_<;>intro hc
 {
 refine(b_ 8 (h_ 3 nK))<|(iQ 9 (fun w h=>(g_ 0 dV h)))<|(b_ 10 gu)<|(b_ 11 (iy (kk:=j) Zb D.F.fP))<|(iQ 12 (fun w h=>(iR (u:= .int Oi (t.F j)) dw (D.F.below h.below))))<|(b_ 13 (h_ 3 nK))<|(iQ 14 (fun w h=>(g_ 0 dV h)))<|(b_ 15 gu)<|(b_ 16 (iy (kk:=c) Zb D.F.fP))<|(iQ 17 (fun w h=>(iR (u:= .int Oi (t.F c)) dw (D.F.below h.below))))<|(b_ 18 YC)<|(b_ 19 qj)<|(b_ 20 pY)<|lS<|iP ?_
 refine Zf ?_ ?_<;>intro hc
 {
 refine sW<|n_<|rH<|iP<|lG<|(zV (Zg (r:=j+1)))<|(zP)<|iq<|jm ⟨c,j+1,rfl,Oa,Oa,?_,rfl,h⟩
 {
 rw [XG t r O,<-F];(repeat' split)<;>omega}}
 refine nX<|iP<|lG<|(On)<|nT<|(zV (Zg (r:=j+1)))<|(zP)<|iq<|jm ⟨j,j+1,rfl,Oa,Oa,?_,rfl,h⟩
 {
 rw [XG t r O,<-F];(repeat' split)<;>omega}}
 refine(iV 8)<|(iV 9)<|(iV 10)<|(iV 11)<|(iV 12)<|(iV 13)<|(iV 14)<|(iV 15)<|(iV 16)<|(iV 17)<|(iV 18)<|(b_ 19 pY)<|(b_ 20 pY)<|lS<|iP<|uD<|nX<|iP<|lG ?_
 refine(On)<|nT<|(zV (Zg (r:=j+1)))<|(zP)<|iq<|jm ⟨j,j+1,rfl,Oa,Oa,?_,rfl,h⟩
 {
 rw [XG t r O,<-F];(repeat' split)<;>omega}}
 refine nX<|iP<|lG<|(On)<|nT<|(zV (Zg (r:=j+1)))<|(zP)<|iq<|jm ⟨j,j+1,rfl,Oa,Oa,?_,rfl,h⟩
 {
 rw [XG t r O,<-F];(repeat' split)<;>omega}}
 refine uw<|(On)<|ig<|Zf ?_ ?_<;>intro hc
 {
 refine fQ<|qE ?_
 refine j_<|F6 ⟨_,rfl,?_⟩
 obtain rfl:i=t.nb:=Oa
 obtain rfl:j=t.nf:=Oa
 subst hr;exact⟨_,_,_,_,rfl,.inr (.inr (.inl ⟨I,(fun j O j1=>by have:=yJ (j-1) Oa Oa;rw [show j-1+1=j by omega] at this;omega),Oa,Oa,rfl,rfl,rfl,rfl⟩)),h.nl⟩}
 refine ZX<|En ?_
 refine jk<|F6 ⟨_,rfl,?_⟩
 obtain rfl:i=t.nb:=Oa
 obtain rfl:j=t.nf:=Oa
 subst hr;exact⟨_,_,_,_,rfl,.inr (.inr (.inr ⟨I,(fun j O j1=>by have:=yJ (j-1) Oa Oa;rw [show j-1+1=j by omega] at this;omega),Oa,Oa,rfl,F,rfl,rfl⟩)),h.nl⟩
theorem RJ:Zc Om 170=true:=Oc
theorem oD:Zc Om 66=true:=Oc
theorem Yt:ZN Om 107=some (.agg #[.int Oi 0,.int Oi 0,Oh,Oh,Oh],5,88):=Oc
theorem ZkU{vB vF vC:Value}{vv:Ov}{t:Tb}{row col:Int}(w0:World)(O:uI w0 vB vF vC vv t)(cA: -9223372036854775808<=row/\row<=9223372036854775807)(kQ: -9223372036854775808<=col/\col<=9223372036854775807):
   Calls Om 240 [.agg #[.int Oi t.vars,.int Oi t.den,vB,vF,vC],.int Oi row,.int Oi col].toArray w0 fun e w=>∃v,e= .returned v/\∃vB vF vC vv t' e,v= .tuple #[.agg #[.int Oi t'.vars,.int Oi t'.den,vB,vF,vC],.int Oi e]/\JB t row col t' e/\iK vB t'.nb/\iK vF t'.nf/\iK vC t'.nc/\Sat w0 w [.own vB 1 3 t'.nb (ints t'.B),.own vF 1 3 t'.nf (ints t'.F),.own vC 1 22 t'.nc vv,.sem (Frame.rows 3 t'.nc vv t'.ln t'.C)]:=by
 have hn:=O.F.fP.n0;have ak:=O.F.fP.n1;have hb:=O.B.fP.n0;have au:=O.B.fP.n1;have ar:=O.C.row.fP.n0;have aq:=O.C.row.fP.n1
 refine iE Tryz.func240 Tryz.ntmps240 fun w D=> ?_
 refine fQ<|iG (nS (cs:= [_,_,_,_,_]) D) ?_;rintro _ w ⟨g1,rfl,D⟩
 refine iG (oh (cs:= [_,_,_,_,_]) Yt D) ?_;rintro _ w ⟨g2,rfl,D⟩
 refine(zP)<|l9<|(zV (lH 0 iC D))<|iJ (xc0 I4) (Uy (t:=t) w (O.below D.below)) ?_;rintro _ w ⟨rfl,I⟩
 replace D:=D.cmp I;clear I
 refine(On)<|lX 23 ?_ ?_<;>intro hc;rotate_left
 refine iI gu ?_
 have hp:=(Od ‹¬¬(lK t)›)
 have U:=hp.n1
 have b2:=hp.n2
 have b3:=hp.m2
 have b4:=hp.v
 have b5:=hp.d1
 have b6:=hp.d2
 have b7:=hp.c
 refine(Oo)<|lX 27 ?_ ?_<;>intro hc;rotate_left
 refine(zP)<|(zV (h_ 2 lQ))<|(zV (g_ 0 dV D))<|(zV (iW Zb O.B.fP))<|(Oo)<|lX 34 ?_ ?_<;>intro hc;rotate_left
 refine qE ?_
 refine lX 38 ?_ ?_<;>intro hc;rotate_left
 refine(zP)<|(zV (h_ 3 nK))<|(zV (g_ 0 dV D))<|(zV (iW Zb O.F.fP))<|(Oo)<|lX 45 ?_ ?_<;>intro hc;rotate_left
 refine(zV (h_ 4 iY))<|(zV (g_ 0 Zz D))<|(zP)<|(zV (Zg (r:=row+1)))<|(zV (iy (kk:=row+1) Zk O.C.row.fP))<|iI (iR (u:=(vv (row+1))) dV (O.C.row.below D.below)) ?_
 have an:=hp.len (i:=row+1) Oa Oa
 refine(zP)<|(zV (Zg (r:=col+1)))<|(zV (iy (kk:=col+1) Zb (O.C.p (row+1) Oa Oa).fP))<|(zV (iR (u:= .int Oi ((t.C (row+1)) (col+1))) dw ((O.C.p (row+1) Oa Oa).below D.below)))<|(On)<|ig<|Zf ?_ ?_<;>intro hc
 {
 refine fQ<|(zV (lF (v:= .agg #[.int Oi 0,.int Oi 0,Oh,Oh,Oh])))<|lJ (nD 1 iC D) ?_;clear D;rintro w D
 refine(zP)<|j_<|Ye 1 iC D ⟨_,rfl,?_⟩
 exact⟨_,_,_,fun _=>undef,Tb.zero,1,rfl,.inl ⟨by first|exact fun hh=>absurd hh.1 ‹_›|(rintro⟨_,p1,p2,p3,p4,p5⟩;omega),rfl,rfl⟩,d_,d_,d_,((((D.sub (.cons _ (.cons _ .slnil))).fU 1 3 (ints Tb.zero.B)).fU 1 3 (ints Tb.zero.F)).fU 1 22 (fun _=>undef)).iF 3 (fun _=>undef) Tb.zero.ln Tb.zero.C⟩}
 refine ZX<|(zP)<|iI (Zg (r:=row+1)) ?_
 have ac:t.C (row+1) (col+1)≠0:=Oa
 have ag:=hp.cell (i:=row+1) (j:=col+1) Oa Oa Oa Oa
 refine(zP)<|(zV (Zg (r:=col+1)))<|(On)<|nG<|lg [0,1] [0,1] 1000 nP D ?_;clear D;intro w D
 refine(b_ 0 (h_ 4 iY))<|(iQ 1 (fun w D=>(g_ 0 Zz D)))<|(b_ 2 gu)<|(b_ 3 (iy (kk:=row+1) Zk O.C.row.fP))<|(iQ 4 (fun w D=>(iR (u:=(vv (row+1))) dV (O.C.row.below D.below))))<|(b_ 5 gu)<|(b_ 6 (iy (kk:=col+1) Zb (O.C.p (row+1) Oa Oa).fP))<|(iQ 7 (fun w D=>(iR (u:= .int Oi ((t.C (row+1)) (col+1))) dw ((O.C.p (row+1) Oa Oa).below D.below))))<|(b_ 8 (h_ 1 oK))<|(iQ 9 (fun w D=>(g_ 0 dw D)))<|(b_ 10 nU)<|(b_ 11 nU)<|lS<|iP<|lW<| ?_
 refine WT (fun M w=>∃(g3:Nat) (J:Value) (F:Value) (W:Value) (Z:Ov),(iK J t.nb)/\(iK F t.nf)/\(iK W t.nc)/\(∀k,0<=k->k<t.nc->iK (Z k) (t.ln k))/\M= [(0,.agg #[.int Oi t.vars,.int Oi t.den,vB,vF,vC]),(1,.int Oi row),(2,.int Oi col),(3,Or g1),(6,Or g2),(7,.int Oi 0),(20,.agg #[.int Oi t.vars,.int Oi t.den,vB,vF,vC]),(21,B (lK t)),(22,B (¬(lK t))),(23,.bool false),(24,.int Oi row),(25,B (row<0)),(26,B (row<0)),(27,.bool false),(28,.int Oi row),(29,.pointer (some ⟨g1,2,none⟩)),(30,vB),(31,.int Oi t.nb),(32,B (t.nb<=row)),(33,B (t.nb<=row)),(34,.bool false),(35,.int Oi col),(36,B (col<0)),(37,B (col<0)),(38,.bool false),(39,.int Oi col),(40,.pointer (some ⟨g1,3,none⟩)),(41,vF),(42,.int Oi t.nf),(43,B (t.nf<=col)),(44,B (t.nf<=col)),(45,.bool false),(46,.pointer (some ⟨g1,4,none⟩)),(47,vC),(48,.int Oi row),(49,.int Oi (row+1)),(50,.pointer (some (pW vC (row+1)))),(51,(vv (row+1))),(52,.int Oi col),(53,.int Oi (col+1)),(54,.pointer (some (pW (vv (row+1)) (col+1)))),(55,.int Oi ((t.C (row+1)) (col+1))),(56,B (((t.C (row+1)) (col+1))=0)),(57,B (((t.C (row+1)) (col+1))=0)),(59,.int Oi row),(60,.int Oi (row+1)),(61,.int Oi col),(62,.int Oi (col+1)),(8,.int Oi (row+1)),(9,.int Oi (col+1)),(63,.pointer (some ⟨g1,4,none⟩)),(64,vC),(65,.int Oi (row+1)),(66,.pointer (some (pW vC (row+1)))),(67,(vv (row+1))),(68,.int Oi (col+1)),(69,.pointer (some (pW (vv (row+1)) (col+1)))),(70,.int Oi ((t.C (row+1)) (col+1))),(71,.pointer (some ⟨g1,1,none⟩)),(72,.int Oi t.den),(10,.int Oi ((t.C (row+1)) (col+1))),(11,.int Oi t.den),(73,Or g1),(74,.int Oi t.vars),(75,.int Oi ((t.C (row+1)) (col+1))),(76,.pointer (some ⟨g1,2,none⟩)),(77,vB),(79,.pointer (some ⟨g1,3,none⟩)),(80,vF),(82,.pointer (some ⟨g1,4,none⟩)),(83,vC),(78,J),(81,F),(84,W),(85,.agg #[.int Oi t.vars,.int Oi ((t.C (row+1)) (col+1)),J,F,W]),(12,Or g3)]/\Sat w0 w [.blk g1 [.int Oi t.vars,.int Oi t.den,vB,vF,vC],.blk g2 [.int Oi 0,.int Oi 0,Oh,Oh,Oh],.own J 1 3 t.nb (ints t.B),.own F 1 3 t.nf (ints t.F),.own W 1 22 t.nc Z,.sem (Frame.rows 3 t.nc Z t.ln t.C),.blk g3 [.int Oi t.vars,.int Oi ((t.C (row+1)) (col+1)),J,F,W]]) ?_ ?_
 {
 refine lg [0,1] [0,1] 14 nP D ?_;clear D;intro w D
 refine(b_ 0 (h_ 0 oU))<|(iQ 1 (fun w D=>(g_ 0 dw D)))<|(b_ 2 gu)<|(b_ 3 (h_ 2 lQ))<|(iQ 4 (fun w D=>(g_ 0 dV D)))<|(b_ 6 (h_ 3 nK))<|(iQ 7 (fun w D=>(g_ 0 dV D)))<|(b_ 9 (h_ 4 iY))<|(iQ 10 (fun w D=>(g_ 0 Zz D)))<|Xw (r:= [5,13]) ((ZY ?_ (ZY ?_ Xv)))
 {
 refine Fb (xc0 oD) (lU (n:=t.nb) (f:=t.B) w (O.B.below D.below) Oa) ?_;rintro J w ⟨_,rfl,qb,I⟩
 replace D:=(D.comp I).n3;clear I
 refine⟨⟨fun _=>D.pk [0,1],D.pk [0,1]⟩,?_⟩
 refine Xw (r:= [8,13]) ((ZY ?_ (ZY ?_ Xv)))
 {
 refine Fb (xc0 oD) (lU (n:=t.nf) (f:=t.F) w (O.F.below D.below) Oa) ?_;rintro F w ⟨_,rfl,qd,I⟩
 replace D:=(D.comp I).n4;clear I
 refine⟨⟨fun _=>D.pk [0,1],D.pk [0,1]⟩,?_⟩
 refine Xw (r:= [11,13]) ((ZY ?_ (ZY ?_ Xv)))
 {
 refine Fb (xc0 RJ) (Vi (n:=t.nc) (vv:=vv) (ln:=t.ln) (f:=t.C) w (O.C.below D.below) Oa (fun k k0 k1=>by have:=hp.len (i:=k) Oa Oa;omega)) ?_;rintro W w ⟨_,Z,rfl,qf,I⟩
 replace D:=(D.comp I).n6;clear I
 have qB:=fun k (k0:0<=k) (k1:k<t.nc)=>D.iw 5 rfl k0 k1
 refine⟨⟨fun _=>D.pk [0,1],D.pk [0,1]⟩,?_⟩
 refine BJ 12 (fun _=>(lF (v:= .agg #[.int Oi t.vars,.int Oi ((t.C (row+1)) (col+1)),J,F,W]) (hr:=by obtain⟨_,_,_,_,rfl,_⟩:=qb;obtain⟨_,_,_,_,rfl,_⟩:=qd;obtain⟨_,_,_,_,rfl,_⟩:=qf;kernel_rfl))) ?_
 refine oZ 13 (oh (cs:= [_,_,_,_,_]) Yt D) ?_;rintro _ w ⟨g3,rfl,D⟩
 refine⟨⟨fun _=>D.pk [0,1],D.pk [0,1]⟩,?_⟩
 refine nR 14 (nD 6 iC D (hd:=(Za rfl (Za rfl (Za qb.one (Za qd.one (Za qf.one Zj))))))) ?_;clear D;rintro w D
 refine⟨⟨fun h=>absurd h (by decide),D.pk [0,1]⟩,?_⟩
 refine lS<|tK ⟨g3,J,F,W,Z,qb,qd,qf,qB,rfl,D⟩}
 refine tC (oh (cs:= [_,_,_,_,_]) Yt D) ?_;rintro _ w ⟨g3,rfl,D⟩
 refine⟨⟨fun _=>D.pk [0,1],D.pk [0,1]⟩,?_⟩
 refine pK 11 (xc0 RJ) (Vi (n:=t.nc) (vv:=vv) (ln:=t.ln) (f:=t.C) w (O.C.below D.below) Oa (fun k k0 k1=>by have:=hp.len (i:=k) Oa Oa;omega)) ?_;rintro W w ⟨_,Z,rfl,qf,I⟩
 replace D:=(D.comp I).n7;clear I
 have qB:=fun k (k0:0<=k) (k1:k<t.nc)=>D.iw 6 rfl k0 k1
 refine⟨⟨fun _=>D.pk [0,1],D.pk [0,1]⟩,?_⟩
 refine BJ 12 (fun _=>(lF (v:= .agg #[.int Oi t.vars,.int Oi ((t.C (row+1)) (col+1)),J,F,W]) (hr:=by obtain⟨_,_,_,_,rfl,_⟩:=qb;obtain⟨_,_,_,_,rfl,_⟩:=qd;obtain⟨_,_,_,_,rfl,_⟩:=qf;kernel_rfl))) ?_
 refine nR 14 (nD 4 iC D (hd:=(Za rfl (Za rfl (Za qb.one (Za qd.one (Za qf.one Zj))))))) ?_;clear D;rintro w D
 refine⟨⟨fun h=>absurd h (by decide),D.pk [0,1]⟩,?_⟩
 refine lS<|tK ⟨g3,J,F,W,Z,qb,qd,qf,qB,rfl,D.pk [0,1,2,3,5,6,4]⟩}
 refine tC (oh (cs:= [_,_,_,_,_]) Yt D) ?_;rintro _ w ⟨g3,rfl,D⟩
 refine⟨⟨fun _=>D.pk [0,1],D.pk [0,1]⟩,?_⟩
 refine pK 8 (xc0 oD) (lU (n:=t.nf) (f:=t.F) w (O.F.below D.below) Oa) ?_;rintro F w ⟨_,rfl,qd,I⟩
 replace D:=(D.comp I).n5;clear I
 refine⟨⟨fun _=>D.pk [0,1],D.pk [0,1]⟩,?_⟩
 refine pK 11 (xc0 RJ) (Vi (n:=t.nc) (vv:=vv) (ln:=t.ln) (f:=t.C) w (O.C.below D.below) Oa (fun k k0 k1=>by have:=hp.len (i:=k) Oa Oa;omega)) ?_;rintro W w ⟨_,Z,rfl,qf,I⟩
 replace D:=(D.comp I).n7;clear I
 have qB:=fun k (k0:0<=k) (k1:k<t.nc)=>D.iw 6 rfl k0 k1
 refine⟨⟨fun _=>D.pk [0,1],D.pk [0,1]⟩,?_⟩
 refine BJ 12 (fun _=>(lF (v:= .agg #[.int Oi t.vars,.int Oi ((t.C (row+1)) (col+1)),J,F,W]) (hr:=by obtain⟨_,_,_,_,rfl,_⟩:=qb;obtain⟨_,_,_,_,rfl,_⟩:=qd;obtain⟨_,_,_,_,rfl,_⟩:=qf;kernel_rfl))) ?_
 refine nR 14 (nD 3 iC D (hd:=(Za rfl (Za rfl (Za qb.one (Za qd.one (Za qf.one Zj))))))) ?_;clear D;rintro w D
 refine⟨⟨fun h=>absurd h (by decide),D.pk [0,1]⟩,?_⟩
 refine lS<|tK ⟨g3,J,F,W,Z,qb,qd,qf,qB,rfl,D.pk [0,1,2,4,5,6,3]⟩}
 refine tC (oh (cs:= [_,_,_,_,_]) Yt D) ?_;rintro _ w ⟨g3,rfl,D⟩
 refine⟨⟨fun _=>D.pk [0,1],D.pk [0,1]⟩,?_⟩
 refine pK 5 (xc0 oD) (lU (n:=t.nb) (f:=t.B) w (O.B.below D.below) Oa) ?_;rintro J w ⟨_,rfl,qb,I⟩
 replace D:=(D.comp I).n4;clear I
 refine⟨⟨fun _=>D.pk [0,1],D.pk [0,1]⟩,?_⟩
 refine pK 8 (xc0 oD) (lU (n:=t.nf) (f:=t.F) w (O.F.below D.below) Oa) ?_;rintro F w ⟨_,rfl,qd,I⟩
 replace D:=(D.comp I).n5;clear I
 refine⟨⟨fun _=>D.pk [0,1],D.pk [0,1]⟩,?_⟩
 refine pK 11 (xc0 RJ) (Vi (n:=t.nc) (vv:=vv) (ln:=t.ln) (f:=t.C) w (O.C.below D.below) Oa (fun k k0 k1=>by have:=hp.len (i:=k) Oa Oa;omega)) ?_;rintro W w ⟨_,Z,rfl,qf,I⟩
 replace D:=(D.comp I).n7;clear I
 have qB:=fun k (k0:0<=k) (k1:k<t.nc)=>D.iw 6 rfl k0 k1
 refine⟨⟨fun _=>D.pk [0,1],D.pk [0,1]⟩,?_⟩
 refine BJ 12 (fun _=>(lF (v:= .agg #[.int Oi t.vars,.int Oi ((t.C (row+1)) (col+1)),J,F,W]) (hr:=by obtain⟨_,_,_,_,rfl,_⟩:=qb;obtain⟨_,_,_,_,rfl,_⟩:=qd;obtain⟨_,_,_,_,rfl,_⟩:=qf;kernel_rfl))) ?_
 refine nR 14 (nD 2 iC D (hd:=(Za rfl (Za rfl (Za qb.one (Za qd.one (Za qf.one Zj))))))) ?_;clear D;rintro w D
 refine⟨⟨fun h=>absurd h (by decide),D.pk [0,1]⟩,?_⟩
 refine lS<|tK ⟨g3,J,F,W,Z,qb,qd,qf,qB,rfl,D.pk [0,1,3,4,5,6,2]⟩}
 clear D w;rintro M w ⟨g3,J,F,W,Z,qb,qd,qf,qB,rfl,D⟩
 refine iP<|lW<|lg [0,1,2,3,4,5,6] [0,1,4,5,6] 17 nP D ?_;clear D;intro w D
 refine(b_ 0 (h_ 2 lQ))<|(iQ 1 (fun w D=>(g_ 4 dV D)))<|(b_ 2 gu)<|(b_ 3 (h_ 3 nK))<|(iQ 4 (fun w D=>(g_ 4 dV D)))<|(b_ 5 gu)<|(b_ 6 (h_ 3 nK))<|(iQ 7 (fun w D=>(g_ 0 dV D)))<|(b_ 8 gu)<|(b_ 9 (iy (kk:=col) Zb O.F.fP))<|(iQ 10 (fun w D=>(iR (u:= .int Oi (t.F col)) dw (O.F.below D.below))))<|(b_ 11 (h_ 2 lQ))<|(iQ 12 (fun w D=>(g_ 0 dV D)))<|(b_ 13 gu)<|ou 14 (iy (kk:=row) Zb O.B.fP) ?_
 refine(iQ 15 (fun w D=>(iR (u:= .int Oi (t.B row)) dw (O.B.below D.below))))<|(b_ 16 (iy (kk:=row) Zb qb))<|nR 17 (rV 2 dw D (ZA _ _ _)) ?_;clear D;rintro w D
 refine⟨⟨fun h=>absurd h (by decide),D.pk [0,1,4,5,6]⟩,?_⟩
 refine(b_ 18 (iy (kk:=col) Zb qd))<|nR 19 (rV 3 dw D (ZA _ _ _)) ?_;clear D;rintro w D
 refine⟨⟨fun h=>absurd h (by decide),D.pk [0,1,4,5,6]⟩,?_⟩
 refine lS<|iP<|lW<|fQ ?_
 refine(zV (h_ 4 iY))<|(zV (g_ 0 Zz D))<|(zV (iW Zk O.C.row.fP))<|(zP)<|nI<|ny (fun mm M w=>∃(Y:Og) (i:Int),mm=((t.nc-i).toNat)/\(0<=i)/\(i<=t.nc)/\(∀a b,0<=a->a<i->0<=b->b<=t.nf->Y a b=Yh t (row+1) (col+1) a b)/\(∀a b,0<=a->a<i->0<=b->b<=t.nf->JD t (row+1) (col+1) a b)/\M= [(3,Or g1),(6,Or g2),(8,.int Oi (row+1)),(9,.int Oi (col+1)),(10,.int Oi ((t.C (row+1)) (col+1))),(11,.int Oi t.den),(12,Or g3),(105,vC),(106,.int Oi t.nc),(107,.int Oi i)]/\Sat w0 w [.blk g1 [.int Oi t.vars,.int Oi t.den,vB,vF,vC],.blk g2 [.int Oi 0,.int Oi 0,Oh,Oh,Oh],.own J 1 3 t.nb (ints (upd t.B row (t.F col))),.own F 1 3 t.nf (ints (upd t.F col (t.B row))),.own W 1 22 t.nc Z,.sem (Frame.rows 3 t.nc Z t.ln Y),.blk g3 [.int Oi t.vars,.int Oi ((t.C (row+1)) (col+1)),J,F,W]]) ⟨t.C,0,rfl,Oa,Oa,?_,?_,rfl,D⟩ ?_
 {
 intro a b a0 a1;omega}
 {
 intro a b a0 a1;omega}
 clear D w
 rintro mm M w ⟨Y,i,rfl,h0,h1,hcf,af,rfl,D⟩
 refine fQ<|(zP)<|nG<|Zf ?_ ?_<;>intro hc
 {
 refine oC<|(zP)<|(zV (iy (kk:=i) Zk O.C.row.fP))<|iI (iR (u:=(vv i)) dV (O.C.row.below D.below)) ?_
 have ao:=hp.len (i:=i) Oa Oa
 refine(On)<|iT<|(zP)<|(zV (iW Zb (O.C.p i Oa Oa).fP))<|(zP)<|nI<|ny (fun mm M w=>∃(Y:Og) (j:Int),mm=((t.nf+1-j).toNat)/\(0<=j)/\(j<=t.nf+1)/\(∀a b,0<=a->a<i->0<=b->b<=t.nf->Y a b=Yh t (row+1) (col+1) a b)/\(∀b,0<=b->b<j->Y i b=Yh t (row+1) (col+1) i b)/\(∀b,0<=b->b<j->JD t (row+1) (col+1) i b)/\M= [(3,Or g1),(6,Or g2),(8,.int Oi (row+1)),(9,.int Oi (col+1)),(10,.int Oi ((t.C (row+1)) (col+1))),(11,.int Oi t.den),(12,Or g3),(13,.int Oi i),(14,(vv i)),(105,vC),(106,.int Oi t.nc),(107,.int Oi i),(112,(vv i)),(113,.int Oi (t.ln i)),(114,.int Oi j)]/\Sat w0 w [.blk g1 [.int Oi t.vars,.int Oi t.den,vB,vF,vC],.blk g2 [.int Oi 0,.int Oi 0,Oh,Oh,Oh],.own J 1 3 t.nb (ints (upd t.B row (t.F col))),.own F 1 3 t.nf (ints (upd t.F col (t.B row))),.own W 1 22 t.nc Z,.sem (Frame.rows 3 t.nc Z t.ln Y),.blk g3 [.int Oi t.vars,.int Oi ((t.C (row+1)) (col+1)),J,F,W]]) ⟨Y,0,rfl,Oa,Oa,?_,?_,?_,rfl,D⟩ ?_
 {
 exact hcf}
 {
 intro b N U;omega}
 {
 intro b N U;omega}
 clear D w
 rintro mm M w ⟨Y,j,rfl,j0,j1,zR,qu,hdr,rfl,D⟩
 refine fQ<|(zP)<|nG<|Zf ?_ ?_<;>intro hc
 {
 refine oC<|(zP)<|(zV (iy (kk:=j) Zb (O.C.p i Oa Oa).fP))<|iI (iR (u:= .int Oi ((t.C i) j)) dw ((O.C.p i Oa Oa).below D.below)) ?_
 have ah:=hp.cell (i:=i) (j:=j) Oa Oa Oa Oa
 refine(On)<|ig<|lW<|o7<|fQ<|qE ?_
 refine lX 123 ?_ ?_<;>intro hc
 {
 refine uK ?_
 refine ig<|Zf ?_ ?_<;>intro hc
 {
 refine lG<|(On)<|nT<|(zV (h_ 4 iY))<|(zV (g_ 6 Zz D))<|(zP)<|(zV (iy (kk:=i) Zk qf))<|iI (iR (u:=(Z i)) dV (D.f_ 4 rfl)) ?_
 skip
 refine(On)<|(zV (iy (kk:=j) Zb (qB i Oa Oa)))<|lJ (Ep 5 dw D rfl) ?_;clear D;rintro w D
 refine nT<|(zV (Zg (r:=j+1)))<|(zP)<|iq<|jm ⟨upd Y i (upd (Y i) j t.den),j+1,rfl,Oa,Oa,?_,?_,?_,rfl,D⟩
 {
 intro a b a0 a1 N U;rw [lZ Oa];exact zR a b a0 a1 N U}
 {
 intro b N U
 by_cases e:b=j
 · subst e;rw [iU,iU];unfold Yh;(repeat' split)<;>first|rfl|omega|(exfalso;omega)
 · rw [iU,lZ e];exact qu b N Oa}
 {
 intro b N U
 by_cases e:b=j
 · subst e;intro e1 e2;first|omega|exact Od ‹_›
 · exact hdr b N Oa}}
 refine fQ<|(On)<|(zV (F8 Y1))<|(zP)<|ig<|rW<|lG ?_
 refine(zP)<|iI (ET (r:= -(((t.C i) j))) (hr:=(by unfold I64;omega))) ?_
 refine(zP)<|nT<|(zV (h_ 4 iY))<|(zV (g_ 6 Zz D))<|(zP)<|(zV (iy (kk:=i) Zk qf))<|iI (iR (u:=(Z i)) dV (D.f_ 4 rfl)) ?_
 skip
 refine(On)<|(zV (iy (kk:=j) Zb (qB i Oa Oa)))<|lJ (Ep 5 dw D rfl) ?_;clear D;rintro w D
 refine nT<|(zV (Zg (r:=j+1)))<|(zP)<|iq<|jm ⟨upd Y i (upd (Y i) j (-(((t.C i) j)))),j+1,rfl,Oa,Oa,?_,?_,?_,rfl,D⟩
 {
 intro a b a0 a1 N U;rw [lZ Oa];exact zR a b a0 a1 N U}
 {
 intro b N U
 by_cases e:b=j
 · subst e;rw [iU,iU];unfold Yh;(repeat' split)<;>first|rfl|omega|(exfalso;omega)
 · rw [iU,lZ e];exact qu b N Oa}
 {
 intro b N U
 by_cases e:b=j
 · subst e;intro e1 e2;first|omega|exact Od ‹_›
 · exact hdr b N Oa}}
 iterate 3 refine oq ?_
 refine(On)<|ig<|uD<|fQ ?_
 refine qE ?_
 refine ig<|Zf ?_ ?_<;>intro hc
 {
 exfalso;omega}
 refine fQ<|qE ?_
 refine ig<|Zf ?_ ?_<;>intro hc
 {
 refine lW<|lg [0,1,2,3,4,5,6] [0,1,2,3,4,5,6] 1000 nP D ?_;clear D;intro w D
 refine ou 0 gu ?_
 have am:=X6 ag ah;have al:=X6 (hp.cell (i:=i) (j:=col+1) Oa Oa Oa Oa) (hp.cell (i:=row+1) (j:=j) Oa Oa Oa Oa)
 have ai:=YM (a:=t.C (row+1) (col+1)*t.C i j-t.C i (col+1)*t.C (row+1) j) (d:=t.den) (A:=2305843009213693952) Oa Oa
 refine(b_ 1 gu)<|BJ 2 (fun _=>(Yf (r:=(((t.C (row+1)) (col+1))*((t.C i) j))) (e:=rfl) (hr:=(by unfold I64;omega)))) ?_
 refine(b_ 3 gu)<|(b_ 4 gu)<|(b_ 5 (iy (kk:=col+1) Zb (O.C.p i Oa Oa).fP))<|(iQ 6 (fun w D=>(iR (u:= .int Oi ((t.C i) (col+1))) dw ((O.C.p i Oa Oa).below D.below))))<|(b_ 7 (h_ 4 iY))<|(iQ 8 (fun w D=>(g_ 0 Zz D)))<|(b_ 9 gu)<|(b_ 10 (iy (kk:=row+1) Zk O.C.row.fP))<|(iQ 11 (fun w D=>(iR (u:=(vv (row+1))) dV (O.C.row.below D.below))))<|(b_ 12 gu)<|(b_ 13 (iy (kk:=j) Zb (O.C.p (row+1) Oa Oa).fP))<|(iQ 14 (fun w D=>(iR (u:= .int Oi ((t.C (row+1)) j)) dw ((O.C.p (row+1) Oa Oa).below D.below))))<|BJ 15 (fun _=>(Yf (r:=(((t.C i) (col+1))*((t.C (row+1)) j))) (e:=rfl) (hr:=(by unfold I64;omega)))) ?_
 refine BJ 16 (fun _=>(Zr (r:=(((t.C (row+1)) (col+1))*((t.C i) j))-(((t.C i) (col+1))*((t.C (row+1)) j))) (hr:=(by unfold I64;omega)))) ?_
 refine(b_ 17 nU)<|lS<|iP<|lW<|fQ ?_
 refine(On)<|(zV (DW (r:=(Int.tmod ((((t.C (row+1)) (col+1))*((t.C i) j))-(((t.C i) (col+1))*((t.C (row+1)) j))) t.den)) (hn:=Oa)))<|(zP)<|ig<|Zf ?_ ?_<;>intro hc
 {
 refine fQ<|(zV (lF (v:= .agg #[.int Oi 0,.int Oi 0,Oh,Oh,Oh])))<|lJ (nD 1 iC D) ?_;clear D;rintro w D
 refine(zP)<|ig<|sZ<|m_<|og<|m_<|og<|m_<|m_<|og<|og<|m_<|m_<|og<|m_<|Ye 1 iC D ⟨_,rfl,?_⟩
 exact⟨_,_,_,fun _=>undef,Tb.zero,4,rfl,.inr (.inl ⟨⟨hp,Oa,Oa,Oa,Oa,ac⟩,fun hd=>by have:=hd i j h0 Oa j0 Oa Oa Oa;omega,rfl,rfl⟩),d_,d_,d_,((((D.sub (.cons _ (.cons _ (.cons _ (.cons _ (.cons _ (.cons _ (.cons _ .slnil)))))))).fU 1 3 (ints Tb.zero.B)).fU 1 3 (ints Tb.zero.F)).fU 1 22 (fun _=>undef)).iF 3 (fun _=>undef) Tb.zero.ln Tb.zero.C⟩}
 refine nX<|iP<|lG<|(On)<|iI (V3 (r:=(Int.tdiv ((((t.C (row+1)) (col+1))*((t.C i) j))-(((t.C i) (col+1))*((t.C (row+1)) j))) t.den)) (hn:=Oa) (hr:=(by unfold I64;omega))) ?_
 refine(zP)<|nT<|(zV (h_ 4 iY))<|(zV (g_ 6 Zz D))<|(zP)<|(zV (iy (kk:=i) Zk qf))<|iI (iR (u:=(Z i)) dV (D.f_ 4 rfl)) ?_
 skip
 refine(On)<|(zV (iy (kk:=j) Zb (qB i Oa Oa)))<|lJ (Ep 5 dw D rfl) ?_;clear D;rintro w D
 refine nT<|(zV (Zg (r:=j+1)))<|(zP)<|iq<|jm ⟨upd Y i (upd (Y i) j (Int.tdiv ((((t.C (row+1)) (col+1))*((t.C i) j))-(((t.C i) (col+1))*((t.C (row+1)) j))) t.den)),j+1,rfl,Oa,Oa,?_,?_,?_,rfl,D⟩
 {
 intro a b a0 a1 N U;rw [lZ Oa];exact zR a b a0 a1 N U}
 {
 intro b N U
 by_cases e:b=j
 · subst e;rw [iU,iU];unfold Yh;(repeat' split)<;>first|rfl|omega|(exfalso;omega)
 · rw [iU,lZ e];exact qu b N Oa}
 {
 intro b N U
 by_cases e:b=j
 · subst e;intro e1 e2;first|omega|exact Od ‹_›
 · exact hdr b N Oa}}
 refine rU<|(zV (h_ 4 iY))<|(zV (g_ 6 Zz D))<|(zP)<|(zV (iy (kk:=i) Zk qf))<|iI (iR (u:=(Z i)) dV (D.f_ 4 rfl)) ?_
 skip
 refine(On)<|(zV (iy (kk:=j) Zb (qB i Oa Oa)))<|lJ (Ep 5 dw D rfl) ?_;clear D;rintro w D
 refine nT<|(zV (Zg (r:=j+1)))<|(zP)<|iq<|jm ⟨upd Y i (upd (Y i) j ((t.C i) j)),j+1,rfl,Oa,Oa,?_,?_,?_,rfl,D⟩
 {
 intro a b a0 a1 N U;rw [lZ Oa];exact zR a b a0 a1 N U}
 {
 intro b N U
 by_cases e:b=j
 · subst e;rw [iU,iU];unfold Yh;(repeat' split)<;>first|rfl|omega|(exfalso;omega)
 · rw [iU,lZ e];exact qu b N Oa}
 {
 intro b N U
 by_cases e:b=j
 · subst e;intro e1 e2;first|omega|exact Od ‹_›
 · exact hdr b N Oa}}
 refine sW<|n_<|n_<|rH<|ng<|iP<|lG<|(zV (Zg (r:=i+1)))<|(zP)<|iq<|jm ⟨Y,i+1,rfl,Oa,Oa,?_,?_,rfl,D⟩
 {
 intro a b a0 a1 N U
 by_cases e:a=i
 · subst e;exact qu b N Oa
 · exact zR a b a0 Oa N U}
 {
 intro a b a0 a1 N U
 by_cases e:a=i
 · subst e;exact hdr b N Oa
 · exact af a b a0 Oa N U}}
 refine uw<|iI gu ?_
 have ap:i=t.nc:=Oa
 have bS:EO t row col:=fun a b a0 a1 N U=>af a b a0 Oa N U
 refine(zP)<|ig<|Zf ?_ ?_<;>intro hc
 {
 refine fQ<|(zP)<|iI (ET (r:= -(((t.C (row+1)) (col+1)))) (hr:=(by unfold I64;omega))) ?_
 refine(zV (h_ 1 oK))<|lJ (xsb 6 dw D) ?_;clear D;rintro w D
 refine iT<|(zV (h_ 4 iY))<|(zV (g_ 6 Zz D))<|(zV (iW Zk qf))<|(zP)<|nI<|ny (fun mm M w=>∃(Y:Og) (k:Int),mm=((t.nc-k).toNat)/\(0<=k)/\(k<=t.nc)/\(∀a b,0<=a->a<k->0<=b->b<=t.nf->Y a b= -Yh t (row+1) (col+1) a b)/\(∀a b,k<=a->a<t.nc->0<=b->b<=t.nf->Y a b=Yh t (row+1) (col+1) a b)/\M= [(6,Or g2),(12,Or g3),(180,W),(181,.int Oi t.nc),(182,.int Oi k)]/\Sat w0 w [.blk g1 [.int Oi t.vars,.int Oi t.den,vB,vF,vC],.blk g2 [.int Oi 0,.int Oi 0,Oh,Oh,Oh],.own J 1 3 t.nb (ints (upd t.B row (t.F col))),.own F 1 3 t.nf (ints (upd t.F col (t.B row))),.own W 1 22 t.nc Z,.sem (Frame.rows 3 t.nc Z t.ln Y),.blk g3 [.int Oi t.vars,.int Oi (-(((t.C (row+1)) (col+1)))),J,F,W]]) ⟨Y,0,rfl,Oa,Oa,?_,?_,rfl,D⟩ ?_
 {
 intro a b a0 a1;omega}
 {
 intro a b a0 a1 N U;exact hcf a b Oa Oa N U}
 clear D w
 rintro mm M w ⟨Y,k,rfl,k0,k1,ad,ab,rfl,D⟩
 refine fQ<|(zP)<|nG<|Zf ?_ ?_<;>intro hc
 {
 refine oC<|(zV (iy (kk:=k) Zk qf))<|iI (iR (u:=(Z k)) dV (D.f_ 4 rfl)) ?_
 have ae:=hp.len (i:=k) Oa Oa
 refine(zP)<|iT<|(zP)<|(zV (iW Zb (qB k Oa Oa)))<|(zP)<|nI<|ny (fun mm M w=>∃(Y:Og) (q:Int),mm=((t.nf+1-q).toNat)/\(0<=q)/\(q<=t.nf+1)/\(∀a b,0<=a->a<k->0<=b->b<=t.nf->Y a b= -Yh t (row+1) (col+1) a b)/\(∀a b,k+1<=a->a<t.nc->0<=b->b<=t.nf->Y a b=Yh t (row+1) (col+1) a b)/\(∀b,0<=b->b<q->Y k b= -Yh t (row+1) (col+1) k b)/\(∀b,q<=b->b<=t.nf->Y k b=Yh t (row+1) (col+1) k b)/\M= [(6,Or g2),(12,Or g3),(18,(Z k)),(180,W),(181,.int Oi t.nc),(182,.int Oi k),(187,.int Oi (t.ln k)),(188,.int Oi q)]/\Sat w0 w [.blk g1 [.int Oi t.vars,.int Oi t.den,vB,vF,vC],.blk g2 [.int Oi 0,.int Oi 0,Oh,Oh,Oh],.own J 1 3 t.nb (ints (upd t.B row (t.F col))),.own F 1 3 t.nf (ints (upd t.F col (t.B row))),.own W 1 22 t.nc Z,.sem (Frame.rows 3 t.nc Z t.ln Y),.blk g3 [.int Oi t.vars,.int Oi (-(((t.C (row+1)) (col+1)))),J,F,W]]) ⟨Y,0,rfl,Oa,Oa,?_,?_,?_,?_,rfl,D⟩ ?_
 {
 exact ad}
 {
 intro a b a0 a1 N U;exact ab a b Oa a1 N U}
 {
 intro b N U;omega}
 {
 intro b N U;exact ab k b (Int.le_refl _) Oa Oa U}
 clear D w
 rintro mm M w ⟨Y,q,rfl,q0,q1,ad,ab,fu,fv,rfl,D⟩
 refine fQ<|(zP)<|nG<|Zf ?_ ?_<;>intro hc
 {
 refine oC<|(On)<|ig<|lG<|qE ?_
 refine(zV (iy (kk:=q) Zb (qB k Oa Oa)))<|iI (iR (u:= .int Oi (Y k q)) dw (D.lI (k:=k) 5 rfl Oa Oa)) ?_
 have fy:=fv q (Int.le_refl _) Oa
 have aj: -9223372036854775807<=Y k q/\Y k q<=9223372036854775807:=by rw [fy];exact ZgT hp Oa Oa Oa Oa Oa Oa Oa Oa
 refine iI (ET (r:= -((Y k q))) (hr:=(by unfold I64;omega))) ?_
 refine(zV (iy (kk:=q) Zb (qB k Oa Oa)))<|lJ (Ep 5 dw D rfl) ?_;clear D;rintro w D
 refine nT<|(zV (Zg (r:=q+1)))<|(zP)<|iq<|jm ⟨upd Y k (upd (Y k) q (-((Y k q)))),q+1,rfl,Oa,Oa,?_,?_,?_,?_,rfl,D⟩
 {
 intro a b a0 a1 N U;rw [lZ Oa];exact ad a b a0 a1 N U}
 {
 intro a b a0 a1 N U;rw [lZ Oa];exact ab a b a0 a1 N U}
 {
 intro b N U
 by_cases e:b=q
 · subst e;rw [iU,iU,fy]
 · rw [iU,lZ e];exact fu b N Oa}
 {
 intro b N U;rw [iU,lZ Oa];exact fv b Oa U}}
 refine sW<|n_<|n_<|rH<|ng<|iP<|lG<|(zV (Zg (r:=k+1)))<|(zP)<|iq<|jm ⟨Y,k+1,rfl,Oa,Oa,?_,?_,rfl,D⟩
 {
 intro a b a0 a1 N U
 by_cases e:a=k
 · subst e;exact fu b N Oa
 · exact ad a b a0 Oa N U}
 {
 intro a b a0 a1 N U;exact ab a b Oa a1 N U}}
 refine uw<|iI (lH 6 iC D) ?_
 have zr: -(((t.C (row+1)) (col+1)))=(piv t row col).den:=(if_pos Oa).symm
 replace D:=D.oP (xk:=Z) (vT:=(piv t row col).ln) (f':=(piv t row col).C) 5 rfl (fun k k0 k1=>⟨rfl,rfl,fun j j0 j1=>by
   have ae:=hp.len (i:=k) Oa Oa
   exact(ad k j k0 Oa j0 Oa).trans (if_pos Oa).symm⟩)
 rw [zr] at D⊢
 obtain⟨u,aa⟩:∃u,u=piv t row col:=⟨_,rfl⟩
 have yB:iK J u.nb:=by subst aa;exact qb
 have yz:iK F u.nf:=by subst aa;exact qd
 have yA:iK W u.nc:=by subst aa;exact qf
 replace D:Sat w0 w [.blk g1 [.int Oi t.vars,.int Oi t.den,vB,vF,vC],.blk g2 [.int Oi 0,.int Oi 0,Oh,Oh,Oh],.own J 1 3 u.nb (ints u.B),.own F 1 3 u.nf (ints u.F),.own W 1 22 u.nc Z,.sem (Frame.rows 3 u.nc Z u.ln u.C),.blk g3 [.int Oi u.vars,.int Oi u.den,J,F,W]]:=by subst aa;exact D
 have jg:=fun k (k0:0<=k) (k1:k<u.nc)=>D.iw 5 rfl k0 k1
 refine GR 201 (u:= .agg #[.int Oi u.vars,.int Oi u.den,J,F,W]) (by subst aa;first|rfl|(congr 1)) ?_
 refine iJ (xc0 I4) (Uy (t:=u) w (⟨(D.f_ 2 rfl),(D.f_ 3 rfl),(⟨(D.f_ 4 rfl),fun k k0 k1=>D.lI 5 rfl k0 k1,fun k k0 k1=>D.lV 5 rfl k0 k1⟩:sO _ W u.nc Z u.ln u.C)⟩:uI _ J F W Z u)) ?_;rintro _ w ⟨rfl,I⟩
 replace D:=D.cmp I;clear I
 refine(zP)<|ig<|Zf ?_ ?_<;>intro hc
 {
 refine fQ<|(zV (lF (v:= .agg #[.int Oi 0,.int Oi 0,Oh,Oh,Oh])))<|lJ (nD 1 iC D) ?_;clear D;rintro w D
 refine(zP)<|j_<|Ye 1 iC D ⟨_,rfl,?_⟩
 exact⟨_,_,_,fun _=>undef,Tb.zero,2,rfl,.inr (.inr (.inl ⟨⟨hp,Oa,Oa,Oa,Oa,ac⟩,bS,aa▸‹¬lK u›,rfl,rfl⟩)),d_,d_,d_,((((D.sub (.cons _ (.cons _ (.cons _ (.cons _ (.cons _ (.cons _ (.cons _ .slnil)))))))).fU 1 3 (ints Tb.zero.B)).fU 1 3 (ints Tb.zero.F)).fU 1 22 (fun _=>undef)).iF 3 (fun _=>undef) Tb.zero.ln Tb.zero.C⟩}
 refine ZX<|(zV (lH 6 iC D))<|lJ (nD 1 iC D (hd:=(Za rfl (Za rfl (Za yB.one (Za yz.one (Za yA.one Zj))))))) ?_;clear D;rintro w D
 refine(zP)<|jk<|Ye 1 iC D ⟨_,rfl,?_⟩
 exact⟨_,_,_,_,u,0,rfl,.inr (.inr (.inr ⟨⟨hp,Oa,Oa,Oa,Oa,ac⟩,bS,aa▸(Od ‹¬¬(lK u)›),aa,rfl⟩)),yB,yz,yA,D.pk [2,3,4,5]⟩}
 refine XJ<|iI (lH 6 iC D) ?_
 have zr:((t.C (row+1)) (col+1))=(piv t row col).den:=(if_neg Oa).symm
 replace D:=D.oP (xk:=Z) (vT:=(piv t row col).ln) (f':=(piv t row col).C) 5 rfl (fun k k0 k1=>⟨rfl,rfl,fun j j0 j1=>by
   have ae:=hp.len (i:=k) Oa Oa
   exact(hcf k j k0 Oa j0 Oa).trans (if_neg Oa).symm⟩)
 rw [zr] at D⊢
 obtain⟨u,aa⟩:∃u,u=piv t row col:=⟨_,rfl⟩
 have yB:iK J u.nb:=by subst aa;exact qb
 have yz:iK F u.nf:=by subst aa;exact qd
 have yA:iK W u.nc:=by subst aa;exact qf
 replace D:Sat w0 w [.blk g1 [.int Oi t.vars,.int Oi t.den,vB,vF,vC],.blk g2 [.int Oi 0,.int Oi 0,Oh,Oh,Oh],.own J 1 3 u.nb (ints u.B),.own F 1 3 u.nf (ints u.F),.own W 1 22 u.nc Z,.sem (Frame.rows 3 u.nc Z u.ln u.C),.blk g3 [.int Oi u.vars,.int Oi u.den,J,F,W]]:=by subst aa;exact D
 have jg:=fun k (k0:0<=k) (k1:k<u.nc)=>D.iw 5 rfl k0 k1
 refine GR 201 (u:= .agg #[.int Oi u.vars,.int Oi u.den,J,F,W]) (by subst aa;first|rfl|(congr 1)) ?_
 refine iJ (xc0 I4) (Uy (t:=u) w (⟨(D.f_ 2 rfl),(D.f_ 3 rfl),(⟨(D.f_ 4 rfl),fun k k0 k1=>D.lI 5 rfl k0 k1,fun k k0 k1=>D.lV 5 rfl k0 k1⟩:sO _ W u.nc Z u.ln u.C)⟩:uI _ J F W Z u)) ?_;rintro _ w ⟨rfl,I⟩
 replace D:=D.cmp I;clear I
 refine(zP)<|ig<|Zf ?_ ?_<;>intro hc
 {
 refine fQ<|(zV (lF (v:= .agg #[.int Oi 0,.int Oi 0,Oh,Oh,Oh])))<|lJ (nD 1 iC D) ?_;clear D;rintro w D
 refine(zP)<|j_<|Ye 1 iC D ⟨_,rfl,?_⟩
 exact⟨_,_,_,fun _=>undef,Tb.zero,2,rfl,.inr (.inr (.inl ⟨⟨hp,Oa,Oa,Oa,Oa,ac⟩,bS,aa▸‹¬lK u›,rfl,rfl⟩)),d_,d_,d_,((((D.sub (.cons _ (.cons _ (.cons _ (.cons _ (.cons _ (.cons _ (.cons _ .slnil)))))))).fU 1 3 (ints Tb.zero.B)).fU 1 3 (ints Tb.zero.F)).fU 1 22 (fun _=>undef)).iF 3 (fun _=>undef) Tb.zero.ln Tb.zero.C⟩}
 refine ZX<|(zV (lH 6 iC D))<|lJ (nD 1 iC D (hd:=(Za rfl (Za rfl (Za yB.one (Za yz.one (Za yA.one Zj))))))) ?_;clear D;rintro w D
 refine(zP)<|jk<|Ye 1 iC D ⟨_,rfl,?_⟩
 exact⟨_,_,_,_,u,0,rfl,.inr (.inr (.inr ⟨⟨hp,Oa,Oa,Oa,Oa,ac⟩,bS,aa▸(Od ‹¬¬(lK u)›),aa,rfl⟩)),yB,yz,yA,D.pk [2,3,4,5]⟩
 all_goals
  refine pR ?_
  refine ig<|rW<|fQ ?_
  refine(zV (lF (v:= .agg #[.int Oi 0,.int Oi 0,Oh,Oh,Oh])))<|lJ (nD 1 iC D) ?_;clear D;rintro w D
  refine pR ?_
  refine j_<|Ye 1 iC D ⟨_,rfl,?_⟩
  exact⟨_,_,_,fun _=>undef,Tb.zero,1,rfl,.inl ⟨by first|exact fun hh=>absurd hh.1 ‹_›|(rintro⟨_,p1,p2,p3,p4,p5⟩;omega),rfl,rfl⟩,d_,d_,d_,((((D.sub (.cons _ (.cons _ .slnil))).fU 1 3 (ints Tb.zero.B)).fU 1 3 (ints Tb.zero.F)).fU 1 22 (fun _=>undef)).iF 3 (fun _=>undef) Tb.zero.ln Tb.zero.C⟩
theorem ZnU:Zc Om 168=true:=Oc
theorem qO:Zw Om 63 0=some 0:=Oc
theorem rM:Zw Om 63 1=some 1:=Oc
theorem sS:Zw Om 63 2=some 2:=Oc
theorem G7:ZC Om 63=some 3:=Oc
theorem ZkK{vc vA vb:Value}{vq:Ov}{p:Lp}(w0:World)(N:BQ w0 vc vA vb vq p):
   Calls Om 168 [.agg #[vc,vA,vb]].toArray w0 fun e w=>∃v,e= .returned v/\v=B (wL p)/\Sat w0 w []:=by
 have hn:=N.c.fP.n0;have ac:=N.c.fP.n1;have hm:=N.A.row.fP.n0;have ad:=N.A.row.fP.n1;have hk:=N.b.fP.n0;have ae:=N.b.fP.n1
 refine iE Tryz.func168 Tryz.ntmps168 fun w h=> ?_
 refine fQ<|iG (nS (cs:= [_,_,_]) h) ?_;rintro _ w ⟨g1,rfl,h⟩
 refine(zP)<|iT<|(zV (h_ 0 qO))<|(zV (g_ 0 dV h))<|(zV (iW Zb N.c.fP))<|iG (oh (cs:= [_]) Zq h) ?_;rintro _ w ⟨g2,rfl,h⟩
 refine lJ (xsb 1 dw h) ?_;clear h;rintro w h
 refine l9<|(zV (g_ 1 dw h))<|(On)<|lX 10 ?_ ?_<;>intro hc;rotate_left
 refine(zV (g_ 1 dw h))<|(Oo)<|lX 14 ?_ ?_<;>intro hc;rotate_left
 refine(zV (h_ 1 rM))<|(zV (g_ 0 Zz h))<|(zV (iW Zk N.A.row.fP))<|(Oo)<|lX 20 ?_ ?_<;>intro hc;rotate_left
 refine(zV (h_ 2 sS))<|(zV (g_ 0 dV h))<|(zV (iW Zb N.b.fP))<|(zV (h_ 1 rM))<|(zV (g_ 0 Zz h))<|(zV (iW Zk N.A.row.fP))<|(Oo)<|lX 29 ?_ ?_<;>intro hc;rotate_left
 refine(zV (h_ 0 qO))<|(zV (g_ 0 dV h))<|iJ (xc0 IY) (VD (n:=p.n) (m:=1000000) (f:=p.c) w (N.c.below h.below) Oa) ?_;rintro _ w ⟨rfl,I⟩
 replace h:=h.cmp I;clear I
 refine(Oo)<|lX 35 ?_ ?_<;>intro hc;rotate_left
 refine(zV (h_ 2 sS))<|(zV (g_ 0 dV h))<|iJ (xc0 IY) (VD (n:=p.k) (m:=1000000) (f:=p.b) w (N.b.below h.below) Oa) ?_;rintro _ w ⟨rfl,I⟩
 replace h:=h.cmp I;clear I
 refine(On)<|ig<|Zf ?_ ?_<;>intro hc
 {
 refine fQ<|(zP)<|j_<|Oj ?_
 exact⟨Zi (by intro D;have b1:=D.n1;have b2:=D.n2;have b3:=D.m2;have b4:=D.k;first|omega|exact absurd (fun j F J=>by have:=D.c j F J;omega) ‹¬wo p.c p.n 1000000›|exact absurd (fun j F J=>D.b j F Oa) ‹¬wo p.b p.k 1000000›|(obtain⟨j,F,J,j2⟩:=O;have:=D.c j F J;omega)),h.nl⟩}
 refine ZX<|(zV wX)<|(zP)<|iT<|(zV (h_ 0 qO))<|(zV (g_ 0 dV h))<|iJ (xc0 Px) (Oz (n:=p.n) (f:=p.c) w (N.c.below h.below) Oa) ?_;rintro _ w ⟨x1,rfl,O,yJ,I⟩
 replace h:=h.cmp I;clear I
 refine(On)<|lX 46 ?_ ?_<;>intro hc
 {
 refine(zV (h_ 1 rM))<|(zV (g_ 0 Zz h))<|(zP)<|iJ (xc0 IV) (ZoW (n:=p.m) (q:=p.n) (vv:=vq) (ln:=p.ln) (f:=p.A) w (N.A.below h.below) (h.lM 1 rfl rfl) Oa) ?_;rintro _ w ⟨rfl,I⟩
 replace h:=h.cmp I;clear I
 refine(Oo)<|jk<|Oj ?_
 refine⟨Zm ⟨fun Y=> ?_,fun D Y=> ?_⟩,h.nl⟩
 {
 have ab:=(Od ‹¬¬(wo p.c p.n 1000000)›);have aa:=(Od ‹¬¬(wo p.b p.k 1000000)›)
 refine⟨by omega,Oa,Oa,Oa,fun j F J=>⟨by have:=yJ j F J;omega,(ab j F J).2⟩,fun i U i1=>aa i U Oa,fun i U i1=> ?_⟩
 have W:=Od fun Z=>Y ⟨i,U,i1,Z⟩
 exact⟨W.1,fun j F J=>W.2 j F (by have:=W.1;omega)⟩}
 {
 obtain⟨k,k0,k1,Z⟩:=Y
 have hr:=D.rows k k0 k1
 exact Z ⟨hr.1,fun j F J=>hr.2 j F (by have:=hr.1;omega)⟩}}
 iterate 5 refine oq ?_
 refine(On)<|jk<|Oj ?_
 exact⟨Zi (by intro D;have b1:=D.n1;have b2:=D.n2;have b3:=D.m2;have b4:=D.k;first|omega|exact absurd (fun j F J=>by have:=D.c j F J;omega) ‹¬wo p.c p.n 1000000›|exact absurd (fun j F J=>D.b j F Oa) ‹¬wo p.b p.k 1000000›|(obtain⟨j,F,J,j2⟩:=O;have:=D.c j F J;omega)),h.nl⟩
 all_goals
  refine pR ?_
  refine ig<|rW<|fQ ?_
  refine pR ?_
  refine j_<|Oj ?_
  exact⟨Zi (by intro D;have b1:=D.n1;have b2:=D.n2;have b3:=D.m2;have b4:=D.k;first|omega|exact absurd (fun j F J=>by have:=D.c j F J;omega) ‹¬wo p.c p.n 1000000›|exact absurd (fun j F J=>D.b j F Oa) ‹¬wo p.b p.k 1000000›|(obtain⟨j,F,J,j2⟩:=O;have:=D.c j F J;omega)),h.nl⟩
theorem Sm{vc vA vb:Value}{vq:Ov}{p:Lp}(w0:World)(U:BQ w0 vc vA vb vq p):
   Calls Om 94 [.agg #[vc,vA,vb]].toArray w0 fun e w=>∃v,e= .returned v/\∃vB vF vC vv Z e,v= .tuple #[.agg #[.int Oi Z.vars,.int Oi Z.den,vB,vF,vC],.int Oi e]/\vW p Z e/\iK vB Z.nb/\iK vF Z.nf/\iK vC Z.nc/\Sat w0 w [.own vB 1 3 Z.nb (ints Z.B),.own vF 1 3 Z.nf (ints Z.F),.own vC 1 22 Z.nc vv,.sem (Frame.rows 3 Z.nc vv Z.ln Z.C)]:=by
 have hn:=U.c.fP.n0;have av:=U.c.fP.n1;have hm:=U.A.row.fP.n0;have ax:=U.A.row.fP.n1;have hk:=U.b.fP.n0;have az:=U.b.fP.n1
 refine iE Tryz.func94 Tryz.ntmps94 fun w D=> ?_
 refine fQ<|iG (nS (cs:= [_,_,_]) D) ?_;rintro _ w ⟨g1,rfl,D⟩
 refine iG (oh (cs:= [_,_,_,_,_]) Yt D) ?_;rintro _ w ⟨g2,rfl,D⟩
 refine(zP)<|l9<|(zV (lH 0 G7 D))<|iJ (xc0 ZnU) (ZkK (p:=p) w (U.below D.below)) ?_;rintro _ w ⟨rfl,aj⟩
 replace D:=D.cmp aj;clear aj
 refine(zP)<|ig<|Zf ?_ ?_<;>intro hc
 {
 refine fQ<|(zV (lF (v:= .agg #[.int Oi 0,.int Oi 0,Oh,Oh,Oh])))<|lJ (nD 1 iC D) ?_;clear D;rintro w D
 refine(zP)<|j_<|Ye 1 iC D ⟨_,rfl,?_⟩
 exact⟨_,_,_,fun _=>undef,Tb.zero,1,rfl,.inl ⟨‹_›,rfl,rfl⟩,d_,d_,d_,((((D.sub (.cons _ (.cons _ .slnil))).fU 1 3 (ints Tb.zero.B)).fU 1 3 (ints Tb.zero.F)).fU 1 22 (fun _=>undef)).iF 3 (fun _=>undef) Tb.zero.ln Tb.zero.C⟩}
 refine nX<|iP<|lW<| ?_
 refine WT (fun M w=>∃(Y:Nat) (v1:Value) (I:Value) (J:Value),(iK I (p.n+1))/\(iK J 1)/\M= [(0,.agg #[vc,vA,vb]),(1,Or g1),(2,Or g2),(3,.int Oi 0),(8,.agg #[vc,vA,vb]),(9,B (wL p)),(10,B (¬(wL p))),(12,Or g1),(13,vc),(14,.int Oi p.n),(16,Or g1),(17,vc),(15,v1),(18,I),(19,J),(20,.agg #[.int Oi p.n,.int Oi 1,Oh,Oh,J]),(4,Or Y)]/\Sat w0 w [.blk g1 [vc,vA,vb],.blk g2 [.int Oi 0,.int Oi 0,Oh,Oh,Oh],.own I 1 3 (p.n+1) (ints (cat 1 (fun _=>0) p.c)),.own J 1 22 1 (fun _=>I),.blk Y [.int Oi p.n,.int Oi 1,Oh,Oh,J]]) ?_ ?_
 {
 refine lg [0,1] [0,1] 10 nP D ?_;clear D;intro w D
 refine ou 0 (h_ 0 qO) ?_
 have hl:=(Od ‹¬¬(wL p)›)
 have b1:=hl.n1
 have b2:=hl.n2
 have b3:=hl.m2
 have b4:=hl.k
 refine(iQ 1 (fun w D=>(g_ 0 dV D)))<|(b_ 2 (iW Zb U.c.fP))<|(b_ 4 (h_ 0 qO))<|(iQ 5 (fun w D=>(g_ 0 dV D)))<|Xw (r:= [3,9]) ((ZY ?_ (ZY ?_ Xv)))
 {
 refine tC (pO (n:=1) (len:=1) (pv:= [(0,.int Oi 0)]) (cs:= [.int Oi 0]) (c:=ints (fun _=>0)) Zb Zq D) ?_;rintro v1 w ⟨D,al⟩
 refine⟨⟨fun _=>D.pk [0,1],D.pk [0,1]⟩,?_⟩
 refine Xw (r:= [6,9]) ((ZY ?_ (ZY ?_ Xv)))
 {
 refine tC (pz 2 (r:=p.n+1) (f:=ints (cat 1 (fun _=>0) p.c)) Zb Zq D (U.c.below D.below) (by exact Xs _ _ _)) ?_;rintro I w ⟨D,N⟩
 refine⟨⟨fun _=>D.pk [0,1],D.pk [0,1]⟩,?_⟩
 refine Xw (r:= [7,9]) ((ZY ?_ (ZY ?_ Xv)))
 {
 refine tC (pO (n:=1) (len:=1) (pv:= [(0,I)]) (cs:= [I]) (c:=(fun _=>I)) Zk ZQ D (hf:=by obtain⟨_,_,_,_,rfl,_⟩:=N;kernel_rfl)) ?_;rintro J w ⟨D,F⟩
 refine⟨⟨fun _=>D.pk [0,1],D.pk [0,1]⟩,?_⟩
 refine ou 8 (lF (v:= .agg #[.int Oi p.n,.int Oi 1,Oh,Oh,J]) (hr:=by obtain⟨_,_,_,_,rfl,_⟩:=F;kernel_rfl)) ?_
 refine oZ 9 (oh (cs:= [_,_,_,_,_]) Yt D) ?_;rintro _ w ⟨Y,rfl,D⟩
 refine⟨⟨fun _=>D.pk [0,1],D.pk [0,1]⟩,?_⟩
 refine nR 10 (nD 4 iC D (hd:=(Za rfl (Za rfl (Za rfl (Za rfl (Za F.one Zj))))))) ?_;clear D;rintro w D
 refine⟨⟨fun h=>absurd h (by decide),D.pk [0,1]⟩,?_⟩
 refine lS<|tK ⟨Y,v1,I,J,N,F,rfl,D⟩}
 refine tC (oh (cs:= [_,_,_,_,_]) Yt D) ?_;rintro _ w ⟨Y,rfl,D⟩
 refine⟨⟨fun _=>D.pk [0,1],D.pk [0,1]⟩,?_⟩
 refine oZ 7 (pO (n:=1) (len:=1) (pv:= [(0,I)]) (cs:= [I]) (c:=(fun _=>I)) Zk ZQ D (hf:=by obtain⟨_,_,_,_,rfl,_⟩:=N;kernel_rfl)) ?_;rintro J w ⟨D,F⟩
 refine⟨⟨fun _=>D.pk [0,1],D.pk [0,1]⟩,?_⟩
 refine ou 8 (lF (v:= .agg #[.int Oi p.n,.int Oi 1,Oh,Oh,J]) (hr:=by obtain⟨_,_,_,_,rfl,_⟩:=F;kernel_rfl)) ?_
 refine nR 10 (nD 3 iC D (hd:=(Za rfl (Za rfl (Za rfl (Za rfl (Za F.one Zj))))))) ?_;clear D;rintro w D
 refine⟨⟨fun h=>absurd h (by decide),D.pk [0,1]⟩,?_⟩
 refine lS<|tK ⟨Y,v1,I,J,N,F,rfl,D.pk [0,1,2,4,3]⟩}
 refine tC (oh (cs:= [_,_,_,_,_]) Yt D) ?_;rintro _ w ⟨Y,rfl,D⟩
 refine⟨⟨fun _=>D.pk [0,1],D.pk [0,1]⟩,?_⟩
 refine oZ 6 (pz 2 (r:=p.n+1) (f:=ints (cat 1 (fun _=>0) p.c)) Zb Zq D (U.c.below D.below) (by exact Xs _ _ _)) ?_;rintro I w ⟨D,N⟩
 refine⟨⟨fun _=>D.pk [0,1],D.pk [0,1]⟩,?_⟩
 refine oZ 7 (pO (n:=1) (len:=1) (pv:= [(0,I)]) (cs:= [I]) (c:=(fun _=>I)) Zk ZQ D (hf:=by obtain⟨_,_,_,_,rfl,_⟩:=N;kernel_rfl)) ?_;rintro J w ⟨D,F⟩
 refine⟨⟨fun _=>D.pk [0,1],D.pk [0,1]⟩,?_⟩
 refine ou 8 (lF (v:= .agg #[.int Oi p.n,.int Oi 1,Oh,Oh,J]) (hr:=by obtain⟨_,_,_,_,rfl,_⟩:=F;kernel_rfl)) ?_
 refine nR 10 (nD 3 iC D (hd:=(Za rfl (Za rfl (Za rfl (Za rfl (Za F.one Zj))))))) ?_;clear D;rintro w D
 refine⟨⟨fun h=>absurd h (by decide),D.pk [0,1]⟩,?_⟩
 refine lS<|tK ⟨Y,v1,I,J,N,F,rfl,D.pk [0,1,2,4,3]⟩}
 refine tC (oh (cs:= [_,_,_,_,_]) Yt D) ?_;rintro _ w ⟨Y,rfl,D⟩
 refine⟨⟨fun _=>D.pk [0,1],D.pk [0,1]⟩,?_⟩
 refine oZ 3 (pO (n:=1) (len:=1) (pv:= [(0,.int Oi 0)]) (cs:= [.int Oi 0]) (c:=ints (fun _=>0)) Zb Zq D) ?_;rintro v1 w ⟨D,al⟩
 refine⟨⟨fun _=>D.pk [0,1],D.pk [0,1]⟩,?_⟩
 refine oZ 6 (pz 3 (r:=p.n+1) (f:=ints (cat 1 (fun _=>0) p.c)) Zb Zq D (U.c.below D.below) (by exact Xs _ _ _)) ?_;rintro I w ⟨D,N⟩
 refine⟨⟨fun _=>D.pk [0,1],D.pk [0,1]⟩,?_⟩
 refine oZ 7 (pO (n:=1) (len:=1) (pv:= [(0,I)]) (cs:= [I]) (c:=(fun _=>I)) Zk ZQ D (hf:=by obtain⟨_,_,_,_,rfl,_⟩:=N;kernel_rfl)) ?_;rintro J w ⟨D,F⟩
 refine⟨⟨fun _=>D.pk [0,1],D.pk [0,1]⟩,?_⟩
 refine ou 8 (lF (v:= .agg #[.int Oi p.n,.int Oi 1,Oh,Oh,J]) (hr:=by obtain⟨_,_,_,_,rfl,_⟩:=F;kernel_rfl)) ?_
 refine nR 10 (nD 2 iC D (hd:=(Za rfl (Za rfl (Za rfl (Za rfl (Za F.one Zj))))))) ?_;clear D;rintro w D
 refine⟨⟨fun h=>absurd h (by decide),D.pk [0,1]⟩,?_⟩
 refine lS<|tK ⟨Y,v1,I,J,N,F,rfl,D.pk [0,1,3,4,2]⟩}
 clear D w;rintro M w ⟨Y,v1,I,J,N,F,rfl,D⟩
 refine iP<|lW<|fQ<|(zV (h_ 0 qO))<|(zV (g_ 0 dV D))<|iI (iW Zb U.c.fP) ?_
 have hl:=(Od ‹¬¬(wL p)›)
 have b1:=hl.n1
 have b2:=hl.n2
 have b3:=hl.m2
 have b4:=hl.k
 refine(zP)<|nI ?_
 replace D:=D.iF 3 (fun _=>Oh) (fun _=>0) (fun _ _=>0)
 replace D:=Sat.Bd (l1:= [.blk g1 [vc,vA,vb],.blk g2 [.int Oi 0,.int Oi 0,Oh,Oh,Oh]]) (l2:= [.own J 1 22 1 (fun _=>I),.blk Y [.int Oi p.n,.int Oi 1,Oh,Oh,J]]) (l3:= []) D Oa
 replace D:=D.oP (xk:=(fun _=>I)) (vT:=(Zx p).ln) (f':=(Zx p).C) 4 rfl (fun k O W=>by
   obtain rfl:k=0:=Oa
   refine⟨YP _ _ _,?_,fun j j0 j1=> ?_⟩
   · rw [YP];show _=p.n+1;omega
   · rw [YP];unfold Zx cat;dsimp only;(repeat' split)<;>first|rfl|omega)
 have zL:=fun k (O:0<=k) (W:k<1)=>D.iw 4 rfl O W
 replace D:=D.fU 1 3 (ints (fun _=>0))
 replace D:=D.fU 1 3 (ints (fun _=>0))
 refine ny (fun mm M w=>∃(nF:Int) (j:Int) (wF:Value) (fF:Of),mm=((p.n-j).toNat)/\(0<=j)/\(j<=p.n)/\(nF=j)/\(∀k,0<=k->k<j->fF k=k)/\(iK wF nF)/\M= [(1,Or g1),(2,Or g2),(3,.int Oi 0),(4,Or Y),(23,.int Oi p.n),(24,.int Oi j)]/\Sat w0 w [.blk g1 [vc,vA,vb],.blk g2 [.int Oi 0,.int Oi 0,Oh,Oh,Oh],.own J 1 22 1 (fun _=>I),.blk Y [.int Oi p.n,.int Oi 1,Oh,wF,J],.sem (Frame.rows 3 1 (fun _=>I) ((Zx p).ln) ((Zx p).C)),.own wF 1 3 nF (ints fF),.own Oh 1 3 0 (ints (fun _=>0))]) ⟨0,0,Oh,(fun _=>0),rfl,Oa,Oa,Oa,?_,?_,rfl,D⟩ ?_
 {
 intro k O W;omega}
 {
 exact d_}
 clear D w
 rintro mm M w ⟨nF,j,wF,fF,rfl,j0,j1,ar,ag,aa,rfl,D⟩
 refine fQ<|(zP)<|nG<|Zf ?_ ?_<;>intro hc
 {
 refine oC<|(On)<|ig<|lG<|(zV (h_ 3 nK))<|(zV (g_ 3 dV D))<|(zP)<|iG (pO (n:=1) (len:=1) (pv:= [(0,.int Oi j)]) (cs:= [.int Oi j]) (c:=ints (fun _=>j)) Zb Zq D) ?_;rintro v4 w ⟨D,ap⟩
 refine iG (pz 5 (r:=nF+1) Zb Zq D (D.f_ 7 rfl) (ZR _ _ _)) ?_;rintro v5 w ⟨D,af⟩
 refine(zV (h_ 3 nK))<|lJ (xsb 3 dV D (hv:=af.one)) ?_;clear D;rintro w D
 refine nT<|(zV (Zg (r:=j+1)))<|(zP)<|iq<|jm ⟨nF+1,j+1,v5,(snoc fF nF j),rfl,Oa,Oa,Oa,?_,?_,rfl,D.pk [0,1,2,3,4,5,6]⟩
 {
 intro k O W;by_cases e:k<nF
 · rw [Zt e];exact ag k O Oa
 · rw [Zu e];omega}
 {
 exact af}}
 refine uw<|(zV (h_ 1 rM))<|(zV (g_ 0 Zz D))<|(zV (iW Zk U.A.row.fP))<|(zP)<|nI<|ny (fun mm M w=>∃(mB:Int) (nC:Int) (wv:Ov) (i:Int) (wB:Value) (fB:Of) (wC:Value),mm=((p.m-i).toNat)/\(0<=i)/\(i<=p.m)/\(mB=i)/\(nC=i+1)/\(∀k,0<=k->k<i->fB k=p.n+k)/\(iK wB mB)/\(iK wC nC)/\M= [(1,Or g1),(2,Or g2),(3,.int Oi 0),(4,Or Y),(35,vA),(36,.int Oi p.m),(37,.int Oi i)]/\Sat w0 w [.blk g1 [vc,vA,vb],.blk g2 [.int Oi 0,.int Oi 0,Oh,Oh,Oh],.own wC 1 22 nC wv,.blk Y [.int Oi p.n,.int Oi 1,wB,wF,wC],.sem (Frame.rows 3 nC wv ((Zx p).ln) ((Zx p).C)),.own wF 1 3 nF (ints fF),.own wB 1 3 mB (ints fB)]) ⟨0,1,(fun _=>I),0,Oh,(fun _=>0),J,rfl,Oa,Oa,Oa,Oa,?_,?_,?_,rfl,D⟩ ?_
 {
 intro k O W;omega}
 {
 exact d_}
 {
 exact F}
 clear D w
 rintro mm M w ⟨mB,nC,wv,i,wB,fB,wC,rfl,i0,i1,aw,au,ai,ac,ab,rfl,D⟩
 have q9:=fun k (O:0<=k) (W:k<nC)=>D.iw 4 rfl O W
 refine fQ<|(zP)<|nG<|Zf ?_ ?_<;>intro hc
 {
 refine oC<|(zP)<|(zV (iy (kk:=i) Zk U.A.row.fP))<|iI (iR (u:=(vq i)) dV (U.A.row.below D.below)) ?_
 have aq:=hl.rows i i0 Oa
 refine(On)<|iT<|(zV (h_ 2 lQ))<|(zV (g_ 3 dV D))<|(zV (h_ 0 oU))<|(zV (g_ 3 dw D))<|(zP)<|(zV (Zg (r:=p.n+i)))<|iG (pO (n:=1) (len:=1) (pv:= [(0,.int Oi (p.n+i))]) (cs:= [.int Oi (p.n+i)]) (c:=ints (fun _=>p.n+i)) Zb Zq D) ?_;rintro v6 w ⟨D,ao⟩
 refine iG (pz 6 (r:=mB+1) Zb Zq D (D.f_ 7 rfl) (ZR _ _ _)) ?_;rintro v7 w ⟨D,ae⟩
 refine(zV (h_ 2 lQ))<|lJ (xsb 3 dV D (hv:=ae.one)) ?_;clear D;rintro w D
 refine ig<|lg [0,1,3] [0,1] 14 nP D ?_;clear D;intro w D
 refine(b_ 0 (h_ 4 iY))<|sQ 1 (fun w D=>(g_ 2 Zz D)) ?_
 refine(b_ 2 (h_ 2 sS))<|(iQ 3 (fun w D=>(g_ 0 dV D)))<|(b_ 4 gu)<|(b_ 5 (iy (kk:=i) Zb U.b.fP))<|oH 6 (fun w D=>(iR (u:= .int Oi (p.b i)) dw (U.b.below D.below))) ?_
 have a0:=hl.b i i0 Oa
 refine(b_ 7 (ET (r:= -((p.b i)))))<|(b_ 9 gu)<|oZ 8 (pO (n:=1) (len:=1) (pv:= [(0,.int Oi (-((p.b i))))]) (cs:= [.int Oi (-((p.b i)))]) (c:=ints (fun _=> -((p.b i)))) Zb Zq D) ?_;rintro v8 w ⟨D,an⟩
 refine⟨⟨fun _=>D.pk [0,1,3],D.pk [0,1]⟩,?_⟩
 refine oZ 10 (pz 8 (r:=(p.ln i)+1) (f:=ints (cat 1 (fun _=> -(p.b i)) (p.A i))) Zb Zq D ((U.A.p i Oa Oa).below D.below) (by exact Xs _ _ _)) ?_;rintro v9 w ⟨D,ad⟩
 refine⟨⟨fun _=>D.pk [0,1,3],D.pk [0,1]⟩,?_⟩
 refine oZ 11 (pO (n:=1) (len:=1) (pv:= [(0,v9)]) (cs:= [v9]) (c:=(fun _=>v9)) Zk ZQ D (hf:=by obtain⟨_,_,_,_,rfl,_⟩:=ad;kernel_rfl)) ?_;rintro am w ⟨D,mr⟩
 refine⟨⟨fun _=>D.pk [0,1,3],D.pk [0,1]⟩,?_⟩
 refine oZ 12 (pz 2 (r:=nC+1) Zk ZQ D (D.f_ 9 rfl) (YA _ _ _) (h1:=fun _ _ _=>ad.one)) ?_;rintro ak w ⟨D,e7⟩
 replace D:=Sat.merge (l1:= [_,_,_,_]) (l2:= [_,_,_]) (l3:= [_]) D Oa
 have xV:=fun k (O:0<=k) (W:k<nC+1)=>D.iw 4 rfl O W
 refine⟨⟨fun _=>D.pk [0,1,3],D.pk [0,1]⟩,?_⟩
 refine(b_ 13 (h_ 4 iY))<|nR 14 (xsb 3 Zz D (hv:=e7.one)) ?_;clear D;rintro w D
 refine⟨⟨fun h=>absurd h (by decide),D.pk [0,1]⟩,?_⟩
 refine lS<|ng<|iP<|lG ?_
 refine iI (Zg (r:=i+1)) ?_
 replace D:=D.oP (xk:=lD wv nC v9) (vT:=(Zx p).ln) (f':=(Zx p).C) 4 rfl (fun k O W=>by
   by_cases e:k<i+1
   · exact⟨rfl,Zl Oa,fun j _ _=>by rw [Zl Oa]⟩
   {
   have ay:k=i+1:=Oa
   refine⟨rfl,?_,fun j j0 j1=> ?_⟩
   · rw [Zo Oa];show _=p.n+1;omega
   · rw [Zo Oa];unfold Zx cat;dsimp only;(repeat' split)<;>first|rfl|omega|(congr 2;omega)|(congr 1;omega)})
 have ah:=fun k (O:0<=k) (W:k<nC+1)=>D.iw 4 rfl O W
 refine(zP)<|iq<|jm ⟨mB+1,nC+1,lD wv nC v9,i+1,v7,(snoc fB mB (p.n+i)),ak,rfl,Oa,Oa,Oa,Oa,?_,?_,?_,rfl,D.pk [0,1,2,3,4,5,6]⟩
 {
 intro k O W;by_cases e:k<mB
 · rw [Zt e];exact ai k O Oa
 · rw [Zu e];omega}
 {
 exact ae}
 {
 exact e7}}
 refine oM<|(zV (lH 3 iC D))<|lJ (nD 1 iC D (hd:=(Za rfl (Za rfl (Za ac.one (Za aa.one (Za ab.one Zj))))))) ?_;clear D;rintro w D
 refine(zP)<|jk<|Ye 1 iC D ⟨_,rfl,?_⟩
 obtain rfl:i=p.m:=Oa
 obtain rfl:mB=p.m:=Oa
 obtain rfl:nC=p.m+1:=Oa
 obtain rfl:nF=p.n:=Oa
 replace D:=D.nJ 6 rfl (d:=ints (Zx p).B) (fun k O W=>by unfold ints;rw [ai k O (by simp at W;omega)];rfl)
 replace D:=D.nJ 5 rfl (d:=ints (Zx p).F) (fun k O W=>by unfold ints;rw [ag k O (by simp at W;omega)];rfl)
 exact⟨_,_,_,_,Zx p,0,rfl,.inr ⟨hl,rfl,rfl⟩,ac,aa,ab,(D.pk [2,4,5,6]).perm (Kv (l1:= [_,_,_]) (l2:= []) (Kv (l1:= [_,_]) (l2:= []) (List.Perm.refl _)))⟩
theorem ZnB:Zc Om 239=true:=Oc
theorem ZnA:Zc Om 240=true:=Oc
theorem ZkW{vB D F:Value}{vv:Ov}{t:Tb}(w0:World)(J:uI w0 vB D F vv t):Calls Om 239 [.agg #[.int Oi t.vars,.int Oi t.den,vB,D,F]].toArray w0 fun e w=>∃v,e= .returned v/\∃r c d e,v= .tuple #[.int Oi r,.int Oi c,B (d=true),.int Oi e]/\ug t r c d e/\Sat w0 w []:=
 (ZoA w0 J).mono fun e w h=>by
   obtain⟨v,I,r,c,d,O,hv,hn,N⟩:=h
   exact⟨v,I,r,c,d,O,by rw [hv,Zo8],hn,N⟩
theorem RL{vB vF vC:Value}{vv:Ov}{t:Tb}(w0:World)(hT:uI w0 vB vF vC vv t):
   Calls Om 169 [.agg #[.int Oi t.vars,.int Oi t.den,vB,vF,vC]].toArray w0 fun e w=>∃v,e= .returned v/\∃W O U Y u e,v= .tuple #[.agg #[.int Oi u.vars,.int Oi u.den,W,O,U],.int Oi e]/\Run 1000 t u e/\iK W u.nb/\iK O u.nf/\iK U u.nc/\Sat w0 w [.sem (Frame.alt (u=t/\W=vB/\O=vF/\U=vC/\Y=vv) (Frame.rG [.own W 1 3 u.nb (ints u.B),.own O 1 3 u.nf (ints u.F),.own U 1 22 u.nc Y,.sem (Frame.rows 3 u.nc Y u.ln u.C)]))]:=by
 refine iE Tryz.func169 Tryz.ntmps169 fun w D=> ?_
 refine fQ<|iG (nS (cs:= [_,_,_,_,_]) D) ?_;rintro _ w ⟨g1,rfl,D⟩
 refine iG (oh (cs:= [_,_,_,_,_]) Yt D) ?_;rintro _ w ⟨g2,rfl,D⟩
 refine(zP)<|iT<|(zP)<|nI ?_
 replace D:=D.Jz (Frame.rG [.own vB 1 3 t.nb (ints t.B),.own vF 1 3 t.nf (ints t.F),.own vC 1 22 t.nc vv,.sem (Frame.rows 3 t.nc vv t.ln t.C)]) (p:=t=t/\vB=vB/\vF=vF/\vC=vC/\vv=vv) ⟨rfl,rfl,rfl,rfl,rfl⟩
 refine ny (fun mm M w=>∃(u:Tb) (W:Value) (O:Value) (U:Value) (Y:Ov) (n:Int),mm=(((1001:Int)-n).toNat)/\(0<=n)/\(n<=1000)/\(iK W u.nb)/\(iK O u.nf)/\(iK U u.nc)/\(∀z e,Run (1000-n).toNat u z e->Run 1000 t z e)/\M= [(1,Or g1),(2,Or g2),(4,.int Oi n)]/\Sat w0 w [.blk g1 [.int Oi u.vars,.int Oi u.den,W,O,U],.blk g2 [.int Oi 0,.int Oi 0,Oh,Oh,Oh],.sem (Frame.alt (u=t/\W=vB/\O=vF/\U=vC/\Y=vv) (Frame.rG [.own W 1 3 u.nb (ints u.B),.own O 1 3 u.nf (ints u.F),.own U 1 22 u.nc Y,.sem (Frame.rows 3 u.nc Y u.ln u.C)]))]) ⟨t,vB,vF,vC,vv,0,rfl,Oa,Oa,?_,?_,?_,?_,rfl,D.sub (List.Sublist.refl _)⟩ ?_
 {
 exact hT.B.fP}
 {
 exact hT.F.fP}
 {
 exact hT.C.row.fP}
 {
 exact fun z e h=>h}
 clear D w
 rintro mm M w ⟨u,W,O,U,Y,n,rfl,n0,n1,N,I,J,xJ,rfl,D⟩
 have aa:=Ym (hT.below D.below) D 2 rfl
 have ak:=aa.B.fP.n0;have mu:=aa.B.fP.n1;have aj:=aa.F.fP.n0;have ms:=aa.F.fP.n1
 refine lW<|o7<|fQ<|(zV (lH 0 iC D))<|iJ (xc0 ZnB) (ZkW (t:=u) w (Ym (hT.below D.below) D 2 rfl)) ?_;rintro _ w ⟨ac,af,ae,ah,rfl,bN,Z⟩
 replace D:=D.cmp Z;clear Z
 have al:=bN.rng
 refine En ?_
 refine(Oo)<|l9<|(On)<|lX 20 ?_ ?_<;>intro hc
 {
 refine(zO)<|(zO)<|(zP)<|ig<|rW<|fQ ?_
 refine(zV (lH 0 iC D))<|(zP)<|lJ (nD 1 iC D (hd:=(Za rfl (Za rfl (Za N.one (Za I.one (Za J.one Zj))))))) ?_;clear D;rintro w D
 refine(zP)<|ig<|sZ<|m_<|og<|m_<|m_<|og<|Ye 1 iC D ⟨_,rfl,?_⟩
 exact⟨W,O,U,Y,u,_,rfl,xJ _ _ (.stop bN (by first|exact .inl hc|exact .inr Oa)),N,I,J,D.pk [2]⟩}
 refine(Oo)<|ig<|Zf ?_ ?_<;>intro hc
 {
 refine fQ<|(zV (lH 0 iC D))<|(zP)<|lJ (nD 1 iC D (hd:=(Za rfl (Za rfl (Za N.one (Za I.one (Za J.one Zj))))))) ?_;clear D;rintro w D
 refine(zP)<|ig<|sZ<|m_<|og<|m_<|m_<|og<|Ye 1 iC D ⟨_,rfl,?_⟩
 exact⟨W,O,U,Y,u,_,rfl,xJ _ _ (.stop bN (by first|exact .inl hc|exact .inr Oa)),N,I,J,D.pk [2]⟩}
 refine XJ<|iI gu ?_
 have ab:ug u ac af false 0:=by have h1:ae=false:=(by simpa using‹¬(ae=true)›);have h2:ah=0:=Oa;have h3:=bN;rw [h1,h2] at h3;exact h3
 have ad:=(ab.Am Oa).1;have an:=ad.n2;have am:=ad.m2
 refine(zP)<|ig<|Zf ?_ ?_<;>intro hc
 {
 refine fQ<|(zV (lH 0 iC D))<|lJ (nD 1 iC D (hd:=(Za rfl (Za rfl (Za N.one (Za I.one (Za J.one Zj))))))) ?_;clear D;rintro w D
 refine(zP)<|ig<|sZ<|m_<|og<|m_<|m_<|og<|Ye 1 iC D ⟨_,rfl,?_⟩
 exact⟨W,O,U,Y,u,_,rfl,xJ _ _ (by rw [show(1000-n).toNat=0 by omega];exact .lim ab),N,I,J,D.pk [2]⟩}
 refine ZX<|(zV (lH 0 iC D))<|(On)<|iJ (xc0 ZnA) (ZkU (t:=u) (row:=ac) (col:=af) w (Ym (hT.below D.below) D 2 rfl) Oa Oa) ?_;rintro _ w ⟨qy,qx,qn,qp,F,ai,rfl,bf,yb,x9,ya,Z⟩
 replace D:=(D.comp Z).n7;clear Z
 have cz:=fun k (k0:0<=k) (k1:k<F.nc)=>D.iw 6 rfl k0 k1
 refine(Oo)<|iG (oh (cs:= [_,_,_,_,_]) Yt D) ?_;rintro _ w ⟨g3,rfl,D⟩
 refine lJ (nD 7 iC D (hd:=(Za rfl (Za rfl (Za yb.one (Za x9.one (Za ya.one Zj))))))) ?_;clear D;rintro w D
 refine(zP)<|l9<|(On)<|ig<|Zf ?_ ?_<;>intro hc
 {
 refine fQ<|(zV (lH 0 iC D))<|(zP)<|lJ (nD 1 iC D (hd:=(Za rfl (Za rfl (Za N.one (Za I.one (Za J.one Zj))))))) ?_;clear D;rintro w D
 refine(zP)<|ig<|sZ<|m_<|og<|m_<|m_<|og<|Ye 1 iC D ⟨_,rfl,?_⟩
 exact⟨W,O,U,Y,u,_,rfl,xJ _ _ (by rw [show(1000-n).toNat=(1000-(n+1)).toNat+1 by omega];exact .bad ab bf Oa),N,I,J,D.pk [2]⟩}
 refine nX<|iP<|lG<|(zV (lH 7 iC D))<|lJ (nD 0 iC D (hd:=(Za rfl (Za rfl (Za yb.one (Za x9.one (Za ya.one Zj))))))) ?_;clear D;rintro w D
 refine nT<|iI gu ?_
 replace D:=D.sub (.cons_cons _ (.cons_cons _ (.cons _ (.cons_cons _ (.cons_cons _ (.cons_cons _ (.cons_cons _ (.cons _ .slnil))))))))
 replace D:=Sat.Jy (F=t/\qy=vB/\qx=vF/\qn=vC/\qp=vv) (l1:= [.blk g1 [.int Oi F.vars,.int Oi F.den,qy,qx,qn],.blk g2 [.int Oi 0,.int Oi 0,Oh,Oh,Oh]]) (l2:= []) (Sat.bundle (l1:= [.blk g1 [.int Oi F.vars,.int Oi F.den,qy,qx,qn],.blk g2 [.int Oi 0,.int Oi 0,Oh,Oh,Oh]]) (l2:= [.own qy 1 3 F.nb (ints F.B),.own qx 1 3 F.nf (ints F.F),.own qn 1 22 F.nc qp,.sem (Frame.rows 3 F.nc qp F.ln F.C)]) D)
 refine(zV (Zg (r:=n+1)))<|(zP)<|iq<|jm ⟨F,qy,qx,qn,qp,n+1,rfl,Oa,Oa,?_,?_,?_,?_,rfl,D.sub (List.Sublist.refl _)⟩
 {
 exact yb}
 {
 exact x9}
 {
 exact ya}
 {
 intro z e hz;have ag:ai=0:=Oa;rw [ag] at bf;exact xJ z e (by rw [show(1000-n).toNat=(1000-(n+1)).toNat+1 by omega];exact .go ab bf hz)}
theorem Po:Zc Om 169=true:=Oc
theorem OU:Zc Om 94=true:=Oc
theorem Uw:ZN Om 54=some (.agg #[Oh,Oh,.int Oi 0,.int Oi 0],4,64):=Oc
theorem oV:Zw Om 54 0=some 0:=Oc
theorem z_:Zw Om 54 1=some 1:=Oc
theorem ZW:ZC Om 54=some 4:=Oc
theorem ZkQ{vc vA vb:Value}{vq:Ov}{p:Lp}(w0:World)(hL:BQ w0 vc vA vb vq p):
   Calls Om 162 [.agg #[vc,vA,vb]].toArray w0 fun e w=>∃v,e= .returned v/\∃vX vY s e,v= .tuple #[.agg #[vX,vY,.int Oi s.val,.int Oi s.den],.int Oi e]/\vZ p s e/\iK vX s.n/\iK vY s.m/\Sat w0 w [.own vX 1 3 s.n (ints s.X),.own vY 1 3 s.m (ints s.Y)]:=by
 have hn:=hL.c.fP.n0;have an:=hL.c.fP.n1;have hm:=hL.A.row.fP.n0;have ao:=hL.A.row.fP.n1;have hk:=hL.b.fP.n0;have aq:=hL.b.fP.n1
 refine iE Tryz.func162 Tryz.ntmps162 fun w D=> ?_
 refine fQ<|iG (nS (cs:= [_,_,_]) D) ?_;rintro _ w ⟨g1,rfl,D⟩
 refine iG (oh (cs:= [_,_,_,_]) Uw D) ?_;rintro _ w ⟨g2,rfl,D⟩
 refine(zP)<|iT<|(zV (lH 0 G7 D))<|iJ (xc0 OU) (Sm (p:=p) w (hL.below D.below)) ?_;rintro _ w ⟨qy,qx,W,Y,I,ad,rfl,yP,yb,x9,ya,ac⟩
 replace D:=(D.comp ac).n6;clear ac
 have cz:=fun k (U:0<=k) (O:k<I.nc)=>D.iw 5 rfl U O
 refine(Oo)<|iG (oh (cs:= [_,_,_,_,_]) Yt D) ?_;rintro _ w ⟨g3,rfl,D⟩
 refine lJ (nD 6 iC D (hd:=(Za rfl (Za rfl (Za yb.one (Za x9.one (Za ya.one Zj))))))) ?_;clear D;rintro w D
 refine(zP)<|l9<|(On)<|ig<|Zf ?_ ?_<;>intro hc
 {
 refine fQ<|(zV (lF (v:= .agg #[Oh,Oh,.int Oi 0,.int Oi 0])))<|(zP)<|lJ (nD 1 ZW D) ?_;clear D;rintro w D
 refine(zP)<|j_<|Ye 1 ZW D ⟨_,rfl,?_⟩
 obtain⟨ae,ai⟩:=yP.err Oa
 exact⟨_,_,So.zero,_,rfl,.inl ⟨ae,rfl,ai⟩,d_,d_,((D.sub (.cons _ (.cons _ (.cons _ (.cons _ (.cons _ (.cons _ (.cons _ .slnil)))))))).fU 1 3 (ints So.zero.X)).fU 1 3 (ints So.zero.Y)⟩}
 refine XJ<|(zV (lH 6 iC D))<|iJ (xc0 Po) (RL (t:=I) w (⟨(D.f_ 2 rfl),(D.f_ 3 rfl),(⟨(D.f_ 4 rfl),fun k U O=>D.lI 5 rfl U O,fun k U O=>D.lV 5 rfl U O⟩:sO _ W I.nc Y I.ln I.C)⟩:uI _ qy qx W Y I)) ?_;rintro _ w ⟨xh,xg,qW,xm,F,xK,rfl,qD,zn,zm,yO,ac⟩
 replace D:=(D.comp ac).n8;clear ac
 have af:=fun k (U:0<=k) (O:k<F.nc)=>((Ym (⟨(D.f_ 2 rfl),(D.f_ 3 rfl),(⟨(D.f_ 4 rfl),fun k U O=>D.lI 5 rfl U O,fun k U O=>D.lV 5 rfl U O⟩:sO _ W I.nc Y I.ln I.C)⟩:uI _ qy qx W Y I) D 7 rfl).C.p k U O).fP
 refine(Oo)<|lJ (nD 6 iC D (hd:=(Za rfl (Za rfl (Za zn.one (Za zm.one (Za yO.one Zj))))))) ?_;clear D;rintro w D
 refine(zP)<|iT<|(On)<|ig<|Zf ?_ ?_<;>intro hc
 {
 refine fQ<|(zV (lF (v:= .agg #[Oh,Oh,.int Oi 0,.int Oi 0])))<|(zP)<|lJ (nD 1 ZW D) ?_;clear D;rintro w D
 refine(zP)<|j_<|Ye 1 ZW D ⟨_,rfl,?_⟩
 obtain⟨hl,aa⟩:=yP.ok Oa;rw [aa] at qD
 exact⟨_,_,So.zero,_,rfl,.inr ⟨hl,_,qD,.inl ⟨by omega,rfl⟩⟩,d_,d_,((D.sub (.cons _ (.cons _ (.cons _ (.cons _ (.cons _ (.cons _ (.cons _ (.cons _ .slnil))))))))).fU 1 3 (ints So.zero.X)).fU 1 3 (ints So.zero.Y)⟩}
 refine nX<|iP<|lW<| ?_
 refine WT (fun M w=>∃(v1:Value) (Z:Value) (g4:Nat),(iK v1 p.n)/\(iK Z p.m)/\M= [(0,.agg #[vc,vA,vb]),(1,Or g1),(2,Or g2),(3,.int Oi 0),(12,.agg #[vc,vA,vb]),(13,.tuple #[.agg #[.int Oi I.vars,.int Oi I.den,qy,qx,W],.int Oi ad]),(11,.tuple #[.agg #[.int Oi I.vars,.int Oi I.den,qy,qx,W],.int Oi ad]),(14,.agg #[.int Oi I.vars,.int Oi I.den,qy,qx,W]),(15,.int Oi ad),(4,Or g3),(5,.int Oi xK),(16,.int Oi ad),(17,B (ad≠0)),(21,.agg #[.int Oi I.vars,.int Oi I.den,qy,qx,W]),(22,.tuple #[.agg #[.int Oi F.vars,.int Oi F.den,xh,xg,qW],.int Oi xK]),(20,.tuple #[.agg #[.int Oi F.vars,.int Oi F.den,xh,xg,qW],.int Oi xK]),(23,.agg #[.int Oi F.vars,.int Oi F.den,xh,xg,qW]),(24,.int Oi xK),(25,.int Oi xK),(26,B (xK≠0)),(29,Or g1),(30,vc),(31,.int Oi p.n),(33,.pointer (some ⟨g1,1,none⟩)),(34,vA),(35,.int Oi p.m),(37,.pointer (some ⟨g3,4,none⟩)),(38,qW),(39,.pointer (some (pW qW 0))),(40,(xm 0)),(41,.pointer (some (pW (xm 0) 0))),(42,.int Oi (F.C 0 0)),(43,.pointer (some ⟨g3,1,none⟩)),(44,.int Oi F.den),(32,v1),(36,Z),(45,.agg #[v1,Z,.int Oi (F.C 0 0),.int Oi F.den]),(6,Or g4)]/\Sat w0 w [.blk g1 [vc,vA,vb],.blk g2 [Oh,Oh,.int Oi 0,.int Oi 0],.own qy 1 3 I.nb (ints I.B),.own qx 1 3 I.nf (ints I.F),.own W 1 22 I.nc Y,.sem (Frame.rows 3 I.nc Y I.ln I.C),.blk g3 [.int Oi F.vars,.int Oi F.den,xh,xg,qW],.sem (Frame.alt (F=I/\xh=qy/\xg=qx/\qW=W/\xm=Y) (Frame.rG [.own xh 1 3 F.nb (ints F.B),.own xg 1 3 F.nf (ints F.F),.own qW 1 22 F.nc xm,.sem (Frame.rows 3 F.nc xm F.ln F.C)])),.own v1 1 3 p.n (ints (fun _=>0)),.own Z 1 3 p.m (ints (fun _=>0)),.blk g4 [v1,Z,.int Oi (F.C 0 0),.int Oi F.den]]) ?_ ?_
 {
 refine lg [0,1,2,3,4,5,6,7] [0,1,2,3,4,5,6,7] 18 nP D ?_;clear D;intro w D
 refine ou 0 (h_ 0 qO) ?_
 obtain⟨hl,aa⟩:=yP.ok Oa
 have b1:=hl.n1
 have b2:=hl.n2
 have b3:=hl.m2
 have b4:=hl.k
 have ab:=qD.uP
 obtain⟨hp,am,hlv,_⟩:=qD.fin (.inl Oa)
 have hd1:F.nb=p.m:=by rw [ab.1,aa];rfl
 have hd2:F.nf=p.n:=by rw [ab.2.1,aa];rfl
 have al:F.vars=p.n:=by rw [ab.2.2.2,aa];rfl
 have ak:=hp.c;have ae:=hp.len (i:=0) Oa Oa
 refine(iQ 1 (fun w D=>(g_ 0 dV D)))<|(b_ 2 (iW Zb hL.c.fP))<|(b_ 4 (h_ 1 rM))<|(iQ 5 (fun w D=>(g_ 0 Zz D)))<|(b_ 6 (iW Zk hL.A.row.fP))<|(b_ 8 (h_ 4 iY))<|(iQ 9 (fun w D=>(g_ 6 Zz D)))<|(b_ 10 (iy (kk:=0) Zk yO))<|(iQ 11 (fun w D=>(iR (u:=(xm 0)) dV (Ym (⟨(D.f_ 2 rfl),(D.f_ 3 rfl),(⟨(D.f_ 4 rfl),fun k U O=>D.lI 5 rfl U O,fun k U O=>D.lV 5 rfl U O⟩:sO _ W I.nc Y I.ln I.C)⟩:uI _ qy qx W Y I) D 7 rfl).C.row)))<|(b_ 12 (iy (kk:=0) Zb (af 0 Oa Oa)))<|(iQ 13 (fun w D=>(iR (u:= .int Oi (F.C 0 0)) dw ((Ym (⟨(D.f_ 2 rfl),(D.f_ 3 rfl),(⟨(D.f_ 4 rfl),fun k U O=>D.lI 5 rfl U O,fun k U O=>D.lV 5 rfl U O⟩:sO _ W I.nc Y I.ln I.C)⟩:uI _ qy qx W Y I) D 7 rfl).C.p 0 Oa Oa))))<|(b_ 14 (h_ 1 oK))<|(iQ 15 (fun w D=>(g_ 6 dw D)))<|Xw (r:= [3,7,17]) ((ZY ?_ (ZY ?_ (ZY ?_ Xv))))
 {
 refine tC (uF Zb Zq D) ?_;rintro v1 w ⟨D,N⟩
 refine⟨⟨fun _=>D.pk [0,1,2,3,4,5,6,7],D.pk [0,1,2,3,4,5,6,7]⟩,?_⟩
 refine Xw (r:= [7,17]) ((ZY ?_ (ZY ?_ Xv)))
 {
 refine tC (uF Zb Zq D) ?_;rintro Z w ⟨D,J⟩
 refine⟨⟨fun _=>D.pk [0,1,2,3,4,5,6,7],D.pk [0,1,2,3,4,5,6,7]⟩,?_⟩
 refine ou 16 (lF (v:= .agg #[v1,Z,.int Oi (F.C 0 0),.int Oi F.den]) (hr:=by obtain⟨_,_,_,_,rfl,_⟩:=N;obtain⟨_,_,_,_,rfl,_⟩:=J;kernel_rfl)) ?_
 refine oZ 17 (oh (cs:= [_,_,_,_]) Uw D) ?_;rintro _ w ⟨g4,rfl,D⟩
 refine⟨⟨fun _=>D.pk [0,1,2,3,4,5,6,7],D.pk [0,1,2,3,4,5,6,7]⟩,?_⟩
 refine nR 18 (nD 10 ZW D (hd:=(Za N.one (Za J.one (Za rfl (Za rfl Zj)))))) ?_;clear D;rintro w D
 refine⟨⟨fun h=>absurd h (by decide),D.pk [0,1,2,3,4,5,6,7]⟩,?_⟩
 refine lS<|tK ⟨v1,Z,g4,N,J,rfl,D⟩}
 refine tC (oh (cs:= [_,_,_,_]) Uw D) ?_;rintro _ w ⟨g4,rfl,D⟩
 refine⟨⟨fun _=>D.pk [0,1,2,3,4,5,6,7],D.pk [0,1,2,3,4,5,6,7]⟩,?_⟩
 refine oZ 7 (uF Zb Zq D) ?_;rintro Z w ⟨D,J⟩
 refine⟨⟨fun _=>D.pk [0,1,2,3,4,5,6,7],D.pk [0,1,2,3,4,5,6,7]⟩,?_⟩
 refine ou 16 (lF (v:= .agg #[v1,Z,.int Oi (F.C 0 0),.int Oi F.den]) (hr:=by obtain⟨_,_,_,_,rfl,_⟩:=N;obtain⟨_,_,_,_,rfl,_⟩:=J;kernel_rfl)) ?_
 refine nR 18 (nD 9 ZW D (hd:=(Za N.one (Za J.one (Za rfl (Za rfl Zj)))))) ?_;clear D;rintro w D
 refine⟨⟨fun h=>absurd h (by decide),D.pk [0,1,2,3,4,5,6,7]⟩,?_⟩
 refine lS<|tK ⟨v1,Z,g4,N,J,rfl,D.pk [0,1,2,3,4,5,6,7,8,10,9]⟩}
 {
 refine tC (uF Zb Zq D) ?_;rintro v1 w ⟨D,N⟩
 refine⟨⟨fun _=>D.pk [0,1,2,3,4,5,6,7],D.pk [0,1,2,3,4,5,6,7]⟩,?_⟩
 refine Xw (r:= [3,17]) ((ZY ?_ (ZY ?_ Xv)))
 {
 refine tC (uF Zb Zq D) ?_;rintro Z w ⟨D,J⟩
 refine⟨⟨fun _=>D.pk [0,1,2,3,4,5,6,7],D.pk [0,1,2,3,4,5,6,7]⟩,?_⟩
 refine ou 16 (lF (v:= .agg #[Z,v1,.int Oi (F.C 0 0),.int Oi F.den]) (hr:=by obtain⟨_,_,_,_,rfl,_⟩:=J;obtain⟨_,_,_,_,rfl,_⟩:=N;kernel_rfl)) ?_
 refine oZ 17 (oh (cs:= [_,_,_,_]) Uw D) ?_;rintro _ w ⟨g4,rfl,D⟩
 refine⟨⟨fun _=>D.pk [0,1,2,3,4,5,6,7],D.pk [0,1,2,3,4,5,6,7]⟩,?_⟩
 refine nR 18 (nD 10 ZW D (hd:=(Za J.one (Za N.one (Za rfl (Za rfl Zj)))))) ?_;clear D;rintro w D
 refine⟨⟨fun h=>absurd h (by decide),D.pk [0,1,2,3,4,5,6,7]⟩,?_⟩
 refine lS<|tK ⟨Z,v1,g4,J,N,rfl,D.pk [0,1,2,3,4,5,6,7,9,8,10]⟩}
 refine tC (oh (cs:= [_,_,_,_]) Uw D) ?_;rintro _ w ⟨g4,rfl,D⟩
 refine⟨⟨fun _=>D.pk [0,1,2,3,4,5,6,7],D.pk [0,1,2,3,4,5,6,7]⟩,?_⟩
 refine oZ 3 (uF Zb Zq D) ?_;rintro Z w ⟨D,J⟩
 refine⟨⟨fun _=>D.pk [0,1,2,3,4,5,6,7],D.pk [0,1,2,3,4,5,6,7]⟩,?_⟩
 refine ou 16 (lF (v:= .agg #[Z,v1,.int Oi (F.C 0 0),.int Oi F.den]) (hr:=by obtain⟨_,_,_,_,rfl,_⟩:=J;obtain⟨_,_,_,_,rfl,_⟩:=N;kernel_rfl)) ?_
 refine nR 18 (nD 9 ZW D (hd:=(Za J.one (Za N.one (Za rfl (Za rfl Zj)))))) ?_;clear D;rintro w D
 refine⟨⟨fun h=>absurd h (by decide),D.pk [0,1,2,3,4,5,6,7]⟩,?_⟩
 refine lS<|tK ⟨Z,v1,g4,J,N,rfl,D.pk [0,1,2,3,4,5,6,7,10,8,9]⟩}
 refine tC (oh (cs:= [_,_,_,_]) Uw D) ?_;rintro _ w ⟨g4,rfl,D⟩
 refine⟨⟨fun _=>D.pk [0,1,2,3,4,5,6,7],D.pk [0,1,2,3,4,5,6,7]⟩,?_⟩
 refine Xw (r:= [3,7]) ((ZY ?_ (ZY ?_ Xv)))
 {
 refine tC (uF Zb Zq D) ?_;rintro v1 w ⟨D,N⟩
 refine⟨⟨fun _=>D.pk [0,1,2,3,4,5,6,7],D.pk [0,1,2,3,4,5,6,7]⟩,?_⟩
 refine oZ 7 (uF Zb Zq D) ?_;rintro Z w ⟨D,J⟩
 refine⟨⟨fun _=>D.pk [0,1,2,3,4,5,6,7],D.pk [0,1,2,3,4,5,6,7]⟩,?_⟩
 refine ou 16 (lF (v:= .agg #[v1,Z,.int Oi (F.C 0 0),.int Oi F.den]) (hr:=by obtain⟨_,_,_,_,rfl,_⟩:=N;obtain⟨_,_,_,_,rfl,_⟩:=J;kernel_rfl)) ?_
 refine nR 18 (nD 8 ZW D (hd:=(Za N.one (Za J.one (Za rfl (Za rfl Zj)))))) ?_;clear D;rintro w D
 refine⟨⟨fun h=>absurd h (by decide),D.pk [0,1,2,3,4,5,6,7]⟩,?_⟩
 refine lS<|tK ⟨v1,Z,g4,N,J,rfl,D.pk [0,1,2,3,4,5,6,7,9,10,8]⟩}
 refine tC (uF Zb Zq D) ?_;rintro v1 w ⟨D,N⟩
 refine⟨⟨fun _=>D.pk [0,1,2,3,4,5,6,7],D.pk [0,1,2,3,4,5,6,7]⟩,?_⟩
 refine oZ 3 (uF Zb Zq D) ?_;rintro Z w ⟨D,J⟩
 refine⟨⟨fun _=>D.pk [0,1,2,3,4,5,6,7],D.pk [0,1,2,3,4,5,6,7]⟩,?_⟩
 refine ou 16 (lF (v:= .agg #[Z,v1,.int Oi (F.C 0 0),.int Oi F.den]) (hr:=by obtain⟨_,_,_,_,rfl,_⟩:=J;obtain⟨_,_,_,_,rfl,_⟩:=N;kernel_rfl)) ?_
 refine nR 18 (nD 8 ZW D (hd:=(Za J.one (Za N.one (Za rfl (Za rfl Zj)))))) ?_;clear D;rintro w D
 refine⟨⟨fun h=>absurd h (by decide),D.pk [0,1,2,3,4,5,6,7]⟩,?_⟩
 refine lS<|tK ⟨Z,v1,g4,J,N,rfl,D.pk [0,1,2,3,4,5,6,7,10,9,8]⟩}
 clear D w;rintro M w ⟨v1,Z,g4,N,J,rfl,D⟩
 refine iP<|lW<|fQ<|iI (h_ 2 lQ) ?_
 obtain⟨hl,aa⟩:=yP.ok Oa
 have b1:=hl.n1
 have b2:=hl.n2
 have b3:=hl.m2
 have b4:=hl.k
 have ab:=qD.uP
 obtain⟨hp,am,hlv,_⟩:=qD.fin (.inl Oa)
 have hd1:F.nb=p.m:=by rw [ab.1,aa];rfl
 have hd2:F.nf=p.n:=by rw [ab.2.1,aa];rfl
 have al:F.vars=p.n:=by rw [ab.2.2.2,aa];rfl
 have ak:=hp.c;have ae:=hp.len (i:=0) Oa Oa
 refine(zV (g_ 6 dV D))<|(zV (iW Zb zn))<|(zP)<|nI<|ny (fun mm M w=>∃(i:Int) (fX:Of),mm=((F.nb-i).toNat)/\(0<=i)/\(i<=F.nb)/\(fX=Af F i.toNat)/\M= [(2,Or g2),(3,.int Oi 0),(4,Or g3),(6,Or g4),(47,xh),(48,.int Oi F.nb),(49,.int Oi i)]/\Sat w0 w [.blk g1 [vc,vA,vb],.blk g2 [Oh,Oh,.int Oi 0,.int Oi 0],.own qy 1 3 I.nb (ints I.B),.own qx 1 3 I.nf (ints I.F),.own W 1 22 I.nc Y,.sem (Frame.rows 3 I.nc Y I.ln I.C),.blk g3 [.int Oi F.vars,.int Oi F.den,xh,xg,qW],.sem (Frame.alt (F=I/\xh=qy/\xg=qx/\qW=W/\xm=Y) (Frame.rG [.own xh 1 3 F.nb (ints F.B),.own xg 1 3 F.nf (ints F.F),.own qW 1 22 F.nc xm,.sem (Frame.rows 3 F.nc xm F.ln F.C)])),.own v1 1 3 p.n (ints fX),.own Z 1 3 p.m (ints (fun _=>0)),.blk g4 [v1,Z,.int Oi (F.C 0 0),.int Oi F.den]]) ⟨0,(fun _=>0),rfl,Oa,Oa,?_,rfl,D⟩ ?_
 {
 rfl}
 clear D w
 rintro mm M w ⟨i,fX,rfl,h0,h1,ah,rfl,D⟩
 refine fQ<|(zP)<|nG<|Zf ?_ ?_<;>intro hc
 {
 refine oC<|(zP)<|(zV (iy (kk:=i) Zb zn))<|iI (iR (u:= .int Oi (F.B i)) dw (Ym (⟨(D.f_ 2 rfl),(D.f_ 3 rfl),(⟨(D.f_ 4 rfl),fun k U O=>D.lI 5 rfl U O,fun k U O=>D.lV 5 rfl U O⟩:sO _ W I.nc Y I.ln I.C)⟩:uI _ qy qx W Y I) D 7 rfl).B) ?_
 have hrg:=hp.Cc (i:=i) h0 Oa
 refine(On)<|iT<|(zP)<|(zV (h_ 0 oU))<|(zV (g_ 6 dw D))<|(zP)<|ig<|Zf ?_ ?_<;>intro hc
 {
 refine lg [0,1,2,3,4,5,6,7,8,9,10] [0,1,2,3,4,5,6,7,9,10] 12 nP D ?_;clear D;intro w D
 refine ou 0 (h_ 0 oV) ?_
 have ap:=hp.len (i:=i+1) Oa Oa
 refine(iQ 1 (fun w D=>(g_ 9 dV D)))<|(b_ 2 gu)<|(b_ 3 (h_ 4 iY))<|(iQ 4 (fun w D=>(g_ 6 Zz D)))<|(b_ 5 gu)<|(b_ 6 (Zg (r:=i+1)))<|(b_ 7 (iy (kk:=i+1) Zk yO))<|(iQ 8 (fun w D=>(iR (u:=(xm (i+1))) dV (Ym (⟨(D.f_ 2 rfl),(D.f_ 3 rfl),(⟨(D.f_ 4 rfl),fun k U O=>D.lI 5 rfl U O,fun k U O=>D.lV 5 rfl U O⟩:sO _ W I.nc Y I.ln I.C)⟩:uI _ qy qx W Y I) D 7 rfl).C.row)))<|(b_ 9 (iy (kk:=0) Zb (af (i+1) Oa Oa)))<|(iQ 10 (fun w D=>(iR (u:= .int Oi (F.C (i+1) 0)) dw ((Ym (⟨(D.f_ 2 rfl),(D.f_ 3 rfl),(⟨(D.f_ 4 rfl),fun k U O=>D.lI 5 rfl U O,fun k U O=>D.lV 5 rfl U O⟩:sO _ W I.nc Y I.ln I.C)⟩:uI _ qy qx W Y I) D 7 rfl).C.p (i+1) Oa Oa))))<|(b_ 11 (iy (kk:=(F.B i)) Zb N))<|nR 12 (rV 8 dw D (ZA _ _ _)) ?_;clear D;rintro w D
 refine⟨⟨fun h=>absurd h (by decide),D.pk [0,1,2,3,4,5,6,7,9,10]⟩,?_⟩
 refine lS<|ng<|iP<|lG ?_
 refine(zV (Zg (r:=i+1)))<|(zP)<|iq<|jm ⟨i+1,(upd fX (F.B i) (F.C (i+1) 0)),rfl,Oa,Oa,?_,rfl,D⟩
 {
 rw [_W F h0,<-ah];first|rw [if_pos Oa]|rw [if_neg Oa]}}
 refine rU<|(zV (Zg (r:=i+1)))<|(zP)<|iq<|jm ⟨i+1,fX,rfl,Oa,Oa,?_,rfl,D⟩
 {
 rw [_W F h0,<-ah];first|rw [if_pos Oa]|rw [if_neg Oa]}}
 refine uw<|(zV (h_ 3 nK))<|(zV (g_ 6 dV D))<|(zV (iW Zb zm))<|(zP)<|nI<|ny (fun mm M w=>∃(j:Int) (fY:Of),mm=((F.nf-j).toNat)/\(0<=j)/\(j<=F.nf)/\(fY=Ce F j.toNat)/\M= [(2,Or g2),(3,.int Oi 0),(4,Or g3),(6,Or g4),(72,xg),(73,.int Oi F.nf),(74,.int Oi j)]/\Sat w0 w [.blk g1 [vc,vA,vb],.blk g2 [Oh,Oh,.int Oi 0,.int Oi 0],.own qy 1 3 I.nb (ints I.B),.own qx 1 3 I.nf (ints I.F),.own W 1 22 I.nc Y,.sem (Frame.rows 3 I.nc Y I.ln I.C),.blk g3 [.int Oi F.vars,.int Oi F.den,xh,xg,qW],.sem (Frame.alt (F=I/\xh=qy/\xg=qx/\qW=W/\xm=Y) (Frame.rG [.own xh 1 3 F.nb (ints F.B),.own xg 1 3 F.nf (ints F.F),.own qW 1 22 F.nc xm,.sem (Frame.rows 3 F.nc xm F.ln F.C)])),.own v1 1 3 p.n (ints fX),.own Z 1 3 p.m (ints fY),.blk g4 [v1,Z,.int Oi (F.C 0 0),.int Oi F.den]]) ⟨0,(fun _=>0),rfl,Oa,Oa,?_,rfl,D⟩ ?_
 {
 rfl}
 clear D w
 rintro mm M w ⟨j,fY,rfl,j0,j1,ag,rfl,D⟩
 refine fQ<|(zP)<|nG<|Zf ?_ ?_<;>intro hc
 {
 refine oC<|(zP)<|(zV (iy (kk:=j) Zb zm))<|iI (iR (u:= .int Oi (F.F j)) dw (Ym (⟨(D.f_ 2 rfl),(D.f_ 3 rfl),(⟨(D.f_ 4 rfl),fun k U O=>D.lI 5 rfl U O,fun k U O=>D.lV 5 rfl U O⟩:sO _ W I.nc Y I.ln I.C)⟩:uI _ qy qx W Y I) D 7 rfl).F) ?_
 have hrg:=hp.wY (i:=j) j0 Oa Oa
 refine(On)<|iT<|(zP)<|(zV (h_ 0 oU))<|(zV (g_ 6 dw D))<|(zP)<|ig<|Zf ?_ ?_<;>intro hc
 {
 refine lg [0,1,2,3,4,5,6,7,8,9,10] [0,1,2,3,4,5,6,7,8,10] 15 nP D ?_;clear D;intro w D
 refine(b_ 0 (h_ 1 z_))<|(iQ 1 (fun w D=>(g_ 9 dV D)))<|(b_ 2 gu)<|(b_ 3 (h_ 0 oU))<|(iQ 4 (fun w D=>(g_ 6 dw D)))<|(b_ 5 (Zr (r:=(F.F j)-F.vars)))<|(b_ 6 (h_ 4 iY))<|(iQ 7 (fun w D=>(g_ 6 Zz D)))<|(b_ 8 (iy (kk:=0) Zk yO))<|(iQ 9 (fun w D=>(iR (u:=(xm 0)) dV (Ym (⟨(D.f_ 2 rfl),(D.f_ 3 rfl),(⟨(D.f_ 4 rfl),fun k U O=>D.lI 5 rfl U O,fun k U O=>D.lV 5 rfl U O⟩:sO _ W I.nc Y I.ln I.C)⟩:uI _ qy qx W Y I) D 7 rfl).C.row)))<|(b_ 10 gu)<|(b_ 11 (Zg (r:=j+1)))<|(b_ 12 (iy (kk:=j+1) Zb (af 0 Oa Oa)))<|(iQ 13 (fun w D=>(iR (u:= .int Oi (F.C 0 (j+1))) dw ((Ym (⟨(D.f_ 2 rfl),(D.f_ 3 rfl),(⟨(D.f_ 4 rfl),fun k U O=>D.lI 5 rfl U O,fun k U O=>D.lV 5 rfl U O⟩:sO _ W I.nc Y I.ln I.C)⟩:uI _ qy qx W Y I) D 7 rfl).C.p 0 Oa Oa))))<|ou 14 (iy (kk:=(F.F j)-F.vars) Zb J) ?_
 refine nR 15 (rV 9 dw D (ZA _ _ _)) ?_;clear D;rintro w D
 refine⟨⟨fun h=>absurd h (by decide),D.pk [0,1,2,3,4,5,6,7,8,10]⟩,?_⟩
 refine lS<|ng<|iP<|lG ?_
 refine(zV (Zg (r:=j+1)))<|(zP)<|iq<|jm ⟨j+1,(upd fY ((F.F j)-F.vars) (F.C 0 (j+1))),rfl,Oa,Oa,?_,rfl,D⟩
 {
 rw [_X F j0,<-ag];first|rw [if_pos Oa]|rw [if_neg Oa]}}
 refine rU<|(zV (Zg (r:=j+1)))<|(zP)<|iq<|jm ⟨j+1,fY,rfl,Oa,Oa,?_,rfl,D⟩
 {
 rw [_X F j0,<-ag];first|rw [if_pos Oa]|rw [if_neg Oa]}}
 refine oM<|(zV (lH 10 ZW D))<|lJ (nD 1 ZW D (hd:=(Za N.one (Za J.one (Za rfl (Za rfl Zj)))))) ?_;clear D;rintro w D
 refine(zP)<|jk<|Ye 1 ZW D ⟨_,rfl,?_⟩
 obtain rfl:i=F.nb:=Oa
 obtain rfl:j=F.nf:=Oa
 have aj:xK=0:=Oa
 rw [aa,aj] at qD
 rw [<-hd2] at N;rw [<-hd1] at J;replace D:=D.pk [8,9];rw [<-hd2,<-hd1] at D;subst ah;subst ag
 exact⟨_,_,X1 F,0,rfl,.inr ⟨hl,F,qD,.inr ⟨rfl,rfl⟩⟩,N,J,D⟩
def rX(t t':Tb)(e:Int):Prop:=∃u f,Run 1000 t u f/\((f=0/\e=0/\t'=u)\/(f≠0/\e=f/\t'=Tb.zero))
theorem Bj{vB U W:Value}{vv:Ov}{t:Tb}(w0:World)(hT:uI w0 vB U W vv t):
   Calls Om 95 [.agg #[.int Oi t.vars,.int Oi t.den,vB,U,W]].toArray w0 fun e w=>∃v,e= .returned v/\∃vB U W vv O e,v= .tuple #[.agg #[.int Oi O.vars,.int Oi O.den,vB,U,W],.int Oi e]/\rX t O e/\iK vB O.nb/\iK U O.nf/\iK W O.nc/\Sat w0 w [.own vB 1 3 O.nb (ints O.B),.own U 1 3 O.nf (ints O.F),.own W 1 22 O.nc vv,.sem (Frame.rows 3 O.nc vv O.ln O.C)]:=by
 refine iE Tryz.func95 Tryz.ntmps95 fun w F=> ?_
 refine fQ<|iG (nS (cs:= [_,_,_,_,_]) F) ?_;rintro _ w ⟨g1,rfl,F⟩
 refine iG (oh (cs:= [_,_,_,_,_]) Yt F) ?_;rintro _ w ⟨g2,rfl,F⟩
 refine(zP)<|iT<|(zV (lH 0 iC F))<|iJ (xc0 Po) (RL (t:=t) w (hT.below F.below)) ?_;rintro _ w ⟨xh,xg,qW,xm,D,xK,rfl,qD,zn,zm,yO,I⟩
 replace F:=(F.comp I).n3;clear I
 have af:=fun k (k0:0<=k) (k1:k<D.nc)=>((Ym (hT.below F.below) F 2 rfl).C.p k k0 k1).fP
 refine(Oo)<|iG (oh (cs:= [_,_,_,_,_]) Yt F) ?_;rintro _ w ⟨Z,rfl,F⟩
 refine lJ (nD 3 iC F (hd:=(Za rfl (Za rfl (Za zn.one (Za zm.one (Za yO.one Zj))))))) ?_;clear F;rintro w F
 refine(zP)<|l9<|(On)<|ig<|Zf ?_ ?_<;>intro hc
 {
 refine fQ<|(zV (lF (v:= .agg #[.int Oi 0,.int Oi 0,Oh,Oh,Oh])))<|(zP)<|lJ (nD 1 iC F) ?_;clear F;rintro w F
 refine(zP)<|j_<|Ye 1 iC F ⟨_,rfl,?_⟩
 exact⟨_,_,_,fun _=>undef,Tb.zero,_,rfl,⟨_,_,qD,.inr ⟨by omega,rfl,rfl⟩⟩,d_,d_,d_,((((F.sub (.cons _ (.cons _ (.cons _ (.cons _ .slnil))))).fU 1 3 (ints Tb.zero.B)).fU 1 3 (ints Tb.zero.F)).fU 1 22 (fun _=>undef)).iF 3 (fun _=>undef) Tb.zero.ln Tb.zero.C⟩}
 refine nX<|iP<|lW<| ?_
 refine WT (fun M w=>∃(N:Value) (J:Value) (qg:Value) (ql:Ov),(iK N D.nb)/\(iK J D.nf)/\(iK qg D.nc)/\(∀k,0<=k->k<D.nc->iK (ql k) (D.ln k))/\M= [(0,.agg #[.int Oi t.vars,.int Oi t.den,vB,U,W]),(1,Or g1),(2,Or g2),(3,.int Oi 0),(7,.agg #[.int Oi t.vars,.int Oi t.den,vB,U,W]),(8,.tuple #[.agg #[.int Oi D.vars,.int Oi D.den,xh,xg,qW],.int Oi xK]),(6,.tuple #[.agg #[.int Oi D.vars,.int Oi D.den,xh,xg,qW],.int Oi xK]),(9,.agg #[.int Oi D.vars,.int Oi D.den,xh,xg,qW]),(10,.int Oi xK),(4,Or Z),(5,.int Oi xK),(11,.int Oi xK),(12,B (xK≠0)),(15,.pointer (some ⟨Z,2,none⟩)),(16,xh),(18,.pointer (some ⟨Z,3,none⟩)),(19,xg),(21,.pointer (some ⟨Z,4,none⟩)),(22,qW),(17,N),(24,.pointer (some ⟨Z,2,none⟩)),(20,J),(23,qg),(25,.pointer (some ⟨Z,3,none⟩)),(26,.pointer (some ⟨Z,4,none⟩))]/\Sat w0 w [.blk g1 [.int Oi t.vars,.int Oi t.den,vB,U,W],.blk g2 [.int Oi 0,.int Oi 0,Oh,Oh,Oh],.sem (Frame.alt (D=t/\xh=vB/\xg=U/\qW=W/\xm=vv) (Frame.rG [.own xh 1 3 D.nb (ints D.B),.own xg 1 3 D.nf (ints D.F),.own qW 1 22 D.nc xm,.sem (Frame.rows 3 D.nc xm D.ln D.C)])),.blk Z [.int Oi D.vars,.int Oi D.den,N,J,qg],.own N 1 3 D.nb (ints D.B),.own J 1 3 D.nf (ints D.F),.own qg 1 22 D.nc ql,.sem (Frame.rows 3 D.nc ql D.ln D.C)]) ?_ ?_
 {
 refine lg [0,1,2,3] [0,1,2] 10 nP F ?_;clear F;intro w F
 refine ou 0 (h_ 2 lQ) ?_
 obtain⟨Y,_,_,_⟩:=qD.fin (.inl Oa)
 have b1:=Y.n1
 have b2:=Y.n2
 have b3:=Y.m2
 have b4:=Y.v
 have b5:=Y.d1
 have b6:=Y.d2
 have b7:=Y.c
 refine sQ 1 (fun w F=>(g_ 3 dV F)) ?_
 refine(b_ 3 (h_ 3 nK))<|sQ 4 (fun w F=>(g_ 3 dV F)) ?_
 refine(b_ 6 (h_ 4 iY))<|sQ 7 (fun w F=>(g_ 3 Zz F)) ?_
 refine pK 2 (xc0 oD) (lU (n:=D.nb) (f:=D.B) w (Ym (hT.below F.below) F 2 rfl).B Oa) ?_;rintro N w ⟨_,rfl,qb,I⟩
 replace F:=(F.comp I).n5;clear I
 refine⟨⟨fun _=>F.pk [0,1,2,3],F.pk [0,1,2]⟩,?_⟩
 refine(b_ 9 (h_ 2 lQ))<|pK 5 (xc0 oD) (lU (n:=D.nf) (f:=D.F) w (Ym (hT.below F.below) F 2 rfl).F Oa) ?_;rintro J w ⟨_,rfl,qd,I⟩
 replace F:=(F.comp I).n6;clear I
 refine⟨⟨fun _=>F.pk [0,1,2,3],F.pk [0,1,2]⟩,?_⟩
 refine pK 8 (xc0 RJ) (Vi (n:=D.nc) (vv:=xm) (ln:=D.ln) (f:=D.C) w (Ym (hT.below F.below) F 2 rfl).C Oa (fun k k0 k1=>by have:=Y.len (i:=k) Oa Oa;omega)) ?_;rintro qg w ⟨_,ql,rfl,qf,I⟩
 replace F:=(F.comp I).n8;clear I
 have qB:=fun k (k0:0<=k) (k1:k<D.nc)=>F.iw 7 rfl k0 k1
 refine⟨⟨fun _=>F.pk [0,1,2,3],F.pk [0,1,2]⟩,?_⟩
 refine nR 10 (xsb 3 dV F (hv:=qb.one)) ?_;clear F;rintro w F
 refine⟨⟨fun h=>absurd h (by decide),F.pk [0,1,2]⟩,?_⟩
 refine(b_ 11 (h_ 3 nK))<|nR 12 (xsb 3 dV F (hv:=qd.one)) ?_;clear F;rintro w F
 refine⟨⟨fun h=>absurd h (by decide),F.pk [0,1,2]⟩,?_⟩
 refine(b_ 13 (h_ 4 iY))<|nR 14 (xsb 3 Zz F (hv:=qf.one)) ?_;clear F;rintro w F
 refine⟨⟨fun h=>absurd h (by decide),F.pk [0,1,2]⟩,?_⟩
 refine lS<|tK ⟨N,J,qg,ql,qb,qd,qf,qB,rfl,F⟩}
 clear F w;rintro M w ⟨N,J,qg,ql,qb,qd,qf,qB,rfl,F⟩
 refine iP<|fQ<|(zV (lH 3 iC F))<|lJ (nD 1 iC F (hd:=(Za rfl (Za rfl (Za qb.one (Za qd.one (Za qf.one Zj))))))) ?_;clear F;rintro w F
 refine(zP)<|jk<|Ye 1 iC F ⟨_,rfl,?_⟩
 have aa:xK=0:=Oa
 rw [aa] at qD
 exact⟨_,_,_,_,D,0,rfl,⟨_,_,qD,.inl ⟨rfl,rfl,rfl⟩⟩,qb,qd,qf,F.pk [4,5,6,7]⟩
variable {i:Int} {f:Of} {vA vD:Value}
theorem Pj:Zc Om 156=true:=Oc
theorem ZnI:Zc Om 229=true:=Oc
theorem ZnD:Zc Om 235=true:=Oc
theorem XU:Zc Om 26=true:=Oc
theorem XT:Zc Om 277=true:=Oc
theorem Znn:Zc Om 289=true:=Oc
theorem Ii:Zc Om 8=true:=Oc
theorem oG:Zw Om 24 0=some 0:=Oc
theorem pV:Zw Om 24 1=some 1:=Oc
theorem uo:Zw Om 24 2=some 2:=Oc
theorem sV:Zw Om 24 3=some 3:=Oc
theorem lu:Zw Om 27 0=some 0:=Oc
theorem jF:Zw Om 27 1=some 1:=Oc
theorem o_:Zw Om 27 2=some 2:=Oc
theorem nZ:Zw Om 27 3=some 3:=Oc
theorem rQ:ZC Om 24=some 4:=Oc
theorem iM:ZC Om 27=some 4:=Oc
theorem Yd{vL:Value}{p:cO}(w0:World)(h:oO w0 vL vD p):
   Calls Om 26 [.agg #[vL,vD,.int Oi p.bP,.int Oi p.aV]].toArray w0 fun e w=>∃v,e= .returned v/\v=B p.Ok/\Sat w0 w []:=by
 have hm:=h.L.fP.n0;have ab:=h.L.fP.n1;have hd:=h.D.fP.n0;have hs:=h.is;have D:=h.ik
 refine iE Tryz.func26 Tryz.ntmps26 fun w F=> ?_
 refine fQ<|iG (nS (cs:= [_,_,_,_]) F) ?_;rintro _ w ⟨g1,rfl,F⟩
 refine(zP)<|l9<|(zV (h_ 0 lu))<|(zV (g_ 0 dV F))<|(zV (iW Zb h.L.fP))<|(On)<|lX 9 ?_ ?_<;>intro hc;rotate_left
 refine(zV (h_ 0 lu))<|(zV (g_ 0 dV F))<|(zV (iW Zb h.L.fP))<|(Oo)<|lX 15 ?_ ?_<;>intro hc;rotate_left
 refine(zV (h_ 1 jF))<|(zV (g_ 0 dV F))<|(zV (iW Zb h.D.fP))<|(zV (h_ 0 lu))<|(zV (g_ 0 dV F))<|(zV (iW Zb h.L.fP))<|(Oo)<|lX 24 ?_ ?_<;>intro hc;rotate_left
 refine(zV (h_ 2 o_))<|(zV (g_ 0 dw F))<|(Oo)<|lX 29 ?_ ?_<;>intro hc;rotate_left
 refine(zV (h_ 2 o_))<|(zV (g_ 0 dw F))<|(Oo)<|lX 34 ?_ ?_<;>intro hc;rotate_left
 refine(zV (h_ 3 nZ))<|(zV (g_ 0 dw F))<|(Oo)<|lX 39 ?_ ?_<;>intro hc;rotate_left
 refine(zV (h_ 3 nZ))<|(zV (g_ 0 dw F))<|(On)<|ig<|Zf ?_ ?_<;>intro hc
 {
 refine fQ<|(zP)<|j_<|Oj ?_
 first
 |exact⟨Zi (by intro D;have h1:=D.m1;have Z:=D.m2;have Y:=D.d;have W:=D.s1;have U:=D.s2;have O:=D.k1;have N:=D.k2;omega),F.nl⟩
 |exact⟨Zi (by intro D;have:=D.all i Oa Oa;unfold cO.each at this;omega),F.nl⟩}
 refine XJ<|(zV (h_ 0 lu))<|(zV (g_ 0 dV F))<|(zV (iW Zb h.L.fP))<|(zP)<|nI<|ny (fun mm M w=>∃(i:Int),mm=((p.m-i).toNat)/\(0<=i)/\(i<=p.m)/\(∀k,0<=k->k<i->p.each k)/\M= [(1,Or g1),(45,vL),(46,.int Oi p.m),(47,.int Oi i)]/\Sat w0 w [.blk g1 [vL,vD,.int Oi p.bP,.int Oi p.aV]]) ⟨0,rfl,Oa,Oa,?_,rfl,F⟩ ?_
 {
 intro k h0 h1;omega}
 clear F w
 rintro mm M w ⟨i,rfl,h0,h1,qa,rfl,F⟩
 refine fQ<|(zP)<|nG<|Zf ?_ ?_<;>intro hc
 {
 refine oC<|(zP)<|(zV (iy (kk:=i) Zb h.L.fP))<|iI (iR (u:= .int Oi (p.L i)) dw (h.L.below F.below)) ?_
 have I:=h.iL i
 refine(On)<|iT<|(Oo)<|lX 54 ?_ ?_<;>intro hc;rotate_left
 refine(zP)<|(zV (h_ 2 o_))<|(zV (g_ 0 dw F))<|(Oo)<|lX 60 ?_ ?_<;>intro hc;rotate_left
 refine(Oo)<|lX 63 ?_ ?_<;>intro hc
 {
 refine(zP)<|(zV (h_ 0 lu))<|(zV (g_ 0 dV F))<|(zP)<|(zV (Zr (r:=i-1)))<|(zV (iy (kk:=i-1) Zb h.L.fP))<|iI (iR (u:= .int Oi (p.L (i-1))) dw (h.L.below F.below)) ?_
 have I:=h.iL (i-1)
 refine qE ?_
 refine lX 74 ?_ ?_<;>intro hc;rotate_left
 refine(zV (h_ 1 jF))<|(zV (g_ 0 dV F))<|(zP)<|(zV (iy (kk:=i) Zb h.D.fP))<|iI (iR (u:= .int Oi (p.D i)) dw (h.D.below F.below)) ?_
 have I:=h.iD i
 refine(Oo)<|lX 82 ?_ ?_<;>intro hc;rotate_left
 refine(zV (h_ 1 jF))<|(zV (g_ 0 dV F))<|(zP)<|(zV (iy (kk:=i) Zb h.D.fP))<|iI (iR (u:= .int Oi (p.D i)) dw (h.D.below F.below)) ?_
 have I:=h.iD i
 refine(On)<|ig<|Zf ?_ ?_<;>intro hc
 {
 refine fQ<|(zP)<|sG<|Oj ?_
 first
 |exact⟨Zi (by intro D;have h1:=D.m1;have Z:=D.m2;have Y:=D.d;have W:=D.s1;have U:=D.s2;have O:=D.k1;have N:=D.k2;omega),F.nl⟩
 |exact⟨Zi (by intro D;have:=D.all i Oa Oa;unfold cO.each at this;omega),F.nl⟩}
 refine rU<|(zV (Zg (r:=i+1)))<|(zP)<|iq<|jm ⟨i+1,rfl,Oa,Oa,?_,rfl,F⟩
 {
 intro k J aa;rcases Int.lt_or_eq_of_le (show k<=i by omega) with D|D;exact qa k J D;rw [D];unfold cO.each;omega}
 all_goals
  refine pR ?_
  refine ig<|rW<|fQ ?_
  refine pR ?_
  refine sG<|Oj ?_
  first
  |exact⟨Zi (by intro D;have h1:=D.m1;have Z:=D.m2;have Y:=D.d;have W:=D.s1;have U:=D.s2;have O:=D.k1;have N:=D.k2;omega),F.nl⟩
  |exact⟨Zi (by intro D;have:=D.all i Oa Oa;unfold cO.each at this;omega),F.nl⟩}
 iterate 8 refine oq ?_
 refine(Oo)<|(zV (h_ 1 jF))<|(zV (g_ 0 dV F))<|(zP)<|(zV (iy (kk:=i) Zb h.D.fP))<|iI (iR (u:= .int Oi (p.D i)) dw (h.D.below F.below)) ?_
 have I:=h.iD i
 refine(Oo)<|lX 82 ?_ ?_<;>intro hc;rotate_left
 refine(zV (h_ 1 jF))<|(zV (g_ 0 dV F))<|(zP)<|(zV (iy (kk:=i) Zb h.D.fP))<|iI (iR (u:= .int Oi (p.D i)) dw (h.D.below F.below)) ?_
 have I:=h.iD i
 refine(On)<|ig<|Zf ?_ ?_<;>intro hc
 {
 refine fQ<|(zP)<|sG<|Oj ?_
 first
 |exact⟨Zi (by intro D;have h1:=D.m1;have Z:=D.m2;have Y:=D.d;have W:=D.s1;have U:=D.s2;have O:=D.k1;have N:=D.k2;omega),F.nl⟩
 |exact⟨Zi (by intro D;have:=D.all i Oa Oa;unfold cO.each at this;omega),F.nl⟩}
 refine rU<|(zV (Zg (r:=i+1)))<|(zP)<|iq<|jm ⟨i+1,rfl,Oa,Oa,?_,rfl,F⟩
 {
 intro k J aa;rcases Int.lt_or_eq_of_le (show k<=i by omega) with D|D;exact qa k J D;rw [D];unfold cO.each;omega}
 all_goals
  refine pR ?_
  refine ig<|rW<|fQ ?_
  refine pR ?_
  refine sG<|Oj ?_
  first
  |exact⟨Zi (by intro D;have h1:=D.m1;have Z:=D.m2;have Y:=D.d;have W:=D.s1;have U:=D.s2;have O:=D.k1;have N:=D.k2;omega),F.nl⟩
  |exact⟨Zi (by intro D;have:=D.all i Oa Oa;unfold cO.each at this;omega),F.nl⟩}
 refine oM<|(zP)<|jk<|Oj ?_
 exact⟨Yk ⟨by omega,Oa,Oa,Oa,Oa,Oa,Oa,fun k h0 h1=>qa k h0 Oa⟩,F.nl⟩
 all_goals
  refine pR ?_
  refine ig<|rW<|fQ ?_
  refine pR ?_
  refine j_<|Oj ?_
  first
  |exact⟨Zi (by intro D;have h1:=D.m1;have Z:=D.m2;have Y:=D.d;have W:=D.s1;have U:=D.s2;have O:=D.k1;have N:=D.k2;omega),F.nl⟩
  |exact⟨Zi (by intro D;have:=D.all i Oa Oa;unfold cO.each at this;omega),F.nl⟩
theorem WR{vL:Value}{p:cO}(w0:World)(h:oO w0 vL vD p):
   Calls Om 8 [.agg #[vL,vD,.int Oi p.bP,.int Oi p.aV]].toArray w0 fun e w=>∃v,e= .returned v/\v=B p.Ok/\Sat w0 w []:=by
 have hm:=h.L.fP.n0;have ab:=h.L.fP.n1;have hd:=h.D.fP.n0;have hs:=h.is;have D:=h.ik
 refine iE Tryz.func8 Tryz.ntmps8 fun w F=> ?_
 refine fQ<|iG (nS (cs:= [_,_,_,_]) F) ?_;rintro _ w ⟨g1,rfl,F⟩
 refine(zP)<|iT<|(zV (h_ 0 oG))<|(zV (g_ 0 dV F))<|(zV (iW Zb h.L.fP))<|(zP)<|l9<|(Oo)<|lX 10 ?_ ?_<;>intro hc;rotate_left
 refine qE ?_
 refine lX 14 ?_ ?_<;>intro hc;rotate_left
 refine(zV (h_ 1 pV))<|(zV (g_ 0 dV F))<|(zV (iW Zb h.D.fP))<|qE ?_
 refine lX 21 ?_ ?_<;>intro hc;rotate_left
 refine(zV (h_ 2 uo))<|(zV (g_ 0 dw F))<|(Oo)<|lX 26 ?_ ?_<;>intro hc;rotate_left
 refine(zV (h_ 2 uo))<|(zV (g_ 0 dw F))<|(Oo)<|lX 31 ?_ ?_<;>intro hc;rotate_left
 refine(zV (h_ 3 sV))<|(zV (g_ 0 dw F))<|(Oo)<|lX 36 ?_ ?_<;>intro hc;rotate_left
 refine(zV (h_ 3 sV))<|(zV (g_ 0 dw F))<|(On)<|ig<|Zf ?_ ?_<;>intro hc
 {
 refine fQ<|(zP)<|j_<|Oj ?_
 first
 |exact⟨Zi (by intro D;have h1:=D.m1;have Y:=D.m2;have W:=D.d;have U:=D.s1;have O:=D.s2;have N:=D.k1;have J:=D.k2;omega),F.nl⟩
 |exact⟨Zi (by intro D;have:=D.all i Oa Oa;unfold cO.each at this;omega),F.nl⟩}
 refine XJ<|(zP)<|nI<|ny (fun mm M w=>∃(i:Int),mm=((p.m-i).toNat)/\(0<=i)/\(i<=p.m)/\(∀k,0<=k->k<i->p.each k)/\M= [(1,Or g1),(3,.int Oi p.m),(4,.int Oi i)]/\Sat w0 w [.blk g1 [vL,vD,.int Oi p.bP,.int Oi p.aV]]) ⟨0,rfl,Oa,Oa,?_,rfl,F⟩ ?_
 {
 intro k h0 h1;omega}
 clear F w
 rintro mm M w ⟨i,rfl,h0,h1,qa,rfl,F⟩
 refine lW<|fQ<|(Oo)<|ig<|Zf ?_ ?_<;>intro hc
 {
 refine nX<|iP<|lW<|o7<|lW<|lg [0] [0] 1000 nP F ?_;clear F;intro w F
 refine(b_ 0 (h_ 0 oG))<|(iQ 1 (fun w F=>(g_ 0 dV F)))<|(b_ 2 gu)<|(b_ 3 (iy (kk:=i) Zb h.L.fP))<|oH 4 (fun w F=>(iR (u:= .int Oi (p.L i)) dw (h.L.below F.below))) ?_
 have I:=h.iL i
 refine(b_ 5 Z6)<|(b_ 6 gu)<|AO 52 ?_ ?_<;>intro hc
 {
 refine(iV 7)<|(iV 8)<|(iV 9)<|(iV 10)<|(iV 11)<|(iV 12)<|(iV 13)<|(iV 14)<|(b_ 15 qj)<|(b_ 16 gu)<|(iV 17)<|(iV 18)<|(iV 19)<|(iV 20)<|EU 21 ?_
 refine(iV 22)<|(iV 23)<|(iV 24)<|(iV 25)<|(iV 26)<|(iV 27)<|(iV 28)<|(iV 29)<|(iV 30)<|(iV 31)<|(iV 32)<|(b_ 33 qj)<|(b_ 34 gu)<|(iV 35)<|EU 36 ?_
 refine(iV 37)<|(iV 38)<|(iV 39)<|(iV 40)<|(b_ 41 qj)<|(b_ 42 gu)<|(iV 43)<|(iV 44)<|(iV 45)<|(iV 46)<|(iV 47)<|(iV 48)<|(b_ 49 qj)<|lS<|iP<|rW<|fQ ?_
 refine(zP)<|sG<|Oj ?_
 first
 |exact⟨Zi (by intro D;have h1:=D.m1;have Y:=D.m2;have W:=D.d;have U:=D.s1;have O:=D.s2;have N:=D.k1;have J:=D.k2;omega),F.nl⟩
 |exact⟨Zi (by intro D;have:=D.all i Oa Oa;unfold cO.each at this;omega),F.nl⟩}
 refine(b_ 7 (h_ 0 oG))<|(iQ 8 (fun w F=>(g_ 0 dV F)))<|(b_ 9 gu)<|(b_ 10 (iy (kk:=i) Zb h.L.fP))<|oH 11 (fun w F=>(iR (u:= .int Oi (p.L i)) dw (h.L.below F.below))) ?_
 have I:=h.iL i
 refine(b_ 12 (h_ 2 uo))<|(iQ 13 (fun w F=>(g_ 0 dw F)))<|(b_ 14 YC)<|(b_ 15 pY)<|(b_ 16 gu)<|AO 62 ?_ ?_<;>intro hc
 {
 refine(iV 17)<|(iV 18)<|(iV 19)<|(iV 20)<|(iV 21)<|(iV 22)<|(iV 23)<|(iV 24)<|(iV 25)<|(iV 26)<|(iV 27)<|(iV 28)<|(iV 29)<|(iV 30)<|EU 31 ?_
 refine(iV 32)<|(b_ 33 qj)<|(b_ 34 gu)<|(iV 35)<|(iV 36)<|(iV 37)<|(iV 38)<|(iV 39)<|(iV 40)<|(b_ 41 qj)<|(b_ 42 gu)<|(iV 43)<|(iV 44)<|(iV 45)<|EU 46 ?_
 refine(iV 47)<|(iV 48)<|(b_ 49 qj)<|lS<|iP<|rW<|fQ ?_
 refine(zP)<|sG<|Oj ?_
 first
 |exact⟨Zi (by intro D;have h1:=D.m1;have Y:=D.m2;have W:=D.d;have U:=D.s1;have O:=D.s2;have N:=D.k1;have J:=D.k2;omega),F.nl⟩
 |exact⟨Zi (by intro D;have:=D.all i Oa Oa;unfold cO.each at this;omega),F.nl⟩}
 refine(b_ 17 gu)<|(b_ 18 YC)<|(b_ 19 gu)<|AO 65 ?_ ?_<;>intro hc
 {
 refine(b_ 20 (h_ 0 oG))<|(iQ 21 (fun w F=>(g_ 0 dV F)))<|(b_ 22 gu)<|(b_ 23 (iy (kk:=i) Zb h.L.fP))<|oH 24 (fun w F=>(iR (u:= .int Oi (p.L i)) dw (h.L.below F.below))) ?_
 have I:=h.iL i
 refine(b_ 25 (h_ 0 oG))<|(iQ 26 (fun w F=>(g_ 0 dV F)))<|(b_ 27 gu)<|(b_ 28 (Zr (r:=i-1)))<|(b_ 29 (iy (kk:=i-1) Zb h.L.fP))<|oH 30 (fun w F=>(iR (u:= .int Oi (p.L (i-1))) dw (h.L.below F.below))) ?_
 have I:=h.iL (i-1)
 refine(b_ 31 XL)<|(b_ 32 qj)<|(b_ 33 pY)<|(b_ 34 gu)<|AO 80 ?_ ?_<;>intro hc
 {
 refine(iV 35)<|(iV 36)<|(iV 37)<|(iV 38)<|(iV 39)<|(iV 40)<|(b_ 41 qj)<|(b_ 42 gu)<|(iV 43)<|(iV 44)<|(iV 45)<|(iV 46)<|(iV 47)<|(iV 48)<|ou 49 qj ?_
 refine lS<|iP<|rW<|fQ ?_
 refine(zP)<|sG<|Oj ?_
 first
 |exact⟨Zi (by intro D;have h1:=D.m1;have Y:=D.m2;have W:=D.d;have U:=D.s1;have O:=D.s2;have N:=D.k1;have J:=D.k2;omega),F.nl⟩
 |exact⟨Zi (by intro D;have:=D.all i Oa Oa;unfold cO.each at this;omega),F.nl⟩}
 refine(b_ 35 (h_ 1 pV))<|(iQ 36 (fun w F=>(g_ 0 dV F)))<|(b_ 37 gu)<|(b_ 38 (iy (kk:=i) Zb h.D.fP))<|oH 39 (fun w F=>(iR (u:= .int Oi (p.D i)) dw (h.D.below F.below))) ?_
 have I:=h.iD i
 refine(b_ 40 Z6)<|(b_ 41 pY)<|(b_ 42 gu)<|AO 88 ?_ ?_<;>intro hc
 {
 refine(iV 43)<|(iV 44)<|(iV 45)<|(iV 46)<|(iV 47)<|(iV 48)<|(b_ 49 qj)<|lS<|iP<|rW<|fQ ?_
 refine(zP)<|sG<|Oj ?_
 first
 |exact⟨Zi (by intro D;have h1:=D.m1;have Y:=D.m2;have W:=D.d;have U:=D.s1;have O:=D.s2;have N:=D.k1;have J:=D.k2;omega),F.nl⟩
 |exact⟨Zi (by intro D;have:=D.all i Oa Oa;unfold cO.each at this;omega),F.nl⟩}
 refine(b_ 43 (h_ 1 pV))<|(iQ 44 (fun w F=>(g_ 0 dV F)))<|(b_ 45 gu)<|(b_ 46 (iy (kk:=i) Zb h.D.fP))<|oH 47 (fun w F=>(iR (u:= .int Oi (p.D i)) dw (h.D.below F.below))) ?_
 have I:=h.iD i
 refine(b_ 48 YC)<|(b_ 49 pY)<|lS<|iP ?_
 refine Zf ?_ ?_<;>intro hc
 {
 refine fQ<|(zP)<|sG<|Oj ?_
 first
 |exact⟨Zi (by intro D;have h1:=D.m1;have Y:=D.m2;have W:=D.d;have U:=D.s1;have O:=D.s2;have N:=D.k1;have J:=D.k2;omega),F.nl⟩
 |exact⟨Zi (by intro D;have:=D.all i Oa Oa;unfold cO.each at this;omega),F.nl⟩}
 refine rU<|(zP)<|(zV (Zg (r:=i+1)))<|(zP)<|iq<|jm ⟨i+1,rfl,Oa,Oa,?_,rfl,F⟩
 {
 intro k Z aa;rcases Int.lt_or_eq_of_le (show k<=i by omega) with D|D;exact qa k Z D;rw [D];unfold cO.each;omega}}
 refine(iV 20)<|(iV 21)<|(iV 22)<|(iV 23)<|(iV 24)<|(iV 25)<|(iV 26)<|(iV 27)<|(iV 28)<|(iV 29)<|(iV 30)<|(iV 31)<|(b_ 32 pY)<|(b_ 33 pY)<|ou 34 gu ?_
 refine(b_ 35 (h_ 1 pV))<|(iQ 36 (fun w F=>(g_ 0 dV F)))<|(b_ 37 gu)<|(b_ 38 (iy (kk:=i) Zb h.D.fP))<|oH 39 (fun w F=>(iR (u:= .int Oi (p.D i)) dw (h.D.below F.below))) ?_
 have I:=h.iD i
 refine(b_ 40 Z6)<|(b_ 41 pY)<|(b_ 42 gu)<|AO 88 ?_ ?_<;>intro hc
 {
 refine(iV 43)<|(iV 44)<|(iV 45)<|(iV 46)<|(iV 47)<|(iV 48)<|(b_ 49 qj)<|lS<|iP<|rW<|fQ ?_
 refine(zP)<|sG<|Oj ?_
 first
 |exact⟨Zi (by intro D;have h1:=D.m1;have Y:=D.m2;have W:=D.d;have U:=D.s1;have O:=D.s2;have N:=D.k1;have J:=D.k2;omega),F.nl⟩
 |exact⟨Zi (by intro D;have:=D.all i Oa Oa;unfold cO.each at this;omega),F.nl⟩}
 refine(b_ 43 (h_ 1 pV))<|(iQ 44 (fun w F=>(g_ 0 dV F)))<|(b_ 45 gu)<|(b_ 46 (iy (kk:=i) Zb h.D.fP))<|oH 47 (fun w F=>(iR (u:= .int Oi (p.D i)) dw (h.D.below F.below))) ?_
 have I:=h.iD i
 refine(b_ 48 YC)<|(b_ 49 pY)<|lS<|iP ?_
 refine Zf ?_ ?_<;>intro hc
 {
 refine fQ<|(zP)<|sG<|Oj ?_
 first
 |exact⟨Zi (by intro D;have h1:=D.m1;have Y:=D.m2;have W:=D.d;have U:=D.s1;have O:=D.s2;have N:=D.k1;have J:=D.k2;omega),F.nl⟩
 |exact⟨Zi (by intro D;have:=D.all i Oa Oa;unfold cO.each at this;omega),F.nl⟩}
 refine rU<|(zP)<|(zV (Zg (r:=i+1)))<|(zP)<|iq<|jm ⟨i+1,rfl,Oa,Oa,?_,rfl,F⟩
 {
 intro k Z aa;rcases Int.lt_or_eq_of_le (show k<=i by omega) with D|D;exact qa k Z D;rw [D];unfold cO.each;omega}}
 refine oM<|(zP)<|jk<|Oj ?_
 exact⟨Yk ⟨by omega,Oa,Oa,Oa,Oa,Oa,Oa,fun k h0 h1=>qa k h0 Oa⟩,F.nl⟩
 all_goals
  refine pR ?_
  refine ig<|rW<|fQ ?_
  refine pR ?_
  refine j_<|Oj ?_
  first
  |exact⟨Zi (by intro D;have h1:=D.m1;have Y:=D.m2;have W:=D.d;have U:=D.s1;have O:=D.s2;have N:=D.k1;have J:=D.k2;omega),F.nl⟩
  |exact⟨Zi (by intro D;have:=D.all i Oa Oa;unfold cO.each at this;omega),F.nl⟩
theorem Zk7{vL:Value}{p:cO}(w0:World)(h:oO w0 vL vD p):
   Calls Om 7 [.agg #[vL,vD,.int Oi p.bP,.int Oi p.aV]].toArray w0 fun e w=>∃v,e= .returned v/\v=B (GV p)/\Sat w0 w []:=by
 obtain⟨hm,ac,hd,hd1,hs,J⟩:=h.Oq
 refine iE Tryz.func7 Tryz.ntmps7 fun w D=> ?_
 refine fQ<|iG (nS (cs:= [_,_,_,_]) D) ?_;rintro _ w ⟨g1,rfl,D⟩
 refine(zP)<|l9<|(zV (h_ 0 oG))<|(zV (g_ 0 dV D))<|(zV (iW Zb h.L.fP))<|(On)<|lX 8 ?_ ?_<;>intro hc
 {
 iterate 4 refine oq ?_
 refine(zP)<|ig<|rW<|fQ ?_
 refine(zP)<|j_<|Oj ?_
 exact⟨Zi (by rintro⟨U,O,F⟩;first|omega|(have I:=(F (Od ‹¬¬(p.Ok)›)).1 i Oa Oa;omega)|(have I:=(F (Od ‹¬¬(p.Ok)›)).2;omega)),D.nl⟩}
 refine(zV (h_ 1 pV))<|(zV (g_ 0 dV D))<|(zV (iW Zb h.D.fP))<|(On)<|ig<|Zf ?_ ?_<;>intro hc
 {
 refine fQ<|(zP)<|j_<|Oj ?_
 exact⟨Zi (by rintro⟨U,O,F⟩;first|omega|(have I:=(F (Od ‹¬¬(p.Ok)›)).1 i Oa Oa;omega)|(have I:=(F (Od ‹¬¬(p.Ok)›)).2;omega)),D.nl⟩}
 refine XJ<|(zV (lH 0 rQ D))<|iJ (xc0 Ii) (WR (p:=p) w (h.below D.below)) ?_;rintro _ w ⟨rfl,N⟩
 replace D:=D.cmp N;clear N
 refine(zP)<|ig<|Zf ?_ ?_<;>intro hc
 {
 refine fQ<|(zP)<|j_<|Oj ?_
 exact⟨Yk (by first|exact⟨by omega,Oa,fun J=>absurd J ‹¬p.Ok›⟩),D.nl⟩}
 refine XJ<|(zP)<|nI<|ny (fun mm M w=>∃(i:Int),mm=((p.d-i).toNat)/\(0<=i)/\(i<=p.d)/\(∀k,0<=k->k<i->p.D k<=30)/\M= [(1,Or g1),(3,.int Oi i)]/\Sat w0 w [.blk g1 [vL,vD,.int Oi p.bP,.int Oi p.aV]]) ⟨0,rfl,Oa,Oa,?_,rfl,D⟩ ?_
 {
 intro k h0 h1;omega}
 clear D w
 rintro mm M w ⟨i,rfl,h0,h1,qa,rfl,D⟩
 refine lW<|fQ<|(zP)<|(zV (h_ 1 pV))<|(zV (g_ 0 dV D))<|(zV (iW Zb h.D.fP))<|(zP)<|ig<|Zf ?_ ?_<;>intro hc
 {
 refine oC<|(zV (h_ 1 pV))<|(zV (g_ 0 dV D))<|(zP)<|(zV (iy (kk:=i) Zb h.D.fP))<|iI (iR (u:= .int Oi (p.D i)) dw (h.D.below D.below)) ?_
 have Y:=h.iD i
 refine(zP)<|ig<|Zf ?_ ?_<;>intro hc
 {
 refine fQ<|(zP)<|sG<|Oj ?_
 exact⟨Zi (by rintro⟨U,O,F⟩;first|omega|(have I:=(F (Od ‹¬¬(p.Ok)›)).1 i Oa Oa;omega)|(have I:=(F (Od ‹¬¬(p.Ok)›)).2;omega)),D.nl⟩}
 refine rU<|(zP)<|(zV (Zg (r:=i+1)))<|(zP)<|iq<|jm ⟨i+1,rfl,Oa,Oa,?_,rfl,D⟩
 {
 intro k Z ad;rcases Int.lt_or_eq_of_le (show k<=i by omega) with J|J;exact qa k Z J;rw [J];omega}}
 refine sW<|n_<|n_<|rH<|iP<|lW<|lg [0] [0] 1000 nP D ?_;clear D;intro w D
 refine ou 0 (h_ 0 oG) ?_
 have W:=(Od ‹¬¬(p.Ok)›);have ab:=W.m1;have hL:=(W.all (p.m-1) Oa Oa);unfold cO.each at hL;have aa:=W.s2
 refine(iQ 1 (fun w D=>(g_ 0 dV D)))<|(b_ 2 (iW Zb h.L.fP))<|(b_ 3 Xx)<|(b_ 4 gu)<|AO 34 ?_ ?_<;>intro hc
 {
 refine(b_ 5 (h_ 2 uo))<|(iQ 6 (fun w D=>(g_ 0 dw D)))<|(b_ 7 (h_ 0 oG))<|(iQ 8 (fun w D=>(g_ 0 dV D)))<|(b_ 9 (h_ 0 oG))<|(iQ 10 (fun w D=>(g_ 0 dV D)))<|(b_ 11 (iW Zb h.L.fP))<|(b_ 12 (Zr (r:=p.m-1)))<|(b_ 13 (iy (kk:=p.m-1) Zb h.L.fP))<|oH 14 (fun w D=>(iR (u:= .int Oi (p.L (p.m-1))) dw (h.L.below D.below))) ?_
 have Y:=h.iL (p.m-1)
 refine(b_ 15 (Yf (r:=12*p.L (p.m-1))))<|(b_ 16 Xx)<|(b_ 17 qj)<|(b_ 18 nU)<|lS<|iP<|sZ<|Oj ?_
 exact⟨Zm (by constructor;exact fun I=>⟨by omega,Oa,fun _=>⟨fun k h6 h7=>qa k h6 Oa,Oa,Oa⟩⟩;rintro⟨U,O,F⟩;have I:=(F (Od ‹¬¬(p.Ok)›)).2.2;omega),D.nl⟩}
 refine(iV 5)<|(iV 6)<|(iV 7)<|(iV 8)<|(iV 9)<|(iV 10)<|(iV 11)<|(iV 12)<|(iV 13)<|(iV 14)<|(iV 15)<|(iV 16)<|(b_ 17 pY)<|(b_ 18 nU)<|lS<|iP<|sZ<|Oj ?_
 exact⟨Zi (by rintro⟨U,O,F⟩;first|omega|(have I:=(F (Od ‹¬¬(p.Ok)›)).1 i Oa Oa;omega)|(have I:=(F (Od ‹¬¬(p.Ok)›)).2;omega)),D.nl⟩
theorem Zoo{vL:Value}{p:cO}{n:Int}(w0:World)(h:oO w0 vL vD p)(F:p.Ok)(W:Row w0 vA 1 n (ints f))(hn:n=p.m)(J:∀i,0<=i->i<p.m->0<=f i/\f i<=2000):
   Calls Om 289 [.agg #[vL,vD,.int Oi p.bP,.int Oi p.aV],vA].toArray w0 fun e w=>∃v,e= .returned v/\v= .int Oi (ZD p f p.m.toNat)/\Sat w0 w []:=by
 subst hn;have hm:=F.m1;have aa:=F.m2
 refine iE Tryz.func289 Tryz.ntmps289 fun w D=> ?_
 refine fQ<|iG (nS (cs:= [_,_,_,_]) D) ?_;rintro _ w ⟨Y,rfl,D⟩
 refine(zP)<|iT<|(zP)<|l9<|(zP)<|nI<|ny (fun O M w=>∃(s:Int) (i:Int),O=((p.m-i).toNat)/\(0<=i)/\(i<=p.m)/\(s=ZD p f i.toNat)/\M= [(1,vA),(2,Or Y),(4,.int Oi 0),(5,.int Oi s),(6,.int Oi i)]/\Sat w0 w [.blk Y [vL,vD,.int Oi p.bP,.int Oi p.aV]]) ⟨0,0,rfl,Oa,Oa,?_,rfl,D⟩ ?_
 {
 rfl}
 clear D w
 rintro O M w ⟨s,i,rfl,N,h1,U,rfl,D⟩
 refine lW<|fQ<|(zP)<|(zV (h_ 0 oG))<|(zV (g_ 0 dV D))<|(zV (iW Zb h.L.fP))<|(zP)<|ig<|Zf ?_ ?_<;>intro hc
 {
 refine nX<|iP<|lW<|o7<|lg [0] [0] 1000 nP D ?_;clear D;intro w D
 refine ou 0 gu ?_
 have he:=F.all i Oa Oa;unfold cO.each at he;have I:=J i Oa Oa;have ac:=F.k1;have ab:=F.k2;have Z:=F.s2;have ht:=R8 F N (by omega:i<p.m) I;have hb:=TV F J N (by omega:i<=p.m);have ae:=TV F J (by omega:0<=i+1) (by omega:i+1<=p.m)
 refine(b_ 1 gu)<|(b_ 2 gu)<|(b_ 3 (iy (kk:=i) Zb W.fP))<|(iQ 4 (fun w D=>(iR (u:= .int Oi (f i)) dw (W.below D.below))))<|(b_ 5 (h_ 0 oG))<|(iQ 6 (fun w D=>(g_ 0 dV D)))<|(b_ 7 gu)<|(b_ 8 (iy (kk:=i) Zb h.L.fP))<|oH 9 (fun w D=>(iR (u:= .int Oi (p.L i)) dw (h.L.below D.below))) ?_
 have ad:=h.iL i
 refine(b_ 10 (h_ 3 sV))<|(iQ 11 (fun w D=>(g_ 0 dw D)))<|(b_ 12 (Zg (r:=p.L i+p.aV)))<|ou 13 (Yf (r:=((f i)*(p.L i+p.aV))) (e:=rfl) (hr:=(by unfold I64;omega))) ?_
 refine ou 14 (Zg (r:=s+((f i)*(p.L i+p.aV))) (hr:=(by unfold I64;omega))) ?_
 refine(b_ 15 nU)<|lS<|ng<|iP<|lG ?_
 refine(zP)<|(zV (Zg (r:=i+1)))<|(zP)<|iq<|jm ⟨s+((f i)*(p.L i+p.aV)),i+1,rfl,Oa,Oa,?_,rfl,D⟩
 {
 rw [U];exact(ZI _ N).symm}}
 refine oM<|(On)<|jk<|Oj ?_
 obtain rfl:i=p.m:=Oa
 exact⟨congrArg (Value.int .i64) U,D.nl⟩
theorem ZoR{vL:Value}{p:cO}{n:Int}(w0:World)(h:oO w0 vL vD p)(J:Row w0 vA 1 n (ints f)):
   Calls Om 235 [.agg #[vL,vD,.int Oi p.bP,.int Oi p.aV],vA].toArray w0 fun e w=>∃v,e= .returned v/\v=B (nN p n f)/\Sat w0 w []:=by
 have hm:=h.L.fP.n0;have ad:=h.L.fP.n1;have hd:=h.D.fP.n0;have hs:=h.is;have F:=h.ik;have hn:=J.fP.n0;have ac:=J.fP.n1
 refine iE Tryz.func235 Tryz.ntmps235 fun w D=> ?_
 refine fQ<|iG (nS (cs:= [_,_,_,_]) D) ?_;rintro _ w ⟨Z,rfl,D⟩
 refine(zP)<|l9<|(zV (lH 0 rQ D))<|iJ (xc0 Ii) (WR (p:=p) w (h.below D.below)) ?_;rintro _ w ⟨rfl,I⟩
 replace D:=D.cmp I;clear I
 refine(On)<|lX 9 ?_ ?_<;>intro hc
 {
 iterate 6 refine oq ?_
 refine(zP)<|ig<|rW<|fQ ?_
 refine(zP)<|j_<|Oj ?_
 first
 |exact⟨Zi (by intro F;exact absurd F.ok ‹¬p.Ok›),D.nl⟩
 |exact⟨Zi (by intro F;have:=F.eq;omega),D.nl⟩
 |exact⟨Zi (by intro F;have:=F.all i Oa (by have:=F.eq;omega);omega),D.nl⟩}
 refine(zP)<|(zV (iW Zb J.fP))<|(zV (h_ 0 oG))<|(zV (g_ 0 dV D))<|(zV (iW Zb h.L.fP))<|(On)<|ig<|Zf ?_ ?_<;>intro hc
 {
 refine fQ<|(zP)<|j_<|Oj ?_
 first
 |exact⟨Zi (by intro F;exact absurd F.ok ‹¬p.Ok›),D.nl⟩
 |exact⟨Zi (by intro F;have:=F.eq;omega),D.nl⟩
 |exact⟨Zi (by intro F;have:=F.all i Oa (by have:=F.eq;omega);omega),D.nl⟩}
 refine XJ<|(zP)<|nI<|ny (fun Y M w=>∃(i:Int),Y=((n-i).toNat)/\(0<=i)/\(i<=n)/\(∀k,0<=k->k<i->0<=f k/\f k<=2000)/\M= [(1,vA),(2,Or Z),(5,.int Oi i)]/\Sat w0 w [.blk Z [vL,vD,.int Oi p.bP,.int Oi p.aV]]) ⟨0,rfl,Oa,Oa,?_,rfl,D⟩ ?_
 {
 intro k h0 h1;omega}
 clear D w
 rintro Y M w ⟨i,rfl,h0,h1,O,rfl,D⟩
 refine lW<|fQ<|(On)<|(zV (iW Zb J.fP))<|(zP)<|ig<|Zf ?_ ?_<;>intro hc
 {
 refine oC<|(On)<|(zV (iy (kk:=i) Zb J.fP))<|(zV (iR (u:= .int Oi (f i)) dw (J.below D.below)))<|(On)<|lX 28 ?_ ?_<;>intro hc
 {
 iterate 5 refine oq ?_
 refine(zP)<|ig<|rW<|fQ ?_
 refine(zP)<|sG<|Oj ?_
 first
 |exact⟨Zi (by intro F;exact absurd F.ok ‹¬p.Ok›),D.nl⟩
 |exact⟨Zi (by intro F;have:=F.eq;omega),D.nl⟩
 |exact⟨Zi (by intro F;have:=F.all i Oa (by have:=F.eq;omega);omega),D.nl⟩}
 refine(On)<|(zV (iy (kk:=i) Zb J.fP))<|(zV (iR (u:= .int Oi (f i)) dw (J.below D.below)))<|(On)<|ig<|Zf ?_ ?_<;>intro hc
 {
 refine fQ<|(zP)<|sG<|Oj ?_
 first
 |exact⟨Zi (by intro F;exact absurd F.ok ‹¬p.Ok›),D.nl⟩
 |exact⟨Zi (by intro F;have:=F.eq;omega),D.nl⟩
 |exact⟨Zi (by intro F;have:=F.all i Oa (by have:=F.eq;omega);omega),D.nl⟩}
 refine rU<|(zP)<|(zV (Zg (r:=i+1)))<|(zP)<|iq<|jm ⟨i+1,rfl,Oa,Oa,?_,rfl,D⟩
 {
 intro k W ag;rcases Int.lt_or_eq_of_le (show k<=i by omega) with F|F;exact O k W F;rw [F];omega}}
 refine sW<|n_<|n_<|rH<|iP<|lW<|lg [0] [0] 1000 nP D ?_;clear D;intro w D
 refine oH 0 (fun w D=>(lH 0 rQ D)) ?_
 have N:=(Od ‹¬¬(p.Ok)›);have ab:=N.s1;have aa:=N.s2;have af:=N.k1;have ae:=N.k2
 refine(b_ 1 gu)<|(b_ 3 (h_ 2 uo))<|(iQ 4 (fun w D=>(g_ 0 dw D)))<|(b_ 5 (h_ 3 sV))<|(iQ 6 (fun w D=>(g_ 0 dw D)))<|(b_ 7 (Zg (r:=p.bP+p.aV)))<|pK 2 (xc0 Znn) (Zoo (p:=p) w (h.below D.below) (Od ‹¬¬(p.Ok)›) (J.below D.below) Oa (fun k U k1=>O k U Oa)) ?_;rintro _ w ⟨rfl,I⟩
 replace D:=D.cmp I;clear I
 refine⟨⟨fun _=>D,D⟩,?_⟩
 refine(b_ 8 Xx)<|(b_ 9 nU)<|lS<|iP<|sZ<|Oj ?_
 exact⟨Zm ⟨fun hu=>⟨(Od ‹¬¬(p.Ok)›),Oa,fun k U k1=>O k U Oa,hu⟩,fun F=>F.used⟩,D.nl⟩
def Z4(p:cO)(n:Int)(f:Of):Prop:=nN p n f/\∀k,0<=k->k<n->f k<=p.D k
theorem YY{p:cO}{n:Int}(hf:nN p n f)(J:0<=i)(Y:i<n):0<=f i/\f i<=(p.bP+p.aV-ZD p f i.toNat).tdiv (p.L i+p.aV):=by
 have D:=hf.ok
 have hn:=hf.eq
 have W:=D.all i J Oa
 unfold cO.each at W
 have hk:=D.k1
 have Z:∀j:Nat,i.toNat+j<=n.toNat->ZD p f i.toNat<=ZD p f (i.toNat+j):=fun j=>by
   induction j with
   |zero=>intro _;exact Int.le_refl _
   | succ j ih=>
     intro U
     have h1:=ih Oa
     have I:=hf.all ((i.toNat+j:Nat):Int) Oa Oa
     have h:=D.all ((i.toNat+j:Nat):Int) Oa Oa
     unfold cO.each at h
     have F:=Int.mul_nonneg I.1 (show 0<=p.L ((i.toNat+j:Nat):Int)+p.aV by omega)
     have N:=ZI (fun i=>f i*(p.L i+p.aV)) (i:=((i.toNat+j:Nat):Int)) Oa
     have e:ZD p f (i.toNat+(j+1))=ZD p f (i.toNat+j)+f ((i.toNat+j:Nat):Int)*(p.L ((i.toNat+j:Nat):Int)+p.aV):=by
       unfold ZD
       rw [show i.toNat+(j+1)=(((i.toNat+j:Nat):Int)+1).toNat by omega,N];rfl
     rw [e];omega
 have h1:ZD p f (i+1).toNat=ZD p f i.toNat+f i*(p.L i+p.aV):=ZI _ J
 have I:ZD p f (i+1).toNat<=ZD p f n.toNat:=by
   have h:∀j:Nat,(i+1).toNat+j<=n.toNat->ZD p f (i+1).toNat<=ZD p f ((i+1).toNat+j):=fun j=>by
     induction j with
     |zero=>intro _;exact Int.le_refl _
     | succ j ih=>
       intro U
       have h1:=ih Oa
       have I:=hf.all (((i+1).toNat+j:Nat):Int) Oa Oa
       have h:=D.all (((i+1).toNat+j:Nat):Int) Oa Oa
       unfold cO.each at h
       have F:=Int.mul_nonneg I.1 (show 0<=p.L (((i+1).toNat+j:Nat):Int)+p.aV by omega)
       have N:=ZI (fun i=>f i*(p.L i+p.aV)) (i:=(((i+1).toNat+j:Nat):Int)) Oa
       have e:ZD p f ((i+1).toNat+(j+1))=ZD p f ((i+1).toNat+j)+f (((i+1).toNat+j:Nat):Int)*(p.L (((i+1).toNat+j:Nat):Int)+p.aV):=by
         unfold ZD
         rw [show(i+1).toNat+(j+1)=((((i+1).toNat+j:Nat):Int)+1).toNat by omega,N];rfl
       rw [e];omega
   have F:=h (n.toNat-(i+1).toNat) Oa
   rwa [show(i+1).toNat+(n.toNat-(i+1).toNat)=n.toNat by omega] at F
 have h:=hf.used
 rw [<-hn] at h
 have O:=(hf.all i J Oa).1
 have F:=Int.mul_nonneg O (show 0<=p.L i+p.aV by omega)
 refine⟨O,?_⟩
 rw [Int.tdiv_eq_ediv_of_nonneg Oa]
 exact(Int.le_ediv_iff_mul_le Oa).2 Oa
theorem ZfM{p:cO}(h:p.Ok){l x:Int}(N:0<=i)(J:i<p.m)(I:0<=l)(l1:l<=p.bP+p.aV)(F:0<=x)(D:x<=l.tdiv (p.L i+p.aV)):0<=x*(p.L i+p.aV)/\x*(p.L i+p.aV)<=l/\x<=2000:=by
 have U:=h.all i N J
 unfold cO.each at U
 have O:=h.k1;have Y:=h.s2
 rw [Int.tdiv_eq_ediv_of_nonneg I] at D
 have h1:=(Int.le_ediv_iff_mul_le (show 0<p.L i+p.aV by omega)).1 D
 have W:=Int.mul_nonneg F (show 0<=p.L i+p.aV by omega)
 refine⟨W,h1,?_⟩
 by_cases hx:x<=2000
 · exact hx
 {
 exfalso
 have h3:=Int.mul_le_mul_of_nonneg_left (show 1+p.aV<=p.L i+p.aV by omega) F
 have h4:=Int.mul_le_mul_of_nonneg_right (show 1<=x by omega) O
 have Z:x*(1+p.aV)=x+x*p.aV:=by rw [Int.mul_add,Int.mul_one]
 omega}
theorem XV{vL:Value}{p:cO}(w0:World)(h:oO w0 vL vD p)(I:p.Ok)(N:0<=i)(J:i<p.m):
   Calls Om 277 [.agg #[vL,vD,.int Oi p.bP,.int Oi p.aV],.int Oi i].toArray w0 fun e w=>∃v,e= .returned v/\v= .int Oi (p.L i+p.aV)/\Sat w0 w []:=by
 have F:=I;have Y:=F.all i N J;unfold cO.each at Y;have O:=F.s2;have W:=F.k1;have U:=F.k2
 refine iE Tryz.func277 Tryz.ntmps277 fun w D=> ?_
 refine fQ<|iG (nS (cs:= [_,_,_,_]) D) ?_;rintro _ w ⟨g1,rfl,D⟩
 refine(zP)<|nG<|lg [0] [0] 1000 nP D ?_;clear D;intro w D
 refine(b_ 0 (h_ 0 lu))<|(iQ 1 (fun w D=>(g_ 0 dV D)))<|(b_ 2 gu)<|(b_ 3 (iy (kk:=i) Zb h.L.fP))<|oH 4 (fun w D=>(iR (u:= .int Oi (p.L i)) dw (h.L.below D.below))) ?_
 have Z:=h.iL i
 refine(b_ 5 (h_ 3 nZ))<|(iQ 6 (fun w D=>(g_ 0 dw D)))<|(b_ 7 (Zg (r:=p.L i+p.aV)))<|(b_ 8 nU)<|lS<|iP<|sZ<|Oj ?_
 exact⟨rfl,D.nl⟩
theorem ZoP{vL:Value}{p:cO}{n:Int}(w0:World)(h:oO w0 vL vD p)(U:Row w0 vA 1 n (ints f)):
   Calls Om 229 [.agg #[vL,vD,.int Oi p.bP,.int Oi p.aV],vA].toArray w0 fun e w=>∃v,e= .returned v/\∃(r:Int) (ok:Prop),v= .tuple #[.int Oi r,B ok]/\(ok↔nN p n f)/\Sat w0 w []:=by
 obtain⟨hm,ah,hd,hd1,hs,W⟩:=h.Oq
 have hn:=U.fP.n0;have ag:=U.fP.n1
 refine iE Tryz.func229 Tryz.ntmps229 fun w D=> ?_
 refine fQ<|iG (nS (cs:= [_,_,_,_]) D) ?_;rintro _ w ⟨g1,rfl,D⟩
 refine(On)<|l9<|(zV (lH 0 iM D))<|iJ (xc0 XU) (Yd (p:=p) w (h.below D.below)) ?_;rintro _ w ⟨rfl,F⟩
 replace D:=D.cmp F;clear F
 refine(On)<|lX 12 ?_ ?_<;>intro hc
 {
 iterate 6 refine oq ?_
 refine(zP)<|ig<|rW<|fQ ?_
 refine(On)<|j_<|rD ⟨_,rfl,?_⟩
 exact⟨_,False,by rw [ZB not_false],⟨fun N=>N.elim,fun hf=>by
   first
   |exact absurd hf.ok ‹¬p.Ok›
   |(have:=hf.eq;omega)
   |(have O:=YY hf I Oa;rw [<-show p.bP+p.aV-ZD p f i.toNat=l by omega] at*;omega)
   |(have O:=YY hf I Oa;omega)⟩,D.nl⟩}
 refine(zP)<|(zV (iW Zb U.fP))<|(zV (h_ 0 lu))<|(zV (g_ 0 dV D))<|(zV (iW Zb h.L.fP))<|(On)<|ig<|Zf ?_ ?_<;>intro hc
 {
 refine fQ<|(On)<|j_<|rD ⟨_,rfl,?_⟩
 exact⟨_,False,by rw [ZB not_false],⟨fun N=>N.elim,fun hf=>by
   first
   |exact absurd hf.ok ‹¬p.Ok›
   |(have:=hf.eq;omega)
   |(have O:=YY hf I Oa;rw [<-show p.bP+p.aV-ZD p f i.toNat=l by omega] at*;omega)
   |(have O:=YY hf I Oa;omega)⟩,D.nl⟩}
 refine ZX<|iI (h_ 2 o_) ?_
 have J:p.Ok:=by first|assumption|exact Od ‹_›
 have Y:n=p.m:=Oa
 have ae:=J.s1;have ad:=J.s2;have aj:=J.k1;have ai:=J.k2
 refine(zV (g_ 0 dw D))<|(zV (h_ 3 nZ))<|(zV (g_ 0 dw D))<|(zV (Zg (r:=p.bP+p.aV)))<|(zP)<|l9<|(zP)<|(zV (iW Zb U.fP))<|(zP)<|nI<|ny (fun mm M w=>∃(l:Int) (i:Int),mm=((n-i).toNat)/\(0<=i)/\(i<=n)/\(l=p.bP+p.aV-ZD p f i.toNat)/\(0<=l)/\(l<=p.bP+p.aV)/\(∀k,0<=k->k<i->0<=f k/\f k<=2000)/\M= [(2,Or g1),(6,.int Oi l),(25,vA),(26,.int Oi n),(27,.int Oi i)]/\Sat w0 w [.blk g1 [vL,vD,.int Oi p.bP,.int Oi p.aV]]) ⟨p.bP+p.aV,0,rfl,Oa,Oa,?_,Oa,Oa,?_,rfl,D⟩ ?_
 {
 show _=_-0;omega}
 {
 intro k k0 k1;omega}
 clear D w
 rintro mm M w ⟨l,i,rfl,I,h1,hl,aa,Z,qa,rfl,D⟩
 refine fQ<|(zP)<|nG<|Zf ?_ ?_<;>intro hc
 {
 refine oC<|iI gu ?_
 have he:=J.all i I Oa;unfold cO.each at he
 have af:=YM (a:=l) (d:=p.L i+p.aV) (A:=2100) Oa Oa
 refine(zV (iy (kk:=i) Zb U.fP))<|(zV (iR (u:= .int Oi (f i)) dw (U.below D.below)))<|(On)<|l9<|(Oo)<|lX 34 ?_ ?_<;>intro hc
 {
 iterate 7 refine oq ?_
 refine(zP)<|ig<|rW<|fQ ?_
 refine(On)<|ig<|sZ<|m_<|og<|m_<|m_<|og<|m_<|rD ⟨_,rfl,?_⟩
 exact⟨_,False,by rw [ZB not_false],⟨fun N=>N.elim,fun hf=>by
   first
   |exact absurd hf.ok ‹¬p.Ok›
   |(have:=hf.eq;omega)
   |(have O:=YY hf I Oa;rw [<-show p.bP+p.aV-ZD p f i.toNat=l by omega] at*;omega)
   |(have O:=YY hf I Oa;omega)⟩,D.nl⟩}
 refine(On)<|(zV (lH 0 iM D))<|(zP)<|iJ (xc0 XT) (XV (p:=p) (i:=i) w (h.below D.below) J Oa Oa) ?_;rintro _ w ⟨rfl,F⟩
 replace D:=D.cmp F;clear F
 refine(zV (V3 (r:=(Int.tdiv l (p.L i+p.aV)))))<|(On)<|ig<|Zf ?_ ?_<;>intro hc
 {
 refine fQ<|(On)<|ig<|sZ<|m_<|og<|m_<|m_<|og<|m_<|rD ⟨_,rfl,?_⟩
 exact⟨_,False,by rw [ZB not_false],⟨fun N=>N.elim,fun hf=>by
   first
   |exact absurd hf.ok ‹¬p.Ok›
   |(have:=hf.eq;omega)
   |(have O:=YY hf I Oa;rw [<-show p.bP+p.aV-ZD p f i.toNat=l by omega] at*;omega)
   |(have O:=YY hf I Oa;omega)⟩,D.nl⟩}
 refine nX<|iP<|lG<|iI gu ?_
 have ac:=ZfM J I Oa aa Z (x:=f i) Oa Oa
 refine(zP)<|(zV (lH 0 iM D))<|(zP)<|iJ (xc0 XT) (XV (p:=p) (i:=i) w (h.below D.below) J Oa Oa) ?_;rintro _ w ⟨rfl,F⟩
 replace D:=D.cmp F;clear F
 refine(zV (Yf (r:=((f i)*(p.L i+p.aV))) (e:=rfl)))<|(zV (Zr (r:=l-((f i)*(p.L i+p.aV)))))<|(zP)<|nT<|(zV (Zg (r:=i+1)))<|(zP)<|iq<|jm ⟨l-((f i)*(p.L i+p.aV)),i+1,rfl,Oa,Oa,?_,Oa,Oa,?_,rfl,D⟩
 {
 have h9:ZD p f (i+1).toNat=ZD p f i.toNat+f i*(p.L i+p.aV):=ZI _ I
 rw [h9];omega}
 {
 intro k ab ak;rcases Int.lt_or_eq_of_le (show k<=i by omega) with W|W;exact qa k ab W;rw [W];omega}}
 refine oM<|(Oo)<|jk<|rD ⟨_,rfl,?_⟩
 exact⟨_,True,by rw [ZV trivial],⟨fun _=>⟨J,Oa,fun k k0 k1=>(qa k k0 Oa),by rw [<-Y,show n=i by omega];omega⟩,fun _=>trivial⟩,D.nl⟩
theorem Y3{vL:Value}{p:cO}{n:Int}(w0:World)(h:oO w0 vL vD p)(J:Row w0 vA 1 n (ints f)):
   Calls Om 156 [.agg #[vL,vD,.int Oi p.bP,.int Oi p.aV],vA].toArray w0 fun e w=>∃v,e= .returned v/\v=B (nN p n f)/\Sat w0 w []:=by
 refine iE Tryz.func156 Tryz.ntmps156 fun w D=> ?_
 refine fQ<|iG (nS (cs:= [_,_,_,_]) D) ?_;rintro _ w ⟨U,rfl,D⟩
 refine(zP)<|iT<|(zV (lH 0 iM D))<|(zP)<|iJ (xc0 ZnI) (ZoP (p:=p) w (h.below D.below) (J.below D.below)) ?_;rintro _ w ⟨I,O,rfl,N,F⟩
 replace D:=D.cmp F;clear F
 refine uK ?_
 refine iT<|(On)<|jk<|Oj ?_
 exact⟨Zm N,D.nl⟩
theorem Zae{vL:Value}{p:cO}{n:Int}(w0:World)(h:oO w0 vL vD p)(F:Row w0 vA 1 n (ints f)):
   Calls Om 161 [.agg #[vL,vD,.int Oi p.bP,.int Oi p.aV],vA].toArray w0 fun e w=>∃v,e= .returned v/\v=B (Z4 p n f)/\Sat w0 w []:=by
 obtain⟨hm,ab,hd,hd1,hs,N⟩:=h.Oq
 have hn:=F.fP.n0;have aa:=F.fP.n1
 refine iE Tryz.func161 Tryz.ntmps161 fun w D=> ?_
 refine fQ<|iG (nS (cs:= [_,_,_,_]) D) ?_;rintro _ w ⟨g1,rfl,D⟩
 refine(zP)<|l9<|(zV (lH 0 iM D))<|(zP)<|iJ (xc0 Pj) (Y3 (p:=p) w (h.below D.below) (F.below D.below)) ?_;rintro _ w ⟨rfl,J⟩
 replace D:=D.cmp J;clear J
 refine(zP)<|ig<|Zf ?_ ?_<;>intro hc
 {
 refine fQ<|(zP)<|j_<|Oj ?_
 exact⟨Zi (by intro I;first|exact absurd I.1 ‹_›|(have:=I.2 i h0 Oa;omega)),D.nl⟩}
 refine XJ<|(zP)<|(zV (iW Zb F.fP))<|(zP)<|nI ?_
 have O:nN p n f:=by first|assumption|exact Od ‹_›
 have ac:=O.eq;have ad:=O.ok.d
 refine ny (fun Y M w=>∃(i:Int),Y=((n-i).toNat)/\(0<=i)/\(i<=n)/\(∀k,0<=k->k<i->f k<=p.D k)/\M= [(2,Or g1),(11,vA),(12,.int Oi n),(13,.int Oi i)]/\Sat w0 w [.blk g1 [vL,vD,.int Oi p.bP,.int Oi p.aV]]) ⟨0,rfl,Oa,Oa,?_,rfl,D⟩ ?_
 {
 intro k Z k1;omega}
 clear D w
 rintro Y M w ⟨i,rfl,h0,h1,W,rfl,D⟩
 refine fQ<|(zP)<|nG<|Zf ?_ ?_<;>intro hc
 {
 refine oC<|(zP)<|(zV (iy (kk:=i) Zb F.fP))<|(zV (iR (u:= .int Oi (f i)) dw (F.below D.below)))<|(On)<|iT<|(zP)<|(zV (h_ 1 jF))<|(zV (g_ 0 dV D))<|(zP)<|(zV (iy (kk:=i) Zb h.D.fP))<|iI (iR (u:= .int Oi (p.D i)) dw (h.D.below D.below)) ?_
 have ae:=h.iD i
 refine(zP)<|ig<|Zf ?_ ?_<;>intro hc
 {
 refine fQ<|(zP)<|sG<|Oj ?_
 exact⟨Zi (by intro I;first|exact absurd I.1 ‹_›|(have:=I.2 i h0 Oa;omega)),D.nl⟩}
 refine rU<|(zV (Zg (r:=i+1)))<|(zP)<|iq<|jm ⟨i+1,rfl,Oa,Oa,?_,rfl,D⟩
 {
 intro k U af;rcases Int.lt_or_eq_of_le (show k<=i by omega) with N|N;exact W k U N;rw [N];omega}}
 refine oM<|(zP)<|jk<|Oj ?_
 exact⟨Yk (by exact⟨O,fun k Z k1=>W k Z Oa⟩),D.nl⟩
theorem Tn{vL:Value}{p:cO}{n:Int}(w0:World)(h:oO w0 vL vD p)(F:Row w0 vA 1 n (ints f)):
   Calls Om 167 [.agg #[vL,vD,.int Oi p.bP,.int Oi p.aV],vA].toArray w0 fun e w=>∃v,e= .returned v/\v=B (Z4 p n f)/\Sat w0 w []:=by
 obtain⟨hm,ab,hd,hd1,hs,N⟩:=h.Oq
 have hn:=F.fP.n0;have aa:=F.fP.n1
 refine iE Tryz.func167 Tryz.ntmps167 fun w D=> ?_
 refine fQ<|iG (nS (cs:= [_,_,_,_]) D) ?_;rintro _ w ⟨g1,rfl,D⟩
 refine(zP)<|l9<|(zV (lH 0 rQ D))<|(zP)<|iJ (xc0 ZnD) (ZoR (p:=p) w (h.below D.below) (F.below D.below)) ?_;rintro _ w ⟨rfl,J⟩
 replace D:=D.cmp J;clear J
 refine(zP)<|ig<|Zf ?_ ?_<;>intro hc
 {
 refine fQ<|(zP)<|j_<|Oj ?_
 exact⟨Zi (by intro I;first|exact absurd I.1 ‹_›|(have:=I.2 i h0 Oa;omega)),D.nl⟩}
 refine XJ<|(zP)<|nI ?_
 have O:nN p n f:=by first|assumption|exact Od ‹_›
 have ac:=O.eq;have ad:=O.ok.d
 refine ny (fun Y M w=>∃(i:Int),Y=((n-i).toNat)/\(0<=i)/\(i<=n)/\(∀k,0<=k->k<i->f k<=p.D k)/\M= [(1,vA),(2,Or g1),(5,.int Oi i)]/\Sat w0 w [.blk g1 [vL,vD,.int Oi p.bP,.int Oi p.aV]]) ⟨0,rfl,Oa,Oa,?_,rfl,D⟩ ?_
 {
 intro k Z k1;omega}
 clear D w
 rintro Y M w ⟨i,rfl,h0,h1,W,rfl,D⟩
 refine lW<|fQ<|(On)<|(zV (iW Zb F.fP))<|(zP)<|ig<|Zf ?_ ?_<;>intro hc
 {
 refine nX<|iP<|lW<|o7<|lW<|lg [0] [0] 1000 nP D ?_;clear D;intro w D
 refine(b_ 0 gu)<|(b_ 1 gu)<|(b_ 2 (iy (kk:=i) Zb F.fP))<|(iQ 3 (fun w D=>(iR (u:= .int Oi (f i)) dw (F.below D.below))))<|(b_ 4 (h_ 1 pV))<|(iQ 5 (fun w D=>(g_ 0 dV D)))<|(b_ 6 gu)<|(b_ 7 (iy (kk:=i) Zb h.D.fP))<|oH 8 (fun w D=>(iR (u:= .int Oi (p.D i)) dw (h.D.below D.below))) ?_
 have ae:=h.iD i
 refine(b_ 9 YC)<|lS<|iP ?_
 refine Zf ?_ ?_<;>intro hc
 {
 refine fQ<|(zP)<|sG<|Oj ?_
 exact⟨Zi (by intro I;first|exact absurd I.1 ‹_›|(have:=I.2 i h0 Oa;omega)),D.nl⟩}
 refine rU<|(zP)<|(zV (Zg (r:=i+1)))<|(zP)<|iq<|jm ⟨i+1,rfl,Oa,Oa,?_,rfl,D⟩
 {
 intro k U af;rcases Int.lt_or_eq_of_le (show k<=i by omega) with N|N;exact W k U N;rw [N];omega}}
 refine oM<|(zP)<|jk<|Oj ?_
 exact⟨Yk (by exact⟨O,fun k Z k1=>W k Z Oa⟩),D.nl⟩
end Go.Proofs.YtpnamgfdakfccaaGreat
namespace Go.Proofs.YtpnamgfdakfccaaGreat
open Go Go.RowKit Go.Proofs.Gw
variable {gp:Nat} {vD:Value}
theorem Zn0:Zc Om 160=true:=Oc
theorem Pm:Zc Om 161=true:=Oc
theorem Sat.vS{w0 w:World}{l:List iO}{g:Nat}{cs:List Value}(D:Sat w0 w l)(h:(iO.blk g cs).holds w0):(iO.blk g cs).holds w:=by
 obtain⟨T,h⟩:=h
 exact⟨T,by rw [D.below.block g (by rw [Array.getElem?_eq_some_iff] at h;exact h.1)];exact h⟩
theorem F7{L:List (Nat×Value)}{w0 w:World}{l:List iO}{o:Oper}{x:Operand}{T:TypeId}{k g:Nat}{cs:List Value}(F:ZC Om T=some k)(h:(iO.blk g cs).holds w0)(N:Sat w0 w l)(I:o.op= .load T x:=by exact rfl)
 (D:iZ L x=some (Or g):=by exact rfl) (J:cs.length=k:=by exact rfl):Runs Om L w o (.value (.agg cs.toArray)) w:=Uu I (by rw [F,J]) D (Sat.vS N h).cells
theorem ZkO{vL:Value}{p:cO}{vA:Value}{n:Int}{f:Of}(w0:World)(I:(iO.blk gp [vL,vD,.int Oi p.bP,.int Oi p.aV]).holds w0)(h:oO w0 vL vD p)(J:Row w0 vA 1 n (ints f)):
   Calls Om 160 [vA,Or gp].toArray w0 fun e w=>∃v,e= .returned v/\v=B (¬Z4 p n f)/\Sat w0 w []:=by
 refine iE Tryz.func160 Tryz.ntmps160 fun w D=> ?_
 refine fQ<|(zP)<|iT<|(zV (F7 iM I D))<|(zP)<|iJ (xc0 Pm) (Zae (p:=p) w (h.below D.below) (J.below D.below)) ?_;rintro _ w ⟨rfl,F⟩
 replace D:=D.cmp F;clear F
 refine(On)<|jk<|Oj ?_
 exact⟨rfl,D⟩
theorem ZiS{vL:Value}{p:cO}{I:Value}{u:Int}{W:Ov}{ml:Of}{mf:Og}(w0:World)(hG:(iO.blk gp [vL,vD,.int Oi p.bP,.int Oi p.aV]).holds w0)(h:oO w0 vL vD p)(hM:sO w0 I u W ml mf):
   Calls Om 230 [I,.func (.func 160) #[] #[Or gp]].toArray w0 fun e w=>∃v,e= .returned v/\∃r:Int,v= .int Oi r/\((r= -1/\∀k,0<=k->k<u->¬(¬Z4 p (ml k) (mf k)))\/(0<=r/\r<u/\(¬Z4 p (ml r) (mf r))))/\Sat w0 w []:=by
 have hn:=hM.row.fP.n0;have Z:=hM.row.fP.n1
 refine iE Tryz.func230 Tryz.ntmps230 fun w D=> ?_
 refine fQ<|(zP)<|l9<|(zP)<|(zV (iW Zk hM.row.fP))<|(zP)<|nI<|ny (fun Y M w=>∃(i:Int),Y=((u-i).toNat)/\(0<=i)/\(i<=u)/\(∀k,0<=k->k<i->¬(¬Z4 p (ml k) (mf k)))/\M= [(0,I),(1,.func (.func 160) #[] #[Or gp]),(7,.int Oi u),(8,.int Oi i)]/\Sat w0 w []) ⟨0,rfl,Oa,Oa,?_,rfl,D⟩ ?_
 {
 intro k O h1;omega}
 clear D w
 rintro Y M w ⟨i,rfl,O,h1,U,rfl,D⟩
 refine fQ<|(zP)<|nG<|Zf ?_ ?_<;>intro hc
 {
 refine oC<|(On)<|iT<|(Oo)<|(zV (iy (kk:=i) Zk hM.row.fP))<|(zV (iR (u:=(W i)) dV (hM.row.below D.below)))<|iJ (uU (vs:= [_]) Zn0) (ZkO (p:=p) w (Sat.vS D hG) (h.below D.below) ((hM.p i Oa Oa).below D.below)) ?_;rintro _ w ⟨rfl,F⟩
 replace D:=D.cmp F;clear F
 refine ig<|Zf ?_ ?_<;>intro hc
 {
 refine fQ<|(On)<|sG<|Oj ?_
 exact⟨i,rfl,.inr ⟨by omega,Oa,‹¬Z4 p (ml i) (mf i)›⟩,D⟩}
 refine rU<|(zV (Zg (r:=i+1)))<|(zP)<|iq<|jm ⟨i+1,rfl,Oa,Oa,?_,rfl,D⟩
 {
 intro k N aa;rcases Int.lt_or_eq_of_le (show k<=i by omega) with J|J;exact U k N J;rw [J];assumption}}
 refine oM<|(zP)<|jk<|Oj ?_
 exact⟨-1,rfl,.inl ⟨rfl,fun k O h1=>U k O Oa⟩,D⟩
theorem ZiY{vL:Value}{p:cO}{J:Value}{u:Int}{N:Ov}{ml:Of}{mf:Og}(w0:World)(O:(iO.blk gp [vL,vD,.int Oi p.bP,.int Oi p.aV]).holds w0)(h:oO w0 vL vD p)(hM:sO w0 J u N ml mf):
   Calls Om 159 [J,.func (.func 160) #[] #[Or gp]].toArray w0 fun e w=>∃v,e= .returned v/\v=B (∃k,0<=k/\k<u/\(¬Z4 p (ml k) (mf k)))/\Sat w0 w []:=by
 refine iE Tryz.func159 Tryz.ntmps159 fun w D=> ?_
 refine fQ<|(zP)<|iT<|(On)<|iJ (xc0 IX) (ZiS w (Sat.vS D O) (h.below D.below) (hM.below D.below)) ?_;rintro _ w ⟨Z,rfl,I,F⟩
 replace D:=D.cmp F;clear F
 refine(On)<|jk<|Oj ?_
 exact⟨Zm (by
  rcases I with⟨h1,h2⟩|⟨h1,h2,h3⟩
  · exact⟨fun h=>Oa,fun⟨k,Y,W,U⟩=>absurd U (h2 k Y W)⟩
  · exact⟨fun _=>⟨_,h1,h2,h3⟩,fun _=>h1⟩),D⟩
end Go.Proofs.YtpnamgfdakfccaaGreat
namespace Go.Proofs.Gw
open Go Go.RowKit
def D9(v:Value)(q:Nat):Value:=match v with
  | .slice a _ cap=> .slice a q cap
  |u=>u
section
variable {P:Program} {L:List (Nat×Value)} {w w0:World} {o:Oper} {x y z:Operand} {T T':TypeId} {l:List iO} {E:TypeId}
theorem QV{v:Value}{n:Int}{q:Nat}(h:iK v n)(F:(q:Int)<=n):iK (D9 v q) q:=by
 obtain⟨I,h1,a,cap,rfl,D⟩:=h
 refine⟨by omega,Oa,a,cap,rfl,?_⟩
 rcases D with D|D
 · left;omega
 · exact .inr D
theorem ZjN{v:Value}{n:Int}{q:Nat}{c:Ov}(h:Row w v 1 n c)(D:(q:Int)<=n):Row w (D9 v q) 1 q c:=by
 refine⟨QV h.fP D,fun k I=> ?_⟩
 have F:=h.2 k Oa
 obtain⟨_,_,a,cap,rfl,_⟩:=h.fP
 cases a<;>exact F
theorem Qv{v:Value}{n i:Int}(q:Nat)(O:Zy P T=some (E,1))(hv:iK v n)(U:(q:Int)=i:=by omega)(hn:0<n:=by omega)(h1:i<=n:=by omega)(W:o.op= .slice T x (some y) none none:=by exact rfl)(J:iZ L x=some v:=by exact rfl)(I:iZ L y=some (.int Oi i):=by exact rfl):
   Runs P L w o (.value (XB v q)) w:=fun ρ h=>by
 obtain⟨N,inf,D,hsz⟩:=Zv O
 obtain⟨_,_,a,cap,rfl,F⟩:=hv
 subst U
 have Y:(Instr.sliceBounds true n.toNat cap (some (.int Oi (q:Int))) none none).run P w= .ok (q,n.toNat,cap) w:=by
   simp [Instr.sliceBounds,Instr.sliceBound,asIntOf]
   omega
 have e:(Instr.sliceAt T (.slice a n.toNat cap) (some (.int Oi (q:Int))) none none).run P w= .ok (XB (.slice a n.toNat cap) q) w:=by
   unfold Instr.sliceAt
   simp only [Sem.run_bind,run_underlying N,Result.andThen_ok,Instr.slice,Y]
   simp [sizeOf,typeInfo,D,hsz,XB]
   rcases F with F|⟨b,off,rfl⟩
   · omega
   {
   by_cases hc:cap=q
   · simp [hc]
   · simp [hc,Addr.add_eq]}
 simp [execOp,W,h _ _ J,h _ _ I,e]
theorem Qu{v:Value}{n i:Int}(q:Nat)(O:Zy P T=some (E,1))(hv:iK v n)(hr:UE v)(U:(q:Int)=i:=by omega)(hn:0<n:=by omega)(h1:i<=n:=by omega)(W:o.op= .slice T x none (some y) none:=by exact rfl)(J:iZ L x=some v:=by exact rfl)(I:iZ L y=some (.int Oi i):=by exact rfl):
   Runs P L w o (.value (D9 v q)) w:=fun ρ h=>by
 obtain⟨N,inf,D,hsz⟩:=Zv O
 obtain⟨_,_,a,cap,rfl,F⟩:=hv
 have hc:=hr _ _ _ rfl
 subst U
 have Y:(Instr.sliceBounds true n.toNat cap none (some (.int Oi (q:Int))) none).run P w= .ok (0,q,cap) w:=by
   simp [Instr.sliceBounds,Instr.sliceBound,asIntOf]
   omega
 have e:(Instr.sliceAt T (.slice a n.toNat cap) none (some (.int Oi (q:Int))) none).run P w= .ok (D9 (.slice a n.toNat cap) q) w:=by
   unfold Instr.sliceAt
   simp only [Sem.run_bind,run_underlying N,Result.andThen_ok,Instr.slice,Y]
   rcases F with F|⟨b,off,rfl⟩
   · omega
   · simp [sizeOf,typeInfo,D,hsz,D9,Addr.add]
 simp [execOp,W,h _ _ J,h _ _ I,e]
def Gu(q:Nat)(r:Int)(d c:Ov):Ov:=fun k=>if(q:Int)<=k/\k<q+r then d (k-q) else c k
theorem RA{v D u:Value}{n m r:Int}{q:Nat}{c d:Ov}(i:Nat)(ho:o.op= .call {callee:= .builtin .copy,args:= #[x,y],argTypes:= #[T,T']})(I:Zy P T=some (E,1))(hx:iZ L x=some D)(hy:iZ L y=some u)(hS:Sat w0 w l)(hi:l[i]? =some (.own v 1 E n c))(hD:D=XB v q\/(D=v/\q=0))
   (hR:Row w u 1 m d) (hq:(q:Int)<n) (hm:0<m) (hr:r=min (n-q) m) (h1:∀k,0<=k->k<m->(d k).oneCell'=true):
   ∃rv w',Runs P L w o (.value rv) w'/\rv= .int Oi r/\Sat w0 w' (l.set i (.own v 1 E n (Gu q r d c))):=by
 obtain⟨hu,inf,Z,hsz⟩:=Zv I
 have O:=hS
 rw [Z3 hi] at O
 rw [YE hi]
 have x8:(P.info? E).map (·.size)=some 1:=by rw [Z];simp [hsz]
 have hg:=O.get
 obtain⟨_,_,a,cap,rfl,U⟩:=hR.fP
 rcases U with U|⟨b,off,rfl⟩
 · omega
 obtain⟨_,_,⟨rfl,U⟩|⟨g,F,cur,rfl,hh,h2,h3,h4,h5⟩⟩:=hg
 · omega
 obtain⟨dCap,rfl⟩:∃dCap,D= .slice (some ⟨g,q,none⟩) (n.toNat-q) dCap:=by
   rcases hD with rfl|⟨rfl,rfl⟩
   · exact⟨F-q,by unfold XB;dsimp only;rw [if_neg Oa];simp⟩
   · exact⟨F,by simp⟩
 have done:∀{w':World} (r:Value),(Builtin.copy_ #[T,T'] 0 #[.slice (some ⟨g,q,none⟩) (n.toNat-q) dCap,.slice (some ⟨b,off,none⟩) m.toNat cap]).run P w= .ok r w'->Runs P L w o (.value r) w':=fun r hr ρ h=>by
   have W:∀ty,(Builtin.copy_ #[T,T'] ty #[.slice (some ⟨g,q,none⟩) (n.toNat-q) dCap,.slice (some ⟨b,off,none⟩) m.toNat cap])=Builtin.copy_ #[T,T'] 0 #[.slice (some ⟨g,q,none⟩) (n.toNat-q) dCap,.slice (some ⟨b,off,none⟩) m.toNat cap]:=fun _=>rfl
   simp [execOp,ho,resolve,invoke,builtin,h _ _ hx,h _ _ hy,W,hr]
 have N:=YG d r.toNat
 have hr:=run_copy_row (P:=P) w T T' 0 E g q (n.toNat-q) dCap ⟨b,off,none⟩ m.toNat cap cur E (cellsOf d r.toNat) hu x8 hh (by rw [N];show r.toNat=min m.toNat (n.toNat-q);omega) (fun j t J=>by
   rw [l7] at J
   split at J
   {
   rename_i hlt
   cases J
   have:=hR.2 j Oa
   rw [Addr.add_eq _ rfl]
   simpa [pW] using this}
   · cases J) (by rw [N,h4];omega) (fun t I=>by
   obtain⟨j,J⟩:=List.getElem?_of_mem I
   rw [l7] at J
   split at J
   · cases J;exact h1 _ Oa Oa
   · cases J)
 rw [N] at hr
 refine⟨_,_,done _ hr,by simp [goInt];omega,?_⟩
 refine O.turn (fun k _ Y=> ?_) rfl rfl rfl (by simp [World.setRow]) ⟨by omega,Oa,.inr ⟨g,F,_,rfl,setRow_heap w g cur _ E _ hh,h2,h3,?_,fun k Y=> ?_⟩⟩ (fun _ h=> .inl h)
 {
 have:k≠g:=fun e=>Y (by rw [e];rfl)
 simp [World.setRow,Array.getElem?_modify,Ne.symm this]}
 · simp [N,h4];omega
 {
 have aa:k<n.toNat:=Oa
 have h6:=h5 k Y
 have I:(cur.toList.take q).length=q:=by simp [h4];omega
 show(cur.toList.take q++cellsOf d r.toNat++cur.toList.drop (q+r.toNat)).toArray[k]? =_
 rw [List.getElem?_toArray]
 unfold Gu
 by_cases k1:k<q
 · rw [if_neg Oa,List.getElem?_append_left (by rw [List.length_append,I];omega),List.getElem?_append_left Oa,List.getElem?_take,if_pos k1,Array.getElem?_toList];exact h6
 {
 by_cases k2:k<q+r.toNat
 · rw [if_pos Oa,List.getElem?_append_left (by rw [List.length_append,I,N];omega),List.getElem?_append_right Oa,I,l7,if_pos Oa,show(((k-q:Nat)):Int)=(k:Int)-q by omega]
 · rw [if_neg Oa,List.getElem?_append_right (by rw [List.length_append,I,N];omega),List.length_append,I,N,List.getElem?_drop,Array.getElem?_toList,show q+r.toNat+(k-(q+r.toNat))=k by omega];exact h6}}
end
end Go.Proofs.Gw
namespace Go.Proofs.YtpnamgfdakfccaaGreat
open Go Go.RowKit Go.Proofs.Gw
theorem ZnH:Zc Om 231=true:=Oc
theorem We:Tryz.prog.underlying 192=some (.int .u64):=Oc
theorem D7:Tryz.prog.underlying 3=some (.int .i64):=Oc
theorem WF:(Tryz.prog.underlying 192).isSome=true:=Oc
theorem RW:(Tryz.prog.underlying 3).isSome=true:=Oc
def wZ(q:Nat)(r:Int)(d c:Of):Of:=fun k=>if(q:Int)<=k/\k<q+r then d (k-q) else c k
theorem RG(q:Nat)(r:Int)(d c:Of):Gu q r (ints d) (ints c)=ints (wZ q r d c):=by
 funext k
 by_cases h:(q:Int)<=k/\k<q+r
 · simp only [Gu,ints,wZ,if_pos h]
 · simp only [Gu,ints,wZ,if_neg h]
theorem ZqD(n:Int)(h:0<=n/\n<=1000000)(w0:World):Calls Om 231 [.int .u64 1,.int .u64 n].toArray w0 fun e w=>∃v,e= .returned v/\v= .tuple #[.int .u64 0,.int .u64 n]/\Sat w0 w []:=by
 obtain⟨k,rfl⟩:=Int.eq_ofNat_of_zero_le h.1
 have D:=Tryz.bits_Mul 1 k (by decide) Oa w0
 refine D.mono fun e w ⟨he,hw⟩=>⟨_,he,?_,by rw [hw];exact Sat.start _⟩
 rw [Nat.one_mul,Nat.div_eq_of_lt Oa,Nat.mod_eq_of_lt Oa];rfl
theorem ZiA{v:Value}{f:Of}{n:Int}(w0:World)(Z:Row w0 v 1 1 (ints f))(hn:1<=n/\n<=1000):
   Calls Om 163 [v,.int Oi n].toArray w0 fun e w=>∃v,e= .returned v/\∃r,v=r/\iK r n/\Sat w0 w [.own r 1 3 n (ints fun _=>f 0)]:=by
 refine iE Tryz.func163 Tryz.ntmps163 fun w h=> ?_
 refine fQ<|(zP)<|l9<|(zP)<|(zV (Dc Z6))<|ig<|uD<|nX<|iP<|fQ ?_
 refine(zP)<|(zV (iW Zb Z.fP))<|(zV (yF RW We))<|(zP)<|(zV (yF RW We))<|iJ (xc0 ZnH) (ZqD n Oa w) ?_;rintro _ w ⟨rfl,N⟩
 replace h:=h.cmp N;clear N
 refine uK ?_
 refine l9<|(zP)<|(zV (Dc YC))<|(On)<|(zV (Dc YC))<|(zP)<|ig<|uD<|nX<|iP<|fQ ?_
 refine(zP)<|(zV (yF WF D7))<|iG (uF Zb Zq h) ?_;rintro W w ⟨h,D⟩
 refine(zP)<|iT<|(On)<|DZ rfl rfl rfl (RA (q:=0) (r:=1) 0 rfl Zb rfl rfl h rfl (.inr ⟨rfl,rfl⟩) (Z.below h.below) Oa Oa Oa (fun _ _ _=>rfl)) ?_;rintro _ w ⟨rfl,h⟩
 replace h:=h.nJ 0 rfl (d:=ints (wZ 0 1 f (fun _=>0))) (fun k J O=>congrFun (RG 0 1 f (fun _=>0)) k)
 refine(zP)<|ig<|lW<|o7<|ny (fun Y M w=>∃(b:Int) (g:Of),Y=((n-b).toNat)/\(1<=b)/\(b<=n)/\(∀k,0<=k->k<b->g k=f 0)/\M= [(4,Oh),(7,W),(8,.int Oi b)]/\Sat w0 w [.own W 1 3 n (ints g)]) ⟨1,(wZ 0 1 f (fun _=>0)),rfl,Oa,Oa,?_,rfl,h⟩ ?_
 {
 intro k J O;obtain rfl:k=0:=Oa
 rfl}
 clear h w
 rintro Y M w ⟨b,g,rfl,h0,h1,U,rfl,h⟩
 refine lW<|fQ<|(On)<|(zV (iW Zb D))<|(zP)<|ig<|Zf ?_ ?_<;>intro hc
 {
 refine nX<|iP<|o7<|lg [] [] 1000 nP h ?_;clear h;intro w h
 refine ou 0 gu ?_
 obtain⟨I,ab⟩:∃I:Nat,(I:Int)=b:=⟨b.toNat,Oa⟩
 obtain⟨F,aa⟩:∃F:Int,F=min (n-b) b:=⟨_,rfl⟩
 refine(b_ 1 gu)<|(b_ 2 gu)<|(b_ 3 (Qv I Zb D))<|(b_ 4 gu)<|(b_ 5 gu)<|(b_ 6 (Qu I Zb D (h.holds _ (List.mem_of_getElem? (i:=0) rfl)).roomy))<|ZqW 7 rfl rfl rfl rfl (by kernel_rfl) (RA (q:=I) (r:=F) 0 rfl Zb rfl rfl h rfl (.inl rfl) (ZjN (h.f_ 0 rfl) Oa) Oa Oa Oa (fun _ _ _=>rfl)) ?_;rintro _ w ⟨rfl,h⟩
 refine⟨⟨fun _=>h.nl,h.nl⟩,?_⟩
 refine ou 8 (Zg (r:=b+F)) ?_
 replace h:=h.nJ 0 rfl (d:=ints (wZ I F g g)) (fun k J O=>congrFun (RG I F g g) k)
 refine(b_ 9 nU)<|lS<|ng<|jm ⟨b+F,(wZ I F g g),rfl,Oa,Oa,?_,rfl,h⟩
 {
 intro k J O;unfold wZ;split
 · exact U _ Oa Oa
 · exact U k J Oa}}
 refine oM<|(On)<|jk<|Oj ?_
 obtain rfl:b=n:=Oa
 exact⟨_,rfl,D,(h.nJ 0 rfl (d:=ints fun _=>f 0) (fun k J O=>by unfold ints;rw [U k J Oa])).pk [0]⟩
theorem NV{u i D k F:Int}(N:0<=k)(J:k<u)(I:0<=F)(l1:F<u)(e:D*u+F=i*u+k):D=i/\F=k:=by
 have hi:D=i:=by
   rcases Int.lt_trichotomy D i with h|h|h
   · have:=Int.mul_le_mul_of_nonneg_right (show D+1<=i by omega) (show 0<=u by omega);rw [Int.add_mul] at this;omega
   · exact h
   · have:=Int.mul_le_mul_of_nonneg_right (show i+1<=D by omega) (show 0<=u by omega);rw [Int.add_mul] at this;omega
 subst hi
 exact⟨rfl,Oa⟩
theorem MK{u n i:Int}(h:0<=u)(D:0<=i)(F:i<n):0<=i*u/\i*u+u<=n*u:=by
 refine⟨Int.mul_nonneg D h,?_⟩
 have:=Int.mul_le_mul_of_nonneg_right (show i+1<=n by omega) h
 rw [Int.add_mul] at this;omega
theorem ZkM{O:Value}{u:Int}{mv:Ov}{ml:Of}{mf:Og}{n:Int}(w0:World)(hM:sO w0 O u mv ml mf)(hu:1<=u/\u<=60)(hn:1<=n/\n<=20)(ag:∀k,0<=k->k<u->ml k=n):
   Calls Om 164 [O,.int Oi n].toArray w0 fun e w=>∃v,e= .returned v/\∃r vv,v=r/\iK r n/\Sat w0 w [.own r 1 22 n vv,.sem (Frame.rows 3 n vv (fun _=>u) (fun i j=>mf j i))]:=by
 have am:=MK (u:=u) (n:=n+1) (i:=n) Oa Oa Oa
 have mH:=X6 (a:=n) (b:=u) (A:=20) (B:=60) Oa Oa
 refine iE Tryz.func164 Tryz.ntmps164 fun w h=> ?_
 refine fQ<|(zP)<|iT<|(On)<|(zV (iW Zk hM.row.fP))<|(zV (Yf (r:=(n*u)) (e:=rfl)))<|iG (uF Zb Zq h) ?_;rintro Y w ⟨h,W⟩
 refine(zP)<|l9<|(zP)<|(zV (iW Zk hM.row.fP))<|(zP)<|nI<|ny (fun N M w=>∃(k:Int) (g:Of),N=((u-k).toNat)/\(0<=k)/\(k<=u)/\(∀j,0<=j->j<k->∀i,0<=i->i<n->g (i*u+j)=mf j i)/\M= [(0,O),(1,.int Oi n),(4,Oh),(5,Y),(17,O),(18,.int Oi u),(19,.int Oi k)]/\Sat w0 w [.own Y 1 3 (n*u) (ints g)]) ⟨0,(fun _=>0),rfl,Oa,Oa,?_,rfl,h⟩ ?_
 {
 intro j j0 j1;omega}
 clear h w
 rintro N M w ⟨k,g,rfl,F,J,hg,rfl,h⟩
 refine fQ<|(zP)<|nG<|Zf ?_ ?_<;>intro hc
 {
 refine oC<|iI gu ?_
 have mM:=ag k F Oa
 refine(zV (iy (kk:=k) Zk hM.row.fP))<|(zV (iR (u:=(mv k)) dV (hM.row.below h.below)))<|(On)<|iT<|(On)<|nI<|ny (fun N M w=>∃(i:Int) (g:Of),N=((n-i).toNat)/\(0<=i)/\(i<=n)/\(∀j,0<=j->j<k->∀i,0<=i->i<n->g (i*u+j)=mf j i)/\(∀q,0<=q->q<i->g (q*u+k)=mf k q)/\M= [(0,O),(1,.int Oi n),(4,Oh),(5,Y),(6,.int Oi k),(7,(mv k)),(17,O),(18,.int Oi u),(19,.int Oi k),(24,.int Oi n),(25,.int Oi i)]/\Sat w0 w [.own Y 1 3 (n*u) (ints g)]) ⟨0,g,rfl,Oa,Oa,?_,?_,rfl,h⟩ ?_
 {
 exact hg}
 {
 intro q U D;omega}
 clear h w
 rintro N M w ⟨i,g,rfl,i0,i1,ac,ab,rfl,h⟩
 refine fQ<|(zP)<|nG<|Zf ?_ ?_<;>intro hc
 {
 refine oC<|iI gu ?_
 have aj:=MK (u:=u) (n:=n) Oa i0 Oa
 refine(zP)<|ig<|lG<|(Oo)<|(zV (iW Zk hM.row.fP))<|(zV (Yf (r:=(i*u)) (e:=rfl)))<|(zP)<|(zV (Zg (r:=(i*u)+k)))<|(On)<|(zV (iy (kk:=i) Zb (hM.p k Oa Oa).fP))<|(zV (iR (u:= .int Oi ((mf k) i)) dw ((hM.p k Oa Oa).below h.below)))<|(zV (iy (kk:=(i*u)+k) Zb W))<|lJ (rV 0 dw h (ZA _ _ _)) ?_;clear h;rintro w h
 refine nT<|(zV (Zg (r:=i+1)))<|(zP)<|iq<|jm ⟨i+1,(upd g ((i*u)+k) ((mf k) i)),rfl,Oa,Oa,?_,?_,rfl,h⟩
 {
 intro j j0 j1 q U D;rw [upd_ne _ _ (fun e=>by have:=NV F Oa j0 Oa e;omega)];exact ac j j0 j1 q U D}
 {
 intro q U D;by_cases e:q=i
 · rw [e,Zp]
 · rw [upd_ne _ _ (fun e9=>e (NV F Oa F Oa e9).1)];exact ab q U Oa}}
 refine sW<|n_<|n_<|rH<|ng<|iP<|lG<|(zV (Zg (r:=k+1)))<|(zP)<|iq<|jm ⟨k+1,g,rfl,Oa,Oa,?_,rfl,h⟩
 {
 intro j j0 j1 q U D;by_cases e:j=k
 · rw [e];exact ab q U Oa
 · exact ac j j0 Oa q U D}}
 refine oM<|(zP)<|l9<|(On)<|nI ?_
 replace h:=h.fU 1 22 (fun _=>Oh)
 replace h:=h.iF 3 (fun _=>Oh) (fun _=>u) (fun i j=>mf j i)
 have zL:=fun k (F:0<=k) (J:k<0)=>h.iw 2 rfl F J
 refine ny (fun N M w=>∃(I:Int) (Z:Ov) (i:Int) (wC:Value),N=((n-i).toNat)/\(0<=i)/\(i<=n)/\(I=i)/\(iK wC I)/\M= [(0,O),(4,Oh),(5,Y),(9,wC),(42,.int Oi n),(43,.int Oi i)]/\Sat w0 w [.own Y 1 3 (n*u) (ints g),.own wC 1 22 I Z,.sem (Frame.rows 3 I Z (fun _=>u) (fun i j=>mf j i))]) ⟨0,(fun _=>Oh),0,Oh,rfl,Oa,Oa,Oa,?_,rfl,h⟩ ?_
 {
 exact d_}
 clear h w
 rintro N M w ⟨I,Z,i,wC,rfl,i0,i1,af,ad,rfl,h⟩
 have q9:=fun k (F:0<=k) (J:k<I)=>h.iw 2 rfl F J
 refine fQ<|(zP)<|nG<|Zf ?_ ?_<;>intro hc
 {
 refine oC<|iI gu ?_
 have aj:=MK (u:=u) (n:=n) Oa i0 Oa
 refine(zP)<|iT<|(zP)<|(zV (iW Zk hM.row.fP))<|iG (uF Zb Zq h) ?_;rintro v2 w ⟨h,aa⟩
 refine(zP)<|iT<|qE ?_
 obtain⟨D,al⟩:∃D:Nat,(D:Int)=i*u:=⟨(i*u).toNat,Oa⟩
 refine(zV (iW Zk hM.row.fP))<|(zV (Yf (r:=(i*u)) (e:=rfl)))<|(zV (Qv D Zb W))<|DZ rfl rfl rfl (RA (q:=0) (r:=u) 3 rfl Zb rfl rfl h rfl (.inr ⟨rfl,rfl⟩) ((YR (q:=D) W (h.holds _ (List.mem_of_getElem? (i:=0) rfl)).roomy Oa).row Oa (h.f_ 0 rfl)) Oa Oa Oa (fun _ _ _=>rfl)) ?_;rintro _ w ⟨rfl,h⟩
 refine ig<|lG<|iI gu ?_
 replace h:=h.nJ 3 rfl (d:=ints (wZ 0 u (fun k=>g (k+(D:Int))) (fun _=>0))) (fun k F J=>congrFun (RG 0 u (fun k=>g (k+(D:Int))) (fun _=>0)) k)
 refine(zP)<|iG (pO (n:=1) (len:=1) (pv:= [(0,v2)]) (cs:= [v2]) (c:=(fun _=>v2)) Zk ZQ h (hf:=by obtain⟨_,_,_,_,rfl,_⟩:=aa;kernel_rfl)) ?_;rintro v3 w ⟨h,ak⟩
 refine iG (pz 1 (r:=I+1) Zk ZQ h (h.f_ 4 rfl) (YA _ _ _) (h1:=fun _ _ _=>aa.one)) ?_;rintro v4 w ⟨h,ae⟩
 replace h:=Sat.merge (l1:= [_,_]) (l2:= []) (l3:= [_]) h Oa
 have xV:=fun k (F:0<=k) (J:k<I+1)=>h.iw 2 rfl F J
 refine iI nU ?_
 replace h:=h.oP (xk:=lD Z I v2) (vT:=fun _=>u) (f':=fun i j=>mf j i) 2 rfl (fun k F J=>by
   by_cases e:k<i
   · exact⟨rfl,Zl Oa,fun j _ _=>by rw [Zl Oa]⟩
   {
   have ai:k=i:=Oa
   refine⟨rfl,?_,fun b b0 b1=> ?_⟩
   · rw [Zo Oa]
   · rw [Zo Oa] at b1
     rw [Zo Oa,ai];unfold wZ;rw [if_pos Oa];show g (b-(0:Nat)+D)=_;rw [show b-((0:Nat):Int)+D=i*u+b by omega];exact hg b b0 Oa i i0 Oa})
 have ah:=fun k (F:0<=k) (J:k<I+1)=>h.iw 2 rfl F J
 refine nT<|(zV (Zg (r:=i+1)))<|(zP)<|iq<|jm ⟨I+1,lD Z I v2,i+1,v4,rfl,Oa,Oa,Oa,?_,rfl,h.pk [0,1,2]⟩
 {
 exact ae}}
 refine oM<|(On)<|jk<|Oj ?_
 obtain rfl:i=n:=Oa
 subst af
 exact⟨_,_,rfl,ad,h.pk [1,2]⟩
end Go.Proofs.YtpnamgfdakfccaaGreat
