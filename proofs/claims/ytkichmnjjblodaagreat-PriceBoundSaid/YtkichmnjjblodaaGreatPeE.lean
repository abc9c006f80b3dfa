import Derived.Test.YtkichmnjjblodaaGreatPeD
import Derived.OrdersIn
set_option linter.unusedVariables false
set_option linter.unusedSimpArgs false
set_option maxRecDepth 20000
set_option maxHeartbeats 4000000
namespace Go.Proofs.YtkichmnjjblodaaGreat
open Go Go.RowKit Go.Proofs.Gw
variable {a b nm:Int} {cnt:Oe} {pv:Int->Value} {vd:Value}
theorem ZlX:Zc Oj 136=true:=Ob
theorem Zga:Zc Oj 172=true:=Ob
theorem Zao:Zc Oj 173=true:=Ob
theorem Zld:Zc Oj 199=true:=Ob
theorem Zct:Zc Oj 215=true:=Ob
theorem Zdv:Zc Oj 97=true:=Ob
theorem YK:ZJ Oj 59=some (107,2):=Ob
theorem ZcD{n:Int}{s:Oe}{F:Gw.Frame}{m:Int}(w0 w:World)(D:Sat w0 w [.own vd 2 107 n (Zd (fun G=>pv (s G)) (fun G=>cnt (s G))),.sem F])(I:Slh vd n)(W:n<=100000000)(J:∀x,(pv x).oneCell'=true)(a0:0<=a)(X:0<=m)(ab:a+m<=b)(Z:b+m<=n):
   Calls Oj 215 [vd,.int Oh a,.int Oh b,.int Oh m,.func (.func 97) #[] #[]].toArray w fun e w=>∃v,e= .returned v/\v= .tuple #[]/\Sat w0 w [.own vd 2 107 n (Zd (fun G=>pv ((swr s a b m) G)) (fun G=>cnt ((swr s a b m) G))),.sem F]:=by
 refine zenF Tryz.func215 Tryz.ntmps215 ?_
 refine zsr<|(zP)<|zx6<|zlp (fun O M w=>∃(t:Oe) (i:Int),O=((m-i).toNat)/\(0<=i)/\(i<=m)/\(t=swr s a b i)/\M= [(0,vd),(1,.int Oh a),(2,.int Oh b),(3,.int Oh m),(10,.int Oh i)]/\Sat w0 w [.own vd 2 107 n (Zd (fun G=>pv (t G)) (fun G=>cnt (t G))),.sem F]) ⟨s,0,rfl,Oa,Oa,?_,rfl,D⟩ ?_
 ·
  exact(ZaM s a b).symm
 clear D w
 rintro O M w ⟨t,i,rfl,V,Y,U,rfl,D⟩
 refine zx11<|(On)<|zlt<|Ze ?_ ?_<;>intro hc
 ·
  refine zx38<|zdst [0,1] [1] 21 mx_ D ?_;clear D;intro w D
  refine(zDw 0 xmv)<|(zDw 1 xmv)<|(zDw 2 xmv)<|(zDw 3 (Zg (r:=a+i)))<|(zDw 4 xmv)<|(zDw 5 xmv)<|(zDw 6 xmv)<|(zDw 7 (Zg (r:=b+i)))<|(zDw 8 xmv)<|(zDw 9 xmv)<|(zDw 10 xmv)<|(zDw 11 (Zg (r:=b+i)))<|(zDw 12 (xix (kk:=2*b+2*i) YK I))<|zdl 13 (fun w D=>(xlw (cs:= [(pv (t (b+i))),.int Oh (cnt (t (b+i)))]) ZQ (D.c7 0 rfl) (ZG (k:=2*b+2*i) (i:=b+i) (fun G=>pv (t G)) (fun G=>cnt (t G)) Oa))) ?_
  refine(zDw 14 xmv)<|(zDw 15 xmv)<|(zDw 16 xmv)<|(zDw 17 (Zg (r:=a+i)))<|(zDw 18 (xix (kk:=2*a+2*i) YK I))<|zdl 19 (fun w D=>(xlw (cs:= [(pv (t (a+i))),.int Oh (cnt (t (a+i)))]) ZQ (D.c7 0 rfl) (ZG (k:=2*a+2*i) (i:=a+i) (fun G=>pv (t G)) (fun G=>cnt (t G)) Oa))) ?_
  refine(zDw 20 (xix (kk:=2*a+2*i) YK I))<|zde 21 (xso2 0 ZQ D (X8 (i:=a+i) (k:=2*a+2*i) _ _ _ _ Oa) (hv:=J _)) ?_;clear D;rintro w D
  refine⟨⟨fun h=>absurd h (by decide),D.pk [1]⟩,?_⟩
  refine(zDw 22 (xix (kk:=2*b+2*i) YK I))<|zde 23 (xso2 0 ZQ D (Eq.trans (X8 (i:=b+i) (k:=2*b+2*i) _ _ _ _ Oa) (Wx pv cnt t (a+i) (b+i))) (hv:=J _)) ?_;clear D;rintro w D
  refine⟨⟨fun h=>absurd h (by decide),D.pk [1]⟩,?_⟩
  refine zdd<|zbn<|ztn<|zrg ?_
  refine(zP)<|(zV (Zg (r:=i+1)))<|(zP)<|zln<|zlq ⟨swp t (a+i) (b+i),i+1,rfl,Oa,Oa,?_,rfl,D⟩
  ·
   rw [U];exact ZaN V Oa Oa Oa
 refine zxt<|ztx<|ztx<|zbh<|XP ⟨_,rfl,?_⟩
 obtain rfl:i=m:=Oa
 subst U
 exact⟨rfl,D⟩
theorem Zml{n:Int}{s:Oe}{F:Gw.Frame}{m:Int}(w0 w:World)(D:Sat w0 w [.own vd 2 107 n (Zd (fun G=>pv (s G)) (fun G=>cnt (s G))),.sem F])(I:Slh vd n)(J:n<=100000000)(O:∀x,(pv x).oneCell'=true)(a0:0<=a)(am:a<m)(W:m<b)(bn:b<=n):
   Calls Oj 199 [vd,.int Oh a,.int Oh m,.int Oh b,.func (.func 97) #[] #[]].toArray w fun e w=>∃v,e= .returned v/\v= .tuple #[]/\Sat w0 w [.own vd 2 107 n (Zd (fun G=>pv ((rot s a m b) G)) (fun G=>cnt ((rot s a m b) G))),.sem F]:=by
 refine zenF Tryz.func199 Tryz.ntmps199 ?_
 refine zsr<|(Om)<|(zV (Zw (r:=m-a)))<|(zP)<|zlz<|(Om)<|(zV (Zw (r:=b-m)))<|(zP)<|zlt<|zsq<|zbk<|zlp (fun U M w=>∃(t:Oe) (i:Int) (j:Int),U=((i+j).toNat)/\(1<=i)/\(1<=j)/\(a<=m-i)/\(m+j<=b)/\(rot t (m-i) m (m+j)=rot s a m b)/\M= [(0,vd),(2,.int Oh m),(4,.func (.func 97) #[] #[]),(10,.int Oh i),(11,.int Oh j)]/\Sat w0 w [.own vd 2 107 n (Zd (fun G=>pv (t G)) (fun G=>cnt (t G))),.sem F]) ⟨s,m-a,b-m,rfl,Oa,Oa,Oa,Oa,?_,rfl,D⟩ ?_
 ·
  rw [show m-(m-a)=a by omega,show m+(b-m)=b by omega]
 clear D w
 rintro U M w ⟨t,i,j,rfl,i0,Y,Z,X,hr,rfl,D⟩
 refine zx11<|(On)<|zlt<|Ze ?_ ?_<;>intro hc
 ·
  refine zsk<|ztn<|zbk<|zsr<|(On)<|zlt<|Ze ?_ ?_<;>intro hc
  ·
   refine zsr<|(On)<|(zV (Zw (r:=m-i)))<|(On)<|zlc (xc0 Zct) (ZcD (s:=t) (a:=m-i) (b:=m) (m:=j) w0 w D I J O Oa Oa Oa Oa) ?_;rintro _ w ⟨rfl,D⟩
   refine zlt<|zrg<|(Om)<|(zV (Zw (r:=i-j)))<|(zP)<|zln<|zbn<|zlq ⟨(swr t (m-i) m j),i-j,j,rfl,Oa,Oa,Oa,Oa,?_,rfl,D⟩
   ·
    first|(rw [<-hr,show m-(i-j)=m-i+j by omega];exact V3 Oa Oa)|(rw [<-hr,show m+(j-i)=m+j-i by omega];exact Vo Oa Oa)
  refine zsr<|(On)<|(zV (Zw (r:=m-i)))<|(Om)<|(zV (Zg (r:=m+j)))<|(zP)<|(zV (Zw (r:=m+j-i)))<|(Om)<|zlc (xc0 Zct) (ZcD (s:=t) (a:=m-i) (b:=m+j-i) (m:=i) w0 w D I J O Oa Oa Oa Oa) ?_;rintro _ w ⟨rfl,D⟩
  refine zlt<|zrg<|(Om)<|(zV (Zw (r:=j-i)))<|(zP)<|zln<|zbn<|zlq ⟨(swr t (m-i) (m+j-i) i),i,j-i,rfl,Oa,Oa,Oa,Oa,?_,rfl,D⟩
  ·
   first|(rw [<-hr,show m-(i-j)=m-i+j by omega];exact V3 Oa Oa)|(rw [<-hr,show m+(j-i)=m+j-i by omega];exact Vo Oa Oa)
 refine zxt<|ztx<|ztx<|zbh<|ztn<|zrg<|(On)<|(zV (Zw (r:=m-i)))<|(On)<|zlc (xc0 Zct) (ZcD (s:=t) (a:=m-i) (b:=m) (m:=i) w0 w D I J O Oa Oa Oa Oa) ?_;rintro _ w ⟨rfl,D⟩
 refine zln<|XP ⟨_,rfl,?_⟩
 have V:(swr t (m-i) m i)=rot s a m b:=by
   rw [<-hr,show j=i by omega];exact ZaY Oa
 rw [V] at D
 exact⟨rfl,D⟩
theorem Zg5 {n:Int} {s:Oe} {lt:Int->Int->Prop} {F:Gw.Frame} (w0 w:World) (D:Sat w0 w [.own vd 2 107 n (Zd (fun G=>pv (s G)) (fun G=>cnt (s G))),.sem F]) (J:Slh vd n) (aa:n<=100000000) (qm:∀x,(pv x).oneCell'=true) (qM:∀(w:World) (x y:Int),0<=x->x<nm->0<=y->y<nm->Below w0.heap.size w0 w->F.holds w->Calls Oj 97 [.agg #[pv x,.int Oh (cnt x)],.agg #[pv y,.int Oh (cnt y)]].toArray w fun e w'=>∃v,e= .returned v/\∃c:Int,v= .int Oh c/\(c<0↔lt x y)/\Sat w w' []) (hd:∀k,0<=k->k<n->0<=s k/\s k<nm) (hw:Swo lt) (a0:0<=a) (ab:a<=b) (bn:b<=n) (xj:Tc a b s):
   Calls Oj 172 [vd,.int Oh a,.int Oh b,.func (.func 97) #[] #[]].toArray w fun e w=>∃v,e= .returned v/\v= .tuple #[]/\∃t:Oe,PermOn a b s t/\Srt (Tie lt) a b t/\Sat w0 w [.own vd 2 107 n (Zd (fun G=>pv (t G)) (fun G=>cnt (t G))),.sem F]:=by
 refine zenF Tryz.func172 Tryz.ntmps172 ?_
 refine zsr<|(zP)<|(zV (Zg (r:=a+1)))<|(zP)<|zx6<|zlp (fun U M w=>∃(t:Oe) (i:Int),U=((b-i).toNat)/\(a+1<=i)/\(i<=b\/i=a+1)/\(PermOn a i s t)/\(Srt (Tie lt) a i t)/\(∀k,0<=k->k<n->0<=t k/\t k<nm)/\M= [(0,vd),(1,.int Oh a),(2,.int Oh b),(3,.func (.func 97) #[] #[]),(8,.int Oh i)]/\Sat w0 w [.own vd 2 107 n (Zd (fun G=>pv (t G)) (fun G=>cnt (t G))),.sem F]) ⟨s,a+1,rfl,Oa,Oa,?_,?_,?_,rfl,D⟩ ?_
 ·
  exact .refl _ _ _
 ·
  intro p q p0 pq q1;omega
 ·
  exact hd
 clear D w
 rintro U M w ⟨t,i,rfl,i0,i1,V,hs,hd1,rfl,D⟩
 refine zx11<|(On)<|zlt<|Ze ?_ ?_<;>intro hc
 ·
  refine zx3<|(Om)<|zx6<|zlp (fun U M w=>∃(I:Oe) (j:Int),U=((j-a).toNat)/\(a<=j)/\(j<=i)/\(Ins lt a i j t I)/\(∀k,0<=k->k<n->0<=I k/\I k<nm)/\M= [(0,vd),(1,.int Oh a),(2,.int Oh b),(3,.func (.func 97) #[] #[]),(8,.int Oh i),(9,.int Oh j)]/\Sat w0 w [.own vd 2 107 n (Zd (fun G=>pv (I G)) (fun G=>cnt (I G))),.sem F]) ⟨t,i,rfl,Oa,Oa,?_,?_,rfl,D⟩ ?_
  ·
   exact Ins.start Oa hs (Zc7 V xj Oa)
  ·
   exact hd1
  clear D w
  rintro U M w ⟨I,j,rfl,j0,j1,X,hd2,rfl,D⟩
  refine zsq<|zsq<|zdst [0,1] [0,1] 1000 mx_ D ?_;clear D;intro w D
  refine(zDw 0 xmv)<|(zDw 1 xmv)<|(zDw 2 Yu)<|(zDw 3 xmv)<|zdb 21 ?_ ?_<;>intro hc
  ·
   refine(zDw 4 xmv)<|(zDw 5 xmv)<|(zDw 6 xmv)<|(zDw 7 (xix (kk:=2*j) YK J))<|(zDl 8 (fun w D=>(xlw (cs:= [(pv (I j)),.int Oh (cnt (I j))]) ZQ (D.c7 0 rfl) (ZG (k:=2*j) (i:=j) (fun G=>pv (I G)) (fun G=>cnt (I G)) Oa))))<|(zDw 9 xmv)<|(zDw 10 xmv)<|(zDw 11 (Zw (r:=j-1)))<|(zDw 12 (xix (kk:=2*j-2) YK J))<|(zDl 13 (fun w D=>(xlw (cs:= [(pv (I (j-1))),.int Oh (cnt (I (j-1)))]) ZQ (D.c7 0 rfl) (ZG (k:=2*j-2) (i:=j-1) (fun G=>pv (I G)) (fun G=>cnt (I G)) Oa))))<|zdc 14 (xc0 Zdv) (qM w (I j) (I (j-1)) (hd2 j Oa Oa).1 (hd2 j Oa Oa).2 (hd2 (j-1) Oa Oa).1 (hd2 (j-1) Oa Oa).2 D.below (D.holds _ (List.mem_of_getElem? (i:=1) rfl))) ?_;rintro _ w ⟨c1,rfl,O,W⟩
   replace D:=D.cmp W;clear W
   refine⟨⟨fun _=>D,D⟩,?_⟩
   refine(zDw 15 Z7)<|(zDw 16 xpt)<|zdd<|ztn ?_
   refine Ze ?_ ?_<;>intro hc
   ·
    refine zx38<|zdst [0,1] [1] 15 mx_ D ?_;clear D;intro w D
    refine(zDw 0 xmv)<|(zDw 1 xmv)<|(zDw 2 xmv)<|(zDw 3 xmv)<|(zDw 4 (Zw (r:=j-1)))<|(zDw 5 xmv)<|(zDw 6 xmv)<|(zDw 7 (Zw (r:=j-1)))<|(zDw 8 (xix (kk:=2*j-2) YK J))<|zdl 9 (fun w D=>(xlw (cs:= [(pv (I (j-1))),.int Oh (cnt (I (j-1)))]) ZQ (D.c7 0 rfl) (ZG (k:=2*j-2) (i:=j-1) (fun G=>pv (I G)) (fun G=>cnt (I G)) Oa))) ?_
    refine(zDw 10 xmv)<|(zDw 11 xmv)<|(zDw 12 (xix (kk:=2*j) YK J))<|zdl 13 (fun w D=>(xlw (cs:= [(pv (I j)),.int Oh (cnt (I j))]) ZQ (D.c7 0 rfl) (ZG (k:=2*j) (i:=j) (fun G=>pv (I G)) (fun G=>cnt (I G)) Oa))) ?_
    refine(zDw 14 (xix (kk:=2*j) YK J))<|zde 15 (xso2 0 ZQ D (X8 (i:=j) (k:=2*j) _ _ _ _ Oa) (hv:=qm _)) ?_;clear D;rintro w D
    refine⟨⟨fun h=>absurd h (by decide),D.pk [1]⟩,?_⟩
    refine(zDw 16 (xix (kk:=2*j-2) YK J))<|zde 17 (xso2 0 ZQ D (Eq.trans (X8 (i:=j-1) (k:=2*j-2) _ _ _ _ Oa) (Wx pv cnt I j (j-1))) (hv:=qm _)) ?_;clear D;rintro w D
    refine⟨⟨fun h=>absurd h (by decide),D.pk [1]⟩,?_⟩
    refine zdd<|zbn<|ztn<|zrg ?_
    refine(zP)<|(zV (Zw (r:=j-1)))<|(zP)<|zln<|zlq ⟨swp I j (j-1),j-1,rfl,Oa,Oa,?_,?_,rfl,D⟩
    ·
     exact X.step Oa Oa (O.1 ‹c1<0›)
    ·
     exact(Tz (lo:=a) (hi:=n) Oa Oa Oa Oa).ir a0 (.inl Oa) hd2
   refine zx21<|(zP)<|(zV (Zg (r:=i+1)))<|(zP)<|zln<|zlq ⟨I,i+1,rfl,Oa,Oa,?_,?_,?_,rfl,D⟩
   ·
    exact(V.mono Oa Oa).trans X.perm
   ·
    exact X.fin hw Oa Oa (by first|exact .inl Oa|exact .inr fun h=>absurd (O.2 h) ‹¬c1<0›)
   ·
    exact hd2
  refine(zDo 4)<|(zDo 5)<|(zDo 6)<|(zDo 7)<|(zDo 8)<|(zDo 9)<|(zDo 10)<|(zDo 11)<|(zDo 12)<|(zDo 13)<|(zDo 14)<|(zDo 15)<|(zDw 16 xpf)<|zdd<|ztn<|zcf<|zxt<|ztx<|ztx<|zbh<|zbn<|ztn<|zrg ?_
  refine(zP)<|(zV (Zg (r:=i+1)))<|(zP)<|zln<|zlq ⟨I,i+1,rfl,Oa,Oa,?_,?_,?_,rfl,D⟩
  ·
   exact(V.mono Oa Oa).trans X.perm
  ·
   exact X.fin hw Oa Oa (by first|exact .inl Oa|exact .inr fun h=>absurd (O.2 h) ‹¬c1<0›)
  ·
   exact hd2
 refine zxt<|ztx<|ztx<|zbh<|XP ⟨_,rfl,?_⟩
 refine⟨rfl,t,?_,?_,D⟩
 · by_cases hab:i<=b
   · exact V.mono Oa Oa
   · obtain⟨p_,q_,Z,e2,e3⟩:=V
     exact⟨p_,q_,Z,fun k hk=>by
       by_cases hka:k=a
       · subst hka
         apply Classical.byContradiction;intro Y
         have h5:=e2 (p_ k) Oa
         have h6:=congrArg q_ h5
         rw [(Z _).2,(Z _).2] at h6;exact Y h6
       · exact e2 k Oa,e3⟩
 · exact hs.mono Oa Oa
theorem Zgy {n:Int} {lt:Int->Int->Prop} {F:Gw.Frame} (I:Slh vd n) (ac:n<=100000000) (qm:∀x,(pv x).oneCell'=true) (hw:Swo lt) (N:Nat):∀{s:Oe} {a m b:Int} (w0 w:World) (D:Sat w0 w [.own vd 2 107 n (Zd (fun G=>pv (s G)) (fun G=>cnt (s G))),.sem F]) (qM:∀(w:World) (x y:Int),0<=x->x<nm->0<=y->y<nm->Below w0.heap.size w0 w->F.holds w->Calls Oj 97 [.agg #[pv x,.int Oh (cnt x)],.agg #[pv y,.int Oh (cnt y)]].toArray w fun e w'=>∃v,e= .returned v/\∃c:Int,v= .int Oh c/\(c<0↔lt x y)/\Sat w w' []) (hd:∀k,0<=k->k<n->0<=s k/\s k<nm) (a0:0<=a) (am:a<m) (mb:m<b) (bn:b<=n) (h1:Srt (Tie lt) a m s) (h2:Srt (Tie lt) m b s) (hp:Parted a m b s) (hN:(b-a).toNat<N),
   Calls Oj 173 [vd,.int Oh a,.int Oh m,.int Oh b,.func (.func 97) #[] #[]].toArray w fun e w=>∃v,e= .returned v/\v= .tuple #[]/\∃t:Oe,PermOn a b s t/\Srt (Tie lt) a b t/\Sat w0 w [.own vd 2 107 n (Zd (fun G=>pv (t G)) (fun G=>cnt (t G))),.sem F]:=by
 induction N with
 |zero=>intros;omega
 | succ N ih=>
   intro s a m b w0 w D qM hd a0 am mb bn h1 h2 hp hN
   refine zenF Tryz.func173 Tryz.ntmps173 ?_
   refine zx11<|(Om)<|(zV (Zw (r:=m-a)))<|(zP)<|zlt<|Ze ?_ ?_<;>intro hc
   ·
    refine zsr<|(Om)<|zlz<|(Om)<|zlt<|zsq<|zbk<|zlp (fun W M w=>∃(i:Int) (j:Int),W=((j-i).toNat)/\(m<=i)/\(i<=j)/\(j<=b)/\(i=a+1\/lt (s (i-1)) (s a))/\(j=b\/¬lt (s j) (s a))/\M= [(0,vd),(1,.int Oh a),(2,.int Oh m),(3,.int Oh b),(4,.func (.func 97) #[] #[]),(10,.int Oh i),(11,.int Oh j)]/\Sat w0 w [.own vd 2 107 n (Zd (fun G=>pv (s G)) (fun G=>cnt (s G))),.sem F]) ⟨m,b,rfl,Oa,Oa,Oa,?_,?_,rfl,D⟩ ?_
    ·
     exact .inl Oa
    ·
     exact .inl rfl
    clear D w
    rintro W M w ⟨i,j,rfl,i0,ij,j1,hi,hj,rfl,D⟩
    refine zx11<|(On)<|zlt<|Ze ?_ ?_<;>intro hc
    ·
     refine zsk<|ztn<|zbk<|zsr<|(Om)<|(zV (Zg (r:=i+j)))<|(zV (xcv Rl Wk))<|(zV (UV (r:=((i+j)/2))))<|(zV (xcv Wz Zab))<|(zP)<|zx7<|zdst [0,1] [0,1] 1000 mx_ D ?_;clear D;intro w D
     refine(zDw 0 xmv)<|(zDw 1 xmv)<|(zDw 2 xmv)<|(zDw 3 (xix (kk:=2*((i+j)/2)) YK I))<|(zDl 4 (fun w D=>(xlw (cs:= [(pv (s ((i+j)/2))),.int Oh (cnt (s ((i+j)/2)))]) ZQ (D.c7 0 rfl) (ZG (k:=2*((i+j)/2)) (i:=((i+j)/2)) (fun G=>pv (s G)) (fun G=>cnt (s G)) Oa))))<|(zDw 5 xmv)<|(zDw 6 xmv)<|(zDw 7 (xix (kk:=2*a) YK I))<|(zDl 8 (fun w D=>(xlw (cs:= [(pv (s a)),.int Oh (cnt (s a))]) ZQ (D.c7 0 rfl) (ZG (k:=2*a) (i:=a) (fun G=>pv (s G)) (fun G=>cnt (s G)) Oa))))<|zdc 9 (xc0 Zdv) (qM w (s ((i+j)/2)) (s a) (hd ((i+j)/2) Oa Oa).1 (hd ((i+j)/2) Oa Oa).2 (hd a Oa Oa).1 (hd a Oa Oa).2 D.below (D.holds _ (List.mem_of_getElem? (i:=1) rfl))) ?_;rintro _ w ⟨c1,rfl,J,O⟩
     replace D:=D.cmp O;clear O
     refine⟨⟨fun _=>D,D⟩,?_⟩
     refine(zDw 10 Z7)<|zdd<|ztn ?_
     refine Ze ?_ ?_<;>intro hc
     ·
      refine zrg<|(zP)<|(zV (Zg (r:=((i+j)/2)+1)))<|(zP)<|zln<|zbn<|zlq ⟨((i+j)/2)+1,j,rfl,Oa,Oa,Oa,?_,?_,rfl,D⟩
      ·
       first|exact hi|(right;rw [show(i+j)/2+1-1=(i+j)/2 by omega];exact J.1 ‹c1<0›)
      ·
       first|exact hj|exact .inr fun h=>absurd (J.2 h) ‹¬c1<0›
     refine zrg<|(Om)<|zln<|zbn<|zlq ⟨i,((i+j)/2),rfl,Oa,Oa,Oa,?_,?_,rfl,D⟩
     ·
      first|exact hi|(right;rw [show(i+j)/2+1-1=(i+j)/2 by omega];exact J.1 ‹c1<0›)
     ·
      first|exact hj|exact .inr fun h=>absurd (J.2 h) ‹¬c1<0›
    refine zx18<|(Om)<|zx6<|zlp (fun W M w=>∃(t:Oe) (k:Int),W=((i-1-k).toNat)/\(a<=k)/\(k<=i-1)/\(t=rot s a (a+1) (k+1))/\M= [(0,vd),(1,.int Oh a),(2,.int Oh m),(3,.int Oh b),(4,.func (.func 97) #[] #[]),(10,.int Oh i),(13,.int Oh k)]/\Sat w0 w [.own vd 2 107 n (Zd (fun G=>pv (t G)) (fun G=>cnt (t G))),.sem F]) ⟨s,a,rfl,Oa,Oa,?_,rfl,D⟩ ?_
    ·
     exact(ZaT s a).symm
    clear D w
    rintro W M w ⟨t,k,rfl,k0,k1,U,rfl,D⟩
    refine zx11<|(Om)<|(zV (Zw (r:=i-1)))<|(zP)<|zlt<|Ze ?_ ?_<;>intro hc
    ·
     refine zx38<|zdst [0,1] [1] 15 mx_ D ?_;clear D;intro w D
     refine(zDw 0 xmv)<|(zDw 1 xmv)<|(zDw 2 xmv)<|(zDw 3 xmv)<|(zDw 4 (Zg (r:=k+1)))<|(zDw 5 xmv)<|(zDw 6 xmv)<|(zDw 7 (Zg (r:=k+1)))<|(zDw 8 (xix (kk:=2*k+2) YK I))<|zdl 9 (fun w D=>(xlw (cs:= [(pv (t (k+1))),.int Oh (cnt (t (k+1)))]) ZQ (D.c7 0 rfl) (ZG (k:=2*k+2) (i:=k+1) (fun G=>pv (t G)) (fun G=>cnt (t G)) Oa))) ?_
     refine(zDw 10 xmv)<|(zDw 11 xmv)<|(zDw 12 (xix (kk:=2*k) YK I))<|zdl 13 (fun w D=>(xlw (cs:= [(pv (t k)),.int Oh (cnt (t k))]) ZQ (D.c7 0 rfl) (ZG (k:=2*k) (i:=k) (fun G=>pv (t G)) (fun G=>cnt (t G)) Oa))) ?_
     refine(zDw 14 (xix (kk:=2*k) YK I))<|zde 15 (xso2 0 ZQ D (X8 (i:=k) (k:=2*k) _ _ _ _ Oa) (hv:=qm _)) ?_;clear D;rintro w D
     refine⟨⟨fun h=>absurd h (by decide),D.pk [1]⟩,?_⟩
     refine(zDw 16 (xix (kk:=2*k+2) YK I))<|zde 17 (xso2 0 ZQ D (Eq.trans (X8 (i:=k+1) (k:=2*k+2) _ _ _ _ Oa) (Wx pv cnt t k (k+1))) (hv:=qm _)) ?_;clear D;rintro w D
     refine⟨⟨fun h=>absurd h (by decide),D.pk [1]⟩,?_⟩
     refine zdd<|zbn<|ztn<|zrg ?_
     refine(zP)<|(zV (Zg (r:=k+1)))<|(zP)<|zln<|zlq ⟨swp t k (k+1),k+1,rfl,Oa,Oa,?_,rfl,D⟩
     ·
      rw [U];exact ZaU Oa
    refine zxt<|ztx<|ztx<|zbh<|ztn<|zrt<|ztr<|zf0 ⟨_,rfl,?_⟩
    have ab:k+1=i:=Oa
    rw [ab] at U
    refine⟨rfl,t,?_,?_,D⟩
    · rw [U];exact(YD Oa Oa).mono Oa Oa
    · rw [U];obtain rfl:m=a+1:=Oa
      exact RV hw h2 (fun j j0 j1=>hp a j Oa Oa j0 j1) Oa Oa hi (by rw [show i=j by omega];exact hj)
   refine YL<|(Om)<|(zV (Zw (r:=b-m)))<|(zP)<|zlt<|Ze ?_ ?_<;>intro hc
   ·
    refine zsr<|(Om)<|zlz<|(Om)<|zlt<|zsq<|zbk<|zlp (fun W M w=>∃(i:Int) (j:Int),W=((j-i).toNat)/\(a<=i)/\(i<=j)/\(j<=m)/\(i=a\/¬lt (s m) (s (i-1)))/\(j=m\/lt (s m) (s j))/\M= [(0,vd),(1,.int Oh a),(2,.int Oh m),(3,.int Oh b),(4,.func (.func 97) #[] #[]),(14,.int Oh i),(15,.int Oh j)]/\Sat w0 w [.own vd 2 107 n (Zd (fun G=>pv (s G)) (fun G=>cnt (s G))),.sem F]) ⟨a,m,rfl,Oa,Oa,Oa,?_,?_,rfl,D⟩ ?_
    ·
     exact .inl rfl
    ·
     exact .inl rfl
    clear D w
    rintro W M w ⟨i,j,rfl,i0,ij,j1,hi,hj,rfl,D⟩
    refine zx11<|(On)<|zlt<|Ze ?_ ?_<;>intro hc
    ·
     refine zsk<|ztn<|zbk<|zsr<|(Om)<|(zV (Zg (r:=i+j)))<|(zV (xcv Rl Wk))<|(zV (UV (r:=((i+j)/2))))<|(zV (xcv Wz Zab))<|(zP)<|zx7<|zdst [0,1] [0,1] 1000 mx_ D ?_;clear D;intro w D
     refine(zDw 0 xmv)<|(zDw 1 xmv)<|(zDw 2 xmv)<|(zDw 3 (xix (kk:=2*m) YK I))<|(zDl 4 (fun w D=>(xlw (cs:= [(pv (s m)),.int Oh (cnt (s m))]) ZQ (D.c7 0 rfl) (ZG (k:=2*m) (i:=m) (fun G=>pv (s G)) (fun G=>cnt (s G)) Oa))))<|(zDw 5 xmv)<|(zDw 6 xmv)<|(zDw 7 (xix (kk:=2*((i+j)/2)) YK I))<|(zDl 8 (fun w D=>(xlw (cs:= [(pv (s ((i+j)/2))),.int Oh (cnt (s ((i+j)/2)))]) ZQ (D.c7 0 rfl) (ZG (k:=2*((i+j)/2)) (i:=((i+j)/2)) (fun G=>pv (s G)) (fun G=>cnt (s G)) Oa))))<|zdc 9 (xc0 Zdv) (qM w (s m) (s ((i+j)/2)) (hd m Oa Oa).1 (hd m Oa Oa).2 (hd ((i+j)/2) Oa Oa).1 (hd ((i+j)/2) Oa Oa).2 D.below (D.holds _ (List.mem_of_getElem? (i:=1) rfl))) ?_;rintro _ w ⟨c1,rfl,J,O⟩
     replace D:=D.cmp O;clear O
     refine⟨⟨fun _=>D,D⟩,?_⟩
     refine(zDw 10 Z7)<|(zDw 11 YH)<|zdd<|ztn ?_
     refine Ze ?_ ?_<;>intro hc
     ·
      refine zrg<|(zP)<|(zV (Zg (r:=((i+j)/2)+1)))<|(zP)<|zln<|zbn<|zlq ⟨((i+j)/2)+1,j,rfl,Oa,Oa,Oa,?_,?_,rfl,D⟩
      ·
       first|exact hi|(right;rw [show(i+j)/2+1-1=(i+j)/2 by omega];exact fun h=>absurd (J.2 h) ‹¬c1<0›)
      ·
       first|exact hj|exact .inr (J.1 (Oc ‹_›))
     refine zrg<|(Om)<|zln<|zbn<|zlq ⟨i,((i+j)/2),rfl,Oa,Oa,Oa,?_,?_,rfl,D⟩
     ·
      first|exact hi|(right;rw [show(i+j)/2+1-1=(i+j)/2 by omega];exact fun h=>absurd (J.2 h) ‹¬c1<0›)
     ·
      first|exact hj|exact .inr (J.1 (Oc ‹_›))
    refine zx18<|(Om)<|zx6<|zlp (fun W M w=>∃(t:Oe) (k:Int),W=((k-i).toNat)/\(i<=k)/\(k<=m)/\(t=rot s k m (m+1))/\M= [(0,vd),(1,.int Oh a),(2,.int Oh m),(3,.int Oh b),(4,.func (.func 97) #[] #[]),(14,.int Oh i),(17,.int Oh k)]/\Sat w0 w [.own vd 2 107 n (Zd (fun G=>pv (t G)) (fun G=>cnt (t G))),.sem F]) ⟨s,m,rfl,Oa,Oa,?_,rfl,D⟩ ?_
    ·
     exact(ZaR s m).symm
    clear D w
    rintro W M w ⟨t,k,rfl,k0,k1,U,rfl,D⟩
    refine zx11<|(On)<|zlt<|Ze ?_ ?_<;>intro hc
    ·
     refine zx38<|zdst [0,1] [1] 15 mx_ D ?_;clear D;intro w D
     refine(zDw 0 xmv)<|(zDw 1 xmv)<|(zDw 2 xmv)<|(zDw 3 xmv)<|(zDw 4 (Zw (r:=k-1)))<|(zDw 5 xmv)<|(zDw 6 xmv)<|(zDw 7 (Zw (r:=k-1)))<|(zDw 8 (xix (kk:=2*k-2) YK I))<|zdl 9 (fun w D=>(xlw (cs:= [(pv (t (k-1))),.int Oh (cnt (t (k-1)))]) ZQ (D.c7 0 rfl) (ZG (k:=2*k-2) (i:=k-1) (fun G=>pv (t G)) (fun G=>cnt (t G)) Oa))) ?_
     refine(zDw 10 xmv)<|(zDw 11 xmv)<|(zDw 12 (xix (kk:=2*k) YK I))<|zdl 13 (fun w D=>(xlw (cs:= [(pv (t k)),.int Oh (cnt (t k))]) ZQ (D.c7 0 rfl) (ZG (k:=2*k) (i:=k) (fun G=>pv (t G)) (fun G=>cnt (t G)) Oa))) ?_
     refine(zDw 14 (xix (kk:=2*k) YK I))<|zde 15 (xso2 0 ZQ D (X8 (i:=k) (k:=2*k) _ _ _ _ Oa) (hv:=qm _)) ?_;clear D;rintro w D
     refine⟨⟨fun h=>absurd h (by decide),D.pk [1]⟩,?_⟩
     refine(zDw 16 (xix (kk:=2*k-2) YK I))<|zde 17 (xso2 0 ZQ D (Eq.trans (X8 (i:=k-1) (k:=2*k-2) _ _ _ _ Oa) (Wx pv cnt t k (k-1))) (hv:=qm _)) ?_;clear D;rintro w D
     refine⟨⟨fun h=>absurd h (by decide),D.pk [1]⟩,?_⟩
     refine zdd<|zbn<|ztn<|zrg ?_
     refine(zP)<|(zV (Zw (r:=k-1)))<|(zP)<|zln<|zlq ⟨swp t k (k-1),k-1,rfl,Oa,Oa,?_,rfl,D⟩
     ·
      rw [U];exact ZaS Oa
    refine zxt<|ztx<|ztx<|zbh<|ztn<|zrt<|ztr<|zf0 ⟨_,rfl,?_⟩
    have ab:k=i:=Oa
    rw [ab] at U
    refine⟨rfl,t,?_,?_,D⟩
    · rw [U];exact(YD Oa Oa).mono Oa Oa
    · rw [U];obtain rfl:b=m+1:=Oa
      exact TN hw h1 (fun i i0 i1=>hp i m i0 i1 Oa Oa) Oa Oa hi (by rw [show i=j by omega];exact hj)
   refine ZM<|(Om)<|(zV (Zg (r:=a+b)))<|(zV (xcv Rl Wk))<|(zV (UV (r:=((a+b)/2))))<|(zV (xcv Wz Zab))<|(zP)<|zlz<|(Om)<|(zV (Zg (r:=((a+b)/2)+m)))<|(zP)<|zlz<|(Om)<|zx7 ?_
   refine WR (fun M w=>∃(mid:Int) (s0:Int) (r0:Int),(mid=((a+b)/2))/\((mid<m/\s0=mid+m-b/\r0=mid)\/(m<=mid/\s0=a/\r0=m))/\M= [(0,vd),(1,.int Oh a),(2,.int Oh m),(3,.int Oh b),(4,.func (.func 97) #[] #[]),(25,.int Oh m),(26,.int Oh a),(27,.int Oh (m-a)),(28,B (m-a=1)),(77,.int Oh b),(78,.int Oh m),(79,.int Oh (b-m)),(80,B (b-m=1)),(129,.int Oh a),(130,.int Oh b),(131,.int Oh (a+b)),(132,.int .u64 (a+b)),(133,.int .u64 ((a+b)/2)),(134,.int Oh ((a+b)/2)),(18,.int Oh mid),(135,.int Oh ((a+b)/2)),(136,.int Oh m),(137,.int Oh (((a+b)/2)+m)),(19,.int Oh (mid+m)),(20,.int Oh s0),(21,.int Oh r0)]/\Sat w0 w [.own vd 2 107 n (Zd (fun G=>pv (s G)) (fun G=>cnt (s G))),.sem F]) ?_ ?_
   ·
    refine zsr<|(On)<|zlt<|Ze ?_ ?_<;>intro hc
    ·
     refine zsr<|(Om)<|(zV (Zw (r:=((a+b)/2)+m-b)))<|(zP)<|zlt<|zrg<|(Om)<|zln<|zgj ⟨((a+b)/2),(((a+b)/2)+m-b),((a+b)/2),rfl,Oa,rfl,D⟩
    refine zsr<|(Om)<|zlt<|zrg<|(Om)<|zln<|zgj ⟨((a+b)/2),a,m,rfl,Oa,rfl,D⟩
   clear D w;rintro M w ⟨mid,s0,r0,jU,hq,rfl,D⟩
   refine ztn<|zsr<|(zP)<|(zV (Zw (r:=mid+m-1)))<|(zP)<|zlt<|zsq<|zbk<|zlp (fun W M w=>∃(x:Int) (y:Int),W=((y-x).toNat)/\(s0<=x)/\(x<=y)/\(y<=r0)/\(x=s0\/¬lt (s (mid+m-x)) (s (x-1)))/\(y=r0\/lt (s (mid+m-y-1)) (s y))/\M= [(0,vd),(1,.int Oh a),(2,.int Oh m),(3,.int Oh b),(4,.func (.func 97) #[] #[]),(18,.int Oh mid),(19,.int Oh (mid+m)),(20,.int Oh x),(21,.int Oh y),(22,.int Oh (mid+m-1))]/\Sat w0 w [.own vd 2 107 n (Zd (fun G=>pv (s G)) (fun G=>cnt (s G))),.sem F]) ⟨s0,r0,rfl,Oa,Oa,Oa,?_,?_,rfl,D⟩ ?_
   ·
    exact .inl rfl
   ·
    exact .inl rfl
   clear D w
   rintro W M w ⟨x,y,rfl,x0,xy,y1,hx,hy,rfl,D⟩
   refine zx11<|(On)<|zlt<|Ze ?_ ?_<;>intro hc
   ·
    refine zsk<|ztn<|zbk<|zsr<|(Om)<|(zV (Zg (r:=x+y)))<|(zV (xcv Rl Wk))<|(zV (UV (r:=((x+y)/2))))<|(zV (xcv Wz Zab))<|(zP)<|zx7<|zdst [0,1] [0,1] 1000 mx_ D ?_;clear D;intro w D
    refine(zDw 0 xmv)<|(zDw 1 xmv)<|(zDw 2 xmv)<|(zDw 3 xmv)<|(zDw 4 (Zw (r:=mid+m-((x+y)/2)-1)))<|(zDw 5 (xix (kk:=2*mid+2*m-2*((x+y)/2)-2) YK I))<|(zDl 6 (fun w D=>(xlw (cs:= [(pv (s (mid+m-((x+y)/2)-1))),.int Oh (cnt (s (mid+m-((x+y)/2)-1)))]) ZQ (D.c7 0 rfl) (ZG (k:=2*mid+2*m-2*((x+y)/2)-2) (i:=mid+m-((x+y)/2)-1) (fun G=>pv (s G)) (fun G=>cnt (s G)) Oa))))<|(zDw 7 xmv)<|(zDw 8 xmv)<|(zDw 9 (xix (kk:=2*((x+y)/2)) YK I))<|(zDl 10 (fun w D=>(xlw (cs:= [(pv (s ((x+y)/2))),.int Oh (cnt (s ((x+y)/2)))]) ZQ (D.c7 0 rfl) (ZG (k:=2*((x+y)/2)) (i:=((x+y)/2)) (fun G=>pv (s G)) (fun G=>cnt (s G)) Oa))))<|zdc 11 (xc0 Zdv) (qM w (s (mid+m-((x+y)/2)-1)) (s ((x+y)/2)) (hd (mid+m-((x+y)/2)-1) Oa Oa).1 (hd (mid+m-((x+y)/2)-1) Oa Oa).2 (hd ((x+y)/2) Oa Oa).1 (hd ((x+y)/2) Oa Oa).2 D.below (D.holds _ (List.mem_of_getElem? (i:=1) rfl))) ?_;rintro _ w ⟨c1,rfl,J,O⟩
    replace D:=D.cmp O;clear O
    refine⟨⟨fun _=>D,D⟩,?_⟩
    refine(zDw 12 Z7)<|(zDw 13 YH)<|zdd<|ztn ?_
    refine Ze ?_ ?_<;>intro hc
    ·
     refine zrg<|(zP)<|(zV (Zg (r:=((x+y)/2)+1)))<|(zP)<|zln<|zbn<|zlq ⟨((x+y)/2)+1,y,rfl,Oa,Oa,Oa,?_,?_,rfl,D⟩
     ·
      first|exact hx|(right;rw [show mid+m-((x+y)/2+1)=mid+m-(x+y)/2-1 by omega,show(x+y)/2+1-1=(x+y)/2 by omega];exact fun h=>absurd (J.2 h) ‹¬c1<0›)
     ·
      first|exact hy|exact .inr (J.1 (Oc ‹_›))
    refine zrg<|(Om)<|zln<|zbn<|zlq ⟨x,((x+y)/2),rfl,Oa,Oa,Oa,?_,?_,rfl,D⟩
    ·
     first|exact hx|(right;rw [show mid+m-((x+y)/2+1)=mid+m-(x+y)/2-1 by omega,show(x+y)/2+1-1=(x+y)/2 by omega];exact fun h=>absurd (J.2 h) ‹¬c1<0›)
    ·
     first|exact hy|exact .inr (J.1 (Oc ‹_›))
   refine zx8<|(Om)<|(zV (Zw (r:=mid+m-x)))<|(zP)<|zx7 ?_
   refine WR (fun M w=>∃(t:Oe),(t=rot s x m (mid+m-x))/\M= [(0,vd),(1,.int Oh a),(2,.int Oh m),(3,.int Oh b),(4,.func (.func 97) #[] #[]),(18,.int Oh mid),(19,.int Oh (mid+m)),(20,.int Oh x),(21,.int Oh y),(22,.int Oh (mid+m-1)),(149,.int Oh x),(150,.int Oh y),(151,B (x<y)),(175,.int Oh (mid+m)),(176,.int Oh x),(177,.int Oh (mid+m-x)),(24,.int Oh (mid+m-x))]/\Sat w0 w [.own vd 2 107 n (Zd (fun G=>pv (t G)) (fun G=>cnt (t G))),.sem F]) ?_ ?_
   ·
    refine zsr<|zs4 ?_
    refine zlb 181 ?_ ?_<;>intro hc
    ·
     refine zs4 ?_
     refine zlt<|Ze ?_ ?_<;>intro hc
     ·
      refine zrg<|zs5 ?_
      refine zlc (xc0 Zld) (Zml (s:=s) (a:=x) (m:=m) (b:=mid+m-x) w0 w D I ac qm Oa Oa Oa Oa) ?_;rintro _ w ⟨rfl,D⟩
      refine zln<|zgj ⟨(rot s x m (mid+m-x)),rfl,rfl,D⟩
     refine zsk<|zgj ⟨s,(V2 Oa Oa Oa).symm,rfl,D⟩
    iterate 3 refine zlo ?_
    refine(zP)<|zlt<|zcf<|zsk<|zgj ⟨s,(V2 Oa Oa Oa).symm,rfl,D⟩
   clear D w;rintro M w ⟨t,U,rfl,D⟩
   have X:=(YD (a:=s) (lo:=x) (c:=m) (hi:=mid+m-x) Oa Oa).ir (n:=n) (N:=nm) Oa (.inl Oa) hd
   rw [<-U] at X
   have Z:=Ud hw h1 h2 hp (s:=x) (mid:=mid) (e:=mid+m-x) Oa Oa Oa Oa Oa (by rcases hq with hq|hq<;>rcases hx with hx|hx<;>first|exact .inl Oa|exact .inr (.inl Oa)|exact .inr (.inr hx)) (by rcases hq with hq|hq<;>rcases hy with hy|hy<;>first|exact .inl Oa|exact .inr (.inl Oa)|(refine .inr (.inr ?_);rw [show x=y by omega];exact hy))
   rw [<-U] at Z
   refine ztn<|zsq<| ?_
   refine WR (fun M w=>∃(t1:Oe),(PermOn a mid t t1)/\(Srt (Tie lt) a mid t1)/\(∀k,0<=k->k<n->0<=t1 k/\t1 k<nm)/\M= [(0,vd),(1,.int Oh a),(2,.int Oh m),(3,.int Oh b),(4,.func (.func 97) #[] #[]),(18,.int Oh mid),(19,.int Oh (mid+m)),(20,.int Oh x),(21,.int Oh y),(22,.int Oh (mid+m-1)),(149,.int Oh x),(150,.int Oh y),(151,B (x<y)),(175,.int Oh (mid+m)),(176,.int Oh x),(177,.int Oh (mid+m-x)),(24,.int Oh (mid+m-x))]/\Sat w0 w [.own vd 2 107 n (Zd (fun G=>pv (t1 G)) (fun G=>cnt (t1 G))),.sem F]) ?_ ?_
   ·
    refine zsr<|zs4 ?_
    refine zlb 195 ?_ ?_<;>intro hc
    ·
     refine zs4 ?_
     refine zlt<|Ze ?_ ?_<;>intro hc
     ·
      refine zrg<|zs5 ?_
      refine zlc (xc0 Zao) (ih (s:=t) (a:=a) (m:=x) (b:=mid) w0 w D qM X Oa Oa Oa Oa (Z.l1) (Z.l2) (Z.pl) Oa) ?_;rintro _ w ⟨rfl,u1,qD,xN,D⟩
      have yP:=qD.ir Oa (.inl Oa) X
      refine zln<|zgj ⟨u1,qD,xN,yP,rfl,D⟩
     refine zsk<|zgj ⟨t,(.refl _ _ _),(Z.left (by first|omega|(rintro⟨h3,h4⟩;omega)) Oa Oa),X,rfl,D⟩
    iterate 3 refine zlo ?_
    refine(zP)<|zlt<|zcf<|zsk<|zgj ⟨t,(.refl _ _ _),(Z.left (by first|omega|(rintro⟨h3,h4⟩;omega)) Oa Oa),X,rfl,D⟩
   clear D w;rintro M w ⟨t1,V,aa,cG,rfl,D⟩
   have Y:Halves lt a a mid (mid+m-x) b t1:=Halves.after Z V aa Oa Oa
   refine ztn<|zsr<|zs4 ?_
   refine zlb 209 ?_ ?_<;>intro hc
   ·
    refine zs4 ?_
    refine zlt<|Ze ?_ ?_<;>intro hc
    ·
     refine zrg<|zs5 ?_
     refine zlc (xc0 Zao) (ih (s:=t1) (a:=mid) (m:=mid+m-x) (b:=b) w0 w D qM cG Oa Oa Oa Oa (Y.r1) (Y.r2) (Y.pr) Oa) ?_;rintro _ w ⟨rfl,u1,qD,xN,D⟩
     have yP:=qD.ir Oa (.inl Oa) cG
     refine zln<|XP ⟨_,rfl,?_⟩
     refine⟨rfl,u1,((((YD (a:=s) (lo:=x) (c:=m) (hi:=mid+m-x) Oa Oa).mono Oa Oa:PermOn a b s _)).trans (U▸V.mono Oa Oa)).trans (qD.mono Oa Oa),?_,D⟩
     exact Z.join hw Oa Oa V aa qD xN
    refine zsk<|XP ⟨_,rfl,?_⟩
    refine⟨rfl,t1,(((YD (a:=s) (lo:=x) (c:=m) (hi:=mid+m-x) Oa Oa).mono Oa Oa:PermOn a b s _)).trans (U▸V.mono Oa Oa),?_,D⟩
    exact Z.join hw Oa Oa V aa (.refl _ _ _) (Y.right (by first|omega|(rintro⟨h3,h4⟩;omega)) Oa Oa)
   iterate 3 refine zlo ?_
   refine(zP)<|zlt<|zcf<|zsk<|XP ⟨_,rfl,?_⟩
   refine⟨rfl,t1,(((YD (a:=s) (lo:=x) (c:=m) (hi:=mid+m-x) Oa Oa).mono Oa Oa:PermOn a b s _)).trans (U▸V.mono Oa Oa),?_,D⟩
   exact Z.join hw Oa Oa V aa (.refl _ _ _) (Y.right (by first|omega|(rintro⟨h3,h4⟩;omega)) Oa Oa)
theorem Zen{n:Int}{s:Oe}{lt:Int->Int->Prop}{F:Gw.Frame}(w0 w:World)(D:Sat w0 w [.own vd 2 107 n (Zd (fun G=>pv (s G)) (fun G=>cnt (s G))),.sem F])(V:Slh vd n)(aa:n<=100000000)(qm:∀x,(pv x).oneCell'=true)(qM:∀(w:World) (x y:Int),0<=x->x<nm->0<=y->y<nm->Below w0.heap.size w0 w->F.holds w->Calls Oj 97 [.agg #[pv x,.int Oh (cnt x)],.agg #[pv y,.int Oh (cnt y)]].toArray w fun e w'=>∃v,e= .returned v/\∃c:Int,v= .int Oh c/\(c<0↔lt x y)/\Sat w w' [])(hd:∀k,0<=k->k<n->0<=s k/\s k<nm)(hw:Swo lt)(xj:Tc 0 n s):
   Calls Oj 136 [vd,.int Oh n,.func (.func 97) #[] #[]].toArray w fun e w=>∃v,e= .returned v/\v= .tuple #[]/\∃t:Oe,PermOn 0 n s t/\Srt (Tie lt) 0 n t/\Sat w0 w [.own vd 2 107 n (Zd (fun G=>pv (t G)) (fun G=>cnt (t G))),.sem F]:=by
 have af:=V.n0
 refine zenF Tryz.func136 Tryz.ntmps136 ?_
 refine zsr<|(zP)<|zlz<|(On)<|zlt<|zsq<|zbk<|zlp (fun mm M w=>∃(t:Oe) (a:Int) (b:Int),mm=((n-a).toNat)/\(0<=a)/\(a<=n)/\(b=a+20)/\((20:Int)∣a)/\(PermOn 0 a s t)/\(Runs_ lt 20 n 0 a t)/\(∀k,0<=k->k<n->0<=t k/\t k<nm)/\M= [(0,vd),(1,.int Oh n),(2,.func (.func 97) #[] #[]),(6,.int Oh 20),(7,.int Oh a),(8,.int Oh b)]/\Sat w0 w [.own vd 2 107 n (Zd (fun G=>pv (t G)) (fun G=>cnt (t G))),.sem F]) ⟨s,0,20,rfl,Oa,Oa,Oa,?_,?_,?_,?_,rfl,D⟩ ?_
 ·
  exact Int.dvd_zero 20
 ·
  exact .refl _ _ _
 ·
  intro c c0 c1;omega
 ·
  exact hd
 clear D w
 rintro mm M w ⟨t,a,b,rfl,a0,a1,hb,ab,hp,hr,hd1,rfl,D⟩
 refine zx11<|(On)<|zlt<|Ze ?_ ?_<;>intro hc
 ·
  refine zsk<|ztn<|zbk<|zsr<|zs4 ?_
  refine zlc (xc0 Zga) (Zg5 (s:=t) (a:=a) (b:=b) w0 w D V aa qm qM hd1 hw Oa Oa Oa (Vx hp xj Oa Oa Oa)) ?_;rintro _ w ⟨rfl,u1,qD,xN,D⟩
  have yP:=qD.ir Oa (.inl Oa) hd1
  refine zlz<|(Om)<|zlt<|zrg<|(Om)<|(zV (Zg (r:=b+20)))<|(zP)<|zln<|zbn<|zlq ⟨u1,b,b+20,rfl,Oa,Oa,Oa,?_,?_,?_,?_,rfl,D⟩
  ·
   rw [hb];exact Int.dvd_add ab (Int.dvd_refl 20)
  ·
   exact(hp.mono Oa Oa).trans (qD.mono Oa Oa)
  ·
   exact WA Oa xj hr a0 ab hp qD xN (.inl ⟨hb,Oa⟩) Oa
  ·
   exact yP
 refine zx8<|zs4 ?_
 refine zlc (xc0 Zga) (Zg5 (s:=t) (a:=a) (b:=n) w0 w D V aa qm qM hd1 hw Oa Oa Oa (Vx hp xj Oa Oa Oa)) ?_;rintro _ w ⟨rfl,u1,qD,xN,D⟩
 have yP:=qD.ir Oa (.inl Oa) hd1
 refine zx6<|zlp (fun mm M w=>∃(Z:Oe) (z:Int),mm=((n-z).toNat)/\(20<=z)/\(z<=2*n+20)/\(PermOn 0 n s Z)/\(Runs_ lt z n 0 n Z)/\(∀k,0<=k->k<n->0<=Z k/\Z k<nm)/\M= [(0,vd),(1,.int Oh n),(2,.func (.func 97) #[] #[]),(6,.int Oh z)]/\Sat w0 w [.own vd 2 107 n (Zd (fun G=>pv (Z G)) (fun G=>cnt (Z G))),.sem F]) ⟨u1,20,rfl,Oa,Oa,?_,?_,?_,rfl,D⟩ ?_
 ·
  exact(hp.mono Oa Oa).trans (qD.mono Oa Oa)
 ·
  exact WA Oa xj hr a0 ab hp qD xN (.inr ⟨rfl,Oa⟩) Oa
 ·
  exact yP
 clear D w
 rintro mm M w ⟨Z,z,rfl,z0,z1,ae,ad,hd2,rfl,D⟩
 refine zx11<|(On)<|zlt<|Ze ?_ ?_<;>intro hc
 ·
  refine zsk<|ztn<|zbk<|zsr<|(zP)<|(zV (Z2 (r:=2*z)))<|(Om)<|zlt<|zsq<|zbk<|zlp (fun mm M w=>∃(O:Oe) (J:Int) (b3:Int),mm=((n-J).toNat)/\(0<=J)/\(J<=n)/\(b3=J+2*z)/\(2*z∣J)/\(PermOn 0 n s O)/\(Runs_ lt (2*z) n 0 J O)/\(Runs_ lt z n J n O)/\(∀k,0<=k->k<n->0<=O k/\O k<nm)/\M= [(0,vd),(1,.int Oh n),(2,.func (.func 97) #[] #[]),(6,.int Oh z),(7,.int Oh J),(8,.int Oh b3)]/\Sat w0 w [.own vd 2 107 n (Zd (fun G=>pv (O G)) (fun G=>cnt (O G))),.sem F]) ⟨Z,0,2*z,rfl,Oa,Oa,Oa,?_,?_,?_,?_,?_,rfl,D⟩ ?_
  ·
   exact Int.dvd_zero _
  ·
   exact ae
  ·
   intro c c0 c1;omega
  ·
   exact ad
  ·
   exact hd2
  clear D w
  rintro mm M w ⟨O,J,b3,rfl,I,ag,ac,Y,W,hA,hB,U,rfl,D⟩
  refine zx11<|(On)<|zlt<|Ze ?_ ?_<;>intro hc
  ·
   refine zsk<|ztn<|zbk<|zsr<|zs4 ?_
   refine(zV (Zg (r:=J+z)))<|zs2 ?_
   have hk:=V0 (lt:=lt) (z:=z) (n:=n) (a:=J) (b:=b3) (t:=O) Oa I (Int.dvd_trans (Int.dvd_mul_left 2 z) Y) hB Oa Oa Oa
   refine zlc (xc0 Zao) (Zgy (nm:=nm) (lt:=lt) V aa qm hw _ (s:=O) (a:=J) (m:=J+z) (b:=b3) w0 w D qM U Oa Oa Oa Oa hk.1 hk.2.1 hk.2.2 (Nat.lt_succ_self _)) ?_;rintro _ w ⟨rfl,u2,X,zm,D⟩
   have z7:=X.ir Oa (.inl Oa) U
   refine zlz<|(Om)<|zlt<|zrg<|(Om)<|(zV (Z2 (r:=2*z)))<|(zV (Zg (r:=b3+2*z)))<|(zP)<|zln<|zbn<|zlq ⟨u2,b3,b3+2*z,rfl,Oa,Oa,Oa,?_,?_,?_,?_,?_,rfl,D⟩
   ·
    rw [ac];exact Int.dvd_add Y (Int.dvd_refl _)
   ·
    exact W.trans (X.mono Oa Oa)
   ·
    exact(Yz Oa I Y hA hB X zm (.inl ⟨ac,Oa⟩) Oa).1
   ·
    exact(Yz Oa I Y hA hB X zm (.inl ⟨ac,Oa⟩) Oa).2
   ·
    exact z7
  refine zx18<|(Om)<|(zV (Zg (r:=J+z)))<|(zP)<|zlz<|(On)<|zlt<|Ze ?_ ?_<;>intro hc
  ·
   refine zrg<|zs5 ?_
   have hk:=V0 (lt:=lt) (z:=z) (n:=n) (a:=J) (b:=n) (t:=O) Oa I (Int.dvd_trans (Int.dvd_mul_left 2 z) Y) hB Oa Oa Oa
   refine zlc (xc0 Zao) (Zgy (nm:=nm) (lt:=lt) V aa qm hw _ (s:=O) (a:=J) (m:=J+z) (b:=n) w0 w D qM U Oa Oa Oa Oa hk.1 hk.2.1 hk.2.2 (Nat.lt_succ_self _)) ?_;rintro _ w ⟨rfl,u2,X,zm,D⟩
   have z7:=X.ir Oa (.inl Oa) U
   refine zlt<|zrg<|(zP)<|(zV (Z2 (r:=2*z)))<|(zP)<|zln<|zbn<|zlq ⟨u2,2*z,rfl,Oa,Oa,?_,?_,?_,rfl,D⟩
   ·
    first|exact W.trans (X.mono Oa Oa)|exact W
   ·
    first|exact(Yz Oa I Y hA hB X zm (.inr ⟨rfl,Oa⟩) Oa).1|exact V1 Oa I Y hA hB Oa Oa
   ·
    first|exact z7|exact U
  refine zsk<|ztn<|zrg<|(zP)<|(zV (Z2 (r:=2*z)))<|(zP)<|zln<|zbn<|zlq ⟨O,2*z,rfl,Oa,Oa,?_,?_,?_,rfl,D⟩
  ·
   first|exact W.trans (X.mono Oa Oa)|exact W
  ·
   first|exact(Yz Oa I Y hA hB X zm (.inr ⟨rfl,Oa⟩) Oa).1|exact V1 Oa I Y hA hB Oa Oa
  ·
   first|exact z7|exact U
 refine zxt<|ztx<|ztx<|zbh<|XP ⟨_,rfl,?_⟩
 exact⟨rfl,Z,ae,ZaX ad Oa,D⟩
theorem ZgA{n:Int}{s:Oe}{lt:Int->Int->Prop}{F:Gw.Frame}(w0 w:World)(J:Sat w0 w [.own vd 2 107 n (Zd (fun D=>pv (s D)) (fun D=>cnt (s D))),.sem F])(G:Slh vd n)(I:n<=100000000)(W:∀x,(pv x).oneCell'=true)(X:∀(w:World) (x y:Int),0<=x->x<nm->0<=y->y<nm->Below w0.heap.size w0 w->F.holds w->Calls Oj 97 [.agg #[pv x,.int Oh (cnt x)],.agg #[pv y,.int Oh (cnt y)]].toArray w fun e w'=>∃v,e= .returned v/\∃c:Int,v= .int Oh c/\(c<0↔lt x y)/\Sat w w' [])(hd:∀k,0<=k->k<n->0<=s k/\s k<nm)(Z:Swo lt)(O:Tc 0 n s):
   Calls Oj 96 [vd,.func (.func 97) #[] #[]].toArray w fun e w=>∃v,e= .returned v/\v= .tuple #[]/\∃t:Oe,PermOn 0 n s t/\Srt (Tie lt) 0 n t/\Sat w0 w [.own vd 2 107 n (Zd (fun D=>pv (t D)) (fun D=>cnt (t D))),.sem F]:=by
 refine zenF Tryz.func96 Tryz.ntmps96 ?_
 refine zrg<|(Om)<|(zV (xln Z4 G))<|(zP)<|zlc (xc0 ZlX) (Zen (s:=s) w0 w J G I W X hd Z O) ?_;rintro _ w ⟨rfl,V,Y,U,J⟩
 refine zln<|XP ⟨_,rfl,?_⟩
 exact⟨rfl,V,Y,U,J⟩
end Go.Proofs.YtkichmnjjblodaaGreat
namespace Go.Proofs.YtkichmnjjblodaaGreat
open Go Go.RowKit Go.Proofs.Gw
variable {m:Int} {f g:Oe} {vA vB:Value}
theorem ZlW:Zc Oj 137=true:=Ob
theorem Zf9:Zc Oj 174=true:=Ob
theorem Znv:Zc Oj 98=true:=Ob
theorem fd_107_0:Zv Oj 107 0=some 0:=Ob
theorem ZdI{x:Int}(w0:World):
   Calls Oj 174 [.int Oh x].toArray w0 fun e w=>∃v,e= .returned v/\v= .bool false/\Sat w0 w []:=by
 refine zenG Tryz.func174 Tryz.ntmps174 fun w D=> ?_
 refine zsr<|(zP)<|zlz<|(Om)<|(zV (xkf YM))<|(zP)<|zx1<|Oi ?_
 exact⟨rfl,D⟩
def ZcL(x y c:Int):Prop:=(c= -1/\x<y)\/(c=0/\x=y)\/(c=1/\y<x)
theorem ZmS{x y:Int}(w0:World):
   Calls Oj 137 [.int Oh x,.int Oh y].toArray w0 fun e w=>∃v,e= .returned v/\∃c:Int,v= .int Oh c/\ZcL x y c/\Sat w0 w []:=by
 refine zenG Tryz.func137 Tryz.ntmps137 fun w F=> ?_
 refine zsr<|(zP)<|zlz<|(zP)<|zlc (xc0 Zf9) (ZdI (x:=x) w) ?_;rintro _ w ⟨rfl,D⟩
 replace F:=F.cmp D;clear D
 refine(zP)<|zlz<|(zP)<|zlc (xc0 Zf9) (ZdI (x:=y) w) ?_;rintro _ w ⟨rfl,D⟩
 replace F:=F.cmp D;clear D
 refine(zP)<|zx5<|(zP)<|zlt<|zcf<|zsk<|ztn<|zsq<|zsr ?_
 refine(zP)<|zlt<|zcf<|zsk<|ztn<|zsq<|zsr ?_
 refine(On)<|zlt<|Ze ?_ ?_<;>intro hc
 ·
  refine zsr<|(zP)<|zx14<|Oi ?_
  exact⟨(-1),rfl,by unfold ZcL;omega,F⟩
 refine YL<|(On)<|zlt<|Ze ?_ ?_<;>intro hc
 ·
  refine zsr<|(zP)<|zx14<|Oi ?_
  exact⟨1,rfl,by unfold ZcL;omega,F⟩
 refine ZM<|(zP)<|zx1<|Oi ?_
 exact⟨0,rfl,by unfold ZcL;omega,F⟩
theorem Zmj {n:Int} (w0:World) (U:Row w0 vA 1 n (ints f)) (O:Row w0 vB 1 m (ints g)):
   Calls Oj 98 [vA,vB].toArray w0 fun e w=>∃v,e= .returned v/\∃c:Int,v= .int Oh c/\(c<0↔ahd (lst m g) (lst n f))/\Sat w0 w []:=by
 have hn:=U.cf.n0;have aa:=U.cf.n1;have hm:=O.cf.n0;have ab:=O.cf.n1
 refine zenG Tryz.func98 Tryz.ntmps98 fun w D=> ?_
 refine zsr<|(zP)<|zx5<|(zP)<|(zV (xln Zb U.cf))<|(zP)<|zx6<|zlp (fun Y M w=>∃(i:Int),Y=((n-i).toNat)/\(0<=i)/\(i<=n)/\(i<=m)/\(∀k,0<=k->k<i->f k=g k)/\M= [(0,vA),(1,vB),(9,vA),(10,.int Oh n),(11,.int Oh i)]/\Sat w0 w []) ⟨0,rfl,Oa,Oa,Oa,?_,rfl,D⟩ ?_
 ·
  intro k h0 h1;omega
 clear D w
 rintro Y M w ⟨i,rfl,h0,h1,h2,I,rfl,D⟩
 refine zsr<|(zP)<|zx7<|Ze ?_ ?_<;>intro hc
 ·
  refine zx3<|(zP)<|(zV (xix (kk:=i) Zb U.cf))<|(zV (xlr (u:= .int Oh (f i)) pl_3 (U.below D.below)))<|(Om)<|zx5<|(Om)<|(zV (xln Zb O.cf))<|(zP)<|zlt<|Ze ?_ ?_<;>intro hc
  ·
   refine zsr<|(zP)<|zlt<|zrt<|ztr<|zbr<|ztr<|ztr<|zbr<|ztr<|Oi ?_
   exact⟨1,rfl,⟨fun h=>Oa,fun h=>absurd h (ahd_asym (Vf Oa Oa (fun k F J=>I k F Oa)))⟩,D⟩
  refine ZM<|(Om)<|(zV (xix (kk:=i) Zb O.cf))<|(zV (xlr (u:= .int Oh (g i)) pl_3 (O.below D.below)))<|(zP)<|zlz<|(Om)<|zlc (xc0 ZlW) (ZmS (x:=(f i)) (y:=(g i)) w) ?_;rintro _ w ⟨Z,rfl,G,V⟩
  replace D:=D.cmp V;clear V
  refine(zP)<|zlz<|(Om)<|zlt<|Ze ?_ ?_<;>intro hc
  ·
   refine zsr<|(Om)<|zx2<|Oi ?_
   exact⟨Z,rfl,⟨fun h=>ahd_gt (j:=i) Oa Oa Oa (fun k F J=>(I k F J).symm) (by unfold ZcL at G;omega),fun h=>by
       unfold ZcL at G
       by_cases h9:Z<0
       · exact h9
       · exact absurd h (ahd_asym (ahd_gt (j:=i) Oa Oa Oa (fun k F J=>I k F J) Oa))⟩,D⟩
  refine zx4<|(zV (Zg (r:=i+1)))<|(zP)<|zln<|zlq ⟨i+1,rfl,Oa,Oa,Oa,?_,rfl,D⟩
  ·
   intro k X ac;rcases Int.lt_or_eq_of_le (show k<=i by omega) with W|W;exact I k X W;rw [W];(unfold ZcL at G;omega)
 refine zx18<|(zP)<|(zV (xln Zb U.cf))<|(zP)<|(zV (xln Zb O.cf))<|(zP)<|zlt<|Ze ?_ ?_<;>intro hc
 ·
  refine zsr<|(zP)<|zx14<|Oi ?_
  exact⟨(-1),rfl,⟨fun _=>Vf Oa Oa (fun k F J=>(I k F Oa).symm),fun _=>Oa⟩,D⟩
 refine ZM<|(zP)<|zx1<|Oi ?_
 exact⟨0,rfl,⟨fun h=>Oa,fun h=>absurd h (by rw [show n=m by omega];exact ZbK (fun k F J=>(I k F Oa).symm))⟩,D⟩
theorem Zmv{n:Int}{a b:Int}(w0:World)(J:Row w0 vA 1 n (ints f))(I:Row w0 vB 1 m (ints g)):
   Calls Oj 97 [.agg #[vA,.int Oh a],.agg #[vB,.int Oh b]].toArray w0 fun e w=>∃v,e= .returned v/\∃c:Int,v= .int Oh c/\(c<0↔ahd (lst n f) (lst m g))/\Sat w0 w []:=by
 refine zenG Tryz.func97 Tryz.ntmps97 fun w D=> ?_
 refine zsr<|zla (xbx (cs:= [_,_]) D) ?_;rintro _ w ⟨U,rfl,D⟩
 refine zla (xbx (cs:= [_,_]) D) ?_;rintro _ w ⟨O,rfl,D⟩
 refine(zP)<|zlz<|(zV (xfb 0 fd_107_0))<|(zV (xlb 1 pl_22 D))<|(zV (xfb 0 fd_107_0))<|(zV (xlb 0 pl_22 D))<|zlc (xc0 Znv) (Zmj (n:=m) (f:=g) (m:=n) (g:=f) w (I.below D.below) (J.below D.below)) ?_;rintro _ w ⟨V,rfl,G,F⟩
 replace D:=D.cmp F;clear F
 refine(zP)<|zx1<|Oi ?_
 exact⟨_,rfl,G,D.nl⟩
theorem Zoe{n:Int}(w0:World)(F:Row w0 vA 1 n (ints f))(G:Row w0 vB 1 m (ints g)):
   Calls Oj 69 [vA,vB].toArray w0 fun e w=>∃v,e= .returned v/\v=B (lst n f=lst m g)/\Sat w0 w []:=by
 have hn:=F.cf.n0;have aa:=F.cf.n1;have I:=G.cf.n0;have ab:=G.cf.n1
 refine zenG Tryz.func69 Tryz.ntmps69 fun w D=> ?_
 refine zsr<|(zP)<|zx5<|(zP)<|(zV (xln Zb F.cf))<|(zP)<|(zV (xln Zb G.cf))<|(zP)<|zlt<|Ze ?_ ?_<;>intro hc
 ·
  refine zsr<|(zP)<|zx14<|Oi ?_
  exact⟨false_B (by intro O;have U:=(VP hn I).1 O;first|omega|(have:=U.2 i W Oa;omega)),D⟩
 refine YL<|(zP)<|(zV (xln Zb F.cf))<|(zP)<|zx6<|zlp (fun Y M w=>∃(i:Int),Y=((n-i).toNat)/\(0<=i)/\(i<=n)/\(∀k,0<=k->k<i->f k=g k)/\M= [(0,vA),(1,vB),(12,.int Oh n),(13,.int Oh i)]/\Sat w0 w []) ⟨0,rfl,Oa,Oa,?_,rfl,D⟩ ?_
 ·
  intro k W h1;omega
 clear D w
 rintro Y M w ⟨i,rfl,W,h1,X,rfl,D⟩
 refine zsr<|(zP)<|zx7<|Ze ?_ ?_<;>intro hc
 ·
  refine zx3<|(Om)<|zx7<|zdst [] [] 1000 mx_ D ?_;clear D;intro w D
  refine(zDw 0 xmv)<|(zDw 1 xmv)<|(zDw 2 (xix (kk:=i) Zb F.cf))<|(zDl 3 (fun w D=>(xlr (u:= .int Oh (f i)) pl_3 (F.below D.below))))<|(zDw 4 xmv)<|(zDw 5 xmv)<|(zDw 6 (xix (kk:=i) Zb G.cf))<|(zDl 7 (fun w D=>(xlr (u:= .int Oh (g i)) pl_3 (G.below D.below))))<|(zDw 8 YM)<|zdd<|ztn ?_
  refine Ze ?_ ?_<;>intro hc
  ·
   refine zsr<|(zP)<|zx2<|Oi ?_
   exact⟨false_B (by intro O;have U:=(VP hn I).1 O;first|omega|(have:=U.2 i W Oa;omega)),D⟩
  refine zx4<|(zV (Zg (r:=i+1)))<|(zP)<|zln<|zlq ⟨i+1,rfl,Oa,Oa,?_,rfl,D⟩
  ·
   intro k V ac;rcases Int.lt_or_eq_of_le (show k<=i by omega) with J|J;exact X k V J;rw [J];omega
 refine zx8<|(zP)<|zx1<|Oi ?_
 exact⟨ZT (by exact(VP hn I).2 ⟨by omega,fun k Z k1=>X k Z Oa⟩),D⟩
end Go.Proofs.YtkichmnjjblodaaGreat
namespace Go.Proofs.YtkichmnjjblodaaGreat
open Go Go.RowKit Go.Proofs.Gw
variable {cnt ln:Oe} {pt:Of} {pv:Int->Value} {vV:Value}
theorem ZjC:Zc Oj 69=true:=Ob
theorem ZfZ:Zc Oj 92=true:=Ob
theorem Znz:Zc Oj 93=true:=Ob
theorem Znx:Zc Oj 95=true:=Ob
theorem fd_107_1:Zv Oj 107 1=some 1:=Ob
theorem Zn6{vB:Value}{m b:Int}{g:Oe}{vA:Value}{n a:Int}{f:Oe}{G:Nat}(w0:World)(I:(Ent.blk G [vA,.int Oh a]).holds w0)(O:Row w0 vA 1 n (ints f))(J:Row w0 vB 1 m (ints g)):
   Calls Oj 93 [.agg #[vB,.int Oh b],Oq G].toArray w0 fun e w=>∃v,e= .returned v/\v=B (lst n f=lst m g)/\Sat w0 w []:=by
 refine zenG Tryz.func93 Tryz.ntmps93 fun w D=> ?_
 refine zsr<|zla (xbx (cs:= [_,_]) D) ?_;rintro _ w ⟨U,rfl,D⟩
 refine(zP)<|zlz<|(zV (xfb 0 fd_107_0))<|(zV (xlf pl_22 (Ent.holds.cell I (o:=0) rfl) D))<|(zV (xfb 0 fd_107_0))<|(zV (xlb 0 pl_22 D))<|zlc (xc0 ZjC) (Zoe (n:=n) (f:=f) (m:=m) (g:=g) w (O.below D.below) (J.below D.below)) ?_;rintro _ w ⟨rfl,F⟩
 replace D:=D.cmp F;clear F
 refine(zP)<|zx1<|Oi ?_
 exact⟨rfl,D.nl⟩
theorem ZmB{u:Int}{vA:Value}{n a:Int}{f:Oe}{V:Nat}(w0:World)(F:VAt w0 vV u pv ln pt cnt)(Y:(Ent.blk V [vA,.int Oh a]).holds w0)(Z:Row w0 vA 1 n (ints f)):
   Calls Oj 92 [vV,.func (.func 93) #[] #[Oq V]].toArray w0 fun e w=>∃v,e= .returned v/\∃r:Int,v= .int Oh r/\((r= -1/\∀k,0<=k->k<u->¬(lst n f=lst (ln k) (pt k)))\/(0<=r/\r<u/\(lst n f=lst (ln r) (pt r))/\∀k,0<=k->k<r->¬(lst n f=lst (ln k) (pt k))))/\Sat w0 w []:=by
 have hn:=F.row.cf.n0;have X:=F.row.cf.n1
 refine zenG Tryz.func92 Tryz.ntmps92 fun w D=> ?_
 refine zsr<|(zP)<|zx5<|(zP)<|(zV (xln Z4 F.row.cf))<|(zP)<|zx6<|zlp (fun W M w=>∃(i:Int),W=((u-i).toNat)/\(0<=i)/\(i<=u)/\(∀k,0<=k->k<i->¬(lst n f=lst (ln k) (pt k)))/\M= [(0,vV),(1,.func (.func 93) #[] #[Oq V]),(7,.int Oh u),(8,.int Oh i)]/\Sat w0 w []) ⟨0,rfl,Oa,Oa,?_,rfl,D⟩ ?_
 ·
  intro k U h1;omega
 clear D w
 rintro W M w ⟨i,rfl,U,h1,I,rfl,D⟩
 refine zsr<|(zP)<|zx7<|Ze ?_ ?_<;>intro hc
 ·
  refine zx3<|(Om)<|zlz<|(On)<|(zV (xix (kk:=2*i) Z4 F.row.cf))<|(zV (xlw (cs:= [(pv i),.int Oh (cnt i)]) ZQ (F.row.below D.below) (ZG (k:=2*i) (i:=i) pv cnt Oa)))<|zlc (xcc (vs:= [_]) Znz) (Zn6 (n:=n) (f:=f) (m:=(ln i)) (g:=(pt i)) w (Sat.ig D Y) (Z.below D.below) ((F.p i Oa Oa).below D.below)) ?_;rintro _ w ⟨rfl,G⟩
  replace D:=D.cmp G;clear G
  refine zlt<|Ze ?_ ?_<;>intro hc
  ·
   refine zsr<|(Om)<|zx2<|Oi ?_
   exact⟨i,rfl,.inr ⟨by omega,Oa,‹lst n f=lst (ln i) (pt i)›,I⟩,D⟩
  refine zx4<|(zV (Zg (r:=i+1)))<|(zP)<|zln<|zlq ⟨i+1,rfl,Oa,Oa,?_,rfl,D⟩
  ·
   intro k O aa;rcases Int.lt_or_eq_of_le (show k<=i by omega) with J|J;exact I k O J;rw [J];assumption
 refine zx8<|(zP)<|zx1<|Oi ?_
 exact⟨-1,rfl,.inl ⟨rfl,fun k U h1=>I k U Oa⟩,D⟩
theorem Zn5{vB:Value}{m b:Int}{g:Oe}(w0:World)(F:Row w0 vB 1 m (ints g)):
   Calls Oj 95 [.agg #[vB,.int Oh b]].toArray w0 fun e w=>∃v,e= .returned v/\v=B (b<1)/\Sat w0 w []:=by
 refine zenG Tryz.func95 Tryz.ntmps95 fun w D=> ?_
 refine zsr<|zla (xbx (cs:= [_,_]) D) ?_;rintro _ w ⟨G,rfl,D⟩
 refine(zP)<|zlz<|(zV (xfb 1 fd_107_1))<|(zV (xlb 0 pl_3 D))<|(Om)<|zx1<|Oi ?_
 exact⟨rfl,D.nl⟩
theorem ZmA{u:Int}(w0:World)(F:VAt w0 vV u pv ln pt cnt)(I:∀k,0<=k->k<u->1<=cnt k):
   Calls Oj 92 [vV,.func (.func 95) #[] #[]].toArray w0 fun e w=>∃v,e= .returned v/\v= .int Oh (-1)/\Sat w0 w []:=by
 have hn:=F.row.cf.n0;have O:=F.row.cf.n1
 refine zenG Tryz.func92 Tryz.ntmps92 fun w D=> ?_
 refine zsr<|(zP)<|zx5<|(zP)<|(zV (xln Z4 F.row.cf))<|(zP)<|zx6<|zlp (fun J M w=>∃(i:Int),J=((u-i).toNat)/\(0<=i)/\(i<=u)/\M= [(0,vV),(1,.func (.func 95) #[] #[]),(7,.int Oh u),(8,.int Oh i)]/\Sat w0 w []) ⟨0,rfl,Oa,Oa,rfl,D⟩ ?_
 clear D w
 rintro J M w ⟨i,rfl,U,h1,rfl,D⟩
 refine zsr<|(zP)<|zx7<|Ze ?_ ?_<;>intro hc
 ·
  refine zx3<|(Om)<|zlz<|(On)<|(zV (xix (kk:=2*i) Z4 F.row.cf))<|(zV (xlw (cs:= [(pv i),.int Oh (cnt i)]) ZQ (F.row.below D.below) (ZG (k:=2*i) (i:=i) pv cnt Oa)))<|zlc (xc0 Znx) (Zn5 (b:=(cnt i)) w ((F.p i Oa Oa).below D.below)) ?_;rintro _ w ⟨rfl,G⟩
  replace D:=D.cmp G;clear G
  refine zlt<|Ze ?_ ?_<;>intro hc
  ·
   refine zsr<|(Om)<|zx2<|Oi ?_
   have:=I i U Oa
   omega
  refine zx4<|(zV (Zg (r:=i+1)))<|(zP)<|zln<|zlq ⟨i+1,rfl,Oa,Oa,rfl,D⟩
 refine zx8<|(zP)<|zx1<|Oi ?_
 exact⟨rfl,D⟩
theorem ZmM{u:Int}(w0:World)(I:VAt w0 vV u pv ln pt cnt)(G:∀k,0<=k->k<u->1<=cnt k):
   Calls Oj 94 [vV,.func (.func 95) #[] #[]].toArray w0 fun e w=>∃v,e= .returned v/\vV=v/\Sat w0 w []:=by
 refine zenG Tryz.func94 Tryz.ntmps94 fun w F=> ?_
 refine zsr<|(zP)<|zlz<|(Om)<|zlc (xc0 ZfZ) (ZmA (u:=u) (pv:=pv) (ln:=ln) (pt:=pt) (cnt:=cnt) w (I.below F.below) G) ?_;rintro _ w ⟨rfl,D⟩
 replace F:=F.cmp D;clear D
 refine(zP)<|zx5<|(zP)<|(zV (xkt YT))<|zlt<|zct<|zsr ?_
 refine(Om)<|zx14<|Oi ?_
 exact⟨rfl,F⟩
end Go.Proofs.YtkichmnjjblodaaGreat
namespace Go.Proofs.YtkichmnjjblodaaGreat
open Go Go.RowKit Go.Proofs.Gw
variable {cnt ln:Oe} {pt:Of}
theorem Zny:Zc Oj 94=true:=Ob
theorem Znw:Zc Oj 96=true:=Ob
theorem TM{D i:Int}{G U:Oe}{O:Of}(n0:0<=D)(V:0<=i)(W:plL D G O U=Wh (plL i ln pt cnt))(J:∀k,0<=k->k<D->¬(lst (ln i) (pt i)=lst (G k) (O k))):
   plL (D+1) (gsn G D (ln i)) (gsn O D (pt i)) (snoc U D (cnt i))=Wh (plL (i+1) ln pt cnt):=by
 rw [XV V,Rx,<-W,ZbM fun v hv e=>by
   obtain⟨j,F⟩:=List.mem_iff_getElem?.1 hv
   rw [plL_get] at F
   split at F
   · injection F with F
     rw [<-F] at e
     exact J j Oa (by assumption) e.symm
   · cases F]
 exact V8 n0 (fun k X I=>⟨Zp I,Zl I,Zp I⟩) (Zq Oa) (Zk Oa) (Zq Oa)
theorem Tg{J i r:Int}{F U:Oe}{I:Of}(Y:0<=i)(Z:plL J F I U=Wh (plL i ln pt cnt))(X:0<=r)(W:r<J)(e:lst (ln i) (pt i)=lst (F r) (I r))(V:∀k,0<=k->k<r->¬(lst (ln i) (pt i)=lst (F k) (I k))):
   plL J F I (upd U r (U r+cnt i))=Wh (plL (i+1) ln pt cnt):=by
 rw [XV Y,Rx,<-Z,ZdP (j:=r.toNat) (v:=(lst (F r) (I r),U r)) (by rw [plL_get,Int.toNat_of_nonneg X,if_pos W]) e.symm fun k G w O h=>by
   rw [plL_get,if_pos Oa] at O
   injection O with O
   rw [<-O] at h
   exact V k Oa Oa h.symm]
 apply List.ext_getElem?
 intro k
 rw [List.getElem?_set,plL_get,plL_get,plL_len]
 unfold upd
 by_cases G:(k:Int)<J
 · rw [if_pos G,if_pos G]
   by_cases hr:r.toNat=k
   · have D:(k:Int)=r:=Oa
     rw [if_pos D,if_pos hr,if_pos Oa,D]
   · have D:¬(k:Int)=r:=Oa
     rw [if_neg D,if_neg hr]
 · rw [if_neg G,if_neg G,if_neg Oa]
theorem Zfd{F:Oe}{D B C x:Int}(h:∀k,0<=k->k<D->1<=F k/\F k<=B)(U:B<=C)(J:1<=x)(I:x<=C):∀k,0<=k->k<D+1->1<=snoc F D x k/\snoc F D x k<=C:=fun k G O=>by
 by_cases e:k<D
 · rw [Zl e];have:=h k G e;omega
 · rw [Zk e];omega
theorem Zc3{D:Oe}{F B C x r:Int}(h:∀k,0<=k->k<F->1<=D k/\D k<=B)(U:B<=C)(O:1<=x)(J:x<=C):∀k,0<=k->k<F->1<=upd D r x k/\upd D r x k<=C:=fun k I G=>by
 unfold upd
 by_cases e:k=r
 · rw [if_pos e];omega
 · rw [if_neg e];have:=h k I G;omega
theorem Zaw{vV:Value}{u:Int}{pv:Int->Value}(w0:World)(hV:VAt w0 vV u pv ln pt cnt)(ai:u<=10000000)(hlc:∀k,0<=k->k<u->ln k<=100000)(af:∀k,0<=k->k<u->1<=cnt k/\cnt k<=1000):
   Calls Oj 67 [vV].toArray w0 fun e w=>∃v,e= .returned v/\∃r n2 ad ln2 pt2 qg,v=r/\NormR (plL u ln pt cnt) (plL n2 ln2 pt2 qg)/\0<=n2/\n2<=u/\(∀k,0<=k->k<n2->1<=qg k/\qg k<=1000*u)/\Slh r n2/\Sat w0 w [.own r 2 107 n2 (Zd ad qg),.sem (Frame.rows 3 n2 ad ln2 pt2)]:=by
 have hn:=hV.row.cf.n0;have aj:=hV.row.cf.n1
 refine zenG Tryz.func67 Tryz.ntmps67 fun w D=> ?_
 refine zsr<|(zP)<|zlz<|(zP)<|zx5<|(zP)<|(zV (xln Z4 hV.row.cf))<|(zP)<|zx6 ?_
 replace D:=D.cg 2 107 (Zd (fun _=>Og) (fun _=>0))
 replace D:=D.fa 3 (fun _=>Og) (fun _=>0) (fun _ _=>0)
 have yz:=fun k (J:0<=k) (I:k<0)=>D.db 1 rfl J I
 refine zlp (fun mm M w=>∃(G:Int) (X:Int->Value) (lC:Oe) (gC:Of) (U:Oe) (i:Int) (wC:Value),mm=((u-i).toNat)/\(0<=i)/\(i<=u)/\(0<=G/\G<=i)/\(plL G lC gC U=Wh (plL i ln pt cnt))/\(∀k,0<=k->k<G->1<=U k/\U k<=1000*i)/\(∀x,(X x).oneCell'=true)/\(Slh wC G)/\M= [(2,Og),(3,wC),(7,vV),(8,.int Oh u),(9,.int Oh i)]/\Sat w0 w [.own wC 2 107 G (Zd X U),.sem (Frame.rows 3 G X lC gC)]) ⟨0,(fun _=>Og),(fun _=>0),(fun _ _=>0),(fun _=>0),0,Og,rfl,Oa,Oa,Oa,?_,?_,?_,?_,rfl,D⟩ ?_
 ·
  rfl
 ·
  intro k J I;omega
 ·
  intro x;rfl
 ·
  exact slh_nil
 clear D w
 rintro mm M w ⟨G,X,lC,gC,U,i,wC,rfl,h0,h1,ac,hs,Z,qm,Y,rfl,D⟩
 have qG:=fun k (J:0<=k) (I:k<G)=>D.db 1 rfl J I
 refine zsr<|(zP)<|zx7<|Ze ?_ ?_<;>intro hc
 ·
  refine zx3<|(zV (xix (kk:=2*i) Z4 hV.row.cf))<|zlv (xlw (cs:= [(pv i),.int Oh (cnt i)]) ZQ (hV.row.below D.below) (ZG (k:=2*i) (i:=i) pv cnt Oa)) ?_
  have al:=af i h0 Oa
  have ak:=hlc i h0 Oa
  refine zla (xal (cs:= [_,_]) YA D) ?_;rintro _ w ⟨g1,rfl,D⟩
  refine zle (xsw 2 ZQ D (hd:=(Za (hV.p i Oa Oa).cf.one (Za rfl Zh)))) ?_;clear D;rintro w D
  refine zlz<|(zP)<|(zV xmf)<|zlc (xc0 ZfZ) (ZmB (u:=G) (pv:=X) (ln:=lC) (pt:=gC) (cnt:=U) (n:=(ln i)) (f:=(pt i)) w (⟨(D.c7 0 rfl),fun k J I=>D.fq 1 rfl J I,fun k J I=>D.gb 1 rfl J I⟩:VAt _ wC G X lC gC U) (D.holds _ (List.mem_of_getElem? (i:=2) rfl)) ((hV.p i Oa Oa).below D.below)) ?_;rintro _ w ⟨V,rfl,aa,W⟩
  replace D:=D.cmp W;clear W
  have am:0<=V->1<=U V/\U V<=1000*i:=fun h=>Z V h (by rcases aa with⟨h2,_⟩|⟨_,h2,_⟩<;>omega)
  have ah:V= -1\/(0<=V/\V<G):=by rcases aa with⟨h2,_⟩|⟨h2,h3,_⟩<;>omega
  refine(zP)<|zlz<|(Om)<|zlt<|Ze ?_ ?_<;>intro hc
  ·
   refine zdst [0,1,2] [1,2] 10 mx_ D ?_;clear D;intro w D
   refine(zDw 0 xmv)<|(zDw 1 xmv)<|(zDw 2 (xix (kk:=2*V) Z4 Y))<|(zDw 3 (xfc (kk:=2*V+1) fd_107_1 Y))<|zdl 4 (fun w D=>(xlr (u:= .int Oh (U V)) pl_3 (D.c7 0 rfl) (e:=(Y8 X U Oa)))) ?_
   refine(zDw 5 (xfb 1 fd_107_1))<|(zDl 6 (fun w D=>(xlb 1 pl_3 D)))<|(zDw 7 (Zg (r:=(U V)+(cnt i))))<|(zDw 8 (xix (kk:=2*V) Z4 Y))<|(zDw 9 (xfc (kk:=2*V+1) fd_107_1 Y))<|zde 10 (xso 0 pl_3 D (WZ (k:=2*V+1) (i:=V) _ _ Oa)) ?_;clear D;rintro w D
   refine⟨⟨fun h=>absurd h (by decide),D.pk [1,2]⟩,?_⟩
   refine zdd<|zbn<|ztn<|zrg ?_
   refine(zV (Zg (r:=i+1)))<|(zP)<|zln<|zlq ⟨G,X,lC,gC,(upd U V ((U V)+(cnt i))),i+1,wC,rfl,Oa,Oa,Oa,?_,?_,?_,?_,rfl,D.pk [0,1]⟩
   ·
    first|exact TM Oa h0 hs (aa.resolve_right (fun h=>Oa)).2|(have O:=aa.resolve_left (fun h=>Oa);exact Tg h0 hs O.1 O.2.1 O.2.2.1 O.2.2.2)
   ·
    first|exact Zfd Z Oa Oa Oa|exact Zc3 Z Oa Oa Oa
   ·
    first|exact qm|exact Wf qm ‹Slh _ _›.one
   ·
    exact Y
  refine zdst [2] [2] 1000 mx_ D ?_;clear D;intro w D
  refine(zDw 0 xmv)<|(zDw 1 (xfb 0 fd_107_0))<|(zDl 2 (fun w D=>(xlb 0 pl_22 D)))<|(zDw 4 (xfb 1 fd_107_1))<|(zDl 5 (fun w D=>(xlb 0 pl_3 D)))<|zdc 3 (xc0 cl_65) (c_clone (n:=(ln i)) (f:=(pt i)) w ((hV.p i Oa Oa).below D.below) Oa) ?_;rintro ab w ⟨_,rfl,qb,W⟩
  replace D:=(D.comp W).n4;clear W
  refine⟨⟨fun _=>D.pk [2],D.pk [2]⟩,?_⟩
  refine zDrv 6 (xany (v:= .agg #[ab,.int Oh (cnt i)]) (hr:=by obtain⟨_,_,_,_,rfl,_⟩:=qb;kernel_rfl)) ?_
  refine zda 7 (xli (n:=1) (len:=1) (pv:= [(0,.agg #[ab,.int Oh (cnt i)])]) (cs:= [ab,.int Oh (cnt i)]) (c:=Zd (fun _=>ab) (fun _=>(cnt i))) Z4 YA D (hf:=by obtain⟨_,_,_,_,rfl,_⟩:=qb;kernel_rfl)) ?_;rintro v1 w ⟨D,ag⟩
  refine⟨⟨fun _=>D.pk [2],D.pk [2]⟩,?_⟩
  refine zda 8 (xap 0 (r:=G+1) Z4 YA D (D.c7 4 rfl) (Ym _ _ _ _ _) (h1:=fun k _ _=>ZK (fun _=>qb.one) k)) ?_;rintro v2 w ⟨D,ae⟩
  replace D:=Sat.merge (l1:= [_]) (l2:= [_]) (l3:= [_]) D Oa
  have xd:=fun k (J:0<=k) (I:k<G+1)=>D.db 1 rfl J I
  refine⟨⟨fun _=>D.pk [2],D.pk [2]⟩,?_⟩
  refine(zDw 9 xas)<|zdd<|zbn<|ztn<|zrg ?_
  refine(zV (Zg (r:=i+1)))<|(zP)<|zln<|zlq ⟨G+1,gsn X G ab,gsn lC G (ln i),gsn gC G (pt i),(snoc U G (cnt i)),i+1,v2,rfl,Oa,Oa,Oa,?_,?_,?_,?_,rfl,D.pk [0,1]⟩
  ·
   first|exact TM Oa h0 hs (aa.resolve_right (fun h=>Oa)).2|(have O:=aa.resolve_left (fun h=>Oa);exact Tg h0 hs O.1 O.2.1 O.2.2.1 O.2.2.2)
  ·
   first|exact Zfd Z Oa Oa Oa|exact Zc3 Z Oa Oa Oa
  ·
   first|exact qm|exact Wf qm ‹Slh _ _›.one
  ·
   exact ae
 refine zx8<|(zP)<|zlc (xc0 Zny) (ZmM (u:=G) (pv:=X) (ln:=lC) (pt:=gC) (cnt:=U) w (⟨(D.c7 0 rfl),fun k J I=>D.fq 1 rfl J I,fun k J I=>D.gb 1 rfl J I⟩:VAt _ wC G X lC gC U) (fun k J I=>(Z k J I).1)) ?_;rintro _ w ⟨rfl,W⟩
 replace D:=D.cmp W;clear W
 refine(zP)<|zlz<|(zP)<|zlc (xc0 Znw) (ZgA (vd:=wC) (n:=G) (nm:=G) (s:=fun k=>k) (pv:=X) (cnt:=U) (lt:=fun x y=>ahd (lst (lC x) (gC x)) (lst (lC y) (gC y))) (F:=Frame.rows 3 G X lC gC) w0 w (D.pk [0,1]) Y Oa qm (fun w x y x0 x1 y0 y1 _ hF=>Zmv w (hF.1 x x0 x1).row (hF.1 y y0 y1).row) (fun k J I=>⟨J,I⟩) (ZhD fun x=>lst (lC x) (gC x)) (fun i j _ h _=>h)) ?_;rintro _ w ⟨rfl,t1,bz,dV,D⟩
 replace D:=D.l4 1 bz
 replace D:Sat w0 w [.own wC 2 107 G (Zd (fun k=>X (t1 k)) (fun k=>U (t1 k))),.sem (Frame.rows 3 G (fun k=>X (t1 k)) (fun k=>lC (t1 k)) (fun k=>gC (t1 k)))]:=D
 refine zlz<|(Om)<|zx1<|Oi ?_
 obtain rfl:i=u:=Oa
 exact⟨_,_,_,_,_,_,rfl,.km ac.1 hs bz dV,ac.1,ac.2,fun k J I=>(by obtain⟨q,q0,q1,q2⟩:=bz.fr J I;rw [show t1 k=q from q2];exact Z q q0 q1),Y,D⟩
end Go.Proofs.YtkichmnjjblodaaGreat
namespace Go.Proofs.Gw
variable {c i m x:Int} {sz:Oe}
def incr1(p:List Int)(x:Int):List Int:=p.modify x.toNat (· +1)
def Ys(m room:Int)(sz:Oe)(x:Int):Us->Us
  | []=> [(incr1 (lst m fun _=>0) x,room-sz x)]
  |b::r=>if sz x<=b.2 then(incr1 b.1 x,b.2-sz x)::r else b::Ys m room sz x r
def Yt(m room:Int)(sz:Oe)(l:List Int):Us:=l.foldl (fun s x=>Ys m room sz x s) []
theorem WI(m room:Int)(sz:Oe)(l:List Int)(x:Int):Yt m room sz (l++ [x])=Ys m room sz x (Yt m room sz l):=by simp [Yt]
theorem Kb{m room:Int}{sz:Oe}{x:Int}:∀{s:Us},(∀b∈s,b.2<sz x)->Ys m room sz x s=s++ [(incr1 (lst m fun _=>0) x,room-sz x)]
 | [],_=>rfl
 | b::r,h=>by
   have h1:=h b (by simp)
   rw [Ys,if_neg Oa,Kb fun c hc=>h c (by simp [hc])];rfl
theorem Zbq{m room:Int}{sz:Oe}{x:Int}:∀{s:Us} {j:Nat} {b:List Int×Int},s[j]? =some b->sz x<=b.2->(∀k<j,∀c,s[k]? =some c->c.2<sz x)->Ys m room sz x s=s.set j (incr1 b.1 x,b.2-sz x)
 | [],_,_,h,_,_=>by simp at h
 | c::r,0,b,h,e,_=>by
   simp at h;subst h
   rw [Ys,if_pos e];rfl
 | c::r,j+1,b,h,e,hk=>by
   simp at h
   have h1:=hk 0 Oa c (by simp)
   rw [Ys,if_neg Oa,Zbq h e fun k D d hd=>hk (k+1) Oa d (by simpa using hd)];rfl
theorem R4{f:Oe}(F:0<=x):incr1 (lst m f) x=lst m (fun k=>if k=x then f k+1 else f k):=by
 apply List.ext_getElem?
 intro k
 unfold incr1
 rw [List.getElem?_modify,lst_get,lst_get]
 by_cases hk:(k:Int)<m
 · rw [if_pos hk,if_pos hk]
   by_cases hx:x.toNat=k
   · have D:(k:Int)=x:=Oa
     simp [hx,D]
   · have D:¬(k:Int)=x:=Oa
     simp [hx,D]
 · rw [if_neg hk,if_neg hk];rfl
theorem Zjw{n room:Int}{P U:Of}{L V:Oe}{k:Int}(n0:0<=n)(W:0<=x)(J:0<=k)(I:k<n)(h:sz x<=L k)(hf:∀j,0<=j->j<k->L j<sz x)
   (O:∀a,0<=a->a<n->∀b,0<=b->b<m->U a b=if a=k/\b=x then P a b+1 else P a b) (Y:∀a,0<=a->a<n->V a=if a=k then L a-sz x else L a):plL n (fun _=>m) U V=Ys m room sz x (plL n (fun _=>m) P L):=by
 have X:(plL n (fun _=>m) P L)[k.toNat]? =some (lst m (P k),L k):=by rw [plL_get,Int.toNat_of_nonneg J,if_pos I]
 rw [Zbq X h fun j D c hc=>by
   rw [plL_get,if_pos Oa] at hc;injection hc with hc;rw [<-hc];exact hf j Oa Oa]
 apply List.ext_getElem?
 intro j
 rw [List.getElem?_set,plL_get,plL_get,plL_len]
 by_cases D:(j:Int)<n
 · rw [if_pos D,if_pos D,Y j Oa D]
   by_cases hjk:k.toNat=j
   · rw [if_pos hjk,if_pos Oa,if_pos Oa]
     rw [R4 W,show(j:Int)=k by omega]
     congr 2
     apply Z5;intro b G F
     rw [O k J I b G F]
     by_cases hb:b=x
     · rw [if_pos ⟨rfl,hb⟩,if_pos hb]
     · rw [if_neg fun h=>hb h.2,if_neg hb]
   · rw [if_neg hjk,if_neg Oa]
     congr 2
     apply Z5;intro b G F
     rw [O j Oa D b G F,if_neg fun h=>hjk Oa]
 · rw [if_neg D,if_neg D]
   by_cases hjk:k.toNat=j
   · omega
   · rw [if_neg hjk]
theorem ZfD{n room:Int}{P G:Of}{L I:Oe}(n0:0<=n)(U:0<=x)(hf:∀j,0<=j->j<n->L j<sz x)
   (Y:∀a,0<=a->a<n->∀b,0<=b->b<m->G a b=P a b) (Z:∀b,0<=b->b<m->G n b=if b=x then 1 else 0) (hL:∀a,0<=a->a<n->I a=L a) (X:I n=room-sz x):plL (n+1) (fun _=>m) G I=Ys m room sz x (plL n (fun _=>m) P L):=by
 rw [Kb fun b F=>by
   obtain⟨j,D⟩:=List.mem_iff_getElem?.1 F
   rw [plL_get] at D
   split at D
   · injection D with D;rw [<-D];exact hf j Oa (by assumption)
   · cases D]
 rw [XV n0,X]
 congr 1
 · exact Vr fun k O J=>⟨rfl,hL k O J,fun j W V=>Y k O J j W V⟩
 · rw [R4 U]
   congr 2
   apply Z5;intro b b0 b1
   rw [Z b b0 b1]
   by_cases F:b=x
   · rw [if_pos F,if_pos F];rfl
   · rw [if_neg F,if_neg F]
def pcs(d:Oe):Nat->List Int
  |0=> []
  |k+1=>pcs d k++List.replicate (d k).toNat (k:Int)
def pcsTo(d:Oe)(i c:Int):List Int:=pcs d i.toNat++List.replicate c.toNat i
theorem VL(d:Oe)(D:0<=c):pcsTo d i (c+1)=pcsTo d i c++ [i]:=by
 unfold pcsTo;rw [show(c+1).toNat=c.toNat+1 by omega,List.replicate_succ',List.append_assoc]
theorem TI(d:Oe)(D:0<=i)(hc:c.toNat=(d i).toNat):pcsTo d (i+1) 0=pcsTo d i c:=by
 unfold pcsTo;rw [show(i+1).toNat=i.toNat+1 by omega,pcs,Int.toNat_of_nonneg D,hc];simp
def psum(f d:Oe):Nat->Int
  |0=>0
  |k+1=>psum f d k+f k*d k
theorem YG(f d:Oe)(h:0<=i):psum f d (i+1).toNat=psum f d i.toNat+f i*d i:=by
 rw [show(i+1).toNat=i.toNat+1 by omega,psum,Int.toNat_of_nonneg h]
theorem KK(f:Oe)(x:Int):∀n:Nat,((List.replicate n x).map f).sum=f x*n
 |0=>by simp
 |n+1=>by rw [List.replicate_succ,List.map_cons,List.sum_cons,KK f x n];push_cast;rw [Int.mul_add];omega
theorem ZcY(f d:Oe):∀n:Nat,(∀k:Nat,k<n->0<=d k)->((pcs d n).map f).sum=psum f d n
 |0,_=>by simp [pcs,psum]
 | n+1,h=>by
   have D:=h n Oa
   rw [pcs,List.map_append,List.sum_append,ZcY f d n fun k F=>h k Oa,KK,psum,Int.toNat_of_nonneg D]
theorem RN(f d:Oe)(F:0<=i)(D:0<=c)(h:∀k,0<=k->k<i->0<=d k):((pcsTo d i c).map f).sum=psum f d i.toNat+f i*c:=by
 unfold pcsTo;rw [List.map_append,List.sum_append,ZcY f d _ fun k G=>h k Oa Oa,KK,Int.toNat_of_nonneg D]
theorem Zd2(d:Oe)(D:0<=i)(G:0<=c)(h:∀k,0<=k->k<i->0<=d k):((pcsTo d i c).length:Int)=psum (fun _=>1) d i.toNat+c:=by
 have h1:=RN (fun _=>1) d D G h
 have F:∀l:List Int,(l.map fun _=>(1:Int)).sum=l.length:=fun l=>by
   induction l with
   |nil=>rfl
   |cons a l ih=>rw [List.map_cons,List.sum_cons,ih,List.length_cons];push_cast;omega
 rw [F] at h1;omega
theorem Wo{d:Oe}{f:Oe}:∀{i n:Nat},i<=n->(∀k:Nat,k<n->0<=f k*d k)->psum f d i<=psum f d n:=by
 intro i n D h
 induction D with
 |refl=>exact Int.le_refl _
 | step hh ih=>
   have h1:=ih fun k F=>h k Oa
   have G:=h _ (Nat.lt_succ_self _)
   simp only [psum];omega
def WB(sz:Oe)(p:List Int):Int:=((List.range p.length).map fun(k:Nat)=>p.getD k 0*sz k).sum
theorem Wi{α:Type}{f g:α->Int}{l:List α}(h:∀x∈l,f x=g x):(l.map f).sum=(l.map g).sum:=by rw [List.map_congr_left h]
theorem ZcU{f:Nat->Int}{x:Nat}{c:Int}:∀{n:Nat},x<n->((List.range n).map fun k=>if k=x then f k+c else f k).sum=((List.range n).map f).sum+c
 |0,h=>Oa
 | n +1,h=>by
   rw [List.range_succ,List.map_append,List.map_append,List.sum_append,List.sum_append]
   by_cases hx:x=n
   · subst hx
     rw [Wi (g:=f) fun k D=>by rw [if_neg];have:=List.mem_range.1 D;omega]
     simp;omega
   · rw [ZcU Oa]
     simp [Ne.symm hx];omega
theorem Vp(sz:Oe){p:List Int}(G:0<=x)(h:x.toNat<p.length):WB sz (incr1 p x)=WB sz p+sz x:=by
 unfold WB incr1
 rw [List.length_modify,<-ZcU (x:=x.toNat) h]
 apply Wi
 intro k F
 have F:=List.mem_range.1 F
 rw [List.getD_eq_getElem?_getD,List.getD_eq_getElem?_getD,List.getElem?_modify]
 by_cases hx:x.toNat=k
 · have D:(k:Int)=x:=Oa
   rw [if_pos hx.symm,List.getElem?_eq_getElem F]
   simp [hx,Int.add_mul,D]
 · rw [if_neg (Ne.symm hx)];simp [hx]
theorem RF(sz:Oe)(m:Int):WB sz (lst m fun _=>0)=0:=by
 unfold WB
 rw [Wi (g:=fun _=>0) fun k D=>by
   rw [Xp] at D
   have D:=List.mem_range.1 D
   rw [List.getD_eq_getElem?_getD,lst_get,if_pos Oa];simp]
 induction (List.range (lst m fun _=>0).length) with
 |nil=>rfl
 |cons a l ih=>rw [List.map_cons,List.sum_cons,ih];rfl
structure FFOk (m room:Int) (sz:Oe) (qe:List Int) (s:Us):Prop where
  ok:∀b∈s,b.1.length=m.toNat/\WB sz b.1+b.2=room/\0<=b.2
  pr:s.Pairwise fun a b=>a.2+b.2<room
  mt:(s.map fun b=>room-b.2).sum=(qe.map sz).sum
  ct:∀g:Oe,(s.map fun b=>WB g b.1).sum=(qe.map g).sum
  ln:s.length<=qe.length
  nn:∀b∈s,∀v∈b.1,0<=v
theorem FFOk.nil(m room:Int)(sz:Oe):FFOk m room sz [] []:=⟨by simp,.nil,rfl,fun _=>rfl,by simp,by simp⟩
theorem Zbm{p:List Int}(h:∀v∈p,0<=v):∀v∈incr1 p x,0<=v:=by
 intro v hv
 unfold incr1 at hv
 obtain⟨k,D⟩:=List.mem_iff_getElem?.1 hv
 rw [List.getElem?_modify] at D
 cases F:p[k]? with
 |none=>rw [F] at D;cases D
 | some u=>
   rw [F] at D
   have G:=h u (List.mem_of_getElem? F)
   by_cases hx:x.toNat=k
   · simp [hx] at D;omega
   · simp [hx] at D;omega
theorem Vy {m room:Int} {sz:Oe} {x:Int}:∀{s:Us},∀b∈Ys m room sz x s,b∈s\/(∃c∈s,sz x<=c.2/\b=(incr1 c.1 x,c.2-sz x))\/(b=(incr1 (lst m fun _=>0) x,room-sz x)/\∀c∈s,c.2<sz x)
 | [],b,h=>by simp [Ys] at h;exact .inr (.inr ⟨h,by simp⟩)
 | c :: r, b,h=>by
   rw [Ys] at h
   split at h
   · rename_i hc
     rcases List.mem_cons.1 h with h|h
     · exact .inr (.inl ⟨c,by simp,hc,h⟩)
     · exact .inl (by simp [h])
   · rename_i hc
     rcases List.mem_cons.1 h with h|h
     · exact .inl (by simp [h])
     · rcases Vy b h with h|⟨d,hd,e⟩|⟨e,hd⟩
       · exact .inl (by simp [h])
       · exact .inr (.inl ⟨d,by simp [hd],e⟩)
       · exact .inr (.inr ⟨e,fun d D=>by
           rcases List.mem_cons.1 D with h|h
           · rw [h];omega
           · exact hd d h⟩)
theorem Ka{m room:Int}{sz:Oe}{x:Int}(F:List Int×Int->Int)(y:Int)(h1:∀c:List Int×Int,sz x<=c.2->F (incr1 c.1 x,c.2-sz x)=F c+y)(D:F (incr1 (lst m fun _=>0) x,room-sz x)=y):∀{s:Us},((Ys m room sz x s).map F).sum=(s.map F).sum+y
 | []=>by simp [Ys,D]
 | c ::r=>by
   rw [Ys]
   split
   · rename_i hc
     simp only [List.map_cons,List.sum_cons,h1 c hc];omega
   · simp only [List.map_cons,List.sum_cons,Ka F y h1 D (s:=r)];omega
theorem Zbp{m room:Int}{sz:Oe}{x:Int}(F:0<=sz x):∀{s:Us},s.Pairwise (fun a b=>a.2+b.2<room)->(Ys m room sz x s).Pairwise fun a b=>a.2+b.2<room
 | [],_=>by simp [Ys]
 | c ::r,h=>by
   have h1:=List.pairwise_cons.1 h
   rw [Ys]
   split
   · refine List.pairwise_cons.2 ⟨fun b D=> ?_,h1.2⟩
     have:=h1.1 b D
     dsimp only;omega
   · refine List.pairwise_cons.2 ⟨fun b D=> ?_,Zbp F h1.2⟩
     rcases Vy b D with h|⟨d,hd,_,e⟩|⟨e,hd⟩
     · exact h1.1 b h
     · rw [e];have:=h1.1 d hd;dsimp only;omega
     · rw [e];dsimp only;omega
theorem Kc{m room:Int}{sz:Oe}{x:Int}:∀{s:Us},(Ys m room sz x s).length<=s.length+1
 | []=>by simp [Ys]
 | c::r=>by
   rw [Ys]
   split
   · simp
   · simp only [List.length_cons];have:=Kc (m:=m) (room:=room) (sz:=sz) (x:=x) (s:=r);omega
theorem ZfF {room:Int} {J:List Int} {s:Us} (h:FFOk m room sz J s) (F:0<=x) (V:x<m) (U:0<=sz x) (hr:sz x<=room):FFOk m room sz (J++ [x]) (Ys m room sz x s):=by
 have O:x.toNat<(lst m fun _=>(0:Int)).length:=by rw [Xp];omega
 refine⟨fun b D=> ?_,Zbp U h.pr,?_,fun g=> ?_,?_,fun b D=> ?_⟩
 · rcases Vy b D with D|⟨c,hc,G,e⟩|⟨e,_⟩
   · exact h.ok b D
   · obtain⟨h1,X,W⟩:=h.ok c hc
     rw [e]
     refine⟨by simp [incr1,h1],?_,by dsimp only;omega⟩
     rw [Vp sz F Oa];dsimp only;omega
   · rw [e]
     refine⟨by simp [incr1,Xp],?_,by dsimp only;omega⟩
     rw [Vp sz F O,RF];dsimp only;omega
 · rw [Ka (fun b=>room-b.2) (sz x) (fun c hc=>by dsimp only;omega) (by dsimp only;omega),h.mt];simp
 · have I:∀{s:Us},(∀b∈s,b.1.length=m.toNat)->((Ys m room sz x s).map fun b=>WB g b.1).sum=(s.map fun b=>WB g b.1).sum+g x:=by
     intro s G
     induction s with
     |nil=>simp [Ys,Vp g F O,RF]
     | cons c r ih=>
       rw [Ys]
       split
       · simp only [List.map_cons,List.sum_cons]
         rw [Vp g F (by rw [G c (by simp)];omega)];omega
       · simp only [List.map_cons,List.sum_cons,ih fun b D=>G b (by simp [D])];omega
   rw [I fun b D=>(h.ok b D).1,h.ct];simp
 · have:=Kc (m:=m) (room:=room) (sz:=sz) (x:=x) (s:=s);have:=h.ln;simp;omega
 · rcases Vy b D with D|⟨c,hc,G,e⟩|⟨e,_⟩
   · exact h.nn b D
   · rw [e];exact Zbm (h.nn c hc)
   · rw [e];exact Zbm fun v hv=>by
       unfold lst at hv;simp at hv;omega
theorem ZfE{room:Int}:∀{l:List Int},(∀x∈l,0<=x/\x<m/\0<=sz x/\sz x<=room)->FFOk m room sz l (Yt m room sz l):=by
 intro l
 have F:∀(l h:List Int) (s:Us),FFOk m room sz h s->(∀x∈l,0<=x/\x<m/\0<=sz x/\sz x<=room)->FFOk m room sz (h++l) (l.foldl (fun s x=>Ys m room sz x s) s):=by
   intro l
   induction l with
   |nil=>intro h s G _;simpa using G
   | cons x l ih=>
     intro h s G D
     obtain⟨h1,U,O,J⟩:=D x (by simp)
     have:=ih (h++ [x]) _ (ZfF G h1 U O J) fun y I=>D y (by simp [I])
     simpa using this
 intro D
 have:=F l [] [] (.nil _ _ _) D
 simpa [Yt] using this
theorem ZcZ{d:Oe}:∀{n:Nat},∀x∈pcs d n,0<=x/\x<n
 |0,x,h=>by simp [pcs] at h
 | n+1,x,h=>by
   rw [pcs] at h
   rcases List.mem_append.1 h with h|h
   · have:=ZcZ x h;omega
   · have:=(List.mem_replicate.1 h).2;omega
def TL(s:Us):Us:=s.map fun b=>(b.1,1)
theorem UB(f:List Int->Int):∀s:Us,wsum f (TL s)=(s.map fun b=>f b.1).sum
 | []=>rfl
 | b::r=>by
   have:=UB f r
   unfold TL at this⊢
   simp only [List.map_cons,wsum,List.sum_cons,this];omega
end Go.Proofs.Gw
namespace Go.Proofs.YtkichmnjjblodaaGreat
open Go Go.RowKit Go.Proofs.Gw
variable {vD:Value}
theorem ZlH:Zc Oj 157=true:=Ob
theorem ZiH{vL:Value}{p:Prob}(w0:World)(h:PAt w0 vL vD p)(F:p.Ok):
   Calls Oj 157 [.agg #[vL,vD,.int Oh p.b8,.int Oh p.bo]].toArray w0 fun e w=>∃v,e= .returned v/\v= .int Oh (psum (fun _=>1) p.D p.m.toNat)/\Sat w0 w []:=by
 obtain⟨hm,V,hd,hd1,hs,hk⟩:=h.Oo
 have U:=F.d;have Z:=F.m2
 refine zenG Tryz.func157 Tryz.ntmps157 fun w D=> ?_
 refine zsr<|zla (xbx (cs:= [_,_,_,_]) D) ?_;rintro _ w ⟨Y,rfl,D⟩
 refine(zP)<|zlz<|(zP)<|zx5<|(zV (xfb 1 fd_32_1))<|(zV (xlb 0 pl_22 D))<|(zV (xln Zb h.D.cf))<|(zP)<|zx6<|zlp (fun I M w=>∃(s:Int) (i:Int),I=((p.d-i).toNat)/\(0<=i)/\(i<=p.d)/\(s=psum (fun _=>1) p.D i.toNat)/\(0<=s/\s<=1000000*i)/\M= [(2,.int Oh 0),(3,.int Oh s),(7,vD),(8,.int Oh p.d),(9,.int Oh i)]/\Sat w0 w [.blk Y [vL,vD,.int Oh p.b8,.int Oh p.bo]]) ⟨0,0,rfl,Oa,Oa,?_,Oa,rfl,D⟩ ?_
 ·
  rfl
 clear D w
 rintro I M w ⟨s,i,rfl,J,h1,G,O,rfl,D⟩
 refine zsr<|(zP)<|zx7<|Ze ?_ ?_<;>intro hc
 ·
  refine zx3<|(zV (xix (kk:=i) Zb h.D.cf))<|zlv (xlr (u:= .int Oh (p.D i)) pl_3 (h.D.below D.below)) ?_
  have X:=h.iD i
  have W:=F.all i J Oa;unfold Prob.each at W
  refine(zP)<|zlt<|zrg<|(Om)<|(zV (Zg (r:=s+p.D i)))<|(zP)<|zx10<|(zV (Zg (r:=i+1)))<|(zP)<|zln<|zlq ⟨s+p.D i,i+1,rfl,Oa,Oa,?_,Oa,rfl,D⟩
  ·
   rw [YG _ _ J,<-G];omega
 refine zx8<|(Om)<|zx1<|Oi ?_
 obtain rfl:p.m=i:=Oa
 rw [<-G]
 exact⟨rfl,D.nl⟩
def ZeH(p:Prob)(e:Int):Prop:=(¬p.Ok/\e=1)\/(p.Ok/\1000<psum (fun _=>1) p.D p.m.toNat/\e=9)\/(p.Ok/\psum (fun _=>1) p.D p.m.toNat<=1000/\e=0)
theorem ZdK{vL:Value}{p:Prob}(w0:World)(h:PAt w0 vL vD p):
   Calls Oj 122 [.agg #[vL,vD,.int Oh p.b8,.int Oh p.bo]].toArray w0 fun e w=>∃v,e= .returned v/\∃e:Int,v= .int Oh e/\ZeH p e/\Sat w0 w []:=by
 obtain⟨O,I,hd,hd1,J,U⟩:=h.Oo
 refine zenG Tryz.func122 Tryz.ntmps122 fun w D=> ?_
 refine zsr<|zla (xbx (cs:= [_,_,_,_]) D) ?_;rintro _ w ⟨V,rfl,D⟩
 refine(zP)<|zlt<|zsq<|zbk<|zsr<|(zV (xls 0 st_32 D))<|zlc (xc0 XZ) (Yn (p:=p) w (h.below D.below)) ?_;rintro _ w ⟨rfl,F⟩
 replace D:=D.cmp F;clear F
 refine(Om)<|zlt<|Ze ?_ ?_<;>intro hc
 ·
  refine zsr<|(zP)<|Xt<|Oi ?_
  exact⟨1,rfl,.inl ⟨‹¬p.Ok›,rfl⟩,D.nl⟩
 refine zsr<|zlv (xls 0 st_32 D) ?_
 have G:p.Ok:=by first|assumption|exact Oc ‹_›
 refine zlc (xc0 ZlH) (ZiH (p:=p) w (h.below D.below) G) ?_;rintro _ w ⟨rfl,F⟩
 replace D:=D.cmp F;clear F
 refine(Om)<|zlt<|Ze ?_ ?_<;>intro hc
 ·
  refine zsr<|(zP)<|Xt<|Oi ?_
  exact⟨9,rfl,.inr (.inl ⟨G,Oa,rfl⟩),D.nl⟩
 refine zsk<|zbn<|ztn<|zsr<|(zP)<|zx1<|Oi ?_
 exact⟨0,rfl,.inr (.inr ⟨G,Oa,rfl⟩),D.nl⟩
theorem ZgQ{vL:Value}{p:Prob}(w0:World)(h:PAt w0 vL vD p):
   Calls Oj 158 [.agg #[vL,vD,.int Oh p.b8,.int Oh p.bo]].toArray w0 fun e w=>∃v,e= .returned v/\∃g,v= .func (.func 182) #[] #[Oq g]/\Sat w0 w [.blk g [vL,vD,.int Oh p.b8,.int Oh p.bo]]:=by
 refine zenG Tryz.func158 Tryz.ntmps158 fun w D=> ?_
 refine zsr<|zla (xbx (cs:= [_,_,_,_]) D) ?_;rintro _ w ⟨F,rfl,D⟩
 refine(zP)<|zlz<|(zV xmf)<|(zP)<|zx1<|Oi ?_
 exact⟨_,rfl,D⟩
theorem Zew{vL:Value}{p:Prob}{gp:Nat}{St:Type}(I:St->List Int)(G:St->Prop)(s0:St)(Z:I s0= [])(aa:G s0)(w0:World)(h:PAt w0 vL vD p)(J:p.Ok):ItC (St:=St) (X:=Int) (Tt:=Unit) Oj w0 182 [Oq gp] [.blk gp [vL,vD,.int Oh p.b8,.int Oh p.bo]] (fun x=> [.int Oh x]) (fun s x rest=>G s/\∃c,0<=x/\x<p.m/\0<=c/\c<p.D x/\I s=pcsTo p.D x c) (fun s x s1=>I s1=I s++ [x]/\G s1) (fun _ _ _=>False) (s0) (fun s rest=>G s/\I s=pcsTo p.D p.m 0) (fun _ _=>False):=by
 intro l C D w F hY
 obtain⟨hm,ad,hd,hd1,hs,hk⟩:=h.Oo
 have ac:=J.d;have qH:=J.m2
 refine Zfp Tryz.func182 Tryz.ntmps182 ?_
 refine hsq<|hrz ?_
 refine zlv (xfb 1 fd_32_1) ?_
 refine zlv (xlb 1 pl_22 F) ?_
 refine zlv (xln Zb h.D.cf) ?_
 refine zlv xmv ?_
 refine zln<|zh<|htn<|hbk<|hlp (fun V M w=>∃(s:St) (i:Int),V=((p.d-i).toNat)/\(0<=i)/\(i<=p.d)/\(G s)/\(I s=pcsTo p.D i 0)/\M= [(0,.func (.yield l) #[] #[]),(6,vD),(7,.int Oh p.d),(8,.int Oh i)]/\Sat w0 w [.sem (C s),.blk gp [vL,vD,.int Oh p.b8,.int Oh p.bo]]) ⟨s0,0,rfl,Oa,Oa,?_,?_,rfl,F⟩ ?_
 ·
  exact aa
 ·
  exact Z
 clear F w
 rintro V M w ⟨s,i,rfl,h0,h1,hI,hh,rfl,F⟩
 refine hsq<|hrz ?_
 refine zlv Z7 ?_
 refine zln<|zh<|htn<|hsq ?_
 refine Xq ?_ ?_<;>intro hc
 ·
  refine hsk<|htn<|hsq<|hbk<|hsq<|hrz ?_
  refine zlv xmv ?_
  refine zlv (xix (kk:=i) Zb h.D.cf) ?_
  refine zlv (xlr (u:= .int Oh (p.D i)) pl_3 (h.D.below F.below)) ?_
  have ae:=h.iD i
  have he:=J.all i h0 Oa;unfold Prob.each at he
  refine zs2 ?_
  refine zln<|zh<|htn<|hsq<|hrz ?_
  refine zs2 ?_
  refine zln<|zh<|htn<|hbk<|hlp (fun V M w=>∃(U:St) (c:Int),V=((p.D i-c).toNat)/\(0<=c)/\(c<=p.D i)/\(G U)/\(I U=pcsTo p.D i c)/\M= [(0,.func (.yield l) #[] #[]),(3,.int Oh i),(6,vD),(7,.int Oh p.d),(8,.int Oh i),(13,.int Oh (p.D i)),(14,.int Oh c)]/\Sat w0 w [.sem (C U),.blk gp [vL,vD,.int Oh p.b8,.int Oh p.bo]]) ⟨s,0,rfl,Oa,Oa,?_,?_,rfl,F⟩ ?_
  ·
   exact hI
  ·
   exact hh
  clear F w
  rintro V M w ⟨U,c,rfl,c0,c1,W,O,rfl,F⟩
  refine hsq<|hrz ?_
  refine zlv Z7 ?_
  refine zln<|zh<|htn<|hsq ?_
  refine Xq ?_ ?_<;>intro hc
  ·
   refine hsk<|htn<|hsq<|hbk<|hsq<|hrg ?_
   iterate 2 refine hlv xmv ?_
   refine hly (hY U i _ w ⟨W,c,h0,Oa,c0,Oa,O⟩ (Sat.gg (l1:= [_,_]) (l2:= []) F)) ?_;rintro _ w (⟨rfl,Y,qL,F⟩|⟨rfl,ab,xQ,F⟩)
   ·
    replace F:=Sat.fx (l1:= [_,_]) (l3:= []) F
    replace F:=F.n2
    refine hlv xnt ?_
    refine hln<|htn<|hcf<|hsk<|zbn<|htn<|hrz ?_
    refine zlv (Zg (r:=c+1)) ?_
    refine zlv xmv ?_
    refine zln<|zh<|hlq ⟨Y,c+1,rfl,Oa,Oa,?_,?_,rfl,F⟩
    ·
     exact qL.2
    ·
     rw [qL.1,O,<-VL _ c0]
   ·
    replace F:=Sat.fx (l1:= [_,_]) (l3:= []) F
    replace F:=F.n2
    refine hlv xnf ?_
    refine hln<|htn<|hct<|hrt<|zbr<|ztr<|ztr<|zbr<|zbr<|ztr<|ztr<|zbr<|zf0 ⟨_,rfl,?_⟩
    exact xQ.elim
  refine hxt<|ztx<|ztx<|zbh<|zbn<|htn<|hrz ?_
  refine zlv (Zg (r:=i+1)) ?_
  refine zlv xmv ?_
  refine zln<|zh<|hlq ⟨U,i+1,rfl,Oa,Oa,?_,?_,rfl,F⟩
  ·
   exact W
  ·
   rw [TI _ h0 (c:=c) Oa];exact O
 refine hxt<|ztx<|ztx<|zbh<|XP ⟨_,rfl,?_⟩
 exact .inl ⟨s,_,⟨hI,by rw [hh,show i=p.m by omega]⟩,Sat.gg (l1:= [_,_]) (l2:= []) F⟩
end Go.Proofs.YtkichmnjjblodaaGreat
namespace Go.Proofs.YtkichmnjjblodaaGreat
open Go Go.RowKit Go.Proofs.Gw
variable {m x:Int} {sz:Oe}
theorem Ua{d:Oe}{i c:Int}(hd:∀k,0<=k->k<m->0<=d k)(G:0<=i)(F:i<=m)(X:0<=c)(W:i<m->c<=d i)(J:i=m->c=0):(∀x∈pcsTo d i c,0<=x/\x<m)/\((pcsTo d i c).length:Int)<=psum (fun _=>1) d m.toNat:=by
 constructor
 · intro x I
   unfold pcsTo at I
   rcases List.mem_append.1 I with h|h
   · have:=ZcZ x h;omega
   · have h1:=List.mem_replicate.1 h
     have h2:=h1.2
     rcases Int.lt_or_eq_of_le F with D|D
     · omega
     · have:=J D;have:=h1.1;omega
 · rw [Zd2 d G X fun k O Y=>hd k O Oa]
   rcases Int.lt_or_eq_of_le F with D|D
   · have h4:=W D
     have V:=YG (fun _=>1) d G
     have U:=Wo (d:=d) (f:=fun _=>1) (i:=(i+1).toNat) (n:=m.toNat) Oa fun k Z=>by have:=hd k Oa Oa;omega
     rw [V] at U;omega
   · have:=J D;rw [D];omega
theorem KY {p:List Int} (O:∀v∈p,0<=v) (J:∀k:Nat,k<p.length->1<=sz k) {j:Nat} (I:j<p.length):p.getD j 0<=WB sz p:=by
 have G:∀(l:List Nat) (f:Nat->Int),(∀k∈l,0<=f k)->∀j∈l,f j<=(l.map f).sum:=by
   intro l f
   induction l with
   |nil=>intro _ j h;simp at h
   | cons a l ih=>
     intro F j h
     have h1:0<=(l.map f).sum:=by
       clear ih h
       induction l with
       |nil=>simp
       |cons b l ih2=>rw [List.map_cons,List.sum_cons];have:=F b (by simp);have:=ih2 (fun k D=>F k (by rcases List.mem_cons.1 D with h|h<;>simp [h]));omega
     rw [List.map_cons,List.sum_cons]
     rcases List.mem_cons.1 h with e|e
     · rw [e];omega
     · have:=ih (fun k D=>F k (by simp [D])) j e;have:=F a (by simp);omega
 have nn:∀k:Nat,k<p.length->0<=p.getD k 0:=fun k D=>by
   rw [List.getD_eq_getElem?_getD,List.getElem?_eq_getElem D]
   exact O _ (List.getElem_mem D)
 have h1:=G (List.range p.length) (fun k=>p.getD k 0*sz k) (fun k D=>by
   have D:=List.mem_range.1 D
   exact Int.mul_nonneg (nn k D) (by have:=J k D;omega)) j (List.mem_range.2 I)
 have V:=nn j I
 have U:=J j I
 have W:=Int.mul_le_mul_of_nonneg_left U V
 exact Int.le_trans (show p.getD j 0<=p.getD j 0*sz j by omega) h1
structure FSt where
  h:List Int
  vB:Value
  n:Int
  vv:Int->Value
  P:Of
  vL:Value
  L:Oe
abbrev szP(p:Prob):Oe:=fun k=>p.L k+p.bo
def FInv(p:Prob)(s:FSt):Prop:=plL s.n (fun _=>p.m) s.P s.L=Yt p.m (p.b8+p.bo) (szP p) s.h/\Slh s.vB s.n/\Slh s.vL s.n
def FSt.iq:FSt:=⟨[],Og,0,fun _=> Og,fun _ _=>0,Og,fun _=>0⟩
theorem FInv.iq(p:Prob):FInv p FSt.iq:=⟨rfl,slh_nil,slh_nil⟩
theorem Zb5{p:Prob}(D:p.Ok)(G:0<=x)(F:x<p.m):1<=szP p x/\szP p x<=p.b8+p.bo:=by
 have I:=D.all x G F
 unfold Prob.each at I
 have:=D.k1
 unfold szP;omega
theorem Zdj{p:Prob}(D:p.Ok){l:List Int}(G:∀x∈l,0<=x/\x<p.m):FFOk p.m (p.b8+p.bo) (szP p) l (Yt p.m (p.b8+p.bo) (szP p) l):=
 ZfE fun x F=>by
   have h1:=G x F
   have I:=Zb5 D h1.1 h1.2
   exact⟨h1.1,h1.2,Oa,I.2⟩
theorem FInv.ia{p:Prob}{s:FSt}(D:p.Ok)(h:FInv p s)(hm:∀x∈s.h,0<=x/\x<p.m)(hl:(s.h.length:Int)<=1000):s.n<=1000/\∀k,0<=k->k<s.n->(0<=s.L k/\s.L k<=p.b8+p.bo)/\∀j,0<=j->j<p.m->0<=s.P k j/\s.P k j<=p.b8+p.bo:=by
 have J:=Zdj D hm
 rw [<-h.1] at J
 have h1:=J.ln
 rw [plL_len] at h1
 refine⟨by omega,fun k Z Y=> ?_⟩
 have V:(lst p.m (s.P k),s.L k)∈plL s.n (fun _=>p.m) s.P s.L:=List.mem_iff_getElem?.2 ⟨k.toNat,by rw [plL_get,Int.toNat_of_nonneg Z,if_pos Y]⟩
 obtain⟨h2,h3,X⟩:=J.ok _ V
 have F:=J.nn _ V
 dsimp only at h2 h3 X F
 have U:∀j,0<=j->j<p.m->(lst p.m (s.P k)).getD j.toNat 0=s.P k j:=fun j I G=>by rw [List.getD_eq_getElem?_getD,lst_get,Int.toNat_of_nonneg I,if_pos G];rfl
 have W:∀j:Nat,j<(lst p.m (s.P k)).length->1<=szP p j:=fun j hj=>by
   rw [Xp] at hj
   exact(Zb5 D Oa Oa).1
 have h9:0<=WB (szP p) (lst p.m (s.P k)):=by
   have aa:=D.m1
   have ac:=KY F W (j:=0) (by rw [Xp];omega)
   have O:=U 0 Oa Oa
   have ab:=F (s.P k 0) (by
     have:=lst_get p.m (s.P k) 0
     rw [if_pos Oa] at this
     exact List.mem_of_getElem? this)
   rw [show(0:Int).toNat=0 from rfl] at O
   omega
 refine⟨⟨X,Oa⟩,fun j I G=> ?_⟩
 have h6:=KY F W (j:=j.toNat) (by rw [Xp];omega)
 rw [U j I G] at h6
 have h7:=F (s.P k j) (by
   have:=lst_get p.m (s.P k) j.toNat
   rw [Int.toNat_of_nonneg I,if_pos G] at this
   exact List.mem_of_getElem? this)
 exact⟨h7,Oa⟩
theorem ZfC{n room r y:Int}{L:Oe}{P:Of}(n0:0<=n)(D:0<=x)(G:0<=r)(F:r<n)(h:sz x<=L r)(hf:∀j,0<=j->j<r->¬(sz x<=L j))(O:y=L r-sz x):
   plL n (fun _=>m) (upd P r (upd (P r) x (P r x+1))) (upd L r y)=Ys m room sz x (plL n (fun _=>m) P L):=
 Zjw n0 D G F h (fun j J I=>by have:=hf j J I;omega) (fun a V U b X W=>by
   unfold upd
   by_cases ha:a=r
   · subst ha
     by_cases hb:b=x
     · subst hb;simp
     · simp [hb]
   · simp [ha]) (fun a V U=>by
   unfold upd
   by_cases ha:a=r
   · subst ha;simp [O]
   · simp [ha])
theorem Zdi{n room y:Int}{L:Oe}{P:Of}(n0:0<=n)(G:0<=x)(hf:∀j,0<=j->j<n->¬(sz x<=L j))(F:y=snoc L n room n-sz x):
   plL (n+1) (fun _=>m) (upd (gsn P n (fun _=>0)) n (upd (gsn P n (fun _=>0) n) x (gsn P n (fun _=>0) n x+1))) (upd (snoc L n room) n y)=Ys m room sz x (plL n (fun _=>m) P L):=by
 have U:gsn P n (fun _=>0) n=fun _=>0:=Zq Oa
 have O:snoc L n room n=room:=Zk Oa
 rw [O] at F
 rw [U]
 refine ZfD n0 G (fun j J I=>by have:=hf j J I;omega) (fun a X D b W V=> ?_) (fun b W V=> ?_) (fun a X D=> ?_) ?_
 · unfold upd;rw [if_neg Oa,Zp D]
 · unfold upd;rw [if_pos rfl]
   by_cases hb:b=x
   · simp [hb]
   · simp [hb]
 · unfold upd;rw [if_neg Oa,Zl D]
 · unfold upd;rw [if_pos rfl];exact F
theorem Za7(n:Int)(ln:Oe)(pt:Of)(cnt:Oe):TL (plL n ln pt cnt)=plL n ln pt (fun _=>1):=by
 unfold TL plL
 rw [List.map_map];rfl
theorem R6{α:Type}(a:α)(n:Int):gsn (fun _=>a) n a=fun _=>a:=by
 funext k;unfold gsn;split<;>rfl
end Go.Proofs.YtkichmnjjblodaaGreat
namespace Go.Proofs.YtkichmnjjblodaaGreat
open Go Go.RowKit Go.Proofs.Gw
theorem ZlF:Zc Oj 160=true:=Ob
theorem Zoc{x m:Int}{G:Addr}(w0:World)(D:w0.cell? G=some (.int Oh m)):
   Calls Oj 160 [.int Oh x,.pointer (some G)].toArray w0 fun e w=>∃v,e= .returned v/\v=B (m<=x)/\Sat w0 w []:=by
 refine zenG Tryz.func160 Tryz.ntmps160 fun w F=> ?_
 refine zsr<|(zP)<|zlz<|(zP)<|(zV (xlf pl_3 D F))<|(Om)<|zx1<|Oi ?_
 exact⟨Zn Oa,F⟩
theorem ZmF{v:Value}{n m:Int}{f:Oe}{W:Addr}(w0:World)(G:Row w0 v 1 n (ints f))(J:w0.cell? W=some (.int Oh m)):
   Calls Oj 159 [v,.func (.func 160) #[] #[.pointer (some W)]].toArray w0 fun e w=>∃v,e= .returned v/\∃r:Int,v= .int Oh r/\((r= -1/\∀k,0<=k->k<n->¬(m<=f k))\/(0<=r/\r<n/\(m<=f r)/\∀k,0<=k->k<r->¬(m<=f k)))/\Sat w0 w []:=by
 have hn:=G.cf.n0;have Y:=G.cf.n1
 refine zenG Tryz.func159 Tryz.ntmps159 fun w D=> ?_
 refine zsr<|(zP)<|zx5<|(zP)<|(zV (xln Zb G.cf))<|(zP)<|zx6<|zlp (fun X M w=>∃(i:Int),X=((n-i).toNat)/\(0<=i)/\(i<=n)/\(∀k,0<=k->k<i->¬(m<=f k))/\M= [(0,v),(1,.func (.func 160) #[] #[.pointer (some W)]),(7,.int Oh n),(8,.int Oh i)]/\Sat w0 w []) ⟨0,rfl,Oa,Oa,?_,rfl,D⟩ ?_
 ·
  intro k V h1;omega
 clear D w
 rintro X M w ⟨i,rfl,V,h1,I,rfl,D⟩
 refine zsr<|(zP)<|zx7<|Ze ?_ ?_<;>intro hc
 ·
  refine zx3<|(Om)<|zlz<|(On)<|(zV (xix (kk:=i) Zb G.cf))<|(zV (xlr (u:= .int Oh (f i)) pl_3 (G.below D.below)))<|zlc (xcc (vs:= [_]) ZlF) (Zoc (x:=(f i)) (m:=m) w (D.ref J)) ?_;rintro _ w ⟨rfl,F⟩
  replace D:=D.cmp F;clear F
  refine zlt<|Ze ?_ ?_<;>intro hc
  ·
   refine zsr<|(Om)<|zx2<|Oi ?_
   exact⟨i,rfl,.inr ⟨by omega,Oa,‹m<=f i›,I⟩,D⟩
  refine zx4<|(zV (Zg (r:=i+1)))<|(zP)<|zln<|zlq ⟨i+1,rfl,Oa,Oa,?_,rfl,D⟩
  ·
   intro k U Z;rcases Int.lt_or_eq_of_le (show k<=i by omega) with O|O;exact I k U O;rw [O];assumption
 refine zx8<|(zP)<|zx1<|Oi ?_
 exact⟨-1,rfl,.inl ⟨rfl,fun k V h1=>I k V Oa⟩,D⟩
theorem ZlG:Zc Oj 158=true:=Ob
theorem Zlo:Zc Oj 182=true:=Ob
theorem Zdx:Zc Oj 67=true:=Ob
theorem ZfO:ZV Oj 83=some (Og,1,24):=Ob
theorem Re{vL vD:Value}{p:Prob}(w0:World)(h:PAt w0 vL vD p)(F:p.Ok)(zl:psum (fun _=>1) p.D p.m.toNat<=1000):
   Calls Oj 123 [.agg #[vL,vD,.int Oh p.b8,.int Oh p.bo]].toArray w0 fun e w=>∃v,e= .returned v/\∃r n2 af ln2 pt2 qg,v=r/\NormR (TL (Yt p.m (p.b8+p.bo) (szP p) (pcsTo p.D p.m 0))) (plL n2 ln2 pt2 qg)/\0<=n2/\n2<=1000/\(∀k,0<=k->k<n2->1<=qg k/\qg k<=1000000)/\Slh r n2/\Sat w0 w [.own r 2 107 n2 (Zd af qg),.sem (Frame.rows 3 n2 af ln2 pt2)]:=by
 obtain⟨hm,az,hd,hd1,hs,hk⟩:=h.Oo
 have ax:=F.d;have qH:=F.m2;have yH:=F.m1;have aw:=F.s1;have av:=F.s2;have a2:=F.k1;have a1:=F.k2
 refine Zie Tryz.func123 Tryz.ntmps123 fun w D=> ?_
 refine hsq<|hrz ?_
 refine zla (xbx (cs:= [_,_,_,_]) D) ?_;rintro _ w ⟨g1,rfl,D⟩
 refine(zP)<|zln<|zh<|htn<|hsq<|hrz ?_
 refine zla (xal (cs:= [_]) ZfO D) ?_;rintro _ w ⟨g2,rfl,D⟩
 refine zln<|zh<|htn<|hsq<|hrz ?_
 refine zla (xal (cs:= [_]) Z9 D) ?_;rintro _ w ⟨g3,rfl,D⟩
 refine zln<|zh<|htn<|hsq<|hsq<|hrz ?_
 refine(zV (xls 0 st_32 D))<|zlc (xc0 ZlG) (ZgQ (p:=p) w (h.below D.below)) ?_;rintro _ w ⟨g4,rfl,W⟩
 replace D:=(D.comp W).n4;clear W
 refine zln<|zh<|htn<|hbk ?_
 replace D:=D.cg 1 22 (fun _=>Og)
 replace D:=D.fa 3 (fun _=>Og) (fun _=>p.m) (fun _ _=>0)
 replace D:=D.cg 1 3 (ints (fun _=>0))
 refine hrf (St:=FSt) (X:=Int) (Tt:=Unit) (fun s=> [.blk g1 [vL,vD,.int Oh p.b8,.int Oh p.bo],.blk g2 [s.vB],.blk g3 [s.vL],.own s.vB 1 22 s.n s.vv,.sem (Frame.rows 3 s.n s.vv (fun _=>p.m) s.P),.own s.vL 1 3 s.n (ints s.L)]) (fun t=> []) (fun _=> .ret) FSt.iq (fun x M es=>M= [(0,.agg #[vL,vD,.int Oh p.b8,.int Oh p.bo]),(1,Oq g1),(2,Og),(3,Oq g2),(4,Oq g3),(11,.agg #[vL,vD,.int Oh p.b8,.int Oh p.bo]),(12,.func (.func 182) #[] #[Oq g4]),(13,.int Oh x),(5,.int Oh x)]/\es= []) (Zew (gp:=g4) (fun s=>s.h) (FInv p) FSt.iq rfl (FInv.iq p) w0 h F) (D.pk [0,1,2,4,5,6,3]) Zlo (fun _=>rfl) (fun _=> .inl rfl) ?_ ?_ ?_ ?_
 ·
  intro lq s x rest w qE xb ai D
  refine hrz ?_
  refine(zP)<|zln<|zh<|Zfq ⟨rfl,rfl⟩ D
 ·
  rintro lq s x _ _ rest w qE ⟨rfl,rfl⟩ xb ai D
  obtain⟨O,c,x0,x1,c0,c1,hh⟩:=qE
  have V:=O.2.1;have ad:=O.2.2
  obtain⟨aO,xV⟩:=Ua (d:=p.D) (i:=x) (c:=c) (fun k G J=>by have he:=F.all k G J;unfold Prob.each at he;omega) x0 Oa c0 (fun _=>Oa) (fun _=>Oa)
  rw [<-hh] at aO xV
  obtain⟨am,hrg⟩:=O.ia F aO Oa
  have an:=F.all x x0 x1;unfold Prob.each at an
  have aa:=V.n0
  have Y:=fun k (G:0<=k) (J:k<s.n)=>D.db 4 rfl G J
  refine hbk<|hsq ?_
  refine hdst [0,1,2,3,4,5,6,7] [0,1,2,3,4,5,6,7] 9 mx_ D ?_;clear D;intro w D
  refine(zDw 0 (xfb 0 fd_32_0))<|(zDl 1 (fun w D=>(xlb 0 pl_22 D)))<|(zDw 2 xmv)<|(zDw 3 (xix (kk:=x) Zb h.L.cf))<|zdla 4 (fun w D=>(xlr (u:= .int Oh (p.L x)) pl_3 (h.L.below D.below))) ?_
  have a4:=h.iL x
  refine(zDw 5 (xfb 3 fd_32_3))<|(zDl 6 (fun w D=>(xlb 0 pl_3 D)))<|(zDw 7 (Zg (r:=p.L x+p.bo)))<|zda 8 (xal (cs:= [_]) Zm D) ?_;rintro _ w ⟨g5,rfl,D⟩
  refine⟨⟨fun _=>D.pk [0,1,2,3,4,5,6,7],D.pk [0,1,2,3,4,5,6,7]⟩,?_⟩
  refine zde 9 (xsb 8 pl_3 D) ?_;clear D;rintro w D
  refine⟨⟨fun h=>absurd h (by decide),D.pk [0,1,2,3,4,5,6,7]⟩,?_⟩
  refine zdd<|zh<|htn<|hsq<|hrz ?_
  refine(zV (xlb 2 pl_22 D))<|(zV xmf)<|zlc (xc0 Vc) (ZmF (n:=s.n) (m:=(p.L x+p.bo)) (f:=s.L) w (D.c7 5 rfl) (D.gw 8 rfl rfl)) ?_;rintro _ w ⟨I,rfl,ab,W⟩
  replace D:=D.cmp W;clear W
  have ai:I= -1\/(0<=I/\I<s.n):=by rcases ab with⟨h2,_⟩|⟨h2,h3,_⟩<;>omega
  have a5:0<=I->(0<=s.L I/\s.L I<=p.b8+p.bo)/\0<=s.P I x/\s.P I x<=p.b8+p.bo:=fun h=>by have h9:=hrg I h Oa;exact⟨h9.1,h9.2 x x0 x1⟩
  refine(zP)<|zln<|zh<|htn<|hsq<|hsq<|hrz ?_
  refine(Om)<|zln<|zh<|htn ?_
  refine Xq ?_ ?_<;>intro hc
  ·
   refine hsq<|hrz ?_
   refine(zV (xlb 1 Zs D))<|(zV (xln Zi V))<|(zP)<|zln<|zh<|htn<|hsq ?_
   refine hdst [0,1,2,6,7,8] [0,2,6,7,8] 7 mx_ D ?_;clear D;intro w D
   refine zdl 0 (fun w D=>(xlb 1 Zs D)) ?_
   refine(zDw 1 (xfb 0 fd_32_0))<|(zDl 2 (fun w D=>(xlb 0 pl_22 D)))<|(zDw 3 (xln Zb h.L.cf))<|zda 4 (xmk Zb Zm D) ?_;rintro v1 w ⟨D,ah⟩
   refine⟨⟨fun _=>D.pk [0,1,2,6,7,8],D.pk [0,2,6,7,8]⟩,?_⟩
   refine zda 5 (xli (n:=1) (len:=1) (pv:= [(0,v1)]) (cs:= [v1]) (c:=(fun _=>v1)) Zi Z9 D (hf:=by obtain⟨_,_,_,_,rfl,_⟩:=ah;kernel_rfl)) ?_;rintro v2 w ⟨D,au⟩
   refine⟨⟨fun _=>D.pk [0,1,2,6,7,8],D.pk [0,2,6,7,8]⟩,?_⟩
   refine zda 6 (xap 3 (r:=s.n+1) Zi Z9 D (D.c7 10 rfl) (Xa _ _ _) (h1:=fun _ _ _=>ah.one)) ?_;rintro v3 w ⟨D,ae⟩
   replace D:=Sat.merge (l1:= [_,_,_,_]) (l2:= [_,_,_,_]) (l3:= [_]) D Oa
   have qG:=fun k (G:0<=k) (J:k<s.n+1)=>D.db 4 rfl G J
   refine⟨⟨fun _=>D.pk [0,1,2,6,7,8],D.pk [0,2,6,7,8]⟩,?_⟩
   refine zde 7 (xsb 1 Zs D (hv:=ae.one)) ?_;clear D;rintro w D
   refine⟨⟨fun h=>absurd h (by decide),D.pk [0,2,6,7,8]⟩,?_⟩
   refine zdd<|zh<|htn<|hrz ?_
   refine(zV (xlb 2 pl_22 D))<|(zV (xfb 2 fd_32_2))<|(zV (xlb 0 pl_3 D))<|(zV (xfb 3 fd_32_3))<|(zV (xlb 0 pl_3 D))<|(zV (Zg (r:=p.b8+p.bo)))<|zla (xli (n:=1) (len:=1) (pv:= [(0,.int Oh (p.b8+p.bo))]) (cs:= [.int Oh (p.b8+p.bo)]) (c:=ints (fun _=>p.b8+p.bo)) Zb Zm D) ?_;rintro v4 w ⟨D,ar⟩
   refine zla (xap 5 (r:=s.n+1) Zb Zm D (D.c7 10 rfl) (Ya _ _ _)) ?_;rintro v5 w ⟨D,ac⟩
   rw [R6] at D qG
   have ao:gsn s.P s.n (fun _=>0) s.n x=0:=by rw [Zq Oa]
   have a0:snoc s.L s.n (p.b8+p.bo) s.n=p.b8+p.bo:=Zk Oa
   refine zle (xsb 2 pl_22 D (hv:=ac.one)) ?_;clear D;rintro w D
   refine zln<|zh<|htn<|hsq<|hrz ?_
   refine(zV (xlb 1 Zs D))<|(zP)<|(zV (xix (kk:=s.n) Zi ae))<|(zV (xlr (u:=((gsn s.vv s.n v1) s.n)) pl_22 (D.c7 3 rfl)))<|(zP)<|(zV (xix (kk:=x) Zb (qG s.n Oa Oa)))<|(zV (xlr (u:= .int Oh ((gsn s.P s.n (fun _=>0)) s.n x)) pl_3 (show Row _ _ 1 p.m _ from(D.fq (k:=s.n) 4 rfl Oa Oa))))<|(zV (Zg (r:=((gsn s.P s.n (fun _=>0)) s.n x)+1)))<|(zV (xix (kk:=x) Zb (qG s.n Oa Oa)))<|zle (xsr 4 pl_3 D rfl) ?_;clear D;rintro w D
   refine zln<|zh<|htn ?_
   refine hdst [0,1,2,3,4,5,6,7,8,9,10] [0,1,2,3,4,6,7,8,9,10] 7 mx_ D ?_;clear D;intro w D
   refine(zDl 0 (fun w D=>(xlb 2 pl_22 D)))<|(zDw 1 xmv)<|(zDw 2 (xix (kk:=s.n) Zb ac))<|zdl 3 (fun w D=>(xlr (u:= .int Oh ((snoc s.L s.n (p.b8+p.bo)) s.n)) pl_3 (D.c7 5 rfl))) ?_
   refine(zDl 4 (fun w D=>(xlb 7 pl_3 D)))<|(zDw 5 (Zw (r:=((snoc s.L s.n (p.b8+p.bo)) s.n)-p.L x-p.bo)))<|(zDw 6 (xix (kk:=s.n) Zb ac))<|zde 7 (xso 5 pl_3 D (Zy _ _ _)) ?_;clear D;rintro w D
   refine⟨⟨fun h=>absurd h (by decide),D.pk [0,1,2,3,4,6,7,8,9,10]⟩,?_⟩
   refine zdd<|zh<|zbn<|Zch ⟨s.h++ [x],v3,s.n+1,gsn s.vv s.n v1,upd (gsn s.P s.n (fun _=>0)) s.n (upd ((gsn s.P s.n (fun _=>0)) s.n) x (((gsn s.P s.n (fun _=>0)) s.n x)+1)),v5,(upd (snoc s.L s.n (p.b8+p.bo)) s.n (((snoc s.L s.n (p.b8+p.bo)) s.n)-p.L x-p.bo))⟩ ⟨rfl,(by show plL _ _ _ _=Yt _ _ _ (s.h++ [x]);rw [WI,<-O.1];first|exact Zdi (sz:=szP p) aa x0 (ab.resolve_right (fun h=>Oa)).2 (by unfold szP;omega)|(have U:=ab.resolve_left (fun h=>Oa);exact ZfC (sz:=szP p) aa x0 U.1 U.2.1 U.2.2.1 U.2.2.2 (by unfold szP;omega))),ae,ac⟩ (D.pk [0,1,2,3,4,5,6,7])
  refine hsk<|htn<|hsq<|hrz ?_
  refine(zV (xlb 1 Zs D))<|(zP)<|(zV (xix (kk:=I) Zi V))<|(zV (xlr (u:=(s.vv I)) pl_22 (D.c7 3 rfl)))<|(zP)<|(zV (xix (kk:=x) Zb (Y I Oa Oa)))<|(zV (xlr (u:= .int Oh (s.P I x)) pl_3 (show Row _ _ 1 p.m _ from(D.fq (k:=I) 4 rfl Oa Oa))))<|(zV (Zg (r:=(s.P I x)+1)))<|(zV (xix (kk:=x) Zb (Y I Oa Oa)))<|zle (xsr 4 pl_3 D rfl) ?_;clear D;rintro w D
  refine zln<|zh<|htn ?_
  refine hdst [0,1,2,3,4,5,6,7,8] [0,1,2,3,4,6,7,8] 7 mx_ D ?_;clear D;intro w D
  refine(zDl 0 (fun w D=>(xlb 2 pl_22 D)))<|(zDw 1 xmv)<|(zDw 2 (xix (kk:=I) Zb ad))<|zdl 3 (fun w D=>(xlr (u:= .int Oh (s.L I)) pl_3 (D.c7 5 rfl))) ?_
  refine(zDl 4 (fun w D=>(xlb 7 pl_3 D)))<|(zDw 5 (Zw (r:=(s.L I)-p.L x-p.bo)))<|(zDw 6 (xix (kk:=I) Zb ad))<|zde 7 (xso 5 pl_3 D (Zy _ _ _)) ?_;clear D;rintro w D
  refine⟨⟨fun h=>absurd h (by decide),D.pk [0,1,2,3,4,6,7,8]⟩,?_⟩
  refine zdd<|zh<|zbn<|Zch ⟨s.h++ [x],s.vB,s.n,s.vv,upd s.P I (upd (s.P I) x ((s.P I x)+1)),s.vL,(upd s.L I ((s.L I)-p.L x-p.bo))⟩ ⟨rfl,(by show plL _ _ _ _=Yt _ _ _ (s.h++ [x]);rw [WI,<-O.1];first|exact Zdi (sz:=szP p) aa x0 (ab.resolve_right (fun h=>Oa)).2 (by unfold szP;omega)|(have U:=ab.resolve_left (fun h=>Oa);exact ZfC (sz:=szP p) aa x0 U.1 U.2.1 U.2.2.1 U.2.2.2 (by unfold szP;omega))),V,ad⟩ (D.pk [0,1,2,3,4,5,6,7])
 ·
  intro Dk s rest w qP D
  obtain⟨O,hh⟩:=qP
  have V:=O.2.1;have ad:=O.2.2
  obtain⟨aO,xV⟩:=Ua (d:=p.D) (i:=p.m) (c:=0) (fun k G J=>by have he:=F.all k G J;unfold Prob.each at he;omega) Oa Oa Oa (fun h=>Oa) (fun _=>rfl)
  rw [<-hh] at aO xV
  obtain⟨am,hrg⟩:=O.ia F aO Oa
  have aa:=V.n0
  have Y:=fun k (G:0<=k) (J:k<s.n)=>D.db 4 rfl G J
  refine zbn<|htn<|hsq<|hrz ?_
  refine(zP)<|zln<|zh<|htn<|hsq<|hsq<|hrz ?_
  refine(zV (xlb 1 Zs D))<|(zV (xln Zi V))<|(zP)<|zln<|zh<|htn<|hbk ?_
  replace D:=D.cg 2 107 (Zd (fun _=>Og) (fun _=>0))
  refine hlp (fun mm M w=>∃(Z:Int) (wv:Int->Value) (cC:Oe) (i:Int) (wC:Value),mm=((s.n-i).toNat)/\(0<=i)/\(i<=s.n)/\(Z=i)/\(∀k,0<=k->k<i->wv k=s.vv k)/\(∀k,0<=k->k<i->cC k=1)/\(Slh wC Z)/\M= [(2,Og),(8,wC),(60,s.vB),(61,.int Oh s.n),(62,.int Oh i)]/\Sat w0 w [.blk g1 [vL,vD,.int Oh p.b8,.int Oh p.bo],.blk g2 [s.vB],.blk g3 [s.vL],.own s.vB 1 22 s.n s.vv,.sem (Frame.rows 3 s.n s.vv (fun _=>p.m) s.P),.own s.vL 1 3 s.n (ints s.L),.blk g4 [vL,vD,.int Oh p.b8,.int Oh p.bo],.sem rest,.sem (Frame.obj Dk (.deferred (some []))),.own wC 2 107 Z (Zd wv cC)]) ⟨0,(fun _=>Og),(fun _=>0),0,Og,rfl,Oa,Oa,Oa,?_,?_,?_,rfl,D⟩ ?_
  ·
   intro k G J;omega
  ·
   intro k G J;omega
  ·
   exact slh_nil
  clear D w
  rintro mm M w ⟨Z,wv,cC,i,wC,rfl,h0,h1,ay,ag,aj,ap,rfl,D⟩
  refine hsq<|hrz ?_
  refine(zP)<|zln<|zh<|htn<|hsq ?_
  refine Xq ?_ ?_<;>intro hc
  ·
   refine hsk<|htn<|hsq<|hbk<|hsq<|hrz ?_
   refine(zV (xix (kk:=i) Zi V))<|(zV (xlr (u:=(s.vv i)) pl_22 (D.c7 3 rfl)))<|(zP)<|zln<|zh<|htn<|hrz ?_
   refine(Om)<|zlv (xany (v:= .agg #[(s.vv i),.int Oh 1]) (hr:=by have hz:=(Y i Oa Oa);revert hz;generalize (s.vv i)=z;rintro⟨_,_,_,_,rfl,_⟩;show _=_;kernel_rfl)) ?_
   refine zla (xli (n:=1) (len:=1) (pv:= [(0,.agg #[(s.vv i),.int Oh 1])]) (cs:= [(s.vv i),.int Oh 1]) (c:=Zd (fun _=>(s.vv i)) (fun _=>1)) Z4 YA D (hf:=by have hz:=(Y i Oa Oa);revert hz;generalize (s.vv i)=z;rintro⟨_,_,_,_,rfl,_⟩;show _=_;kernel_rfl)) ?_;rintro v6 w ⟨D,aq⟩
   refine zla (xap 9 (r:=Z+1) Z4 YA D (D.c7 10 rfl) (Ym _ _ _ _ _) (h1:=fun k _ _=>ZK (fun _=>(Y i Oa Oa).one) k)) ?_;rintro v7 w ⟨D,ak⟩
   refine(zP)<|zln<|zh<|zbn<|htn<|hrz ?_
   refine(zV (Zg (r:=i+1)))<|(zP)<|zln<|zh<|hlq ⟨Z+1,(gsn wv Z (s.vv i)),(snoc cC Z 1),i+1,v7,rfl,Oa,Oa,Oa,?_,?_,?_,rfl,D.pk [0,1,2,3,4,5,6,7,8,9]⟩
   ·
    intro k G J;by_cases e:k<Z
    · rw [Zp e];exact ag k G Oa
    · rw [Zq e,show k=i by omega]
   ·
    intro k G J;by_cases e:k<Z
    · rw [Zl e];exact aj k G Oa
    · rw [Zk e]
   ·
    exact ak
  refine hxt<|ztx<|ztx<|zbh<|htn<|hsq<|hrz ?_
  refine zlv xmv ?_
  have a3:i=s.n:=Oa
  have al:Z=s.n:=Oa
  subst al
  replace D:=D.gi 9 rfl (d:=Zd s.vv (fun _=>1)) (fun k G J=>by unfold Zd;rw [ag _ Oa Oa,aj _ Oa Oa])
  refine zlc (xc0 Zdx) (Zaw (u:=s.n) (pv:=s.vv) (ln:=(fun _=>p.m)) (pt:=s.P) (cnt:=(fun _=>1)) w (⟨(D.c7 9 rfl),fun k G J=>D.fq 4 rfl G J,fun k G J=>D.gb 4 rfl G J⟩:VAt _ wC s.n s.vv (fun _=>p.m) s.P (fun _=>1)) Oa (fun k G J=>Oa) (fun k G J=>Oa)) ?_;rintro xi w ⟨_,qo,qV,qI,qF,qB,rfl,qQ,xg,yY,xf,qW,W⟩
  replace D:=(D.comp W).n12;clear W
  have yf:=fun k (G:0<=k) (J:k<qo)=>D.db 11 rfl G J
  refine(zP)<|zln<|zh<|htn<|hrt<|Zci 8 D fun w D=>Oi ?_
  exact⟨_,_,_,_,_,_,rfl,(by rw [<-hh,<-O.1,Za7];exact qQ),xg,Oa,fun k G J=>by have:=xf k G J;omega,qW,D.pk [10,11]⟩
 ·
  intro Dk t rest w qP D
  exact qP.elim
theorem wsum_plL(f:List Int->Int){ln:Oe}{pt:Of}{cnt:Oe}:∀n:Nat,wsum f (plL (n:Int) ln pt cnt)=psum (fun k=>f (lst (ln k) (pt k))) cnt n
 |0=>rfl
 | n+1=>by
   rw [show((n+1:Nat):Int)=(n:Int)+1 by omega,XV Oa,WY,wsum_plL f n]
   simp only [wsum,psum];omega
theorem Zt(f:List Int->Int){n:Int}{ln:Oe}{pt:Of}{cnt:Oe}(n0:0<=n):wsum f (plL n ln pt cnt)=psum (fun k=>f (lst (ln k) (pt k))) cnt n.toNat:=by
 have:=wsum_plL f (ln:=ln) (pt:=pt) (cnt:=cnt) n.toNat
 rwa [Int.toNat_of_nonneg n0] at this
theorem sum_range(f:Nat->Int):∀n:Nat,((List.range (n+1)).map f).sum=((List.range n).map f).sum+f n:=fun n=>by
 rw [List.range_succ,List.map_append,List.sum_append];simp
theorem Ze4(sz:Oe)(f:Oe):∀n:Nat,WB sz (lst (n:Int) f)=psum sz f n:=fun n=>by
 have D:∀j:Nat,j<=n->((List.range j).map fun(k:Nat)=>(lst (n:Int) f).getD k 0*sz k).sum=psum sz f j:=by
   intro j
   induction j with
   |zero=>intro _;rfl
   | succ j ih=>
     intro F
     rw [sum_range,ih Oa,psum,List.getD_eq_getElem?_getD,lst_get,if_pos Oa,Int.mul_comm];rfl
 unfold WB
 rw [Xp,Int.toNat_natCast]
 exact D n (Nat.le_refl _)
theorem RG(sz:Oe)(f:Oe){n:Int}(n0:0<=n):WB sz (lst n f)=psum sz f n.toNat:=by
 have:=Ze4 sz f n.toNat
 rwa [Int.toNat_of_nonneg n0] at this
def FFitR(p:Prob)(l:Us)(e:Int):Prop:=ZeH p e/\(e=0->NormR (TL (Yt p.m (p.b8+p.bo) (szP p) (pcsTo p.D p.m 0))) l)/\(e≠0->l= [])
theorem Zgh:Zc Oj 122=true:=Ob
theorem Zgg:Zc Oj 123=true:=Ob
theorem ZmJ{vL vD:Value}{p:Prob}(w0:World)(h:PAt w0 vL vD p):
   Calls Oj 85 [.agg #[vL,vD,.int Oh p.b8,.int Oh p.bo]].toArray w0 fun e w=>∃v,e= .returned v/\∃r n pv ln pt cnt e,v= .tuple #[r,.int Oh e]/\FFitR p (plL n ln pt cnt) e/\(∀k,0<=k->k<n->1<=cnt k/\cnt k<=1000000)/\n<=1000/\Slh r n/\Sat w0 w [.own r 2 107 n (Zd pv cnt),.sem (Frame.rows 3 n pv ln pt)]:=by
 obtain⟨hm,Z,hd,hd1,hs,hk⟩:=h.Oo
 refine zenG Tryz.func85 Tryz.ntmps85 fun w D=> ?_
 refine zsr<|zla (xbx (cs:= [_,_,_,_]) D) ?_;rintro _ w ⟨g1,rfl,D⟩
 refine(Om)<|zx5<|(zV (xls 0 st_32 D))<|zlc (xc0 Zgh) (ZdK (p:=p) w (h.below D.below)) ?_;rintro _ w ⟨eG,rfl,G,F⟩
 replace D:=D.cmp F;clear F
 refine(zP)<|zlz<|(Om)<|zlt<|Ze ?_ ?_<;>intro hc
 ·
  refine zsr<|(On)<|zx14<|zf2 ⟨_,rfl,?_⟩
  exact⟨_,0,fun _=>undef,fun _=>0,fun _ _=>0,fun _=>0,_,rfl,⟨G,fun h=>Oa,fun _=>rfl⟩,fun k J I=>Oa,Oa,slh_nil,((D.sub (.cons _ .slnil)).cg 2 107 (Zd (fun _=>undef) (fun _=>0))).fa 3 (fun _=>undef) (fun _=>0) (fun _ _=>0)⟩
 refine ZM<|zlv (xls 0 st_32 D) ?_
 obtain⟨V,zl⟩:p.Ok/\psum (fun _=>1) p.D p.m.toNat<=1000:=by rcases G with⟨_,h9⟩|⟨_,_,h9⟩|⟨h8,h9,_⟩;omega;omega;exact⟨h8,h9⟩
 refine zlc (xc0 Zgg) (Re (p:=p) w (h.below D.below) V Oa) ?_;rintro xi w ⟨_,W,qV,qI,qF,qB,rfl,Y,xg,O,U,X,F⟩
 replace D:=(D.comp F).n3;clear F
 have yf:=fun k (J:0<=k) (I:k<W)=>D.db 2 rfl J I
 refine(Om)<|zx1<|zf2 ⟨_,rfl,?_⟩
 exact⟨_,_,_,_,_,_,0,rfl,⟨(show eG=0 by omega)▸G,fun _=>Y,fun h=>absurd rfl h⟩,U,O,X,D.pk [1,2]⟩
theorem Uw{vV:Value}{u:Int}{pv:Int->Value}{ln:Oe}{pt:Of}{cnt:Oe}(w0:World)(F:VAt w0 vV u pv ln pt cnt)(U:u<=1000000)(I:∀k,0<=k->k<u->0<=cnt k/\cnt k<=1000000000):
   Calls Oj 54 [vV].toArray w0 fun e w=>∃v,e= .returned v/\v= .int Oh (psum (fun _=>1) cnt u.toNat)/\Sat w0 w []:=by
 have hn:=F.row.cf.n0;have W:=F.row.cf.n1
 refine zenG Tryz.func54 Tryz.ntmps54 fun w D=> ?_
 refine zsr<|(zP)<|zlz<|(zP)<|zx5<|(zP)<|(zV (xln Z4 F.row.cf))<|(zP)<|zx6<|zlp (fun J M w=>∃(s:Int) (i:Int),J=((u-i).toNat)/\(0<=i)/\(i<=u)/\(s=psum (fun _=>1) cnt i.toNat)/\(0<=s/\s<=1000000000*i)/\M= [(2,.int Oh 0),(3,.int Oh s),(6,vV),(7,.int Oh u),(8,.int Oh i)]/\Sat w0 w []) ⟨0,0,rfl,Oa,Oa,?_,Oa,rfl,D⟩ ?_
 ·
  rfl
 clear D w
 rintro J M w ⟨s,i,rfl,O,h1,G,V,rfl,D⟩
 refine zsr<|(zP)<|zx7<|Ze ?_ ?_<;>intro hc
 ·
  refine zx3<|(zV (xix (kk:=2*i) Z4 F.row.cf))<|zlv (xlw (cs:= [(pv i),.int Oh (cnt i)]) ZQ (F.row.below D.below) (ZG (k:=2*i) (i:=i) pv cnt Oa)) ?_
  have X:=I i O Oa
  refine zla (xal (cs:= [_,_]) YA D) ?_;rintro _ w ⟨Y,rfl,D⟩
  refine zle (xsw 0 ZQ D (hd:=(Za (F.p i Oa Oa).cf.one (Za rfl Zh)))) ?_;clear D;rintro w D
  refine zlt<|zrg<|(zP)<|(zV (xfb 1 fd_107_1))<|(zV (xlb 0 pl_3 D))<|(zV (Zg (r:=s+(cnt i))))<|(zP)<|zx10<|(zV (Zg (r:=i+1)))<|(zP)<|zln<|zlq ⟨s+(cnt i),i+1,rfl,Oa,Oa,?_,Oa,rfl,D.nl⟩
  ·
   rw [YG _ _ O,<-G];omega
 refine zx8<|(Om)<|zx1<|Oi ?_
 obtain rfl:i=u:=Oa
 exact⟨congrArg (Value.int .i64) G,D⟩
variable {cnt ln:Oe} {pt:Of} {pv:Int->Value} {gp:Nat} {vD vV:Value}
theorem Zl5:Zc Oj 121=true:=Ob
theorem ZlJ:Zc Oj 154=true:=Ob
theorem ZlI:Zc Oj 156=true:=Ob
theorem Zdw:Zc Oj 84=true:=Ob
theorem ZmX{vL:Value}{p:Prob}{vB:Value}{m b:Int}{g:Oe}(w0:World)(I:(Ent.blk gp [vL,vD,.int Oh p.b8,.int Oh p.bo]).holds w0)(h:PAt w0 vL vD p)(J:Row w0 vB 1 m (ints g)):
   Calls Oj 154 [.agg #[vB,.int Oh b],Oq gp].toArray w0 fun e w=>∃v,e= .returned v/\v=B (¬(1<=b/\b<=1000/\FitsP p m g))/\Sat w0 w []:=by
 refine zenG Tryz.func154 Tryz.ntmps154 fun w D=> ?_
 refine zsr<|zla (xbx (cs:= [_,_]) D) ?_;rintro _ w ⟨O,rfl,D⟩
 refine(zP)<|zlz<|(zV (xfb 1 fd_107_1))<|(zV (xlb 0 pl_3 D))<|(Om)<|zlb 7 ?_ ?_<;>intro hc;rotate_left
 refine(zV (xfb 1 fd_107_1))<|(zV (xlb 0 pl_3 D))<|(On)<|zlb 12 ?_ ?_<;>intro hc;rotate_left
 refine(zV (xlfs st_32 I D))<|(zV (xfb 0 fd_107_0))<|(zV (xlb 0 pl_22 D))<|zlc (xc0 Zgb) (ZdH (p:=p) w (h.below D.below) (J.below D.below)) ?_;rintro _ w ⟨rfl,F⟩
 replace D:=D.cmp F;clear F
 refine(On)<|zx1<|Oi ?_
 exact⟨Zn ⟨fun h1 G=>h1 G.2.2,fun h1 G=>h1 ⟨by omega,Oa,G⟩⟩,D.nl⟩
 all_goals
  refine zOps ?_
  refine zx1<|Oi ?_
  exact⟨ZT (by rintro⟨h1,h2,h3⟩;first|omega|exact absurd h3 ‹_›),D.nl⟩
theorem Zi1{u:Int}{vL:Value}{p:Prob}(w0:World)(F:VAt w0 vV u pv ln pt cnt)(X:(Ent.blk gp [vL,vD,.int Oh p.b8,.int Oh p.bo]).holds w0)(h:PAt w0 vL vD p):
   Calls Oj 92 [vV,.func (.func 154) #[] #[Oq gp]].toArray w0 fun e w=>∃v,e= .returned v/\∃r:Int,v= .int Oh r/\((r= -1/\∀k,0<=k->k<u->¬(¬(1<=(cnt k)/\(cnt k)<=1000/\FitsP p (ln k) (pt k))))\/(0<=r/\r<u/\(¬(1<=(cnt r)/\(cnt r)<=1000/\FitsP p (ln r) (pt r)))/\∀k,0<=k->k<r->¬(¬(1<=(cnt k)/\(cnt k)<=1000/\FitsP p (ln k) (pt k)))))/\Sat w0 w []:=by
 have hn:=F.row.cf.n0;have W:=F.row.cf.n1
 refine zenG Tryz.func92 Tryz.ntmps92 fun w D=> ?_
 refine zsr<|(zP)<|zx5<|(zP)<|(zV (xln Z4 F.row.cf))<|(zP)<|zx6<|zlp (fun V M w=>∃(i:Int),V=((u-i).toNat)/\(0<=i)/\(i<=u)/\(∀k,0<=k->k<i->¬(¬(1<=(cnt k)/\(cnt k)<=1000/\FitsP p (ln k) (pt k))))/\M= [(0,vV),(1,.func (.func 154) #[] #[Oq gp]),(7,.int Oh u),(8,.int Oh i)]/\Sat w0 w []) ⟨0,rfl,Oa,Oa,?_,rfl,D⟩ ?_
 ·
  intro k U h1;omega
 clear D w
 rintro V M w ⟨i,rfl,U,h1,I,rfl,D⟩
 refine zsr<|(zP)<|zx7<|Ze ?_ ?_<;>intro hc
 ·
  refine zx3<|(Om)<|zlz<|(On)<|(zV (xix (kk:=2*i) Z4 F.row.cf))<|(zV (xlw (cs:= [(pv i),.int Oh (cnt i)]) ZQ (F.row.below D.below) (ZG (k:=2*i) (i:=i) pv cnt Oa)))<|zlc (xcc (vs:= [_]) ZlJ) (ZmX (p:=p) (m:=(ln i)) (g:=(pt i)) w (Sat.ig D X) (h.below D.below) ((F.p i Oa Oa).below D.below)) ?_;rintro _ w ⟨rfl,G⟩
  replace D:=D.cmp G;clear G
  refine zlt<|Ze ?_ ?_<;>intro hc
  ·
   refine zsr<|(Om)<|zx2<|Oi ?_
   exact⟨i,rfl,.inr ⟨by omega,Oa,‹¬(1<=(cnt i)/\(cnt i)<=1000/\FitsP p (ln i) (pt i))›,I⟩,D⟩
  refine zx4<|(zV (Zg (r:=i+1)))<|(zP)<|zln<|zlq ⟨i+1,rfl,Oa,Oa,?_,rfl,D⟩
  ·
   intro k O Y;rcases Int.lt_or_eq_of_le (show k<=i by omega) with J|J;exact I k O J;rw [J];assumption
 refine zx8<|(zP)<|zx1<|Oi ?_
 exact⟨-1,rfl,.inl ⟨rfl,fun k U h1=>I k U Oa⟩,D⟩
theorem Zi9{u:Int}{vL:Value}{p:Prob}(w0:World)(I:VAt w0 vV u pv ln pt cnt)(J:(Ent.blk gp [vL,vD,.int Oh p.b8,.int Oh p.bo]).holds w0)(h:PAt w0 vL vD p):
   Calls Oj 156 [vV,.func (.func 154) #[] #[Oq gp]].toArray w0 fun e w=>∃v,e= .returned v/\v=B (∃k,0<=k/\k<u/\¬(1<=(cnt k)/\(cnt k)<=1000/\FitsP p (ln k) (pt k)))/\Sat w0 w []:=by
 refine zenG Tryz.func156 Tryz.ntmps156 fun w D=> ?_
 refine zsr<|(zP)<|zlz<|(Om)<|zlc (xc0 ZfZ) (Zi1 (u:=u) (pv:=pv) (ln:=ln) (pt:=pt) (cnt:=cnt) (p:=p) w (I.below D.below) (Sat.ig D J) (h.below D.below)) ?_;rintro _ w ⟨W,rfl,G,F⟩
 replace D:=D.cmp F;clear F
 refine(Om)<|zx1<|Oi ?_
 exact⟨Zn (by
  rcases G with⟨h1,h2⟩|⟨h1,h2,h3,_⟩
  · exact⟨fun h=>Oa,fun⟨k,V,U,O⟩=>absurd O (h2 k V U)⟩
  · exact⟨fun _=>⟨_,h1,h2,h3⟩,fun _=>h1⟩),D⟩
def PlanOk(p:Prob)(u:Int)(ln:Oe)(pt:Of)(cnt:Oe):Prop:=p.Ok/\u<=1000/\∀k,0<=k->k<u->1<=cnt k/\cnt k<=1000/\FitsP p (ln k) (pt k)
def Zo(u:Int)(pt:Of)(cnt:Oe):Oe:=fun j=>psum (fun k=>pt k j) cnt u.toNat
theorem K9{p:Prob}{u:Int}:¬(∃k,0<=k/\k<u/\¬(1<=cnt k/\cnt k<=1000/\FitsP p (ln k) (pt k)))↔∀k,0<=k->k<u->1<=cnt k/\cnt k<=1000/\FitsP p (ln k) (pt k):=
 ⟨fun h k F D=>Oc fun hn=>h ⟨k,F,D,hn⟩,fun h ⟨k,F,D,hn⟩=>hn (h k F D)⟩
theorem YP{i j:Int}(D:0<=i):Zo (i+1) pt cnt j=Zo i pt cnt j+pt i j*cnt i:=YG _ _ D
theorem Xn{a b A B:Int}(I:0<=a)(G:a<=A)(D:0<=b)(F:b<=B):0<=a*b/\a*b<=A*B:=
 ⟨Int.mul_nonneg I D,Int.mul_le_mul G F D Oa⟩
theorem Yv{p:Prob}{u:Int}(h:∀k,0<=k->k<u->1<=cnt k/\cnt k<=1000/\FitsP p (ln k) (pt k)):∀{i:Int},0<=i->i<=u->∀{j:Int},0<=j->j<p.m->0<=Zo i pt cnt j/\Zo i pt cnt j<=2000000*i:=by
 intro i J
 obtain⟨n,rfl⟩:=Int.eq_ofNat_of_zero_le J
 induction n with
 |zero=>intro _ j _ _;exact⟨Int.le_refl _,by show(0:Int)<=_;omega⟩
 | succ n ih=>
   intro hi j D I
   have h1:=ih Oa Oa D I
   obtain⟨W,U,G⟩:=h n Oa Oa
   have F:=G.all j D (by have:=G.eq;omega)
   have V:=Xn F.1 F.2 (show 0<=cnt n by omega) U
   have O:=YP (pt:=pt) (cnt:=cnt) (i:=(n:Int)) (j:=j) Oa
   rw [show((n+1:Nat):Int)=(n:Int)+1 by omega,O];omega
theorem ZgP{u:Int}{vL:Value}{p:Prob}(w0:World)(G:VAt w0 vV u pv ln pt cnt)(h:PAt w0 vL vD p):
   Calls Oj 121 [.agg #[vL,vD,.int Oh p.b8,.int Oh p.bo],vV].toArray w0 fun e w=>∃v,e= .returned v/\v=B (PlanOk p u ln pt cnt)/\Sat w0 w []:=by
 obtain⟨W,O,hd,hd1,V,X⟩:=h.Oo
 have U:=G.row.cf.n0;have J:=G.row.cf.n1
 refine zenG Tryz.func121 Tryz.ntmps121 fun w D=> ?_
 refine zsr<|zla (xbx (cs:= [_,_,_,_]) D) ?_;rintro _ w ⟨Y,rfl,D⟩
 refine(zP)<|zlz<|(zV xmf)<|(zP)<|zlz<|(zV (xls 0 st_32 D))<|zlc (xc0 XZ) (Yn (p:=p) w (h.below D.below)) ?_;rintro _ w ⟨rfl,F⟩
 replace D:=D.cmp F;clear F
 refine(zP)<|zlb 9 ?_ ?_<;>intro hc
 ·
  refine(zP)<|(zV (xln Z4 G.row.cf))<|(On)<|zlb 14 ?_ ?_<;>intro hc
  ·
   refine(Om)<|zlc (xc0 ZlI) (Zi9 (u:=u) (pv:=pv) (ln:=ln) (pt:=pt) (cnt:=cnt) (p:=p) w (G.below D.below) (D.holds _ (List.mem_of_getElem? (i:=0) rfl)) (h.below D.below)) ?_;rintro _ w ⟨rfl,F⟩
   replace D:=D.cmp F;clear F
   refine(On)<|zx1<|Oi ?_
   exact⟨Zn ⟨fun I=>⟨by first|assumption|exact Oc ‹_›,Oa,K9.1 I⟩,fun I=>K9.2 I.2.2⟩,D.nl⟩
  iterate 4 refine zlo ?_
  refine(Om)<|zx1<|Oi ?_
  exact⟨false_B (by rintro⟨h1,h2,h3⟩;first|exact absurd h1 ‹_›|omega|exact absurd (K9.2 h3) ‹_›),D.nl⟩
 iterate 3 refine zlo ?_
 refine zs2 ?_
 iterate 4 refine zlo ?_
 refine(Om)<|zx1<|Oi ?_
 exact⟨false_B (by rintro⟨h1,h2,h3⟩;first|exact absurd h1 ‹_›|omega|exact absurd (K9.2 h3) ‹_›),D.nl⟩
theorem Tm{u:Int}{vL:Value}{p:Prob}(w0:World)(F:VAt w0 vV u pv ln pt cnt)(h:PAt w0 vL vD p):
   Calls Oj 84 [.agg #[vL,vD,.int Oh p.b8,.int Oh p.bo],vV].toArray w0 fun e w=>∃v,e= .returned v/\∃r n f e,v= .tuple #[r,.int Oh e]/\((¬PlanOk p u ln pt cnt/\n=0/\e=1)\/(PlanOk p u ln pt cnt/\n=p.m/\f=Zo u pt cnt/\e=0))/\Slh r n/\Sat w0 w [.own r 1 3 n (ints f)]:=by
 obtain⟨hm,aj,hd,hd1,hs,hk⟩:=h.Oo
 have hu:=F.row.cf.n0;have ae:=F.row.cf.n1
 refine zenG Tryz.func84 Tryz.ntmps84 fun w D=> ?_
 refine zsr<|zla (xbx (cs:= [_,_,_,_]) D) ?_;rintro _ w ⟨g1,rfl,D⟩
 refine(Om)<|zx5<|(zV (xls 0 st_32 D))<|(zP)<|zlc (xc0 Zl5) (ZgP (u:=u) (pv:=pv) (ln:=ln) (pt:=pt) (cnt:=cnt) (p:=p) w (F.below D.below) (h.below D.below)) ?_;rintro _ w ⟨rfl,Z⟩
 replace D:=D.cmp Z;clear Z
 refine(zP)<|zlt<|Ze ?_ ?_<;>intro hc
 ·
  refine zsr<|(Om)<|zx14<|zf2 ⟨_,rfl,?_⟩
  exact⟨_,0,fun _=>0,1,rfl,.inl ⟨‹¬PlanOk p u ln pt cnt›,rfl,rfl⟩,slh_nil,(D.sub (.cons _ .slnil)).cg 1 3 (ints fun _=>0)⟩
 refine ZM<|zlv (xfb 0 fd_32_0) ?_
 have U:PlanOk p u ln pt cnt:=by first|assumption|exact Oc ‹_›
 have yH:=U.1.m1;have qH:=U.1.m2;have ad:=U.2.1
 refine(zV (xlb 0 pl_22 D))<|(zV (xln Zb h.L.cf))<|zla (xmk Zb Zm D) ?_;rintro v1 w ⟨D,J⟩
 refine(zP)<|zx5<|(zP)<|(zV (xln Z4 F.row.cf))<|(zP)<|zx6<|zlp (fun W M w=>∃(f:Oe) (i:Int),W=((u-i).toNat)/\(0<=i)/\(i<=u)/\(∀k,0<=k->k<p.m->f k=Zo i pt cnt k)/\M= [(4,Og),(5,.int Oh 0),(6,v1),(19,vV),(20,.int Oh u),(21,.int Oh i)]/\Sat w0 w [.blk g1 [vL,vD,.int Oh p.b8,.int Oh p.bo],.own v1 1 3 p.m (ints f)]) ⟨(fun _=>0),0,rfl,Oa,Oa,?_,rfl,D⟩ ?_
 ·
  intro k _ _;rfl
 clear D w
 rintro W M w ⟨f,i,rfl,h0,h1,hf,rfl,D⟩
 refine zsr<|(zP)<|zx7<|Ze ?_ ?_<;>intro hc
 ·
  refine zx3<|(zV (xix (kk:=2*i) Z4 F.row.cf))<|zlv (xlw (cs:= [(pv i),.int Oh (cnt i)]) ZQ (F.row.below D.below) (ZG (k:=2*i) (i:=i) pv cnt Oa)) ?_
  obtain⟨ag,aa,X⟩:=U.2.2 i h0 Oa
  have af:=X.eq
  refine zla (xal (cs:= [_,_]) YA D) ?_;rintro _ w ⟨g2,rfl,D⟩
  refine zle (xsw 2 ZQ D (hd:=(Za (F.p i Oa Oa).cf.one (Za rfl Zh)))) ?_;clear D;rintro w D
  refine zlz<|(zV (xfb 0 fd_107_0))<|(zV (xlb 2 pl_22 D))<|(zV (xln Zb (F.p i Oa Oa).cf))<|(zP)<|zx6<|zlp (fun W M w=>∃(G:Oe) (j:Int),W=((ln i-j).toNat)/\(0<=j)/\(j<=ln i)/\(∀k,0<=k->k<p.m->G k=(if k<j then Zo (i+1) pt cnt k else Zo i pt cnt k))/\M= [(4,Og),(5,.int Oh 0),(6,v1),(8,Oq g2),(19,vV),(20,.int Oh u),(21,.int Oh i),(26,(pv i)),(27,.int Oh (ln i)),(28,.int Oh j)]/\Sat w0 w [.blk g1 [vL,vD,.int Oh p.b8,.int Oh p.bo],.own v1 1 3 p.m (ints G),.blk g2 [(pv i),.int Oh (cnt i)]]) ⟨f,0,rfl,Oa,Oa,?_,rfl,D⟩ ?_
  ·
   intro k I V;rw [if_neg Oa];exact hf k I V
  clear D w
  rintro W M w ⟨G,j,rfl,j0,j1,O,rfl,D⟩
  refine zsr<|(zP)<|zx7<|Ze ?_ ?_<;>intro hc
  ·
   refine zx3<|(zP)<|(zV (xix (kk:=j) Zb (F.p i Oa Oa).cf))<|zlv (xlr (u:= .int Oh ((pt i) j)) pl_3 ((F.p i Oa Oa).below D.below)) ?_
   have Y:=X.all j j0 Oa
   have ah:=Yv U.2.2 h0 Oa (j:=j) j0 Oa
   have ac:=O j j0 Oa
   rw [if_neg Oa] at ac
   have ai:=Xn Y.1 Y.2 (show 0<=cnt i by omega) aa
   refine(Om)<|zlt<|zdst [0,1,2] [0,2] 10 mx_ D ?_;clear D;intro w D
   refine(zDw 0 xmv)<|(zDw 1 xmv)<|(zDw 2 (xix (kk:=j) Zb J))<|zdl 3 (fun w D=>(xlr (u:= .int Oh (G j)) pl_3 (D.c7 1 rfl))) ?_
   refine(zDw 4 xmv)<|(zDw 5 (xfb 1 fd_107_1))<|(zDl 6 (fun w D=>(xlb 1 pl_3 D)))<|(zDw 7 (Z2 (r:=(((pt i) j)*(cnt i))) (e:=rfl)))<|(zDw 8 (Zg (r:=G j+(((pt i) j)*(cnt i)))))<|(zDw 9 (xix (kk:=j) Zb J))<|zde 10 (xso 1 pl_3 D (Zy _ _ _)) ?_;clear D;rintro w D
   refine⟨⟨fun h=>absurd h (by decide),D.pk [0,2]⟩,?_⟩
   refine zdd<|zbn<|ztn<|zrg ?_
   refine(zV (Zg (r:=j+1)))<|(zP)<|zln<|zlq ⟨(upd G j (G j+(((pt i) j)*(cnt i)))),j+1,rfl,Oa,Oa,?_,rfl,D⟩
   ·
    intro k I V;unfold upd;by_cases e:k=j
    · rw [if_pos e,if_pos Oa,e,YP h0];omega
    · rw [if_neg e,O k I V];by_cases e2:k<j
      · rw [if_pos e2,if_pos Oa]
      · rw [if_neg e2,if_neg Oa]
  refine zx21<|(zV (Zg (r:=i+1)))<|(zP)<|zln<|zlq ⟨G,i+1,rfl,Oa,Oa,?_,rfl,D.pk [0,1]⟩
  ·
   intro k I V;rw [O k I V,if_pos Oa]
 refine zx8<|(On)<|zx1<|zf2 ⟨_,rfl,?_⟩
 have ab:i=u:=Oa
 rw [ab] at hf
 replace D:=D.gi 1 rfl (d:=ints (Zo u pt cnt)) (fun k I V=>congrArg (Value.int .i64) (hf k I Oa))
 exact⟨_,_,_,0,rfl,.inr ⟨U,rfl,rfl,rfl⟩,J,D.pk [1]⟩
theorem Rc{u:Int}{vL:Value}{p:Prob}(w0:World)(hV:VAt w0 vV u pv ln pt cnt)(h:PAt w0 vL vD p):
   Calls Oj 53 [.agg #[vL,vD,.int Oh p.b8,.int Oh p.bo],vV].toArray w0 fun e w=>∃v,e= .returned v/\v=B (PlanOk p u ln pt cnt/\∀j,0<=j->j<p.m->p.D j<=Zo u pt cnt j)/\Sat w0 w []:=by
 obtain⟨hm,ab,hd,hd1,hs,U⟩:=h.Oo
 refine zenG Tryz.func53 Tryz.ntmps53 fun w D=> ?_
 refine zsr<|zla (xbx (cs:= [_,_,_,_]) D) ?_;rintro _ w ⟨F,rfl,D⟩
 refine(zP)<|zlz<|(zV (xls 0 st_32 D))<|(zP)<|zlc (xc0 Zdw) (Tm (u:=u) (pv:=pv) (ln:=ln) (pt:=pt) (cnt:=cnt) (p:=p) w (hV.below D.below) (h.below D.below)) ?_;rintro _ w ⟨Y,I,W,yg,rfl,V,O,J⟩
 replace D:=(D.comp J).n2;clear J
 refine zs3 ?_
 have aa:=O.n0;have kY:=O.n1
 have kX:I<=p.d:=by
   rcases V with⟨_,g2,_⟩|⟨F,g2,_,_⟩
   · omega
   · have:=F.1.d;omega
 refine(Om)<|zx5<|(zP)<|(zV (xln Zb O))<|(zP)<|zx6<|zlp (fun mm M w=>∃(i:Int),mm=((I-i).toNat)/\(0<=i)/\(i<=I)/\(∀k,0<=k->k<i->p.D k<=W k)/\M= [(2,Oq F),(6,.int Oh yg),(15,Y),(16,.int Oh I),(17,.int Oh i)]/\Sat w0 w [.blk F [vL,vD,.int Oh p.b8,.int Oh p.bo],.own Y 1 3 I (ints W)]) ⟨0,rfl,Oa,Oa,?_,rfl,D⟩ ?_
 ·
  intro k h0 h1;omega
 clear D w
 rintro mm M w ⟨i,rfl,h0,h1,Z,rfl,D⟩
 refine zsr<|(zP)<|zx7<|Ze ?_ ?_<;>intro hc
 ·
  refine zx3<|(zP)<|(zV (xix (kk:=i) Zb O))<|(zV (xlr (u:= .int Oh (W i)) pl_3 (D.c7 1 rfl)))<|(Om)<|zlz<|(zP)<|(zV (xfb 1 fd_32_1))<|(zV (xlb 0 pl_22 D))<|(zP)<|(zV (xix (kk:=i) Zb h.D.cf))<|zlv (xlr (u:= .int Oh (p.D i)) pl_3 (h.D.below D.below)) ?_
  have ac:=h.iD i
  refine(zP)<|zlt<|Ze ?_ ?_<;>intro hc
  ·
   refine zsr<|(zP)<|zx2<|Oi ?_
   refine⟨false_B ?_,D.nl⟩
   rcases V with⟨F,g2,g3⟩|⟨F,g2,g3,g4⟩
   · exact fun G=>F G.1
   · intro G;subst g3;have h9:=G.2 i h0 Oa;omega
  refine zx4<|(zV (Zg (r:=i+1)))<|(zP)<|zln<|zlq ⟨i+1,rfl,Oa,Oa,?_,rfl,D⟩
  ·
   intro k X ad;rcases Int.lt_or_eq_of_le (show k<=i by omega) with U|U;exact Z k X U;rw [U];omega
 refine zx8<|(On)<|zx1<|Oi ?_
 refine⟨Zn ?_,D.nl⟩
 rcases V with⟨F,g2,g3⟩|⟨F,g2,g3,g4⟩
 · exact⟨fun G=>Oa,fun G=>absurd G.1 F⟩
 · exact⟨fun _=>⟨F,fun j j0 j1=>by have:=Z j j0 Oa;rw [g3] at this;exact this⟩,fun _=>Oa⟩
end Go.Proofs.YtkichmnjjblodaaGreat
namespace Go.Proofs.Gw
open Go Go.RowKit
section
variable {P:Program} {l rest:List Oper} {Q Q':Exit->Act->World->Prop} {w w' w0:World} {o:Oper} {n d fuel i:Nat} {L M:List (Nat×Value)} {x y:Code} {c:Operand} {e:Exit} {p:Prop} {r:Option Nat} {ds:List Deferred} {listed:Array Bool} {K:Act->World->Prop}
def Hd(P:Program)(r:Option Nat)(n:Nat)(l:List Oper)(Q:Exit->Act->World->Prop)(fuel:Nat)(listed:Array Bool)(ds:List Deferred)(L:List (Nat×Value))(w:World):Prop:=∀a,Frd a n ds L->wpAnyIn (FZ r) 0 P .any l.toArray Q fuel listed a w
def Ho(P:Program)(r:Option Nat)(n:Nat)(l:List Oper)(Q:Exit->Act->World->Prop)(o:Oper)(K:Act->World->Prop)(ds:List Deferred)(L:List (Nat×Value))(w:World):Prop:=∀a,Frd a n ds L->if Region.wanted o (yielded l.toArray a.tmps)=true then o.wpIn (FZ r) 0 P a w K Q else(∀f,o.about P w a.eval=some f->(FZ r).fn f)/\K (a.put o.dst undef) w
theorem Ho.op{i:Nat}(h:Ho P r n l Q o K ds L w)(D:l[i]? =some o){a:Act}(F:Frd a n ds L):wpOpIn (FZ r) 0 P l.toArray Q i K a w:=by
 unfold wpOpIn
 rw [show l.toArray[i]? =some o by simpa using D]
 exact h a F
theorem hdr{id:Nat}{m:List Ent}(fuel:Nat)(D:P.follows .mixedOrders=true)(F:Sat w0 w m)(K:∀w,Sat w0 w m->Hd P r n l Q fuel (Array.replicate fuel false) ds L w)(hn:l.length=fuel:=by exact rfl):Hc P r n Q (.region id l.toArray true) ds L w:=fun a G=>by
 subst hn
 exact wpIn_region_any D (by have:=K _ F.draw a G;simpa using this)
theorem hd0(h:He n Q .normal ds L w)(hr:Region.ready .any l.toArray listed= []:=by kernel_rfl):Hd P r n l Q fuel listed ds L w:=fun a D=>wpAnyIn_done hr (h a D) _
theorem hd1(i:Nat){o:Oper}(h:Ho P r n l Q o (wpAnyIn (FZ r) 0 P .any l.toArray Q fuel (listed.setIfInBounds i true)) ds L w)(hr:Region.ready .any l.toArray listed= [i]:=by kernel_rfl)(D:l[i]? =some o:=by exact rfl):Hd P r n l Q (fuel+1) listed ds L w:=fun a G=>
 wpAnyIn_all hr (by simp) fun j F=>by
   obtain rfl:j=i:=by simpa using F
   exact h.op D G
theorem hd2(i j:Nat){o o':Oper}(hi:Ho P r n l Q o (wpAnyIn (FZ r) 0 P .any l.toArray Q fuel (listed.setIfInBounds i true)) ds L w)(J:Ho P r n l Q o' (wpAnyIn (FZ r) 0 P .any l.toArray Q fuel (listed.setIfInBounds j true)) ds L w)(hr:Region.ready .any l.toArray listed= [i,j]:=by kernel_rfl)(I:l[i]? =some o:=by exact rfl)(D:l[j]? =some o':=by exact rfl):Hd P r n l Q (fuel+1) listed ds L w:=fun a G=>
 wpAnyIn_all hr (by simp) fun k F=>by
   rcases List.mem_cons.1 F with rfl|F
   · exact hi.op I G
   · obtain rfl:k=j:=by simpa using F
     exact J.op D G
theorem hov{v:Value}(hr:Runs P L w o (.value v) w')(K:Hd P r n l Q fuel listed ds ((d,v)::L) w')(G:gdB l L o=some true:=by exact rfl)(hd:o.dst=some d:=by exact rfl)(D:Nat.blt d n=true:=by exact rfl)(hn:ndf o=true:=by exact rfl):Ho P r n l Q o (wpAnyIn (FZ r) 0 P .any l.toArray Q fuel listed) ds L w:=fun a F=>by
 rw [if_pos (U1 F G)]
 refine⟨fun _ _=>trivial,?_⟩
 rw [WF hn,hr _ F.iu,Oper.uponIn_value,hd]
 exact K _ (F.put (by simpa [Nat.blt_eq] using D) v)
theorem hof(K:Hd P r n l Q fuel listed ds ((d,undef)::L) w)(G:gdB l L o=some false:=by exact rfl)(hd:o.dst=some d:=by exact rfl)(D:Nat.blt d n=true:=by exact rfl):Ho P r n l Q o (wpAnyIn (FZ r) 0 P .any l.toArray Q fuel listed) ds L w:=fun a F=>by
 rw [if_neg (by rw [U1 F G];simp)]
 refine⟨fun _ _=>trivial,?_⟩
 rw [hd]
 exact K _ (F.put (by simpa [Nat.blt_eq] using D) undef)
theorem hoc{f:FuncId}{args:Array Value}{R:Value->World->Prop}(hr:Runs P L w o (.enter f args) w)(hc:Calls P f args w fun e w'=>∃v,e= .returned v/\R v w')(K:∀v w',R v w'->Hd P r n l Q fuel listed ds ((d,v)::L) w')
   (G:gdB l L o=some true:=by exact rfl) (hd:o.dst=some d:=by exact rfl) (D:Nat.blt d n=true:=by exact rfl) (hn:ndf o=true:=by exact rfl):Ho P r n l Q o (wpAnyIn (FZ r) 0 P .any l.toArray Q fuel listed) ds L w:=fun a F=>by
 rw [if_pos (U1 F G)]
 refine⟨fun _ _=>trivial,?_⟩
 rw [WF hn,hr _ F.iu,Oper.uponIn_enter]
 refine⟨fun h=>(by cases h),Vi (hc.mono fun e w' ⟨v,he,hR⟩=> ?_)⟩
 subst he
 rw [hd]
 exact K v w' hR _ (F.put (by simpa [Nat.blt_eq] using D) v)
theorem hoy{I:Nat}{V:Array Operand}{ts:Array TypeId}{vs:List Value}{z:Operand}{R:Value->World->Prop}(hY:Yld P I vs w R)(K:∀v w',R v w'->Hd P r n l Q fuel listed ds ((d,v)::L) w')
   (F:o.op= .call {callee:= .value z,args:=V,argTypes:=ts}:=by exact rfl) (X:evL L z=some (.func (.yield I) #[] #[]):=by exact rfl) (Z:UU L V vs:=by repeat' first|exact ZbI|apply Wu rfl)
   (Y:gdB l L o=some true:=by exact rfl) (hd:o.dst=some d:=by exact rfl) (J:Nat.blt d n=true:=by exact rfl):Ho P r n l Q o (wpAnyIn (FZ r) 0 P .any l.toArray Q fuel listed) ds L w:=fun a U=>by
 obtain⟨fn,tmps,D,G,W,O⟩:=hY
 have hr:=xyl (P:=P) (L:=L) (o:=o) W F X Z
 rw [if_pos (U1 U Y)]
 refine⟨fun _ _=>trivial,?_⟩
 rw [WF (by unfold ndf;rw [F]),hr _ U.iu,Oper.uponIn_round]
 refine⟨fun h=>(by cases h),(show RoundIn (FZ r) (0-1) P I fn tmps D G w fun e w'=>∃v,e= .returned v/\R v w' from O).mono fun e w' ⟨v,he,O⟩=> ?_⟩
 subst he
 rw [hd]
 exact K v w' O _ (U.put (by simpa [Nat.blt_eq] using J) v)
theorem Znl{f:FuncId}{fn:Func}{vs:List Value}{R:Ending->World->Prop}(hf:P.funcs[f]? =some fn)(hn:fn.ntmps=n)(K:Hc P none n (bodyPostM (FZ none) 0 P fn R) x [] (num 0 vs) w)(F:fn.body=some x:=by exact rfl)(hv:Nat.ble vs.length n=true:=by exact rfl):Calls P f vs.toArray w R:=
 Kx (r:=none) (n:=0) (callsIn_of_wp_marks hf F trivial (by
   rw [hn]
   exact K _ ((Fr.enter (vs:=vs.toArray) (by simpa using Nat.le_of_ble_eq_true hv) fun t v D=>by have:=(Zaa vs 0 t v D).2;simpa using this))))
theorem Znk{fn:Func}{R:Ending->World->Prop}{E:List Ent}{D:Nat}(i:Nat)(G:Sat w0 w E)(K:∀w',Sat w0 w' (E.set i (dfE D false))->Ge n [] (bodyPost P fn R) .normal L w')(hi:E[i]? =some (dfE D true):=by exact rfl):He n (bodyPostM (FZ none) 0 P fn R) .normal [mrk D] L w:=fun a F=>Zci i G (fun w' h a F=>K w' h a F) hi a F
end
end Go.Proofs.Gw
namespace Go.Proofs.Gw
open Go Go.RowKit
section
variable {P:Program} {Q:Exit->Act->World->Prop} {w w' w0:World} {n:Nat} {L:List (Nat×Value)} {ds:List Deferred}
def ItG {St X Tt:Type} (P:Program) (w0:World) (gf:FuncId) (lb:List Value) (Sh:List Ent) (enc:X->List Value) (Gx:X->List Ent) (Pre:St->X->Frame->Prop) (Nx:St->X->St->Prop) (Sx:St->X->Tt->Prop) (s0:St) (Fin:St->Frame->Prop) (FinX:Tt->Frame->Prop):Prop:=
  ∀ (l:Nat) (C:St->Frame) (D:Tt->Frame) (w:World),Sat w0 w (.sem (C s0)::Sh)->
    (∀s x rest w,Pre s x rest->Sat w0 w (.sem (C s)::(Sh++(Gx x++ [.sem rest])))->Yld P l (enc x) w fun v w'=>
      (v= .bool true/\∃s',Nx s x s'/\Sat w0 w' (.sem (C s')::(Sh++ [.sem rest])))\/(v= .bool false/\∃t,Sx s x t/\Sat w0 w' (.sem (D t)::(Sh++ [.sem rest]))))->
    Calls P gf (.func (.yield l) #[] #[]::lb).toArray w fun e w'=>∃v,e= .returned v/\
      ((∃s rest,Fin s rest/\Sat w0 w' (.sem (C s)::(Sh++ [.sem rest])))\/(∃t rest,FinX t rest/\Sat w0 w' (.sem (D t)::(Sh++ [.sem rest]))))
theorem Znj {St X Tt:Type} {gf:FuncId} {lb:List Value} {g:Operand} {ps:Array Tmp} {assign body:Code} {O:List Ent} {enc:X->List Value} {Gx:X->List Ent} {ae:St->X->Frame->Prop} {Nx:St->X->St->Prop} {Sx:St->X->Tt->Prop} {aj:St->Frame->Prop} {aa:Tt->Frame->Prop}
   (C:St->List Ent) (D:Tt->List Ent) (jc:Tt->Code) (s0:St) (J:X->List (Nat×Value)->List Ent->Prop) (ap:ItG P w0 gf lb O enc Gx ae Nx Sx s0 aj aa) (hS:Sat w0 w (C s0++O)) (Y:Zc P gf=true)
   (al:∀x,(enc x).length=ps.size) (ao:∀t,jc t= .ret\/∃id,jc t= .exit id)
   (z8:∀l s x rest w,ae s x rest->∀I,(∀w,I.holds w->rest.holds w)->Sat w0 w (C s++(O++(.sem I::Gx x)))->Hc P (some l) n (Exit.then (fun a w'=>∃M V,J x M V/\Frd a n [] M/\Sat w0 w' (C s++(O++(.sem I::V)))) (fun _ _ _=>False)) assign [] (KC ps.toList (enc x) L) w)
   (cN:∀l s x M V rest w,ae s x rest->J x M V->∀I,(∀w,I.holds w->rest.holds w)->Sat w0 w (C s++(O++(.sem I::V)))->Hc P (some l) n (rdQ w0 C D jc O (Nx s x) (Sx s x) I) body [] M w)
   (cI:∀Dk s rest w',aj s rest->Sat w0 w' (C s++(O++ [.sem rest,dfE Dk true]))->He n Q .normal (mrk Dk::ds) L w')
   (cj:∀Dk t rest w',aa t rest->Sat w0 w' (D t++(O++ [.sem rest,dfE Dk true]))->He n Q (ZfG (jc t)) (mrk Dk::ds) L w')
   (hg:evL L g=some (.func (.func gf) #[] lb.toArray):=by exact rfl) (am:(ps.toList.all fun t=>Nat.blt t n)=true:=by exact rfl):Hc P none n Q (.rangeFunc g ps assign body) ds L w:=by
 intro a hF
 refine wpIn_rangeFunc ?_
 intro fn a4
 obtain⟨F,xP⟩:∃F:LoopState->Option Code->Loop,F=fun Z pe=>{state:=Z,pending:=pe,fn,tmps:=a.tmps,params:=ps,assign,body,defers:=w.heap.size}:=⟨_,rfl⟩
 obtain⟨W1,ag⟩:∃W1,(w.alloc (.deferred (some []))).alloc (.loop (F .ready none))=W1:=⟨_,rfl⟩
 obtain⟨l,hl⟩:∃l,w.heap.size+1=l:=⟨_,rfl⟩
 obtain⟨Dk,ac⟩:∃Dk,w.heap.size=Dk:=⟨_,rfl⟩
 have ay:Sat w0 W1 ((C s0++O)++ [dfE Dk true]++ [.sem (Frame.obj l (.loop (F .ready none)))]):=by
   rw [<-ag]
   refine(hS.alloc _ (e:=dfE Dk true) ?_ ?_).alloc _ (e:= .sem (Frame.obj l (.loop (F .ready none)))) ?_ ?_
   · rw [<-ac];exact heap_alloc_new w _
   · intro g hg;rw [<-ac] at hg;exact hg
   · have:=heap_alloc_new (w.alloc (.deferred (some []))) (.loop (F .ready none))
     rw [World.size_alloc,hl] at this;exact this
   · intro g hg;rw [World.size_alloc,hl];exact hg
 have ai:a.eval g= .func (.func gf) #[] lb.toArray:=hF.iu _ _ hg
 have eo:∃U,P.funcs[gf]? =some U/\U.body.isSome=true/\(U.name== "runtime.NumGoroutine")=false:=by
   unfold Zc at Y
   cases hf:P.funcs[gf]? with
   |none=>simp [hf] at Y
   | some U=>
     simp only [hf,Bool.and_eq_true,Bool.not_eq_true'] at Y
     exact⟨U,rfl,Y.1,Y.2⟩
 obtain⟨U,au,af,ar⟩:=eo
 have ew:U.body≠none:=by intro e;rw [e] at af;simp at af
 have ev:U.name≠ "runtime.NumGoroutine" :=by simpa using ar
 let C':St->Frame:=fun s=>Frame.gm (C s++ [.sem (Frame.obj l (.loop (F .ready none))),dfE Dk true])
 let D':Tt->Frame:=fun t=>Frame.gm (D t++ [.sem (Frame.obj l (.loop (F .done (some (jc t))))),dfE Dk true])
 have ax:Sat w0 W1 (.sem (C' s0)::O):=by
   have h1:Sat w0 W1 (O++(C s0++ [.sem (Frame.obj l (.loop (F .ready none))),dfE Dk true])):=ay.perm (Yr fun f=>by simp only [List.map_append,List.map_cons,List.map_nil,List.sum_append,List.sum_cons,List.sum_nil];omega)
   have h2:=h1.gg
   exact h2.perm List.perm_append_comm
 refine⟨l, [mrk Dk],W1,{target:= .fn (.func gf) lb.toArray,args:= #[.func (.yield l) #[] #[]]},W1,gf, #[.func (.yield l) #[] #[]]++lb.toArray,W1,?_,?_,?_,?_,fun h=>(by cases h),?_⟩
 · rw [<-ag,xP,<-hl,<-ac];exact run_enterLoop_outer _ _ _ _ _
 · simp only [resolve,ai]
   simp [go_sem]
 · intro f' a5;trivial
 · simp [invoke,go_sem,callFunc,au,ew,ev]
 have ad:(#[.func (.yield l) #[] #[]]++lb.toArray:Array Value)=(.func (.yield l) #[] #[]::lb).toArray:=by simp
 rw [ad]
 refine Vi ((ap l C' D' W1 ax ?_).mono ?_)
 ·
   intro s x rest W qE aw
   have h1:Sat w0 W (C s++(O++(Gx x++ [.sem rest,.sem (Frame.obj l (.loop (F .ready none))),dfE Dk true]))):=by
     have:=Sat.il (l1:= []) aw
     exact this.perm (Yr fun f=>by simp only [List.map_append,List.map_cons,List.map_nil,List.sum_append,List.sum_cons,List.sum_nil];omega)
   have ab:W.heap[l]? =some (.loop (F .ready none)):=h1.holds (.sem (Frame.obj l (.loop (F .ready none)))) (by simp)
   have hy:=run_yield (P:=P) (args:=(enc x).toArray) ab (by rw [xP];simp [al x])
   rw [xP] at hy
   refine⟨fn,_,assign,body,hy,roundIn_of_wpIn trivial ?_⟩
   clear hy
   let r1:Frame:=Frame.gm [.sem rest,.sem (Frame.obj l (.loop (F .ready none))),dfE Dk true]
   have h2:Sat w0 W (C s++(O++(.sem r1::Gx x))):=by
     have a2:Sat w0 W ((C s++(O++Gx x))++ [.sem r1]):=by
       have a0:Sat w0 W ((C s++(O++Gx x))++ [.sem rest,.sem (Frame.obj l (.loop (F .ready none))),dfE Dk true]):=by
         rw [List.append_assoc,List.append_assoc];exact h1
       exact a0.gg
     exact a2.perm (Yr fun f=>by simp only [List.map_append,List.map_cons,List.map_nil,List.sum_append,List.sum_cons,List.sum_nil];omega)
   have aq:Frd {tmps:=(ps.zip (enc x).toArray).foldl (fun t (p,v)=>t.setIfInBounds p v) a.tmps,defers:= []} n [] (KC ps.toList (enc x) L):=by
     have:=KB (a:=a) (n:=n) ps.toList (enc x) a.tmps (L:=L) ⟨hF.size,rfl,hF.get⟩ am
     have e:(ps.zip (enc x).toArray).foldl (fun t (p,v)=>t.setIfInBounds p v) a.tmps=(ps.toList.zip (enc x)).foldl (fun t (p:Nat×Value)=>t.setIfInBounds p.1 p.2) a.tmps:=by
       rw [<-Array.foldl_toList,Array.toList_zip]
     rw [e];exact this
   refine Go.wpIn_mono (z8 l s x rest W qE r1 (fun w h=>h.1 (.sem rest) (by simp)) h2 _ aq) ?_
   intro e a1 Wa hp
   cases e<;>try exact hp.elim
   obtain⟨M,V,hJ,az,av⟩:=hp
   have h3:Sat w0 Wa ((C s++(O++([.sem rest]++V))++ [dfE Dk true])++ .sem (Frame.obj l (.loop (F .ready none))):: []):=by
     have:=Sat.il (l1:=C s++O) (l3:=V) (by rw [List.append_assoc];exact av)
     exact this.perm (Yr fun f=>by simp only [List.map_append,List.map_cons,List.map_nil,List.sum_append,List.sum_cons,List.sum_nil];omega)
   have ab:Wa.heap[l]? =some (.loop (F .ready none)):=h3.get
   refine⟨_,run_beginRound ab (by rw [xP]),?_⟩
   have h4:=h3.putObj (o':= .loop {F .ready none with state:= .busy})
   let r2:Frame:=Frame.gm [.sem rest,.sem (Frame.obj l (.loop {F .ready none with state:= .busy})),dfE Dk true]
   have h5:Sat w0 (Wa.putObj l (.loop {F .ready none with state:= .busy})) (C s++(O++(.sem r2::V))):=by
     have h:Sat w0 (Wa.putObj l (.loop {F .ready none with state:= .busy})) ((C s++(O++V))++ [.sem rest,.sem (Frame.obj l (.loop {F .ready none with state:= .busy})),dfE Dk true]):=by
       exact h4.perm (Yr fun f=>by simp only [List.map_append,List.map_cons,List.map_nil,List.sum_append,List.sum_cons,List.sum_nil];omega)
     have hb:Sat w0 (Wa.putObj l (.loop {F .ready none with state:= .busy})) ((C s++(O++V))++ [.sem r2]):=h.gg
     exact hb.perm (Yr fun f=>by simp only [List.map_append,List.map_cons,List.map_nil,List.sum_append,List.sum_cons,List.sum_nil];omega)
   refine Go.wpIn_mono (cN l s x M V rest _ qE hJ r2 (fun w h=>h.1 (.sem rest) (by simp)) h5 _ az) ?_
   have fin:∀(G:Option Code) (A:List Ent) (W3:World),Sat w0 W3 (A++(O++ [.sem r2]))->
       (Instr.endRound l G).run P W3= .ok (.bool G.isNone) (W3.putObj l (.loop (F (if G.isNone then .ready else .done) G)))/\
       Sat w0 (W3.putObj l (.loop (F (if G.isNone then .ready else .done) G))) (.sem (Frame.gm (A++ [.sem (Frame.obj l (.loop (F (if G.isNone then .ready else .done) G))),dfE Dk true]))::(O++ [.sem rest])):=fun G A W3 hA=>by
     have h6:Sat w0 W3 ((O++ [.sem rest]++(A++ [dfE Dk true]))++ .sem (Frame.obj l (.loop {F .ready none with state:= .busy})):: []):=by
       have:=Sat.il (l1:=A++O) (l3:= []) (by rw [List.append_assoc];exact hA)
       exact this.perm (Yr fun f=>by simp only [List.map_append,List.map_cons,List.map_nil,List.sum_append,List.sum_cons,List.sum_nil];omega)
     have an:W3.heap[l]? =some (.loop {F .ready none with state:= .busy}):=h6.get
     have hr:=run_endRound (P:=P) G an
     have h7:=h6.putObj (o':= .loop (F (if G.isNone then .ready else .done) G))
     refine⟨by rw [xP] at hr⊢;exact hr,?_⟩
     have h8:Sat w0 (W3.putObj l (.loop (F (if G.isNone then .ready else .done) G))) ((O++ [.sem rest])++(A++ [.sem (Frame.obj l (.loop (F (if G.isNone then .ready else .done) G))),dfE Dk true])):=by
       exact h7.perm (Yr fun f=>by simp only [List.map_append,List.map_cons,List.map_nil,List.sum_append,List.sum_cons,List.sum_nil];omega)
     exact h8.gg.perm List.perm_append_comm
   intro e a3 W3 hp
   cases e with
   | normal=>
     obtain⟨s',hn,hA⟩:=hp
     obtain⟨hr,h6⟩:=fin none _ _ hA
     exact⟨_,_,hr,_,rfl,.inl ⟨rfl,s',hn,h6⟩⟩
   | ret=>
     obtain⟨t,hn,hj,hA⟩:=hp
     obtain⟨hr,h6⟩:=fin (some .ret) _ _ hA
     refine⟨_,_,hr,_,rfl,.inr ⟨rfl,t,hn,?_⟩⟩
     simp only [D',hj];exact h6
   | exit id=>
     obtain⟨t,hn,hj,hA⟩:=hp
     obtain⟨hr,h6⟩:=fin (some (.exit id)) _ _ hA
     refine⟨_,_,hr,_,rfl,.inr ⟨rfl,t,hn,?_⟩⟩
     simp only [D',hj];exact h6
   |goto t=>exact hp.elim
   |panic ch=>exact hp.elim
   |outgrown=>exact hp.elim
 ·
   have out:∀(Z:LoopState) (pe:Option Code) (A:List Ent) (rest:Frame) (W2:World),Z≠ .busy->Sat w0 W2 (.sem (Frame.gm (A++ [.sem (Frame.obj l (.loop (F Z pe))),dfE Dk true]))::(O++ [.sem rest]))->
       (Instr.endLoop l).run P W2= .ok pe (W2.putObj l (.loop {F Z pe with state:= .exhausted}))/\Sat w0 (W2.putObj l (.loop {F Z pe with state:= .exhausted})) (A++(O++ [.sem rest,dfE Dk true])):=fun Z pe A rest W2 ak h=>by
     have h1:=Sat.il (l1:= []) h
     have h2:Sat w0 W2 ((A++(O++ [.sem rest,dfE Dk true]))++ .sem (Frame.obj l (.loop (F Z pe))):: []):=by
       exact h1.perm (Yr fun f=>by simp only [List.map_append,List.map_cons,List.map_nil,List.sum_append,List.sum_cons,List.sum_nil];omega)
     have hl:W2.heap[l]? =some (.loop (F Z pe)):=h2.get
     have h3:=h2.putObj (o':= .loop {F Z pe with state:= .exhausted})
     refine⟨?_,h3.sub (List.sublist_append_left _ _)⟩
     have:=run_endLoop (P:=P) hl (by rw [xP];exact ak)
     rw [xP] at this⊢;exact this
   rintro e W2 ⟨v,rfl,h⟩
   have ah:∀{L'},Frd a n ds L'->Frd {a with defers:= [mrk Dk]++a.defers} n (mrk Dk::ds) L':=fun h=>⟨h.size,by rw [<-h.defers];rfl,h.get⟩
   rcases h with⟨s,rest,qP,h⟩|⟨t,rest,qP,h⟩
   · obtain⟨h1,h2⟩:=out .ready none _ rest W2 (by simp) h
     exact⟨none,_,h1,cI Dk s rest _ qP h2 _ (ah hF)⟩
   · obtain⟨h1,h2⟩:=out .done (some (jc t)) _ rest W2 (by simp) h
     refine⟨some (jc t),_,h1,?_⟩
     have h3:=cj Dk t rest _ qP h2 _ (ah hF)
     rcases ao t with hj|⟨id,hj⟩
     · rw [hj] at h3⊢;exact wpIn_ret h3
     · rw [hj] at h3⊢;exact wpIn_exit h3
end
end Go.Proofs.Gw
namespace Go.Proofs.YtkichmnjjblodaaGreat
open Go Go.RowKit Go.Proofs.Gw
variable {cnt ln:Oe} {pt:Of}
theorem pl_60:ZR Oj 60=true:=Ob
def UM(u:Int):Nat->List Int
  |0=> []
  |t+1=>UM u t++ [u-1-t]
def dwn(u x:Int):List Int:=UM u (u-1-x).toNat
theorem TZ{u x:Int}(h:x<u):dwn u (x-1)=dwn u x++ [x]:=by
 unfold dwn
 rw [show(u-1-(x-1)).toNat=(u-1-x).toNat+1 by omega,UM,show u-1-((u-1-x).toNat:Int)=x by omega]
theorem UL(u:Int):dwn u (u-1)= []:=by
 unfold dwn;rw [show(u-1-(u-1)).toNat=0 by omega];rfl
def XG(ln:Oe)(pt:Of)(cnt:Oe)(l:List Int):List (List Int):=l.flatMap fun i=>List.replicate (cnt i).toNat (lst (ln i) (pt i))
theorem WP(ln:Oe)(pt:Of)(cnt:Oe)(l:List Int)(x:Int):XG ln pt cnt (l++ [x])=XG ln pt cnt l++List.replicate (cnt x).toNat (lst (ln x) (pt x)):=by simp [XG]
theorem Tn{ln cnt:Oe}{pt:Of}{u:Int}(F:0<=u)(hc:∀k,0<=k->k<u->0<=cnt k):∀t:Nat,(t:Int)<=u->((XG ln pt cnt (UM u t)).length:Int)=psum (fun _=>1) cnt u.toNat-psum (fun _=>1) cnt (u-t).toNat
 |0,_=>by simp [UM,XG]
 | t+1,ht=>by
   have h1:=Tn (ln:=ln) (pt:=pt) F hc t Oa
   have G:=hc (u-1-t) Oa Oa
   have D:=YG (fun _=>1) cnt (i:=u-1-t) Oa
   rw [UM,WP,List.length_append,List.length_replicate]
   rw [show u-1-(t:Int)+1=u-t by omega] at D
   rw [show u-((t+1:Nat):Int)=u-1-t by omega]
   push_cast
   rw [h1,D,Int.toNat_of_nonneg G];omega
theorem Uz{u x c:Int}(hc:∀k,0<=k->k<u->0<=cnt k)(D:0<=x)(I:x<u)(U:0<=c)(O:c<cnt x):((XG ln pt cnt (dwn u x)++List.replicate c.toNat (lst (ln x) (pt x))).length:Int)<psum (fun _=>1) cnt u.toNat:=by
 have h1:=Tn (ln:=ln) (pt:=pt) Oa hc (u-1-x).toNat Oa
 have G:=YG (fun _=>1) cnt D
 have F:=Wo (d:=cnt) (f:=fun _=>1) (i:=0) (n:=x.toNat) Oa fun k J=>by have:=hc k Oa Oa;omega
 rw [List.length_append,List.length_replicate]
 unfold dwn
 push_cast
 rw [h1,show(u-((u-1-x).toNat:Int)).toNat=(x+1).toNat by omega,G]
 simp only [psum] at F
 omega
theorem Zjc{vV:Value}{u:Int}{pv:Int->Value}(w0:World)(F:VAt w0 vV u pv ln pt cnt):
   Calls Oj 196 [vV].toArray w0 fun e w=>∃v,e= .returned v/\∃g,v= .func (.func 213) #[] #[Oq g]/\Sat w0 w [.blk g [vV]]:=by
 refine zenG Tryz.func196 Tryz.ntmps196 fun w D=> ?_
 refine zsr<|zla (xbx (cs:= [_]) D (hc:=Slh.cells F.row.cf)) ?_;rintro _ w ⟨G,rfl,D⟩
 refine(zP)<|zlz<|(zV xmf)<|(zP)<|zx1<|Oi ?_
 exact⟨_,rfl,D⟩
theorem Zjd{vV:Value}{u:Int}{pv:Int->Value}{pt:Of}{cnt:Oe}{gq:Nat}{St:Type}(J:St->List Int)(G:St->Prop)(s0:St)(U:J s0= [])(W:G s0)(w0:World)(I:Slh vV u)(ac:∀k,0<=k->k<u->Slh (pv k) (ln k)):ItC (St:=St) (X:=Int) (Tt:=Unit) Oj w0 213 [Oq gq] [.blk gq [vV],.own vV 2 107 u (Zd pv cnt),.sem (Frame.rows 3 u pv ln pt)] (fun x=> [.int Oh x,.agg #[pv x,.int Oh (cnt x)]]) (fun s x rest=>G s/\0<=x/\x<u/\J s=dwn u x) (fun s x s1=>J s1=J s++ [x]/\G s1) (fun _ _ _=>False) (s0) (fun s rest=>G s/\J s=dwn u (-1)) (fun _ _=>False):=by
 intro l C D w F hY
 have hu:=I.n0;have ab:=I.n1
 refine Zfp Tryz.func213 Tryz.ntmps213 ?_
 refine hsq<|hrz ?_
 refine zlv (xlb 1 pl_60 F) ?_
 refine zlv (xln Z4 I) ?_
 refine zlv (Zw (r:=u-1)) ?_
 refine zlv xas ?_
 refine zln<|zh<|htn<|hbk<|hlp (fun Z M w=>∃(s:St) (i:Int),Z=((i+1).toNat)/\(-1<=i)/\(i<u)/\(G s)/\(J s=dwn u i)/\M= [(0,.func (.yield l) #[] #[]),(1,Oq gq),(3,.int Oh i)]/\Sat w0 w [.sem (C s),.blk gq [vV],.own vV 2 107 u (Zd pv cnt),.sem (Frame.rows 3 u pv ln pt)]) ⟨s0,u-1,rfl,Oa,Oa,?_,?_,rfl,F⟩ ?_
 ·
  exact W
 ·
  rw [U];exact(UL u).symm
 clear F w
 rintro Z M w ⟨s,i,rfl,h0,h1,hI,V,rfl,F⟩
 refine hsq<|hsq<|hrz ?_
 refine zs2 ?_
 refine zln<|zh<|htn ?_
 refine Xq ?_ ?_<;>intro hc
 ·
  refine hsk<|htn<|hsq<|hbk<|hsq<|hrg ?_
  iterate 2 refine hlv xmv ?_
  refine hlv (xlb 1 pl_60 F) ?_
  refine hlv xmv ?_
  refine hlv (xix (kk:=2*i) Z4 I) ?_
  refine hlv (xlw (cs:= [(pv i),.int Oh (cnt i)]) ZQ (F.c7 2 rfl) (ZG (k:=2*i) (i:=i) pv cnt Oa)) ?_
  refine hly (hY s i _ w ⟨hI,Oa,Oa,V⟩ (Sat.gg (l1:= [_,_,_,_]) (l2:= []) F)) ?_;rintro _ w (⟨rfl,O,Y,F⟩|⟨rfl,aa,xQ,F⟩)
  ·
   replace F:=Sat.fx (l1:= [_,_,_,_]) (l3:= []) F
   replace F:=F.n4
   refine hlv xnt ?_
   refine hln<|htn<|hcf<|hsk<|zbn<|htn<|hrz ?_
   refine zlv xmv ?_
   refine zlv (Zw (r:=i-1)) ?_
   refine zlv xas ?_
   refine zln<|zh<|hlq ⟨O,i-1,rfl,Oa,Oa,?_,?_,rfl,F⟩
   ·
    exact Y.2
   ·
    rw [Y.1,V];exact(TZ h1).symm
  ·
   replace F:=Sat.fx (l1:= [_,_,_,_]) (l3:= []) F
   replace F:=F.n4
   refine hlv xnf ?_
   refine hln<|htn<|hct<|hrt<|zbr<|ztr<|ztr<|zbr<|zf0 ⟨_,rfl,?_⟩
   exact xQ.elim
 refine hxt<|ztx<|ztx<|zbh<|XP ⟨_,rfl,?_⟩
 exact .inl ⟨s,_,⟨hI,by rw [V,show i= -1 by omega]⟩,Sat.gg (l1:= [_,_,_,_]) (l2:= []) F⟩
end Go.Proofs.YtkichmnjjblodaaGreat
namespace Go.Proofs.YtkichmnjjblodaaGreat
open Go Go.RowKit Go.Proofs.Gw
theorem Zle:Zc Oj 196=true:=Ob
theorem Zk2:Zc Oj 213=true:=Ob
theorem pl_208:ZR Oj 208=true:=Ob
structure BX where
  v:Value
  n:Int
  f:Oe
theorem Zjb {vV:Value} {u:Int} {pv:Int->Value} {ln:Oe} {pt:Of} {cnt:Oe} {gq:Nat} {St:Type} (qe:St->List (List Int)) (Z:St->Prop) (s0:St) (ah:qe s0= []) (al:Z s0) (w0:World) (ad:Slh vV u) (ae:∀k,0<=k->k<u->Slh (pv k) (ln k)) (hlc:∀k,0<=k->k<u->ln k<=1000000) (Y:∀k,0<=k->k<u->0<=cnt k/\cnt k<=1000000000):ItG (St:=St) (X:=BX) (Tt:=Unit) Oj w0 195 [Oq gq] [.blk gq [vV],.own vV 2 107 u (Zd pv cnt),.sem (Frame.rows 3 u pv ln pt)] (fun x=> [x.v]) (fun x=> [.own x.v 1 3 x.n (ints x.f)]) (fun s x rest=>Z s/\Slh x.v x.n/\((qe s).length:Int)<psum (fun _=>1) cnt u.toNat/\∃i,0<=i/\i<u/\x.n=ln i/\x.f=pt i) (fun s x s1=>qe s1=qe s++ [lst x.n x.f]/\Z s1) (fun _ _ _=>False) (s0) (fun s rest=>Z s/\qe s=XG ln pt cnt (dwn u (-1))) (fun _ _=>False):=by
 intro l C D w F hY
 have hu:=ad.n0;have am:=ad.n1
 refine Znl Tryz.func195 Tryz.ntmps195 ?_
 refine hsq<|hrz ?_
 refine zla (xbx (cs:= [_]) F) ?_;rintro _ w ⟨g1,rfl,F⟩
 replace F:=F.n5
 refine zln<|zh<|htn<|hsq<|hrz ?_
 refine zlv (xlb 1 pl_60 F) ?_
 refine zlc (xc0 Zle) (Zjc (u:=u) (pv:=pv) (ln:=ln) (pt:=pt) (cnt:=cnt) w (⟨(F.c7 2 rfl),fun k k0 k1=>F.fq 3 rfl k0 k1,fun k k0 k1=>F.gb 3 rfl k0 k1⟩:VAt _ vV u pv ln pt cnt)) ?_;rintro _ w ⟨g2,rfl,G⟩
 replace F:Sat w0 w [.sem (C s0),.blk gq [vV],.own vV 2 107 u (Zd pv cnt),.sem (Frame.rows 3 u pv ln pt),.blk g1 [.func (.yield l) #[] #[]],.blk g2 [vV]]:=F.comp G;clear G
 refine zln<|zh<|htn<|hbk<| ?_
 refine hrf (St:=St×List Int) (X:=Int) (Tt:=Unit) (fun s=> [.sem (C s.1),.blk gq [vV],.blk g1 [.func (.yield l) #[] #[]]]) (fun t=> []) (fun _=> .ret) (s0, []) (fun x M es=>∃(g3:Nat),M= [(0,.func (.yield l) #[] #[]),(1,Oq gq),(2,Oq g1),(5,vV),(6,.func (.func 213) #[] #[Oq g2]),(7,.int Oh x),(8,.agg #[(pv x),.int Oh (cnt x)]),(4,Oq g3)]/\es= [.blk g3 [(pv x),.int Oh (cnt x)]]) (Zjd (gq:=g2) (fun s=>s.2) (fun s=>Z s.1/\qe s.1=XG ln pt cnt s.2) (s0, []) rfl ⟨al,ah⟩ w0 ad ae) (F.pk [0,1,4,5,2,3]) Zk2 (fun _=>rfl) (fun _=> .inl rfl) ?_ ?_ ?_ ?_
 ·
  intro lq s x rest w qE xb ai F
  obtain⟨⟨ag,af⟩,W,V,aa⟩:=qE
  have aj:=hlc x W V;have ak:=Y x W V
  replace F:=F.n7
  refine hrz ?_
  refine zla (xal (cs:= [_,_]) YA F) ?_;rintro _ w ⟨g3,rfl,F⟩
  replace F:=F.n8
  refine zle (xsw 7 ZQ F (hd:=(Za (ae x Oa Oa).one (Za rfl Zh)))) ?_;clear F;rintro w F
  replace F:=F.n8
  refine zln<|zh<|Zfq ⟨g3,rfl,rfl⟩ F
 ·
  rintro lq s x _ _ rest w qE ⟨g3,rfl,rfl⟩ xb ai F
  obtain⟨⟨ag,af⟩,W,V,aa⟩:=qE
  have aj:=hlc x W V;have ak:=Y x W V
  replace F:=F.n8
  refine hbk<|hsq<|hrz ?_
  refine zlv (xfb 1 fd_107_1) ?_
  refine zlv (xlb 7 pl_3 F) ?_
  refine zlv xmv ?_
  refine zln<|zh<|htn<|hbk<|hlp (fun mm M w=>∃(U:St) (c:Int),mm=((cnt x-c).toNat)/\(0<=c)/\(c<=cnt x)/\(Z U)/\(qe U=XG ln pt cnt s.2++List.replicate c.toNat (lst (ln x) (pt x)))/\M= [(2,Oq g1),(4,Oq g3),(10,.int Oh (cnt x)),(11,.int Oh c)]/\Sat w0 w [.sem (C U),.blk gq [vV],.blk g1 [.func (.yield l) #[] #[]],.blk g2 [vV],.own vV 2 107 u (Zd pv cnt),.sem (Frame.rows 3 u pv ln pt),.sem xb,.blk g3 [(pv x),.int Oh (cnt x)]]) ⟨s.1,0,rfl,Oa,Oa,?_,?_,rfl,F⟩ ?_
  ·
   exact ag
  ·
   rw [af];simp
  clear F w
  rintro mm M w ⟨U,c,rfl,c0,c1,ab,J,rfl,F⟩
  refine hsq<|hrz ?_
  refine zlv Z7 ?_
  refine zln<|zh<|htn<|hsq ?_
  refine Xq ?_ ?_<;>intro hc
  ·
   refine hsk<|htn<|hsq<|hbk<|hsq ?_
   refine hdr 6 mx_ F ?_;clear F;intro w F
   refine hd2 0 1 ?_ ?_
   ·
    refine hov (xlb 2 pl_208 F) ?_
    refine hd1 1 ?_
    refine hov (xfb 0 fd_107_0) ?_
    refine hd1 2 ?_
    refine hov (xlb 7 pl_22 F) ?_
    refine hd1 3 ?_
    refine hoc (xc0 cl_65) (c_clone (n:=(ln x)) (f:=(pt x)) w (F.fq (k:=x) 5 rfl Oa Oa) Oa) ?_;rintro I w ⟨_,rfl,qb,G⟩
    replace F:Sat w0 w [.sem (C U),.blk gq [vV],.blk g1 [.func (.yield l) #[] #[]],.blk g2 [vV],.own vV 2 107 u (Zd pv cnt),.sem (Frame.rows 3 u pv ln pt),.sem xb,.blk g3 [(pv x),.int Oh (cnt x)],.own I 1 3 (ln x) (ints (pt x))]:=F.comp G;clear G
    refine hd1 4 ?_
    replace F:=F.pk [0,1,4,5,2,3,6,7,8]
    replace F:=F.n9
    replace F:=F.pk [0,1,2,3,8,4,5,6,7]
    replace F:=F.n9
    refine hoy (hY U ⟨I,ln x,pt x⟩ _ w ⟨ab,qb,by rw [J,aa];exact Uz (fun k k0 k1=>(Y k k0 k1).1) W V c0 Oa,x,W,V,rfl,rfl⟩ (Sat.gg (l1:= [_,_,_,_,_]) F)) ?_;rintro _ w (⟨rfl,O,qL,F⟩|⟨rfl,ac,xQ,F⟩)
    ·
     replace F:=Sat.fx (l1:= [_,_,_,_]) (l3:= []) F
     replace F:=F.n8
     refine hd1 5 ?_
     refine hov xnt ?_
     refine hd0<|htn<|hcf<|hsk<|zbn<|htn<|hrz ?_
     refine zlv (Zg (r:=c+1)) ?_
     refine zlv xmv ?_
     refine zln<|zh<|hlq ⟨O,c+1,rfl,Oa,Oa,?_,?_,rfl,F.pk [0,1,4,5,2,3,6,7]⟩
     ·
      exact qL.2
     ·
      rw [qL.1,J,show(c+1).toNat=c.toNat+1 by omega,List.replicate_succ',List.append_assoc]
    ·
     replace F:=Sat.fx (l1:= [_,_,_,_]) (l3:= []) F
     replace F:=F.n8
     refine hd1 5 ?_
     refine hov xnf ?_
     refine hd0<|htn<|hct<|hrt<|zbr<|ztr<|ztr<|zbr<|zbr<|Zfo () xQ.elim rfl (F.pk [5,2,3,6])
   ·
    refine hov (xfb 0 fd_107_0) ?_
    refine hd2 0 2 ?_ ?_
    ·
     refine hov (xlb 2 pl_208 F) ?_
     refine hd1 2 ?_
     refine hov (xlb 7 pl_22 F) ?_
     refine hd1 3 ?_
     refine hoc (xc0 cl_65) (c_clone (n:=(ln x)) (f:=(pt x)) w (F.fq (k:=x) 5 rfl Oa Oa) Oa) ?_;rintro I w ⟨_,rfl,qb,G⟩
     replace F:Sat w0 w [.sem (C U),.blk gq [vV],.blk g1 [.func (.yield l) #[] #[]],.blk g2 [vV],.own vV 2 107 u (Zd pv cnt),.sem (Frame.rows 3 u pv ln pt),.sem xb,.blk g3 [(pv x),.int Oh (cnt x)],.own I 1 3 (ln x) (ints (pt x))]:=F.comp G;clear G
     refine hd1 4 ?_
     replace F:=F.pk [0,1,4,5,2,3,6,7,8]
     replace F:=F.n9
     replace F:=F.pk [0,1,2,3,8,4,5,6,7]
     replace F:=F.n9
     refine hoy (hY U ⟨I,ln x,pt x⟩ _ w ⟨ab,qb,by rw [J,aa];exact Uz (fun k k0 k1=>(Y k k0 k1).1) W V c0 Oa,x,W,V,rfl,rfl⟩ (Sat.gg (l1:= [_,_,_,_,_]) F)) ?_;rintro _ w (⟨rfl,O,qL,F⟩|⟨rfl,ac,xQ,F⟩)
     ·
      replace F:=Sat.fx (l1:= [_,_,_,_]) (l3:= []) F
      replace F:=F.n8
      refine hd1 5 ?_
      refine hov xnt ?_
      refine hd0<|htn<|hcf<|hsk<|zbn<|htn<|hrz ?_
      refine zlv (Zg (r:=c+1)) ?_
      refine zlv xmv ?_
      refine zln<|zh<|hlq ⟨O,c+1,rfl,Oa,Oa,?_,?_,rfl,F.pk [0,1,4,5,2,3,6,7]⟩
      ·
       exact qL.2
      ·
       rw [qL.1,J,show(c+1).toNat=c.toNat+1 by omega,List.replicate_succ',List.append_assoc]
     ·
      replace F:=Sat.fx (l1:= [_,_,_,_]) (l3:= []) F
      replace F:=F.n8
      refine hd1 5 ?_
      refine hov xnf ?_
      refine hd0<|htn<|hct<|hrt<|zbr<|ztr<|ztr<|zbr<|zbr<|Zfo () xQ.elim rfl (F.pk [5,2,3,6])
    ·
     refine hov (xlb 7 pl_22 F) ?_
     refine hd2 0 3 ?_ ?_
     ·
      refine hov (xlb 2 pl_208 F) ?_
      refine hd1 3 ?_
      refine hoc (xc0 cl_65) (c_clone (n:=(ln x)) (f:=(pt x)) w (F.fq (k:=x) 5 rfl Oa Oa) Oa) ?_;rintro I w ⟨_,rfl,qb,G⟩
      replace F:Sat w0 w [.sem (C U),.blk gq [vV],.blk g1 [.func (.yield l) #[] #[]],.blk g2 [vV],.own vV 2 107 u (Zd pv cnt),.sem (Frame.rows 3 u pv ln pt),.sem xb,.blk g3 [(pv x),.int Oh (cnt x)],.own I 1 3 (ln x) (ints (pt x))]:=F.comp G;clear G
      refine hd1 4 ?_
      replace F:=F.pk [0,1,4,5,2,3,6,7,8]
      replace F:=F.n9
      replace F:=F.pk [0,1,2,3,8,4,5,6,7]
      replace F:=F.n9
      refine hoy (hY U ⟨I,ln x,pt x⟩ _ w ⟨ab,qb,by rw [J,aa];exact Uz (fun k k0 k1=>(Y k k0 k1).1) W V c0 Oa,x,W,V,rfl,rfl⟩ (Sat.gg (l1:= [_,_,_,_,_]) F)) ?_;rintro _ w (⟨rfl,O,qL,F⟩|⟨rfl,ac,xQ,F⟩)
      ·
       replace F:=Sat.fx (l1:= [_,_,_,_]) (l3:= []) F
       replace F:=F.n8
       refine hd1 5 ?_
       refine hov xnt ?_
       refine hd0<|htn<|hcf<|hsk<|zbn<|htn<|hrz ?_
       refine zlv (Zg (r:=c+1)) ?_
       refine zlv xmv ?_
       refine zln<|zh<|hlq ⟨O,c+1,rfl,Oa,Oa,?_,?_,rfl,F.pk [0,1,4,5,2,3,6,7]⟩
       ·
        exact qL.2
       ·
        rw [qL.1,J,show(c+1).toNat=c.toNat+1 by omega,List.replicate_succ',List.append_assoc]
      ·
       replace F:=Sat.fx (l1:= [_,_,_,_]) (l3:= []) F
       replace F:=F.n8
       refine hd1 5 ?_
       refine hov xnf ?_
       refine hd0<|htn<|hct<|hrt<|zbr<|ztr<|ztr<|zbr<|zbr<|Zfo () xQ.elim rfl (F.pk [5,2,3,6])
     ·
      refine hoc (xc0 cl_65) (c_clone (n:=(ln x)) (f:=(pt x)) w (F.fq (k:=x) 5 rfl Oa Oa) Oa) ?_;rintro I w ⟨_,rfl,qb,G⟩
      replace F:Sat w0 w [.sem (C U),.blk gq [vV],.blk g1 [.func (.yield l) #[] #[]],.blk g2 [vV],.own vV 2 107 u (Zd pv cnt),.sem (Frame.rows 3 u pv ln pt),.sem xb,.blk g3 [(pv x),.int Oh (cnt x)],.own I 1 3 (ln x) (ints (pt x))]:=F.comp G;clear G
      refine hd1 0 ?_
      refine hov (xlb 2 pl_208 F) ?_
      refine hd1 4 ?_
      replace F:=F.pk [0,1,4,5,2,3,6,7,8]
      replace F:=F.n9
      replace F:=F.pk [0,1,2,3,8,4,5,6,7]
      replace F:=F.n9
      refine hoy (hY U ⟨I,ln x,pt x⟩ _ w ⟨ab,qb,by rw [J,aa];exact Uz (fun k k0 k1=>(Y k k0 k1).1) W V c0 Oa,x,W,V,rfl,rfl⟩ (Sat.gg (l1:= [_,_,_,_,_]) F)) ?_;rintro _ w (⟨rfl,O,qL,F⟩|⟨rfl,ac,xQ,F⟩)
      ·
       replace F:=Sat.fx (l1:= [_,_,_,_]) (l3:= []) F
       replace F:=F.n8
       refine hd1 5 ?_
       refine hov xnt ?_
       refine hd0<|htn<|hcf<|hsk<|zbn<|htn<|hrz ?_
       refine zlv (Zg (r:=c+1)) ?_
       refine zlv xmv ?_
       refine zln<|zh<|hlq ⟨O,c+1,rfl,Oa,Oa,?_,?_,rfl,F.pk [0,1,4,5,2,3,6,7]⟩
       ·
        exact qL.2
       ·
        rw [qL.1,J,show(c+1).toNat=c.toNat+1 by omega,List.replicate_succ',List.append_assoc]
      ·
       replace F:=Sat.fx (l1:= [_,_,_,_]) (l3:= []) F
       replace F:=F.n8
       refine hd1 5 ?_
       refine hov xnf ?_
       refine hd0<|htn<|hct<|hrt<|zbr<|ztr<|ztr<|zbr<|zbr<|Zfo () xQ.elim rfl (F.pk [5,2,3,6])
  refine hxt<|ztx<|ztx<|zbh<|zbn<|Zch (U,s.2++ [x]) ⟨rfl,ab,by show qe U=_;rw [J,WP,show c.toNat=(cnt x).toNat by omega]⟩ (F.pk [0,1,2,3,4,5,6])
 ·
  intro Dk s rest w qP F
  replace F:=F.n8
  refine zbn<|Znk 7 F fun w F=>XP ⟨_,rfl,?_⟩
  replace F:=F.pk [0,1,4,5,2,3,6,7]
  exact .inl ⟨s.1,_,⟨qP.1.1,by rw [qP.1.2,qP.2]⟩,Sat.gg (l1:= [_,_,_,_]) F⟩
 ·
  intro Dk t rest w qP F
  replace F:=F.n5
  exact qP.elim
theorem ZgS{vV:Value}{u:Int}{pv:Int->Value}{ln:Oe}{pt:Of}{cnt:Oe}(w0:World)(F:VAt w0 vV u pv ln pt cnt):
   Calls Oj 168 [vV].toArray w0 fun e w=>∃v,e= .returned v/\∃g,v= .func (.func 195) #[] #[Oq g]/\Sat w0 w [.blk g [vV]]:=by
 refine zenG Tryz.func168 Tryz.ntmps168 fun w D=> ?_
 refine zsr<|zla (xbx (cs:= [_]) D (hc:=Slh.cells F.row.cf)) ?_;rintro _ w ⟨G,rfl,D⟩
 refine(zP)<|zlz<|(zV xmf)<|(zP)<|zx1<|Oi ?_
 exact⟨_,rfl,D⟩
def tA(a m:List Int):List Int:=List.zipWith (fun x y=>x-min x y) a m
def tM(a m:List Int):List Int:=List.zipWith (fun x y=>y-min x y) a m
def Wm(s:List Int×Us)(a:List Int):List Int×Us:=(tM a s.1,if(tA a s.1).any (fun x=>decide (0<x)) then s.2++ [(tA a s.1,1)] else s.2)
def Wn(m0:List Int)(h:List (List Int)):List Int×Us:=h.foldl Wm (m0, [])
theorem Vl(D:List Int)(h:List (List Int))(a:List Int):Wn D (h++ [a])=Wm (Wn D h) a:=by simp [Wn]
theorem Y0(F:Of)(n:Int)(f g:Oe):List.zipWith F (lst n f) (lst n g)=lst n fun k=>F (f k) (g k):=by
 apply List.ext_getElem?
 intro k
 rw [List.getElem?_zipWith,lst_get,lst_get,lst_get]
 by_cases hk:(k:Int)<n
 · rw [if_pos hk,if_pos hk,if_pos hk]
 · rw [if_neg hk,if_neg hk,if_neg hk]
theorem WQ{n:Int}{f:Oe}:(lst n f).any (fun x=>decide (0<x))=true↔∃k,0<=k/\k<n/\0<f k:=by
 rw [List.any_eq_true]
 constructor
 · rintro⟨x,D,J⟩
   unfold lst at D
   obtain⟨k,I,rfl⟩:=List.mem_map.1 D
   have:=List.mem_range.1 I
   exact⟨(k:Int),Oa,Oa,by simpa using J⟩
 · rintro⟨k,G,F,h⟩
   refine⟨f k,?_,by simpa using h⟩
   have:=lst_get n f k.toNat
   rw [Int.toNat_of_nonneg G,if_pos F] at this
   exact List.mem_of_getElem? this
def UA(l:Us):List (List Int):=l.reverse.flatMap fun u=>List.replicate u.2.toNat u.1
theorem Kf(u:Int):∀t:Nat,UM (u+1) (t+1)=u::UM u t
 |0=>by simp [UM]
 | t+1=>by
   rw [UM,Kf u t,UM,List.cons_append]
   congr 2
   congr 1
   push_cast;omega
theorem Kq(ln:Oe)(pt:Of)(cnt:Oe){n:Int}(n0:0<=n):XG ln pt cnt (dwn n (-1))=UA (plL n ln pt cnt):=by
 obtain⟨k,rfl⟩:=Int.eq_ofNat_of_zero_le n0
 have e:∀k:Nat,(UM (k:Int) k).map (fun i=>(lst (ln i) (pt i),cnt i))=(plL (k:Int) ln pt cnt).reverse:=by
   intro k
   induction k with
   |zero=>simp [UM,plL]
   |succ k ih=>rw [show((k+1:Nat):Int)=(k:Int)+1 by omega,Kf,List.map_cons,ih,XV Oa,List.reverse_append];rfl
 unfold XG UA dwn
 rw [show((k:Int)-1-(-1)).toNat=k by omega,<-e k,List.flatMap_map]
structure TSt where
  h:List (List Int)
  M:Oe
  vO:Value
  n:Int
  vv:Int->Value
  P:Of
  C:Oe
def TInv(p:Prob)(m0:List Int)(s:TSt):Prop:=(lst p.m s.M,plL s.n (fun _=>p.m) s.P s.C)=Wn m0 s.h/\Slh s.vO s.n/\(∀k,0<=k->k<p.m->0<=s.M k/\s.M k<=2000000000)/\s.n<=s.h.length/\∀k,0<=k->k<s.n->s.C k=1
theorem TInv.yes{p:Prob}{V:List Int}{s:TSt}{a a2 O:Oe}(X:(lst p.m s.M,plL s.n (fun _=>p.m) s.P s.C)=Wn V s.h)(n0:0<=s.n)(Y:∀k,0<=k->k<p.m->a2 k=a k-min (a k) (s.M k))(hM:∀k,0<=k->k<p.m->O k=s.M k-min (a k) (s.M k))(W:∃k,0<=k/\k<p.m/\0<a2 k){J:Of}{U:Oe}(Z:∀k,0<=k->k<s.n->J k=s.P k)(G:J s.n=a2)(hC:∀k,0<=k->k<s.n->U k=s.C k)(I:U s.n=1):
   (lst p.m O,plL (s.n+1) (fun _=>p.m) J U)=Wn V (s.h++ [lst p.m a]):=by
 rw [Vl,<-X]
 unfold Wm tM tA
 dsimp only
 rw [Y0,Y0,Z5 (f:=fun k=>a k-min (a k) (s.M k)) (g:=a2) fun k F D=>(Y k F D).symm,if_pos (WQ.2 W),Z5 (f:=fun k=>s.M k-min (a k) (s.M k)) (g:=O) fun k F D=>(hM k F D).symm]
 congr 1
 exact V8 (ln:=fun _=>p.m) n0 (fun k F D=>⟨rfl,hC k F D,Z k F D⟩) rfl I G
theorem TInv.no{p:Prob}{I:List Int}{s:TSt}{a a2 G:Oe}(O:(lst p.m s.M,plL s.n (fun _=>p.m) s.P s.C)=Wn I s.h)(U:∀k,0<=k->k<p.m->a2 k=a k-min (a k) (s.M k))(hM:∀k,0<=k->k<p.m->G k=s.M k-min (a k) (s.M k))(J:¬∃k,0<=k/\k<p.m/\0<a2 k):
   (lst p.m G,plL s.n (fun _=>p.m) s.P s.C)=Wn I (s.h++ [lst p.m a]):=by
 rw [Vl,<-O]
 unfold Wm tM tA
 dsimp only
 rw [Y0,Y0,Z5 (f:=fun k=>a k-min (a k) (s.M k)) (g:=a2) fun k F D=>(U k F D).symm,if_neg (fun h=>J (WQ.1 h)),Z5 (f:=fun k=>s.M k-min (a k) (s.M k)) (g:=G) fun k F D=>(hM k F D).symm]
def TrimR(p:Prob)(u:Int)(ln:Oe)(pt:Of)(cnt:Oe)(out:Us)(e:Int):Prop:=
  (¬PlanOk p u ln pt cnt/\out= []/\e=1)\/(PlanOk p u ln pt cnt/\¬(∀j,0<=j->j<p.m->p.D j<=Zo u pt cnt j)/\out= []/\e=18)\/
  (PlanOk p u ln pt cnt/\(∀j,0<=j->j<p.m->p.D j<=Zo u pt cnt j)/\e=0/\∃N,NormR (plL u ln pt cnt) N/\NormR (Wn (lst p.m fun j=>Zo u pt cnt j-p.D j) (UA N)).2 out)
theorem RS{p:Prob}{u n2:Int}{ln cnt ln2 qg:Oe}{pt pt2:Of}(h:PlanOk p u ln pt cnt)(X:NormR (plL u ln pt cnt) (plL n2 ln2 pt2 qg))(D:∀k,0<=k->k<n2->0<=ln2 k):∀k,0<=k->k<n2->ln2 k=p.m/\∀j,0<=j->j<p.m->0<=pt2 k j/\pt2 k j<=2000:=by
 intro k I G
 have W:(lst (ln2 k) (pt2 k),qg k)∈plL n2 ln2 pt2 qg:=List.mem_iff_getElem?.2 ⟨k.toNat,by rw [plL_get,Int.toNat_of_nonneg I,if_pos G]⟩
 obtain⟨y,U,F⟩:=X.keys _ W
 obtain⟨i,hi⟩:=List.mem_iff_getElem?.1 U
 rw [plL_get] at hi
 split at hi
 · rename_i hlt
   injection hi with hi
   obtain⟨_,_,hf⟩:=h.2.2 i Oa hlt
   have V:=h.1.m1
   rw [<-hi] at F
   dsimp only at F
   obtain⟨Y,O⟩:=(VP (by have:=hf.eq;omega) (D k I G)).1 F
   refine⟨by have:=hf.eq;omega,fun j J Z=> ?_⟩
   rw [<-O j J (by have:=hf.eq;omega)]
   exact hf.all j J (by have:=hf.eq;omega)
 · cases hi
theorem RT{p:Prob}{u n2:Int}{ln cnt ln2 qg:Oe}{pt pt2:Of}(F:0<=u)(n0:0<=n2)(h:PlanOk p u ln pt cnt)(G:NormR (plL u ln pt cnt) (plL n2 ln2 pt2 qg)):psum (fun _=>1) qg n2.toNat<=1000000:=by
 have h1:=G.iy fun _=>1
 rw [Zt _ F,Zt _ n0] at h1
 rw [h1]
 have D:∀t:Nat,(t:Int)<=u->psum (fun _=>1) cnt t<=1000*t:=by
   intro t
   induction t with
   |zero=>intro _;simp [psum]
   |succ t ih=>intro I;have:=ih Oa;have:=(h.2.2 t Oa Oa).2.1;simp only [psum];push_cast;omega
 have O:=D u.toNat Oa
 have J:=h.2.1
 omega
theorem Wt{p:Prob}(G:p.Ok){k:Int}(F:0<=k)(D:k<p.m):0<=p.D k/\p.D k<=1000:=by
 have I:=G.all k F D
 unfold Prob.each at I;omega
theorem ZdZ{C:Oe}{n:Int}(h:∀k,0<=k->k<n->C k=1):∀k,0<=k->k<n+1->snoc C n 1 k=1:=fun k D F=>by
 by_cases e:k<n
 · rw [Zl e];exact h k D e
 · exact Zk e
theorem Zlx:Zc Oj 169=true:=Ob
theorem Zmh{x:Int}(w0:World):
   Calls Oj 169 [.int Oh x].toArray w0 fun e w=>∃v,e= .returned v/\v=B (0<x)/\Sat w0 w []:=by
 refine zenG Tryz.func169 Tryz.ntmps169 fun w D=> ?_
 refine zsr<|(zP)<|zlz<|(On)<|zx1<|Oi ?_
 exact⟨Zn Oa,D⟩
theorem ZiX{v:Value}{n:Int}{f:Oe}(w0:World)(G:Row w0 v 1 n (ints f)):
   Calls Oj 159 [v,.func (.func 169) #[] #[]].toArray w0 fun e w=>∃v,e= .returned v/\∃r:Int,v= .int Oh r/\((r= -1/\∀k,0<=k->k<n->¬(0<f k))\/(0<=r/\r<n/\(0<f r)/\∀k,0<=k->k<r->¬(0<f k)))/\Sat w0 w []:=by
 have hn:=G.cf.n0;have W:=G.cf.n1
 refine zenG Tryz.func159 Tryz.ntmps159 fun w D=> ?_
 refine zsr<|(zP)<|zx5<|(zP)<|(zV (xln Zb G.cf))<|(zP)<|zx6<|zlp (fun V M w=>∃(i:Int),V=((n-i).toNat)/\(0<=i)/\(i<=n)/\(∀k,0<=k->k<i->¬(0<f k))/\M= [(0,v),(1,.func (.func 169) #[] #[]),(7,.int Oh n),(8,.int Oh i)]/\Sat w0 w []) ⟨0,rfl,Oa,Oa,?_,rfl,D⟩ ?_
 ·
  intro k U h1;omega
 clear D w
 rintro V M w ⟨i,rfl,U,h1,I,rfl,D⟩
 refine zsr<|(zP)<|zx7<|Ze ?_ ?_<;>intro hc
 ·
  refine zx3<|(Om)<|zlz<|(On)<|(zV (xix (kk:=i) Zb G.cf))<|(zV (xlr (u:= .int Oh (f i)) pl_3 (G.below D.below)))<|zlc (xc0 Zlx) (Zmh (x:=(f i)) w) ?_;rintro _ w ⟨rfl,F⟩
  replace D:=D.cmp F;clear F
  refine zlt<|Ze ?_ ?_<;>intro hc
  ·
   refine zsr<|(Om)<|zx2<|Oi ?_
   exact⟨i,rfl,.inr ⟨by omega,Oa,‹0<f i›,I⟩,D⟩
  refine zx4<|(zV (Zg (r:=i+1)))<|(zP)<|zln<|zlq ⟨i+1,rfl,Oa,Oa,?_,rfl,D⟩
  ·
   intro k O X;rcases Int.lt_or_eq_of_le (show k<=i by omega) with J|J;exact I k O J;rw [J];assumption
 refine zx8<|(zP)<|zx1<|Oi ?_
 exact⟨-1,rfl,.inl ⟨rfl,fun k U h1=>I k U Oa⟩,D⟩
theorem Zi6{v:Value}{n:Int}{f:Oe}(w0:World)(I:Row w0 v 1 n (ints f)):
   Calls Oj 151 [v,.func (.func 169) #[] #[]].toArray w0 fun e w=>∃v,e= .returned v/\v=B (∃k,0<=k/\k<n/\0<f k)/\Sat w0 w []:=by
 refine zenG Tryz.func151 Tryz.ntmps151 fun w F=> ?_
 refine zsr<|(zP)<|zlz<|(Om)<|zlc (xc0 Vc) (ZiX (n:=n) (f:=f) w (I.below F.below)) ?_;rintro _ w ⟨V,rfl,G,D⟩
 replace F:=F.cmp D;clear D
 refine(Om)<|zx1<|Oi ?_
 exact⟨Zn (by
  rcases G with⟨h1,h2⟩|⟨h1,h2,h3,_⟩
  · exact⟨fun h=>Oa,fun⟨k,U,O,J⟩=>absurd J (h2 k U O)⟩
  · exact⟨fun _=>⟨_,h1,h2,h3⟩,fun _=>h1⟩),F⟩
theorem Zly:Zc Oj 168=true:=Ob
theorem Zlf:Zc Oj 195=true:=Ob
theorem Zf2:Zc Oj 53=true:=Ob
theorem Zjx:ZV Oj 60=some (Og,1,24):=Ob
theorem Zgx{vV:Value}{u:Int}{pv:Int->Value}{ln:Oe}{pt:Of}{cnt:Oe}{vL vD:Value}{p:Prob}(w0:World)(hV:VAt w0 vV u pv ln pt cnt)(h:PAt w0 vL vD p):
   Calls Oj 126 [.agg #[vL,vD,.int Oh p.b8,.int Oh p.bo],vV].toArray w0 fun e w=>∃v,e= .returned v/\∃r n2 ai ln2 pt2 qg e,v= .tuple #[r,.int Oh e]/\TrimR p u ln pt cnt (plL n2 ln2 pt2 qg) e/\(∀k,0<=k->k<n2->1<=qg k/\qg k<=1000000000)/\n2<=1000000/\Slh r n2/\Sat w0 w [.own r 2 107 n2 (Zd ai qg),.sem (Frame.rows 3 n2 ai ln2 pt2)]:=by
 obtain⟨hm,a5,hd,hd1,hs,hk⟩:=h.Oo
 have hu:=hV.row.cf.n0;have a1:=hV.row.cf.n1
 refine Zie Tryz.func126 Tryz.ntmps126 fun w D=> ?_
 refine hsq<|hrz ?_
 refine zla (xbx (cs:= [_,_,_,_]) D) ?_;rintro _ w ⟨g1,rfl,D⟩
 refine(Om)<|zln<|zh<|htn<|hsq<|hrz ?_
 refine(zV (xls 0 st_32 D))<|(zP)<|zlc (xc0 Zdw) (Tm (u:=u) (pv:=pv) (ln:=ln) (pt:=pt) (cnt:=cnt) (p:=p) w (hV.below D.below) (h.below D.below)) ?_;rintro _ w ⟨ql,qd,qc,yg,rfl,qt,qf,J⟩
 replace D:=(D.comp J).n2;clear J
 refine(On)<|zla (xal (cs:= [_]) Z9 D) ?_;rintro _ w ⟨g2,rfl,D⟩
 refine zle (xsb 2 pl_22 D (hv:=qf.one)) ?_;clear D;rintro w D
 refine(zP)<|zln<|zh<|htn<|hsq<|hsq<|hrz ?_
 refine(Om)<|zln<|zh<|htn ?_
 refine Xq ?_ ?_<;>intro hc
 ·
  refine hsq<|hrz ?_
  refine(On)<|zln<|zh<|htn<|hrt<|ztr<|Zj9<|zf2 ⟨_,rfl,?_⟩
  have au:¬PlanOk p u ln pt cnt/\yg=1:=by rcases qt with⟨g1,_,g3⟩|⟨_,_,_,g4⟩;exact⟨g1,g3⟩;omega
  exact⟨_,0,fun _=>undef,fun _=>0,fun _ _=>0,fun _=>0,_,rfl,.inl ⟨au.1,rfl,Oa⟩,fun k G F=>Oa,Oa,slh_nil,((D.sub (.cons _ (.cons _ (.cons _ .slnil)))).cg 2 107 (Zd (fun _=>undef) (fun _=>0))).fa 3 (fun _=>undef) (fun _=>0) (fun _ _=>0)⟩
 refine hsk<|htn<|hsq<|hsq<|hrz ?_
 refine zlv (xls 0 st_32 D) ?_
 obtain⟨U,bC,yu⟩:PlanOk p u ln pt cnt/\qd=p.m/\qc=Zo u pt cnt:=by rcases qt with⟨_,_,g3⟩|⟨g1,g2,g3,_⟩;omega;exact⟨g1,g2,g3⟩
 have yH:=U.1.m1;have qH:=U.1.m2;have a3:=U.1.d;have a0:=U.2.1
 refine(zP)<|zlc (xc0 Zf2) (Rc (u:=u) (pv:=pv) (ln:=ln) (pt:=pt) (cnt:=cnt) (p:=p) w (hV.below D.below) (h.below D.below)) ?_;rintro _ w ⟨rfl,J⟩
 replace D:=D.cmp J;clear J
 refine(zP)<|zln<|zh<|htn ?_
 refine Xq ?_ ?_<;>intro hc
 ·
  refine hsq<|hrz ?_
  refine(Om)<|zln<|zh<|htn<|hrt<|ztr<|Zj9<|zf2 ⟨_,rfl,?_⟩
  exact⟨_,0,fun _=>undef,fun _=>0,fun _ _=>0,fun _=>0,_,rfl,.inr (.inl ⟨U,fun hh=>‹¬(_/\_)› ⟨U,hh⟩,rfl,rfl⟩),fun k G F=>Oa,Oa,slh_nil,((D.sub (.cons _ (.cons _ (.cons _ .slnil)))).cg 2 107 (Zd (fun _=>undef) (fun _=>0))).fa 3 (fun _=>undef) (fun _=>0) (fun _ _=>0)⟩
 refine hsk<|htn<|hsq<|hsq<|hrz ?_
 refine zlv (xlb 2 pl_22 D) ?_
 have ar:∀j,0<=j->j<p.m->p.D j<=Zo u pt cnt j:=(Oc ‹¬¬(_/\_)›).2
 refine(zV (xln Zb qf))<|(zP)<|zln<|zh<|htn<|hbk<|hlp (fun mm M w=>∃(W:Oe) (i:Int),mm=((qd-i).toNat)/\(0<=i)/\(i<=qd)/\(∀k,0<=k->k<p.m->W k=if k<i then Zo u pt cnt k-p.D k else Zo u pt cnt k)/\M= [(1,vV),(2,Oq g1),(4,Og),(5,.int Oh 0),(6,Oq g2),(27,.int Oh qd),(28,.int Oh i)]/\Sat w0 w [.blk g1 [vL,vD,.int Oh p.b8,.int Oh p.bo],.own ql 1 3 qd (ints W),.blk g2 [ql]]) ⟨qc,0,rfl,Oa,Oa,?_,rfl,D⟩ ?_
 ·
  intro k G F;rw [if_neg Oa,yu]
 clear D w
 rintro mm M w ⟨W,i,rfl,h0,h1,hf,rfl,D⟩
 refine hsq<|hrz ?_
 refine(zP)<|zln<|zh<|htn<|hsq ?_
 refine Xq ?_ ?_<;>intro hc
 ·
  refine hsk<|htn<|hsq<|hbk<|hsq<|hrz ?_
  refine zlv xmv ?_
  have a4:=Yv U.2.2 hu (Int.le_refl _) (j:=i) h0 Oa
  have a6:=Wt U.1 h0 (by omega:i<p.m)
  have av:=hf i h0 Oa
  rw [if_neg Oa] at av
  refine(zP)<|zln<|zh<|htn ?_
  refine hdst [0,1,2] [0,2] 11 mx_ D ?_;clear D;intro w D
  refine(zDl 0 (fun w D=>(xlb 1 pl_22 D)))<|(zDw 1 xmv)<|(zDw 2 (xix (kk:=i) Zb qf))<|zdl 3 (fun w D=>(xlr (u:= .int Oh (W i)) pl_3 (D.c7 1 rfl))) ?_
  refine(zDw 4 (xfb 1 fd_32_1))<|(zDl 5 (fun w D=>(xlb 0 pl_22 D)))<|(zDw 6 xmv)<|(zDw 7 (xix (kk:=i) Zb h.D.cf))<|zdla 8 (fun w D=>(xlr (u:= .int Oh (p.D i)) pl_3 (h.D.below D.below))) ?_
  have a7:=h.iD i
  refine(zDw 9 (Zw (r:=W i-p.D i)))<|(zDw 10 (xix (kk:=i) Zb qf))<|zde 11 (xso 1 pl_3 D (Zy _ _ _)) ?_;clear D;rintro w D
  refine⟨⟨fun h=>absurd h (by decide),D.pk [0,2]⟩,?_⟩
  refine zdd<|zh<|zbn<|htn<|hrz ?_
  refine(zV (Zg (r:=i+1)))<|(zP)<|zln<|zh<|hlq ⟨(upd W i (W i-p.D i)),i+1,rfl,Oa,Oa,?_,rfl,D⟩
  ·
   intro k G F;unfold upd;by_cases e:k=i
   · rw [if_pos e,if_pos Oa,e];omega
   · rw [if_neg e,hf k G F];by_cases e2:k<i
     · rw [if_pos e2,if_pos Oa]
     · rw [if_neg e2,if_neg Oa]
 refine hxt<|ztx<|ztx<|zbh<|htn<|hsq<|hrz ?_
 refine zla (xal (cs:= [_]) Zjx D) ?_;rintro _ w ⟨g3,rfl,D⟩
 refine zln<|zh<|htn<|hsq<|hsq<|hrz ?_
 refine(zP)<|zlc (xc0 Zdx) (Zaw (u:=u) (pv:=pv) (ln:=ln) (pt:=pt) (cnt:=cnt) w (hV.below D.below) Oa (fun k G F=>by have Z:=(U.2.2 k G F).2.2.eq;omega) (fun k G F=>by have Z:=U.2.2 k G F;exact⟨Z.1,Z.2.1⟩)) ?_;rintro xi w ⟨_,Y,qV,qI,qF,qB,rfl,qQ,xg,yY,xf,qW,J⟩
 replace D:=(D.comp J).n6;clear J
 have yf:=fun k (G:0<=k) (F:k<Y)=>D.db 5 rfl G F
 have al:∀k,0<=k->k<p.m->W k=Zo u pt cnt k-p.D k:=fun k G F=>by rw [hf k G F,if_pos Oa]
 have ed:=fun k G F=>(yf k G F).n0
 have q9:=RS U qQ ed
 have ka:=RT hu xg U qQ
 refine zlc (xc0 Zly) (ZgS (u:=Y) (pv:=qV) (ln:=qI) (pt:=qF) (cnt:=qB) w (⟨(D.c7 4 rfl),fun k G F=>D.fq 5 rfl G F,fun k G F=>D.gb 5 rfl G F⟩:VAt _ xi Y qV qI qF qB)) ?_;rintro _ w ⟨g4,rfl,J⟩
 replace D:=(D.comp J).n7;clear J
 refine zln<|zh<|htn<|hbk ?_
 replace D:=D.cg 2 107 (Zd (fun _=>Og) (fun _=>0))
 replace D:=D.fa 3 (fun _=>Og) (fun _=>p.m) (fun _ _=>0)
 refine Znj (St:=TSt) (X:=BX) (Tt:=Unit) (fun s=> [.blk g1 [vL,vD,.int Oh p.b8,.int Oh p.bo],.blk g2 [ql],.own ql 1 3 qd (ints s.M),.blk g3 [s.vO],.own s.vO 2 107 s.n (Zd s.vv s.C),.sem (Frame.rows 3 s.n s.vv (fun _=>p.m) s.P)]) (fun t=> []) (fun _=> .ret) (⟨[],W,Og,0,fun _=> Og,fun _ _=>0,fun _=>0⟩:TSt) (fun x M es=>M= [(1,vV),(2,Oq g1),(4,Og),(5,.int Oh 0),(6,Oq g2),(27,.int Oh qd),(28,.int Oh i),(29,B (i<qd)),(9,Oq g3),(43,vV),(44,xi),(45,.func (.func 195) #[] #[Oq g4]),(46,x.v),(10,x.v)]/\es= [.own x.v 1 3 x.n (ints x.f)]) (Zjb (gq:=g4) (fun s=>s.h) (TInv p (lst p.m W)) (⟨[],W,Og,0,fun _=> Og,fun _ _=>0,fun _=>0⟩:TSt) rfl ⟨rfl,slh_nil,fun k G F=>by have Z:=al k G F;have h8:=ar k G F;have h7:=Yv U.2.2 hu (Int.le_refl _) G F;have h6:=(Wt U.1 G F).1;have h5:=U.2.1;show 0<=W k/\W k<=_;omega,by simp,fun k G F=>by(have F:k<0:=F);omega⟩ w0 qW yf (fun k G F=>by have:=(q9 k G F).1;omega) (fun k G F=>by have:=xf k G F;omega)) (D.pk [0,2,1,3,7,8,6,4,5]) Zlf (fun _=>rfl) (fun _=> .inl rfl) ?_ ?_ ?_ ?_
 ·
  intro lq s x rest w qE xb ao D
  refine hrz ?_
  refine(zP)<|zln<|zh<|Zfq ⟨rfl,rfl⟩ D
 ·
  rintro lq s x _ _ rest w qE ⟨rfl,rfl⟩ xb ao D
  obtain⟨ax,V,xV,i,i0,i1,am,an⟩:=qE
  obtain⟨af,aa,ae,ah,ag⟩:=ax
  have ap:=fun k (G:0<=k) (F:k<s.n)=>D.db 5 rfl G F
  obtain⟨ac,ab⟩:=q9 i i0 i1
  rw [<-am] at ac
  rw [<-an] at ab
  have ak:=aa.n0
  refine hbk<|hsq<|hsq<|hrz ?_
  refine(zP)<|(zV (xln Zb V))<|(zP)<|zln<|zh<|htn<|hbk<|hlp (fun mm M w=>∃(O:Oe) (I:Oe) (j:Int),mm=((x.n-j).toNat)/\(0<=j)/\(j<=x.n)/\(∀k,0<=k->k<p.m->O k=if k<j then x.f k-min (x.f k) (s.M k) else x.f k)/\(∀k,0<=k->k<p.m->I k=if k<j then s.M k-min (x.f k) (s.M k) else s.M k)/\M= [(4,Og),(5,.int Oh 0),(6,Oq g2),(9,Oq g3),(10,x.v),(48,.int Oh x.n),(49,.int Oh j)]/\Sat w0 w [.blk g1 [vL,vD,.int Oh p.b8,.int Oh p.bo],.blk g2 [ql],.own ql 1 3 qd (ints I),.blk g3 [s.vO],.own s.vO 2 107 s.n (Zd s.vv s.C),.sem (Frame.rows 3 s.n s.vv (fun _=>p.m) s.P),.blk g4 [xi],.own xi 2 107 Y (Zd qV qB),.sem (Frame.rows 3 Y qV qI qF),.sem xb,.own x.v 1 3 x.n (ints O)]) ⟨x.f,s.M,0,rfl,Oa,Oa,?_,?_,rfl,D⟩ ?_
  ·
   intro k G F;rw [if_neg Oa]
  ·
   intro k G F;rw [if_neg Oa]
  clear D w
  rintro mm M w ⟨O,I,j,rfl,j0,j1,ad,bE,rfl,D⟩
  refine hsq<|hrz ?_
  refine(zP)<|zln<|zh<|htn<|hsq ?_
  refine Xq ?_ ?_<;>intro hc
  ·
   refine hsk<|htn<|hsq<|hbk<|hsq<|hrz ?_
   refine zlv xmv ?_
   have ay:=ab j j0 Oa
   have a8:=ae j j0 Oa
   have eu:=ad j j0 Oa
   have et:=bE j j0 Oa
   rw [if_neg Oa] at eu et
   refine(zP)<|zln<|zh<|htn<|hsq ?_
   refine hdst [0,1,2,3,4,5,6,7,8,9,10] [0,1,2,3,4,5,6,7,8,9,10] 1000 mx_ D ?_;clear D;intro w D
   refine(zDw 0 xmv)<|(zDw 1 xmv)<|(zDw 2 (xix (kk:=j) Zb V))<|(zDl 3 (fun w D=>(xlr (u:= .int Oh (O j)) pl_3 (D.c7 10 rfl))))<|(zDl 4 (fun w D=>(xlb 1 pl_22 D)))<|(zDw 5 xmv)<|(zDw 6 (xix (kk:=j) Zb qf))<|(zDl 7 (fun w D=>(xlr (u:= .int Oh (I j)) pl_3 (D.c7 2 rfl))))<|(zDw 8 (U9 (r:=(min (O j) (I j)))))<|(zDw 9 xas)<|zdd<|zh<|htn<|hsq<|hrz ?_
   refine(Om)<|(zV (xix (kk:=j) Zb V))<|(zV (xlr (u:= .int Oh (O j)) pl_3 (D.c7 10 rfl)))<|(zP)<|(zV (Zw (r:=O j-(min (O j) (I j)))))<|(zV (xix (kk:=j) Zb V))<|zle (xso 10 pl_3 D (Zy _ _ _)) ?_;clear D;rintro w D
   refine zln<|zh<|htn<|hrz ?_
   refine(zV (xlb 1 pl_22 D))<|(zP)<|(zV (xix (kk:=j) Zb qf))<|(zV (xlr (u:= .int Oh (I j)) pl_3 (D.c7 2 rfl)))<|(zP)<|(zV (Zw (r:=I j-(min (O j) (I j)))))<|(zV (xix (kk:=j) Zb qf))<|zle (xso 2 pl_3 D (Zy _ _ _)) ?_;clear D;rintro w D
   refine zln<|zh<|zbn<|htn<|hrz ?_
   refine(zV (Zg (r:=j+1)))<|(zP)<|zln<|zh<|hlq ⟨(upd O j (O j-(min (O j) (I j)))),(upd I j (I j-(min (O j) (I j)))),j+1,rfl,Oa,Oa,?_,?_,rfl,D⟩
   ·
    intro k G F;unfold upd;by_cases e:k=j
    · rw [if_pos e,if_pos Oa,e];omega
    · rw [if_neg e,ad k G F];by_cases e2:k<j
      · rw [if_pos e2,if_pos Oa]
      · rw [if_neg e2,if_neg Oa]
   ·
    intro k G F;unfold upd;by_cases e:k=j
    · rw [if_pos e,if_pos Oa,e];omega
    · rw [if_neg e,bE k G F];by_cases e2:k<j
      · rw [if_pos e2,if_pos Oa]
      · rw [if_neg e2,if_neg Oa]
  refine hxt<|ztx<|ztx<|zbh<|htn<|hsq<|hrz ?_
  refine(zP)<|zlc (xc0 Vd) (Zi6 (n:=x.n) (f:=O) w (D.c7 10 rfl)) ?_;rintro _ w ⟨rfl,J⟩
  replace D:=D.cmp J;clear J
  refine zln<|zh<|htn ?_
  refine Xq ?_ ?_<;>intro hc
  ·
   refine hrz ?_
   refine(zV (xlb 3 pl_60 D))<|(zP)<|zlv (xany (v:= .agg #[x.v,.int Oh 1]) (hr:=by have hz:=V;revert hz;generalize x.v=z;rintro⟨_,_,_,_,rfl,_⟩;show _=_;kernel_rfl)) ?_
   refine zla (xli (n:=1) (len:=1) (pv:= [(0,.agg #[x.v,.int Oh 1])]) (cs:= [x.v,.int Oh 1]) (c:=Zd (fun _=>x.v) (fun _=>1)) Z4 YA D (hf:=by have hz:=V;revert hz;generalize x.v=z;rintro⟨_,_,_,_,rfl,_⟩;show _=_;kernel_rfl)) ?_;rintro v1 w ⟨D,az⟩
   refine zla (xap 4 (r:=s.n+1) Z4 YA D (D.c7 11 rfl) (Ym _ _ _ _ _) (h1:=fun k _ _=>ZK (fun _=>V.one) k)) ?_;rintro v2 w ⟨D,aj⟩
   replace D:=Sat.merge (l1:= [_,_,_,_,_]) (l2:= [_,_,_,_]) (l3:= [_]) D Oa
   have qG:=fun k (G:0<=k) (F:k<s.n+1)=>D.db 5 rfl G F
   refine zle (xsb 3 pl_60 D (hv:=aj.one)) ?_;clear D;rintro w D
   refine zln<|zh<|zbn ?_
   rw [ac,R6] at D
   refine Zch ⟨s.h++ [lst x.n x.f],I,v2,s.n+1,gsn s.vv s.n x.v,gsn s.P s.n O,(snoc s.C s.n 1)⟩ ⟨rfl,(by rw [ac];exact TInv.yes (a2:=O) af ak (fun k G F=>(ad k G F).trans (if_pos Oa)) (fun k G F=>(bE k G F).trans (if_pos Oa)) (by obtain⟨k,G,F,k2⟩:=hc;exact⟨k,G,Oa,k2⟩) (fun k G F=>Zp F) (Zq Oa) (fun k G F=>Zl F) (Zk Oa)),aj,(fun k G F=>by have Z:=ae k G F;have h8:=ab k G F;have h7:=bE k G F;rw [if_pos Oa] at h7;show 0<=I k/\I k<=_;omega),by(show s.n+1<=((s.h++ [lst x.n x.f]).length:Int));rw [List.length_append];simp;omega,(ZdZ ag)⟩ (D.pk [0,1,2,3,4,5,6,7,8,9])
  refine hsk<|zbn<|Zch ⟨s.h++ [lst x.n x.f],I,s.vO,s.n,s.vv,s.P,s.C⟩ ⟨rfl,(by rw [ac];exact TInv.no (a2:=O) af (fun k G F=>(ad k G F).trans (if_pos Oa)) (fun k G F=>(bE k G F).trans (if_pos Oa)) (fun⟨k,G,F,k2⟩=>hc ⟨k,G,Oa,k2⟩)),aa,(fun k G F=>by have Z:=ae k G F;have h8:=ab k G F;have h7:=bE k G F;rw [if_pos Oa] at h7;show 0<=I k/\I k<=_;omega),by(show s.n<=((s.h++ [lst x.n x.f]).length:Int));rw [List.length_append];simp;omega,ag⟩ (D.pk [0,1,2,3,4,5,6,7,8,9])
 ·
  intro Dk s rest w qP D
  obtain⟨⟨af,aa,ae,ah,ag⟩,hh⟩:=qP
  have ap:=fun k (G:0<=k) (F:k<s.n)=>D.db 5 rfl G F
  have ak:=aa.n0
  have gz:s.n<=1000000:=by
    have Z:=Tn (ln:=qI) (pt:=qF) (u:=Y) (cnt:=qB) xg (fun k G F=>by have:=xf k G F;omega) (Y-1-(-1)).toNat Oa
    rw [hh] at ah
    unfold dwn at ah
    rw [show(Y-(Y-1-(-1)).toNat).toNat=0 by omega] at Z
    simp only [psum] at Z
    omega
  refine zbn<|htn<|hsq<|hrz ?_
  refine(zV (xlb 3 pl_60 D))<|zlc (xc0 Zdx) (Zaw (u:=s.n) (pv:=s.vv) (ln:=(fun _=>p.m)) (pt:=s.P) (cnt:=s.C) w (⟨(D.c7 4 rfl),fun k G F=>D.fq 5 rfl G F,fun k G F=>D.gb 5 rfl G F⟩:VAt _ s.vO s.n s.vv (fun _=>p.m) s.P s.C) Oa (fun k G F=>Oa) (fun k G F=>by have Z:=ag k G F;omega)) ?_;rintro jg w ⟨_,bT,jq,dJ,eD,eI,rfl,cr,gh,gd,cu,b9,J⟩
  replace D:=(D.comp J).n13;clear J
  have fQ:=fun k (G:0<=k) (F:k<bT)=>D.db 12 rfl G F
  refine(Om)<|zln<|zh<|htn<|hrt<|Zci 10 D fun w D=>zf2 ⟨_,rfl,?_⟩
  have aq:lst p.m W=lst p.m (fun j=>Zo u pt cnt j-p.D j):=Z5 fun k G F=>al k G F
  have aw:NormR (Wn (lst p.m fun j=>Zo u pt cnt j-p.D j) (UA (plL Y qI qF qB))).2 (plL bT dJ eD eI):=by
    rw [<-Kq _ _ _ xg,<-hh,<-aq,<-af];exact cr
  exact⟨_,_,_,_,_,_,0,rfl,.inr (.inr ⟨U,ar,rfl,_,qQ,aw⟩),fun k G F=>by have:=cu k G F;omega,Oa,b9,D.pk [11,12]⟩
 ·
  intro Dk t rest w qP D
  exact qP.elim
end Go.Proofs.YtkichmnjjblodaaGreat
namespace Go.Proofs.Gw
open Go Go.RowKit
section
variable {P:Program} {L:List (Nat×Value)} {w w0:World} {o:Oper} {x y z:Operand} {T T':TypeId} {l:List Ent} {E:TypeId}
theorem Ta{n:Int}{D O J:Value}{b:Nat}(ho:o.op= .call {callee:= .builtin .append,args:= #[x,y],argTypes:= #[T,T']})(ht:ZJ P T=some (E,2))(hk:P.underlying T'=some (.int .i64))(he:ZV P E=some (D,2,b))(I:D.cells= #[O,J])(af:1<=b)
   (hx:evL L x=some Og) (hy:evL L y=some (.int Oh n)) (h1:1<=n) (hb:b*n<=140737488355328) (hS:Sat w0 w l):
   ∃u w',Runs P L w o (.value u) w'/\Sat w0 w' (l++ [.own u 2 E n (fun k=>if k%2=0 then O else J)])/\Slh u n:=by
 obtain⟨V,_⟩:=Z8 ht
 obtain⟨i,hi,U,W,G⟩:=XJ he
 have ad:n<=b*n:=by
   have:=Int.mul_le_mul_of_nonneg_right (show(1:Int)<=b by omega) (show 0<=n by omega)
   omega
 have hw:IntKind.i64.wrap n=n:=by rw [IntKind.wrap_i64];omega
 have ac:¬(281474976710656<n*(i.bytes:Int)):=by rw [G,Int.mul_comm];omega
 have Y:¬n<0:=Oa
 have ae:((n.toNat*i.bytes:Nat):Int)=b*n:=by rw [Int.natCast_mul,G,Int.toNat_of_nonneg Oa,Int.mul_comm]
 have cM:¬(281474976710656<Builtin.nextslicecap n.toNat 0*i.bytes):=by rw [nextslicecap_zero Oa];omega
 have ab:¬(9223372036854775807<(n.toNat:Int)):=Oa
 have X:¬n.toNat=0:=Oa
 have d7:¬n.toNat*i.size=0:=by rw [W];omega
 have hr:∀ty,(Builtin.append_ #[T,T'] ty #[Og,.int Oh n]).run P w= .ok (.slice (some ⟨w.heap.size,0,none⟩) n.toNat (grownCap w n.toNat 0 E)) (w.drew.alloc (.cells (Builtin.zeroCells D.cells n.toNat++Builtin.zeroCells D.cells (grownCap w n.toNat 0 E-n.toNat)) E)):=fun ty=>by
   simp [Builtin.append_,run_underlying V,run_underlying hk,sizeOf,typeInfo,zeroValue,hi,U,asInt,asIntOf,hw,Y,ac,X,cM,ab,Question.forced,newRow,grownCap,Builtin.firstCells,d7]
   rw [if_neg Oa,if_neg Oa]
 have aa:=grownCap_ge w n.toNat 0 E
 have Z:=grownCap_le_maxLen w n.toNat 0 E (by unfold maxLen;omega)
 have hE:(Ent.own (.slice (some ⟨w.heap.size,0,none⟩) n.toNat (grownCap w n.toNat 0 E)) 2 E n (fun k=>if k%2=0 then O else J)).holds (w.drew.alloc (.cells (Builtin.zeroCells D.cells n.toNat++Builtin.zeroCells D.cells (grownCap w n.toNat 0 E-n.toNat)) E)):=by
   refine⟨by omega,Oa,.inr ⟨_,_,_,rfl,by have:=heap_alloc_new w.drew (.cells (Builtin.zeroCells D.cells n.toNat++Builtin.zeroCells D.cells (grownCap w n.toNat 0 E-n.toNat)) E);simpa using this,aa,Z,?_,fun k hk=> ?_⟩⟩
   · simp [Builtin.zeroCells,I];omega
   · have F:k<n.toNat*2:=Oa
     rw [Array.getElem?_append_left (by simp [Builtin.zeroCells,I];omega)]
     rcases Nat.mod_two_eq_zero_or_one k with hm|hm
     · simp [Builtin.zeroCells,I,F,hm];intro hh;omega
     · simp [Builtin.zeroCells,I,F,hm];intro hh;omega
 refine⟨_,_,fun ρ h=> ?_,hS.draw.alloc _ hE (fun g hg=>by simp [Ent.has,Value.ownBlock] at hg;simp [hg]),hE.row.cf⟩
 simp [execOp,ho,resolve,invoke,builtin,h _ _ hx,h _ _ hy,hr]
end
theorem U6(p q:Int->Value)(c d:Oe)(n:Int):cat (n*2) (Zd p c) (Zd q d)=Zd (cat n p q) (cat n c d):=by
 funext k
 unfold cat Zd
 by_cases h:k<n*2
 · have D:k/2<n:=Oa
   simp only [if_pos h,if_pos D]
 · have D:¬k/2<n:=Oa
   have G:(k-n*2)/2=k/2-n:=Oa
   have F:(k-n*2)%2=k%2:=Oa
   simp only [if_neg h,if_neg D,G,F]
end Go.Proofs.Gw
namespace Go.Proofs.YtkichmnjjblodaaGreat
open Go Go.RowKit Go.Proofs.Gw
theorem ZfQ:ZV Oj 32=some (.agg #[Og,Og,.int Oh 0,.int Oh 0],4,64):=Ob
def ZL(p:Prob)(f:Oe):Oe:=fun k=>if 0<=k/\k<p.m then max 0 (p.D k-f k) else 0
theorem R1{p:Prob}(D:p.Ok){f:Oe}(hf:∀k,0<=k->k<p.m->0<=f k):∀k,-9223372036854775808<=ZL p f k/\ZL p f k<=9223372036854775807:=fun k=>by
 unfold ZL
 by_cases h:0<=k/\k<p.m
 · rw [if_pos h];have:=Wt D h.1 h.2;have:=hf k h.1 h.2;omega
 · rw [if_neg h];omega
structure NUt (w:World) (v:Value) (n:Int) (vv:Int->Value) (ln:Oe) (pvs:Int->Int->Value) (cns:Of):Prop where
  row:Row w v 1 n vv
  p:∀i,0<=i->i<n->Row w (vv i) 2 (ln i) (Zd (pvs i) (cns i))
  one:∀i,0<=i->i<n->∀k,0<=k->k<ln i->(pvs i k).oneCell'=true
theorem UW{pv:Int->Value}{cnt:Oe}{n:Int}(h:∀k,0<=k->k<n->(pv k).oneCell'=true):∀k,0<=k->k<n*2->(Zd pv cnt k).oneCell'=true:=fun k F D=>by
 unfold Zd
 split
 · exact h _ Oa Oa
 · rfl
theorem NUt.below{w w':World}{v:Value}{n:Int}{vv:Int->Value}{ln:Oe}{D:Int->Int->Value}{cns:Of}(h:NUt w v n vv ln D cns)(F:Below w.heap.size w w'):NUt w' v n vv ln D cns:=⟨h.row.below F,fun i a b=>(h.p i a b).below F,h.one⟩
def Zar(ln:Oe)(f:Int->Int->Value):Nat->Int->Value
  |0=>fun _=>undef
  |k+1=>cat (tot ln k) (Zar ln f k) (f k)
theorem catG_next(ln:Oe)(f:Int->Int->Value){i:Int}(h:0<=i):Zar ln f (i+1).toNat=cat (tot ln i.toNat) (Zar ln f i.toNat) (f i):=by
 rw [show(i+1).toNat=i.toNat+1 by omega,Zar,Int.toNat_of_nonneg h]
theorem Zov{w:World}{v a b:Value}{n m:Int}{pa pb:Int->Value}{ca cb:Oe}(h:Row w v 1 2 (Yh a b))(O:Row w a 2 n (Zd pa ca))(J:Row w b 2 m (Zd pb cb))(F:∀k,0<=k->k<n->(pa k).oneCell'=true)(D:∀k,0<=k->k<m->(pb k).oneCell'=true):NUt w v 2 (Yh a b) (Yh n m) (Yh pa pb) (Yh ca cb):=
 ⟨h, fun i I G=>by
   by_cases e:i=0
   · subst e;exact O
   · obtain rfl:i=1:=Oa
     exact J,fun i I G=>by
   by_cases e:i=0
   · subst e;exact F
   · obtain rfl:i=1:=Oa
     exact D⟩
theorem ZgY{vL vD:Value}{p:Prob}{vA:Value}{f:Oe}(w0:World)(h:PAt w0 vL vD p)(G:p.Ok)(hA:Row w0 vA 1 p.m (ints f))(aa:∀k,0<=k->k<p.m->0<=f k/\f k<=2000000000):
   Calls Oj 128 [.agg #[vL,vD,.int Oh p.b8,.int Oh p.bo],vA].toArray w0 fun e w=>∃v,e= .returned v/\∃I J,v= .agg #[I,J,.int Oh p.b8,.int Oh p.bo]/\Slh I p.m/\Slh J p.d/\Sat w0 w [.own I 1 3 p.m (ints p.L),.own J 1 3 p.d (ints (ZL p f))]:=by
 obtain⟨hm,ac,hd,hd1,hs,hk⟩:=h.Oo
 have yH:=G.m1;have qH:=G.m2;have ab:=G.d
 refine zenG Tryz.func128 Tryz.ntmps128 fun w D=> ?_
 refine zsr<|zla (xbx (cs:= [_,_,_,_]) D) ?_;rintro _ w ⟨g1,rfl,D⟩
 refine zla (xal (cs:= [_,_,_,_]) ZfQ D) ?_;rintro _ w ⟨g2,rfl,D⟩
 refine zx7<|zdst [0,1] [1] 7 mx_ D ?_;clear D;intro w D
 refine(zDw 0 (xfb 0 fd_32_0))<|zdl 1 (fun w D=>(xlb 0 pl_22 D)) ?_
 refine(zDw 3 (xfb 1 fd_32_1))<|zdl 4 (fun w D=>(xlb 0 pl_22 D)) ?_
 refine zdc 2 (xc0 cl_65) (c_clone (n:=p.m) (f:=p.L) w (h.L.below D.below) Oa) ?_;rintro U w ⟨_,rfl,X,F⟩
 replace D:=(D.comp F).n3;clear F
 refine⟨⟨fun _=>D.pk [0,1],D.pk [1]⟩,?_⟩
 refine(zDw 6 (xfb 0 fd_32_0))<|zdc 5 (xc0 cl_65) (c_clone (n:=p.d) (f:=p.D) w (h.D.below D.below) Oa) ?_;rintro O w ⟨_,rfl,V,F⟩
 replace D:=(D.comp F).n4;clear F
 refine⟨⟨fun _=>D.pk [0,1],D.pk [1]⟩,?_⟩
 refine zde 7 (xsb 0 pl_22 D (hv:=X.one)) ?_;clear D;rintro w D
 refine⟨⟨fun h=>absurd h (by decide),D.pk [1]⟩,?_⟩
 refine(zDw 8 (xfb 1 fd_32_1))<|zde 9 (xsb 0 pl_22 D (hv:=V.one)) ?_;clear D;rintro w D
 refine⟨⟨fun h=>absurd h (by decide),D.pk [1]⟩,?_⟩
 refine zdd<|ztn<|zsq<|zsr ?_
 refine(zP)<|(zV (xln Zb hA.cf))<|(zP)<|zx6<|zlp (fun mm M w=>∃(g:Oe) (i:Int),mm=((p.m-i).toNat)/\(0<=i)/\(i<=p.m)/\(∀k,0<=k->k<p.m->g k=if k<i then max 0 (p.D k-f k) else p.D k)/\M= [(2,Oq g1),(4,Oq g2),(15,vA),(16,.int Oh p.m),(17,.int Oh i)]/\Sat w0 w [.blk g1 [U,O,.int Oh p.b8,.int Oh p.bo],.blk g2 [Og,Og,.int Oh 0,.int Oh 0],.own U 1 3 p.m (ints p.L),.own O 1 3 p.d (ints g)]) ⟨p.D,0,rfl,Oa,Oa,?_,rfl,D⟩ ?_
 ·
  intro k W Y;rw [if_neg Oa]
 clear D w
 rintro mm M w ⟨g,i,rfl,h0,h1,hg,rfl,D⟩
 refine zsr<|(zP)<|zx7<|Ze ?_ ?_<;>intro hc
 ·
  refine zx3<|(zP)<|(zV (xix (kk:=i) Zb hA.cf))<|zlv (xlr (u:= .int Oh (f i)) pl_3 (hA.below D.below)) ?_
  have af:=Wt G h0 (by omega:i<p.m)
  have ae:=aa i h0 Oa
  have Z:=hg i h0 Oa
  rw [if_neg Oa] at Z
  refine(Om)<|zlt<|zdst [0,1,2,3] [0,1,2] 12 mx_ D ?_;clear D;intro w D
  refine(zDw 0 (xfb 1 fd_32_1))<|(zDl 1 (fun w D=>(xlb 0 pl_22 D)))<|(zDw 2 xmv)<|(zDw 3 (xfb 1 fd_32_1))<|(zDl 4 (fun w D=>(xlb 0 pl_22 D)))<|(zDw 5 xmv)<|(zDw 6 (xix (kk:=i) Zb V))<|zdl 7 (fun w D=>(xlr (u:= .int Oh (g i)) pl_3 (D.c7 3 rfl))) ?_
  refine(zDw 8 xmv)<|(zDw 9 (Zw (r:=g i-(f i))))<|(zDw 10 (KE (r:=(max 0 (g i-(f i))))))<|(zDw 11 (xix (kk:=i) Zb V))<|zde 12 (xso 3 pl_3 D (Zy _ _ _)) ?_;clear D;rintro w D
  refine⟨⟨fun h=>absurd h (by decide),D.pk [0,1,2]⟩,?_⟩
  refine zdd<|zbn<|ztn<|zrg ?_
  refine(zV (Zg (r:=i+1)))<|(zP)<|zln<|zlq ⟨(upd g i (max 0 (g i-(f i)))),i+1,rfl,Oa,Oa,?_,rfl,D⟩
  ·
   intro k W Y;unfold upd;by_cases e:k=i
   · rw [if_pos e,if_pos Oa,e];omega
   · rw [if_neg e,hg k W Y];by_cases e2:k<i
     · rw [if_pos e2,if_pos Oa]
     · rw [if_neg e2,if_neg Oa]
 refine zx8<|(zV (xls 0 st_32 D))<|zle (xsw 1 st_32 D (hd:=(Za X.one (Za V.one (Za rfl (Za rfl Zh)))))) ?_;clear D;rintro w D
 refine zx1<|zfc 1 st_32 D ⟨_,rfl,?_⟩
 have ad:i=p.m:=Oa
 replace D:=D.gi 3 rfl (d:=ints (ZL p f)) (fun k W Y=>congrArg (Value.int .i64) (by rw [hg k W Oa,if_pos Oa];unfold ZL;rw [if_pos ⟨W,Oa⟩]))
 exact⟨_,_,rfl,X,V,D.pk [2,3]⟩
theorem Zlw:Zc Oj 170=true:=Ob
theorem TE:ZJ Oj 227=some (60,1):=Ob
theorem Zi2{n:Int}(w0:World)(I:0<=n)(h1:n<=100000000):
   Calls Oj 170 [Og,.int Oh n].toArray w0 fun e w=>∃v,e= .returned v/\∃r,v=r/\Slh r 0/\Sat w0 w [.own r 2 107 0 (Zd (fun _=>Og) (fun _=>0))]:=by
 refine zenG Tryz.func170 Tryz.ntmps170 fun w D=> ?_
 refine zsr<|(zP)<|zx5<|(zP)<|(zV (xkf Z7))<|zlt<|zcf<|zsk<|ztn<|zsq<|zsr ?_
 refine(Om)<|Rk rfl rfl rfl (WL rfl Z4 rfl) ?_
 refine(zP)<|(zV (xln Z4 slh_nil))<|(zV (Zw (r:=0)))<|(zV (Zw (r:=n)))<|(zP)<|zlz<|(Om)<|zlt<|Ze ?_ ?_<;>intro hc
 ·
  refine zrg<|(Om)<|Rk rfl rfl rfl (WL rfl Z4 rfl) ?_
  refine(zV (xany (v:=Og)))<|(zP)<|KA rfl rfl rfl (Ta rfl Z4 Tryz.underlying3 YA rfl Oa rfl rfl Oa Oa D) ?_;rintro G w ⟨D,F⟩
  refine(zP)<|(zV (xln Z4 slh_nil))<|Rk rfl rfl rfl (Uo rfl Z4 rfl rfl F) ?_
  replace D:=D.cut 0 rfl (Zd (fun _=>Og) (fun _=>0))
  refine(zP)<|zlz<|(Om)<|zx1<|Oi ?_
  exact⟨_,rfl,(Zds F),D⟩
 refine ZM<|(Om)<|zx1<|Oi ?_
 exact⟨_,rfl,slh_nil,(D.sub .slnil).cg 2 107 (Zd (fun _=>Og) (fun _=>0))⟩
theorem ZeE{v:Value}{n:Int}{vv:Int->Value}{ln:Oe}{F:Int->Int->Value}{G:Of}(w0:World)(hM:NUt w0 v n vv ln F G)(ht:∀k,0<=k->k<=n->tot ln k.toNat<=10000000):
   Calls Oj 127 [v].toArray w0 fun e w=>∃v,e= .returned v/\∃r,v=r/\Slh r (tot ln n.toNat)/\Sat w0 w [.own r 2 107 (tot ln n.toNat) (Zd (Zar ln F n.toNat) (VE ln G n.toNat))]:=by
 have hn:=hM.row.cf.n0;have ag:=hM.row.cf.n1
 refine zenG Tryz.func127 Tryz.ntmps127 fun w D=> ?_
 refine zsr<|(zP)<|zlz<|(zP)<|zx5<|(zP)<|(zV (xln TE hM.row.cf))<|(zP)<|zx6<|zlp (fun U M w=>∃(s:Int) (i:Int),U=((n-i).toNat)/\(0<=i)/\(i<=n)/\(s=tot ln i.toNat)/\(0<=s)/\M= [(0,v),(2,Og),(3,.int Oh s),(9,v),(10,.int Oh n),(11,.int Oh i)]/\Sat w0 w []) ⟨0,0,rfl,Oa,Oa,?_,Oa,rfl,D⟩ ?_
 ·
  rfl
 clear D w
 rintro U M w ⟨s,i,rfl,I,h1,hs,af,rfl,D⟩
 refine zsr<|(zP)<|zx7<|Ze ?_ ?_<;>intro hc
 ·
  refine zx3<|(zV (xix (kk:=i) TE hM.row.cf))<|zlv (xlr (u:=(vv i)) pl_60 (hM.row.below D.below)) ?_
  have hl:=(hM.p i I Oa).cf.n0;have J:=ht (i+1) Oa Oa;rw [XC ln I] at J
  refine(zP)<|zlz<|(Om)<|(zV (xln Z4 (hM.p i Oa Oa).cf))<|(zV (Zg (r:=s+(ln i))))<|(zP)<|zlz<|(zP)<|(zV (xkf Z7))<|zlt<|zcf<|zsk<|zbn<|ztn<|zrg ?_
  refine(zV (Zg (r:=i+1)))<|(zP)<|zln<|zlq ⟨s+(ln i),i+1,rfl,Oa,Oa,?_,Oa,rfl,D⟩
  ·
   rw [XC ln I,hs]
 refine zx8<|zlv xmv ?_
 have ae:i=n:=Oa
 have ad:=ht n hn (Int.le_refl _);rw [<-ae] at ad
 refine zlc (xc0 Zlw) (Zi2 (n:=s) w Oa Oa) ?_;rintro aa w ⟨_,rfl,qb,W⟩
 replace D:=(D.comp W).n1;clear W
 refine(zP)<|zx5<|(zP)<|(zV (xln TE hM.row.cf))<|(zP)<|zx6<|zlp (fun U M w=>∃(m:Int) (gq:Int->Value) (X:Oe) (j:Int) (vb:Value),U=((n-j).toNat)/\(0<=j)/\(j<=n)/\(m=tot ln j.toNat)/\(0<=m)/\(∀k,0<=k->k<m->gq k=Zar ln F j.toNat k)/\(∀k,0<=k->k<m->X k=VE ln G j.toNat k)/\(Slh vb m)/\M= [(2,Og),(6,vb),(25,v),(26,.int Oh n),(27,.int Oh j)]/\Sat w0 w [.own vb 2 107 m (Zd gq X)]) ⟨0,(fun _=>Og),(fun _=>0),0,aa,rfl,Oa,Oa,?_,Oa,?_,?_,?_,rfl,D⟩ ?_
 ·
  rfl
 ·
  intro k O Y;omega
 ·
  intro k O Y;omega
 ·
  exact qb
 clear D w
 rintro U M w ⟨m,gq,X,j,vb,rfl,I,h1,Z,ah,hg,V,ab,rfl,D⟩
 refine zsr<|(zP)<|zx7<|Ze ?_ ?_<;>intro hc
 ·
  refine zx3<|(zV (xix (kk:=j) TE hM.row.cf))<|zlv (xlr (u:=(vv j)) pl_60 (hM.row.below D.below)) ?_
  have hl:=(hM.p j I Oa).cf.n0;have J:=ht (j+1) Oa Oa;rw [XC ln I] at J
  refine(zP)<|zlt<|zrg<|(Om)<|zla (xap 0 (r:=m+(ln j)) (f:=Zd (cat m gq (F j)) (cat m X (G j))) Z4 YA D ((hM.p j Oa Oa).below D.below) (by exact U6 _ _ _ _ _) (h1:=(UW (hM.one j Oa Oa)))) ?_;rintro v1 w ⟨D,ac⟩
  refine(zP)<|zx10<|(zV (Zg (r:=j+1)))<|(zP)<|zln<|zlq ⟨m+(ln j),(cat m gq (F j)),(cat m X (G j)),j+1,v1,rfl,Oa,Oa,?_,Oa,?_,?_,?_,rfl,D⟩
  ·
   rw [XC ln I,Z]
  ·
   intro k O Y;rw [catG_next ln F I,<-Z];unfold cat;by_cases e:k<m
   · rw [if_pos e,if_pos e];exact hg k O e
   · rw [if_neg e,if_neg e]
  ·
   intro k O Y;rw [catN_next ln G I,<-Z];unfold cat;by_cases e:k<m
   · rw [if_pos e,if_pos e];exact V k O e
   · rw [if_neg e,if_neg e]
  ·
   exact ac
 refine zx8<|(Om)<|zx1<|Oi ?_
 obtain rfl:j=n:=Oa
 subst Z
 replace D:=D.gi 0 rfl (d:=Zd (Zar ln F j.toNat) (VE ln G j.toNat)) (fun k O Y=>by unfold Zd;rw [hg _ Oa Oa,V _ Oa Oa])
 exact⟨_,rfl,ab,D⟩
theorem Zlg:Zc Oj 193=true:=Ob
theorem Un:Zv Oj 141 0=some 0:=Ob
def ZaI(p:Prob)(u:Int)(ml:Oe)(mf:Of)(s:So):Prop:=Yj s/\s.n=u/\u<=60/\(∀k,0<=k->k<u->ZU p (ml k) (mf k)/\(s.X k).tdiv s.den<=1000)/\∀j,0<=j->j<p.m->p.D j*s.den<=Zo u mf s.X j
theorem Zd7{m u:Int}{X:Oe}{mf:Of}(h:∀k,0<=k->k<u->(∀j,0<=j->j<m->0<=mf k j/\mf k j<=1000)/\0<=X k/\X k<=1073741824):∀{i:Int},0<=i->i<=u->∀{j:Int},0<=j->j<m->0<=Zo i mf X j/\Zo i mf X j<=1073741824000*i:=by
 intro i I
 obtain⟨n,rfl⟩:=Int.eq_ofNat_of_zero_le I
 induction n with
 |zero=>intro _ j _ _;exact⟨Int.le_refl _,by show(0:Int)<=_;omega⟩
 | succ n ih=>
   intro hi j F D
   have h1:=ih Oa Oa F D
   obtain⟨V,U,O⟩:=h n Oa Oa
   have G:=V j F D
   have W:=Xn G.1 G.2 U O
   have J:=YP (pt:=mf) (cnt:=X) (i:=(n:Int)) (j:=j) Oa
   rw [show((n+1:Nat):Int)=(n:Int)+1 by omega,J];omega
theorem Tx{a d:Int}(h:0<=a)(hd:1<=d):0<=a.tmod d/\a.tmod d<d:=by
 rw [Int.tmod_eq_emod_of_nonneg h]
 exact⟨Int.emod_nonneg _ Oa,Int.emod_lt_of_pos _ Oa⟩
theorem YW{p:Prob}{n:Int}{f:Oe}(h:ZU p n f):n=p.m/\∀j,0<=j->j<p.m->0<=f j/\f j<=1000:=by
 have G:=h.1.eq
 refine⟨G,fun j D F=> ?_⟩
 have h1:=h.1.all j D F
 have J:=h.2 j D Oa
 have I:=Wt h.1.ok D F
 omega
theorem ZeB{vL vD:Value}{p:Prob}{vM:Value}{u:Int}{mv:Int->Value}{ml:Oe}{mf:Of}{Y vY:Value}{s:So}(w0:World)(h:PAt w0 vL vD p)(aa:p.Ok)(hM:MAt w0 vM u mv ml mf)(X:Row w0 Y 1 s.n (ints s.X))(hY:Row w0 vY 1 s.m (ints s.Y))(ya:s.n<=1000):
   Calls Oj 166 [.agg #[vL,vD,.int Oh p.b8,.int Oh p.bo],.agg #[vM,Y,vY,.int Oh s.val,.int Oh s.den]].toArray w0 fun e w=>∃v,e= .returned v/\v=B (ZaI p u ml mf s)/\Sat w0 w []:=by
 obtain⟨hm,ar,hd,hd1,hs,hk⟩:=h.Oo
 have hu:=hM.row.cf.n0;have am:=hM.row.cf.n1;have hn:=X.cf.n0;have ap:=X.cf.n1
 refine zenG Tryz.func166 Tryz.ntmps166 fun w D=> ?_
 refine zsr<|zla (xbx (cs:= [_,_,_,_]) D) ?_;rintro _ w ⟨O,rfl,D⟩
 refine zla (xbx (cs:= [_,_,_,_,_]) D) ?_;rintro _ w ⟨g2,rfl,D⟩
 refine(zP)<|zlz<|(zV (xfb 1 fd_141_1))<|(zV (xlp 1 (ds:= [Y,vY,.int Oh s.val,.int Oh s.den]) ZN D))<|zla (xal (cs:= [_,_,_,_]) WM D) ?_;rintro _ w ⟨g3,rfl,D⟩
 refine zle (xsw 2 ZN D (hd:=(Za X.cf.one (Za hY.cf.one (Za rfl (Za rfl Zh)))))) ?_;clear D;rintro w D
 refine zx5<|(zV (xls 2 ZN D))<|zlc (xc0 Zlg) (Zem (s:=s) w (X.below D.below) (hY.below D.below) Oa) ?_;rintro _ w ⟨dD,dC,mr,rfl,yD,V⟩
 replace D:=D.cmp V;clear V
 refine(On)<|zla (xal (cs:= [_,_]) ZfR D) ?_;rintro _ w ⟨U,rfl,D⟩
 refine zle (xsw 3 TB D) ?_;clear D;rintro w D
 refine(zP)<|zlz<|(On)<|zlb 24 ?_ ?_<;>intro hc;rotate_left
 refine(zV (xfb 0 fd_139_0))<|(zV (xlb 2 pl_22 D))<|(zV (xln Zb X.cf))<|(zV (xfb 0 Un))<|(zV (xlb 1 Zs D))<|(zV (xln Zi hM.row.cf))<|(On)<|zlb 33 ?_ ?_<;>intro hc;rotate_left
 refine(zV (xfb 0 fd_139_0))<|(zV (xlb 2 pl_22 D))<|(zV (xln Zb X.cf))<|(Om)<|zlt<|Ze ?_ ?_<;>intro hc
 ·
  refine zsr<|(zP)<|zx14<|Oi ?_
  refine⟨false_B ?_,D.nl⟩
  rintro⟨O,g2,g3,U,g5⟩
  first
  |(rcases yD with⟨J,_⟩|⟨_,_,_,q4⟩;exact absurd O J;omega)
  |omega
  |(have F:=U k I Oa;first|exact absurd F.1 ‹_›|(have:=F.2;omega))
  |(have F:=g5 i G Oa;have W:=hf i G Oa;rw [show k=u by omega] at W;omega)
 refine ZM<|zlv (xfb 0 fd_32_0) ?_
 have ad:Yj s:=by rcases yD with⟨_,_,_,q4⟩|⟨J,_⟩;omega;exact J
 obtain⟨⟨d1,d2⟩,⟨d3,d4⟩,d5⟩:=id ad
 have yH:=aa.m1;have qH:=aa.m2;have ao:=aa.d
 refine(zV (xlb 0 pl_22 D))<|(zV (xln Zb h.L.cf))<|zla (xmk Zb Zm D) ?_;rintro v1 w ⟨D,Z⟩
 refine(zP)<|zx5<|(zV (xfb 0 Un))<|(zV (xlb 1 Zs D))<|(zV (xln Zi hM.row.cf))<|(zP)<|zx6<|zlp (fun mm M w=>∃(f:Oe) (k:Int),mm=((u-k).toNat)/\(0<=k)/\(k<=u)/\(∀i,0<=i->i<k->ZU p (ml i) (mf i)/\(s.X i).tdiv s.den<=1000)/\(∀j,0<=j->j<p.m->f j=Zo k mf s.X j)/\M= [(2,Oq O),(5,Oq g3),(8,v1),(44,vM),(45,.int Oh u),(46,.int Oh k)]/\Sat w0 w [.blk O [vL,vD,.int Oh p.b8,.int Oh p.bo],.blk g2 [vM,Y,vY,.int Oh s.val,.int Oh s.den],.blk g3 [Y,vY,.int Oh s.val,.int Oh s.den],.blk U [.int Oh dD,.int Oh dC],.own v1 1 3 p.m (ints f)]) ⟨(fun _=>0),0,rfl,Oa,Oa,?_,?_,rfl,D⟩ ?_
 ·
  intro i i0 i1;omega
 ·
  intro j _ _;rfl
 clear D w
 rintro mm M w ⟨f,k,rfl,I,au,qa,hf,rfl,D⟩
 refine zsr<|(zP)<|zx7<|Ze ?_ ?_<;>intro hc
 ·
  refine zx3<|(zP)<|(zV (xix (kk:=k) Zi hM.row.cf))<|zlv (xlr (u:=(mv k)) pl_22 (hM.row.below D.below)) ?_
  have mo:=d5 k I Oa
  have an:=YC (a:=s.X k) (d:=s.den) (A:=1073741824) Oa Oa
  refine(Om)<|zlt<|zsq<|zsq<|zdst [0,1,2,3,4] [0,1,2,3,4] 1000 mx_ D ?_;clear D;intro w D
  refine(zDl 0 (fun w D=>(xls 0 st_32 D)))<|(zDw 1 xmv)<|zdc 2 (xc0 Zf7) (Kp (p:=p) w (h.below D.below) ((hM.p k Oa Oa).below D.below)) ?_;rintro _ w ⟨rfl,V⟩
  replace D:=D.cmp V;clear V
  refine⟨⟨fun _=>D,D⟩,?_⟩
  refine(zDw 3 YH)<|(zDw 4 xmv)<|zdb 55 ?_ ?_<;>intro hc
  ·
   refine(zDo 5)<|(zDo 6)<|(zDo 7)<|(zDo 8)<|(zDo 9)<|(zDo 10)<|(zDo 11)<|(zDo 12)<|(zDo 13)<|(zDw 14 xpt)<|zdd<|ztn<|zct<|zsr ?_
   refine(zP)<|zlt<|zrt<|ztr<|zbr<|ztr<|ztr<|zbr<|ztr<|Oi ?_
   refine⟨false_B ?_,D.nl⟩
   rintro⟨O,g2,g3,U,g5⟩
   first
   |(rcases yD with⟨J,_⟩|⟨_,_,_,q4⟩;exact absurd O J;omega)
   |omega
   |(have F:=U k I Oa;first|exact absurd F.1 ‹_›|(have:=F.2;omega))
   |(have F:=g5 i G Oa;have W:=hf i G Oa;rw [show k=u by omega] at W;omega)
  refine(zDw 5 (xfb 0 fd_139_0))<|(zDl 6 (fun w D=>(xlb 2 pl_22 D)))<|(zDw 7 xmv)<|(zDw 8 (xix (kk:=k) Zb X.cf))<|(zDl 9 (fun w D=>(xlr (u:= .int Oh (s.X k)) pl_3 (X.below D.below))))<|(zDw 10 (xfb 3 fd_139_3))<|(zDl 11 (fun w D=>(xlb 2 pl_3 D)))<|(zDw 12 (VC (r:=(Int.tdiv (s.X k) s.den))))<|(zDw 13 Yu)<|(zDw 14 xpf)<|zdd<|ztn ?_
  refine Ze ?_ ?_<;>intro hc
  ·
   refine zsr<|(zP)<|zlt<|zrt<|ztr<|zbr<|ztr<|ztr<|zbr<|ztr<|Oi ?_
   refine⟨false_B ?_,D.nl⟩
   rintro⟨O,g2,g3,U,g5⟩
   first
   |(rcases yD with⟨J,_⟩|⟨_,_,_,q4⟩;exact absurd O J;omega)
   |omega
   |(have F:=U k I Oa;first|exact absurd F.1 ‹_›|(have:=F.2;omega))
   |(have F:=g5 i G Oa;have W:=hf i G Oa;rw [show k=u by omega] at W;omega)
  refine ZM<|zlv xmv ?_
  have af:ZU p (ml k) (mf k):=by first|assumption|exact Oc ‹_›
  have aj:=YW af
  have ai:=d5 k I Oa
  refine(zV (xln Zb (hM.p k Oa Oa).cf))<|(zP)<|zx6<|zlp (fun mm M w=>∃(f2:Oe) (j:Int),mm=((ml k-j).toNat)/\(0<=j)/\(j<=ml k)/\(∀q,0<=q->q<p.m->f2 q=(if q<j then Zo (k+1) mf s.X q else Zo k mf s.X q))/\M= [(2,Oq O),(5,Oq g3),(8,v1),(9,.int Oh k),(44,vM),(45,.int Oh u),(46,.int Oh k),(66,(mv k)),(67,.int Oh (ml k)),(68,.int Oh j)]/\Sat w0 w [.blk O [vL,vD,.int Oh p.b8,.int Oh p.bo],.blk g2 [vM,Y,vY,.int Oh s.val,.int Oh s.den],.blk g3 [Y,vY,.int Oh s.val,.int Oh s.den],.blk U [.int Oh dD,.int Oh dC],.own v1 1 3 p.m (ints f2)]) ⟨f,0,rfl,Oa,Oa,?_,rfl,D⟩ ?_
  ·
   intro q q0 J;rw [if_neg Oa];exact hf q q0 J
  clear D w
  rintro mm M w ⟨f2,j,rfl,ab,av,ac,rfl,D⟩
  refine zsr<|(zP)<|zx7<|Ze ?_ ?_<;>intro hc
  ·
   refine zx3<|(zP)<|(zV (xix (kk:=j) Zb (hM.p k Oa Oa).cf))<|zlv (xlr (u:= .int Oh ((mf k) j)) pl_3 ((hM.p k Oa Oa).below D.below)) ?_
   have ae:=aj.2 j ab Oa
   have al:=Xn ae.1 ae.2 ai.1 ai.2
   have aq:=Zd7 (m:=p.m) (u:=k) (fun i i0 i1=>⟨(YW (qa i i0 i1).1).2,d5 i i0 Oa⟩) I (Int.le_refl _) (j:=j) ab Oa
   have ak:=ac j ab Oa
   rw [if_neg Oa] at ak
   refine(Om)<|zlt<|zdst [0,1,2,3,4] [0,1,2,3] 13 mx_ D ?_;clear D;intro w D
   refine(zDw 0 xmv)<|(zDw 1 xmv)<|(zDw 2 (xix (kk:=j) Zb Z))<|zdl 3 (fun w D=>(xlr (u:= .int Oh (f2 j)) pl_3 (D.c7 4 rfl))) ?_
   refine(zDw 4 xmv)<|(zDw 5 (xfb 0 fd_139_0))<|(zDl 6 (fun w D=>(xlb 2 pl_22 D)))<|(zDw 7 xmv)<|(zDw 8 (xix (kk:=k) Zb X.cf))<|(zDl 9 (fun w D=>(xlr (u:= .int Oh (s.X k)) pl_3 (X.below D.below))))<|(zDw 10 (Z2 (r:=(((mf k) j)*(s.X k))) (e:=rfl)))<|(zDw 11 (Zg (r:=f2 j+(((mf k) j)*(s.X k)))))<|(zDw 12 (xix (kk:=j) Zb Z))<|zde 13 (xso 4 pl_3 D (Zy _ _ _)) ?_;clear D;rintro w D
   refine⟨⟨fun h=>absurd h (by decide),D.pk [0,1,2,3]⟩,?_⟩
   refine zdd<|zbn<|ztn<|zrg ?_
   refine(zV (Zg (r:=j+1)))<|(zP)<|zln<|zlq ⟨(upd f2 j (f2 j+(((mf k) j)*(s.X k)))),j+1,rfl,Oa,Oa,?_,rfl,D⟩
   ·
    intro q q0 J;unfold upd;by_cases e:q=j
    · rw [if_pos e,if_pos Oa,e,YP I];omega
    · rw [if_neg e,ac q q0 J];by_cases e2:q<j
      · rw [if_pos e2,if_pos Oa]
      · rw [if_neg e2,if_neg Oa]
  refine zx21<|(zV (Zg (r:=k+1)))<|(zP)<|zln<|zlq ⟨f2,k+1,rfl,Oa,Oa,?_,?_,rfl,D⟩
  ·
   intro i i0 i1;rcases Int.lt_or_eq_of_le (show i<=k by omega) with F|F
   · exact qa i i0 F
   · rw [F];exact⟨af,Oa⟩
  ·
   intro q q0 J;rw [ac q q0 J,if_pos Oa]
 refine zx18<|(zP)<|(zV (xln Zb Z))<|(zP)<|zx6<|zlp (fun mm M w=>∃(i:Int),mm=((p.m-i).toNat)/\(0<=i)/\(i<=p.m)/\(∀j,0<=j->j<i->p.D j*s.den<=f j)/\M= [(2,Oq O),(5,Oq g3),(88,v1),(89,.int Oh p.m),(90,.int Oh i)]/\Sat w0 w [.blk O [vL,vD,.int Oh p.b8,.int Oh p.bo],.blk g2 [vM,Y,vY,.int Oh s.val,.int Oh s.den],.blk g3 [Y,vY,.int Oh s.val,.int Oh s.den],.blk U [.int Oh dD,.int Oh dC],.own v1 1 3 p.m (ints f)]) ⟨0,rfl,Oa,Oa,?_,rfl,D⟩ ?_
 ·
  intro j j0 j1;omega
 clear D w
 rintro mm M w ⟨i,rfl,G,aw,ag,rfl,D⟩
 refine zsr<|(zP)<|zx7<|Ze ?_ ?_<;>intro hc
 ·
  refine zx3<|(zP)<|(zV (xix (kk:=i) Zb Z))<|zlv (xlr (u:= .int Oh (f i)) pl_3 (D.c7 4 rfl)) ?_
  have ah:=Wt aa G (by omega:i<p.m)
  have ax:=Xn ah.1 ah.2 (show 0<=s.den by omega) d2
  refine(Om)<|zx7<|zdst [0,1,2,3,4] [0,1,2,3,4] 1000 mx_ D ?_;clear D;intro w D
  refine(zDw 0 xmv)<|(zDw 1 (xfb 1 fd_32_1))<|(zDl 2 (fun w D=>(xlb 0 pl_22 D)))<|(zDw 3 xmv)<|(zDw 4 (xix (kk:=i) Zb h.D.cf))<|zdla 5 (fun w D=>(xlr (u:= .int Oh (p.D i)) pl_3 (h.D.below D.below))) ?_
  have ay:=h.iD i
  refine(zDw 6 (xfb 3 fd_139_3))<|(zDl 7 (fun w D=>(xlb 2 pl_3 D)))<|(zDw 8 (Z2 (r:=((p.D i)*s.den)) (e:=rfl)))<|(zDw 9 Z7)<|zdd<|ztn ?_
  refine Ze ?_ ?_<;>intro hc
  ·
   refine zsr<|(zP)<|zx2<|Oi ?_
   refine⟨false_B ?_,D.nl⟩
   rintro⟨O,g2,g3,U,g5⟩
   first
   |(rcases yD with⟨J,_⟩|⟨_,_,_,q4⟩;exact absurd O J;omega)
   |omega
   |(have F:=U k I Oa;first|exact absurd F.1 ‹_›|(have:=F.2;omega))
   |(have F:=g5 i G Oa;have W:=hf i G Oa;rw [show k=u by omega] at W;omega)
  refine zx4<|(zV (Zg (r:=i+1)))<|(zP)<|zln<|zlq ⟨i+1,rfl,Oa,Oa,?_,rfl,D⟩
  ·
   intro j j0 j1;rcases Int.lt_or_eq_of_le (show j<=i by omega) with F|F
   · exact ag j j0 F
   · rw [F];omega
 refine zx8<|(zP)<|zx1<|Oi ?_
 exact⟨ZT ⟨ad,Oa,Oa,fun k k0 k1=>qa k k0 Oa,fun j j0 j1=>by have F:=ag j j0 Oa;have W:=hf j j0 j1;rw [show k=u by omega] at W;omega⟩,D.nl⟩
 all_goals
  refine zOps ?_
  refine zlt<|zct<|zsr ?_
  refine zOps ?_
  refine zx14<|Oi ?_
  refine⟨false_B ?_,D.nl⟩
  rintro⟨O,g2,g3,U,g5⟩
  first
  |(rcases yD with⟨J,_⟩|⟨_,_,_,q4⟩;exact absurd O J;omega)
  |omega
  |(have F:=U k I Oa;first|exact absurd F.1 ‹_›|(have:=F.2;omega))
  |(have F:=g5 i G Oa;have W:=hf i G Oa;rw [show k=u by omega] at W;omega)
theorem ZlA:Zc Oj 166=true:=Ob
theorem Zlz:Zc Oj 167=true:=Ob
theorem Zfx (s:So) (ml:Oe) (mf:Of):∀n:Nat,∀k,0<=k->k<flN s n->∃q:Nat,q<n/\s.den<=s.X q/\flL s ml n k=ml q/\flG s mf n k=mf q/\flC s n k=(s.X q).tdiv s.den
 |0,k,k0,k1=>by simp [flN] at k1;omega
 | n + 1,k,k0,k1=>by
   simp only [flN,flL,flG,flC] at k1⊢
   by_cases h:s.den<=s.X n
   · rw [if_pos h] at k1⊢
     rw [if_pos h,if_pos h]
     by_cases e:k<flN s n
     · obtain⟨q,h1,I,G,F,D⟩:=Zfx s ml mf n k k0 e
       exact⟨q,Oa,I,by rw [Zp e];exact G,by rw [Zp e];exact F,by rw [Zl e];exact D⟩
     · exact⟨n,Oa,h,Zq e,Zq e,Zk e⟩
   · rw [if_neg h] at k1⊢
     rw [if_neg h,if_neg h]
     obtain⟨q,h1,I,G,F,D⟩:=Zfx s ml mf n k k0 k1
     exact⟨q,Oa,I,G,F,D⟩
def WholeR(p:Prob)(u:Int)(ml:Oe)(mf:Of)(s:So)(n:Int)(ln:Oe)(pt:Of)(cnt:Oe)(e:Int):Prop:=
  (¬(p.Ok/\ZaI p u ml mf s)/\n=0/\e=1)\/(p.Ok/\ZaI p u ml mf s/\ZeH p e/\e≠0/\n=0)\/
  (p.Ok/\ZaI p u ml mf s/\ZeH p 0/\e=0/\n=flN s u.toNat/\ln=flL s ml u.toNat/\pt=flG s mf u.toNat/\cnt=flC s u.toNat)
theorem WholeR.ok{p:Prob}{u n:Int}{ml ln cnt:Oe}{mf pt:Of}{s:So}{e:Int}(h:WholeR p u ml mf s n ln pt cnt e)(U:e=0)(Z:0<=u):p.Ok/\ZaI p u ml mf s/\psum (fun _=>1) p.D p.m.toNat<=1000/\n<=60/\PlanOk p n ln pt cnt/\0<=n:=by
 rcases h with⟨_,_,h⟩|⟨_,_,_,h,_⟩|⟨h1,h2,h3,_,h4,h5,h6,h7⟩
 · omega
 · exact absurd U h
 · have hr:=Tj s u.toNat
   have O:=h2.2.2.1
   refine⟨h1,h2,?_,Oa,⟨h1,Oa,fun k J D=> ?_⟩,Oa⟩
   · rcases h3 with⟨h,_⟩|⟨_,_,h⟩|⟨_,h,_⟩
     · exact absurd h1 h
     · omega
     · exact h
   · rw [h4] at D
     obtain⟨q,Y,X,I,G,F⟩:=Zfx s ml mf u.toNat k J D
     rw [h5,h6,h7,I,G,F]
     obtain⟨W,V⟩:=h2.2.2.2.1 q Oa Oa
     have hd:=h2.1.1
     refine⟨?_,V,W.1⟩
     rw [Int.tdiv_eq_ediv_of_nonneg Oa]
     exact(Int.le_ediv_iff_mul_le Oa).2 Oa
theorem Zbf{p:Prob}(D:p.Ok){f:Oe}(hf:∀k,0<=k->k<p.m->0<=f k):(⟨p.m,p.L,p.d,ZL p f,p.b8,p.bo⟩:Prob).Ok:=by
 refine⟨D.m1,D.m2,D.d,D.s1,D.s2,D.k1,D.k2,fun i G F=> ?_⟩
 have I:=D.all i G F
 have h1:=Wt D G F
 have J:=hf i G F
 unfold Prob.each at I⊢
 have e:ZL p f i=max 0 (p.D i-f i):=if_pos ⟨G,F⟩
 show _/\_
 dsimp only
 rw [e]
 omega
theorem Vv{p:Prob}(D:p.Ok){f:Oe}(hf:∀k,0<=k->k<p.m->0<=f k):∀n:Nat,(n:Int)<=p.m->psum (fun _=>1) (ZL p f) n<=psum (fun _=>1) p.D n
 |0,_=>Int.le_refl _
 | n+1,hn=>by
   have h1:=Vv D hf n Oa
   have G:=hf n Oa Oa
   have F:=Wt D (k:=(n:Int)) Oa Oa
   have e:ZL p f n=max 0 (p.D n-f n):=if_pos ⟨by omega,Oa⟩
   simp only [psum,e]
   omega
theorem ZdD{vL vD:Value}{p:Prob}{Z:Value}{u:Int}{mv:Int->Value}{ml:Oe}{mf:Of}{X vY:Value}{s:So}(w0:World)(h:PAt w0 vL vD p)(hM:MAt w0 Z u mv ml mf)(W:Row w0 X 1 s.n (ints s.X))(hY:Row w0 vY 1 s.m (ints s.Y))(ya:s.n<=1000):
   Calls Oj 125 [.agg #[vL,vD,.int Oh p.b8,.int Oh p.bo],.agg #[Z,X,vY,.int Oh s.val,.int Oh s.den]].toArray w0 fun e w=>∃v,e= .returned v/\∃r n pv ln pt cnt e,v= .tuple #[r,.int Oh e]/\WholeR p u ml mf s n ln pt cnt e/\Slh r n/\Sat w0 w [.own r 2 107 n (Zd pv cnt),.sem (Frame.rows 3 n pv ln pt)]:=by
 obtain⟨hm,ad,hd,hd1,hs,hk⟩:=h.Oo
 have hu:=hM.row.cf.n0;have ab:=hM.row.cf.n1;have hn:=W.cf.n0;have ac:=W.cf.n1
 refine zenG Tryz.func125 Tryz.ntmps125 fun w D=> ?_
 refine zsr<|zla (xbx (cs:= [_,_,_,_]) D) ?_;rintro _ w ⟨g1,rfl,D⟩
 refine zla (xbx (cs:= [_,_,_,_,_]) D) ?_;rintro _ w ⟨g2,rfl,D⟩
 refine(Om)<|zx5<|(zV (xls 0 st_32 D))<|zlc (xc0 XZ) (Yn (p:=p) w (h.below D.below)) ?_;rintro _ w ⟨rfl,F⟩
 replace D:=D.cmp F;clear F
 refine(Om)<|zlb 12 ?_ ?_<;>intro hc
 ·
  iterate 4 refine zlo ?_
  refine(zP)<|zlt<|zct<|zsr ?_
  refine(Om)<|zx14<|zf2 ⟨_,rfl,?_⟩
  exact⟨_,0,fun _=>undef,fun _=>0,fun _ _=>0,fun _=>0,1,rfl,.inl ⟨by first|exact fun G=>absurd G.1 ‹¬p.Ok›|exact fun G=>absurd G.2 ‹_›,rfl,rfl⟩,slh_nil,((D.sub (.cons _ (.cons _ .slnil))).cg 2 107 (Zd (fun _=>undef) (fun _=>0))).fa 3 (fun _=>undef) (fun _=>0) (fun _ _=>0)⟩
 refine(zV (xls 0 st_32 D))<|(zV (xls 1 Xz D))<|zlc (xc0 ZlA) (ZeB (p:=p) (u:=u) (ml:=ml) (mf:=mf) (s:=s) w (h.below D.below) Od (hM.below D.below) (W.below D.below) (hY.below D.below) ya) ?_;rintro _ w ⟨rfl,F⟩
 replace D:=D.cmp F;clear F
 refine(Om)<|zlt<|Ze ?_ ?_<;>intro hc
 ·
  refine zsr<|(Om)<|zx14<|zf2 ⟨_,rfl,?_⟩
  exact⟨_,0,fun _=>undef,fun _=>0,fun _ _=>0,fun _=>0,1,rfl,.inl ⟨by first|exact fun G=>absurd G.1 ‹¬p.Ok›|exact fun G=>absurd G.2 ‹_›,rfl,rfl⟩,slh_nil,((D.sub (.cons _ (.cons _ .slnil))).cg 2 107 (Zd (fun _=>undef) (fun _=>0))).fa 3 (fun _=>undef) (fun _=>0) (fun _ _=>0)⟩
 refine YL<|(zV (xls 0 st_32 D))<|zlc (xc0 Zgh) (ZdK (p:=p) w (h.below D.below)) ?_;rintro _ w ⟨eG,rfl,bF,F⟩
 replace D:=D.cmp F;clear F
 have V:p.Ok:=by first|assumption|exact Oc ‹_›
 have J:ZaI p u ml mf s:=by first|assumption|exact Oc ‹_›
 have qu:=V
 refine(zP)<|zlz<|(Om)<|zlt<|Ze ?_ ?_<;>intro hc
 ·
  refine zsr<|(On)<|zx14<|zf2 ⟨_,rfl,?_⟩
  exact⟨_,0,fun _=>undef,fun _=>0,fun _ _=>0,fun _=>0,_,rfl,.inr (.inl ⟨V,J,bF,Oa,rfl⟩),slh_nil,((D.sub (.cons _ (.cons _ .slnil))).cg 2 107 (Zd (fun _=>undef) (fun _=>0))).fa 3 (fun _=>undef) (fun _=>0) (fun _ _=>0)⟩
 refine ZM<|zlv (xfb 0 Un) ?_
 have Y:=fun k U O=>(show ml k<=100000 by have:=(YW (J.2.2.2.1 k U O).1).1;have:=V.m2;omega)
 have aa:=J.2.1
 refine(zV (xlb 1 Zs D))<|(zV (xfb 1 fd_141_1))<|(zV (xlp 1 (ds:= [X,vY,.int Oh s.val,.int Oh s.den]) ZN D))<|zlc (xc0 Zlz) (ZeA (u:=u) (ml:=ml) (mf:=mf) (s:=s) w (hM.below D.below) (W.below D.below) (hY.below D.below) Oa (fun k U O=>by have:=Y k U O;omega)) ?_;rintro _ w ⟨bc,qC,zB,yB,xU,xE,dA,rfl,zx,zS,F⟩
 replace D:=(D.comp F).n4;clear F
 have cE:=fun k (U:0<=k) (O:k<qC)=>D.db 3 rfl U O
 refine zs5 ?_
 refine zlz<|(On)<|zx1<|zf2 ⟨_,rfl,?_⟩
 have I:=zx.resolve_left fun G=>G.1 ⟨J.1,J.2.1.symm⟩
 exact⟨_,_,_,_,_,_,0,rfl,.inr (.inr ⟨V,J,(by rw [show(0:Int)=eG by omega];exact bF),rfl,I.2.2.1,I.2.2.2.1,I.2.2.2.2.1,I.2.2.2.2.2.1⟩),zS,D.pk [2,3]⟩
end Go.Proofs.YtkichmnjjblodaaGreat
