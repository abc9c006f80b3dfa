import Derived.Test.YtpnamgfdakfccaaGreatTpC
import Derived.OrdersIn
set_option linter.unusedVariables false
set_option linter.unusedSimpArgs false
set_option maxRecDepth 20000
set_option maxHeartbeats 4000000
namespace Go.Proofs.YtpnamgfdakfccaaGreat
open Go Go.RowKit Go.Proofs.Gw
variable {a b nm:Int} {cnt:Of} {pv:Int->Value} {vd:Value}
theorem Zau:Zc Om 138=true:=Oc
theorem Zl8:Zc Om 218=true:=Oc
theorem ZgL:Zc Om 272=true:=Oc
theorem Zaq:Zc Om 273=true:=Oc
theorem ZlA:Zc Om 308=true:=Oc
theorem ZcO:Zc Om 325=true:=Oc
theorem Yr:Zr Om 28=some (97,2):=Oc
theorem ZZ:Zw Om 97=some 2:=Oc
theorem ZcX{n:Int}{s:Of}{F:Gw.Frame}{m:Int}(w0 w:World)(hS:Sat w0 w [.own vd 2 97 n (Ze (fun z9=>pv (s z9)) (fun z9=>cnt (s z9))),.sem F])(hsl:Slh vd n)(hn8:n<=100000000)(qk:∀x,(pv x).oneCell'=true)(a0:0<=a)(m0:0<=m)(ab:a+m<=b)(bn:b+m<=n):
   Calls Om 325 [vd,.int Oi a,.int Oi b,.int Oi m,.func (.func 138) #[] #[]].toArray w fun e w=>∃v,e= .returned v/\v= .tuple #[]/\Sat w0 w [.own vd 2 97 n (Ze (fun z9=>pv ((swr s a b m) z9)) (fun z9=>cnt ((swr s a b m) z9))),.sem F]:=by
 refine zenF Tryz.func325 Tryz.ntmps325 ?_
 refine zsr<|(zP)<|zx6<|zlp (fun mm M w=>∃(t:Of) (i:Int),mm=((m-i).toNat)/\(0<=i)/\(i<=m)/\(t=swr s a b i)/\M= [(0,vd),(1,.int Oi a),(2,.int Oi b),(3,.int Oi m),(10,.int Oi i)]/\Sat w0 w [.own vd 2 97 n (Ze (fun z9=>pv (t z9)) (fun z9=>cnt (t z9))),.sem F]) ⟨s,0,rfl,Oa,Oa,?_,rfl,hS⟩ ?_
 ·
  exact(ZaR s a b).symm
 clear hS w
 rintro mm M w ⟨t,i,rfl,i0,i1,ht,rfl,hS⟩
 refine zsq<|zsr<|(Oo)<|zlt<|Zf ?_ ?_<;>intro hc
 ·
  refine zsk<|ztn<|zsq<|zbk<|zdst [0,1] [1] 21 mx_ hS ?_;clear hS;intro w hS
  refine(zDw 0 xmv)<|(zDw 1 xmv)<|(zDw 2 xmv)<|(zDw 3 (Zg (r:=a+i)))<|(zDw 4 xmv)<|(zDw 5 xmv)<|(zDw 6 xmv)<|(zDw 7 (Zg (r:=b+i)))<|(zDw 8 xmv)<|(zDw 9 xmv)<|(zDw 10 xmv)<|(zDw 11 (Zg (r:=b+i)))<|(zDw 12 (xix (kk:=2*b+2*i) Yr hsl))<|zdl 13 (fun w hS=>(xlw (cs:= [(pv (t (b+i))),.int Oi (cnt (t (b+i)))]) ZZ (hS.rowN 0 rfl) (Zx (k:=2*b+2*i) (i:=b+i) (fun z9=>pv (t z9)) (fun z9=>cnt (t z9)) Oa))) ?_
  refine(zDw 14 xmv)<|(zDw 15 xmv)<|(zDw 16 xmv)<|(zDw 17 (Zg (r:=a+i)))<|(zDw 18 (xix (kk:=2*a+2*i) Yr hsl))<|zdl 19 (fun w hS=>(xlw (cs:= [(pv (t (a+i))),.int Oi (cnt (t (a+i)))]) ZZ (hS.rowN 0 rfl) (Zx (k:=2*a+2*i) (i:=a+i) (fun z9=>pv (t z9)) (fun z9=>cnt (t z9)) Oa))) ?_
  refine(zDw 20 (xix (kk:=2*a+2*i) Yr hsl))<|zde 21 (xso2 0 ZZ hS (XP (i:=a+i) (k:=2*a+2*i) _ _ _ _ Oa) (hv:=qk _)) ?_;clear hS;rintro w hS
  refine⟨⟨fun h=>absurd h (by decide),hS.pk [1]⟩,?_⟩
  refine(zDw 22 (xix (kk:=2*b+2*i) Yr hsl))<|zde 23 (xso2 0 ZZ hS (Eq.trans (XP (i:=b+i) (k:=2*b+2*i) _ _ _ _ Oa) (Wj pv cnt t (a+i) (b+i))) (hv:=qk _)) ?_;clear hS;rintro w hS
  refine⟨⟨fun h=>absurd h (by decide),hS.pk [1]⟩,?_⟩
  refine zdd<|zbn<|ztn<|zrg ?_
  refine(zP)<|(zV (Zg (r:=i+1)))<|(zP)<|zln<|zlq ⟨swp t (a+i) (b+i),i+1,rfl,Oa,Oa,?_,rfl,hS⟩
  ·
   rw [ht];exact ZaS i0 Oa Oa Oa
 refine zxt<|ztx<|ztx<|zbh<|XA ⟨_,rfl,?_⟩
 obtain rfl:i=m:=Oa
 subst ht
 exact⟨rfl,hS⟩
theorem ZmI{n:Int}{s:Of}{F:Gw.Frame}{m:Int}(w0 w:World)(hS:Sat w0 w [.own vd 2 97 n (Ze (fun z9=>pv (s z9)) (fun z9=>cnt (s z9))),.sem F])(hsl:Slh vd n)(hn8:n<=100000000)(qk:∀x,(pv x).oneCell'=true)(a0:0<=a)(am:a<m)(mb:m<b)(bn:b<=n):
   Calls Om 308 [vd,.int Oi a,.int Oi m,.int Oi b,.func (.func 138) #[] #[]].toArray w fun e w=>∃v,e= .returned v/\v= .tuple #[]/\Sat w0 w [.own vd 2 97 n (Ze (fun z9=>pv ((rot s a m b) z9)) (fun z9=>cnt ((rot s a m b) z9))),.sem F]:=by
 refine zenF Tryz.func308 Tryz.ntmps308 ?_
 refine zsr<|(On)<|(zV (Zp (r:=m-a)))<|(zP)<|zlz<|(On)<|(zV (Zp (r:=b-m)))<|(zP)<|zlt<|zsq<|zbk<|zlp (fun mm M w=>∃(t:Of) (i:Int) (j:Int),mm=((i+j).toNat)/\(1<=i)/\(1<=j)/\(a<=m-i)/\(m+j<=b)/\(rot t (m-i) m (m+j)=rot s a m b)/\M= [(0,vd),(2,.int Oi m),(4,.func (.func 138) #[] #[]),(10,.int Oi i),(11,.int Oi j)]/\Sat w0 w [.own vd 2 97 n (Ze (fun z9=>pv (t z9)) (fun z9=>cnt (t z9))),.sem F]) ⟨s,m-a,b-m,rfl,Oa,Oa,Oa,Oa,?_,rfl,hS⟩ ?_
 ·
  rw [show m-(m-a)=a by omega,show m+(b-m)=b by omega]
 clear hS w
 rintro mm M w ⟨t,i,j,rfl,i0,j0,ia,jb,hr,rfl,hS⟩
 refine zsq<|zsr<|(Oo)<|zlt<|Zf ?_ ?_<;>intro hc
 ·
  refine zsk<|ztn<|zbk<|zsr<|(Oo)<|zlt<|Zf ?_ ?_<;>intro hc
  ·
   refine zsr<|(Oo)<|(zV (Zp (r:=m-i)))<|(Oo)<|zlc (xc0 ZcO) (ZcX (s:=t) (a:=m-i) (b:=m) (m:=j) w0 w hS hsl hn8 qk Oa Oa Oa Oa) ?_;rintro _ w ⟨rfl,hS⟩
   refine zlt<|zrg<|(On)<|(zV (Zp (r:=i-j)))<|(zP)<|zln<|zbn<|zlq ⟨(swr t (m-i) m j),i-j,j,rfl,Oa,Oa,Oa,Oa,?_,rfl,hS⟩
   ·
    first|(rw [<-hr,show m-(i-j)=m-i+j by omega];exact VF Oa Oa)|(rw [<-hr,show m+(j-i)=m+j-i by omega];exact WW Oa Oa)
  refine zsr<|(Oo)<|(zV (Zp (r:=m-i)))<|(On)<|(zV (Zg (r:=m+j)))<|(zP)<|(zV (Zp (r:=m+j-i)))<|(On)<|zlc (xc0 ZcO) (ZcX (s:=t) (a:=m-i) (b:=m+j-i) (m:=i) w0 w hS hsl hn8 qk Oa Oa Oa Oa) ?_;rintro _ w ⟨rfl,hS⟩
  refine zlt<|zrg<|(On)<|(zV (Zp (r:=j-i)))<|(zP)<|zln<|zbn<|zlq ⟨(swr t (m-i) (m+j-i) i),i,j-i,rfl,Oa,Oa,Oa,Oa,?_,rfl,hS⟩
  ·
   first|(rw [<-hr,show m-(i-j)=m-i+j by omega];exact VF Oa Oa)|(rw [<-hr,show m+(j-i)=m+j-i by omega];exact WW Oa Oa)
 refine zxt<|ztx<|ztx<|zbh<|ztn<|zrg<|(Oo)<|(zV (Zp (r:=m-i)))<|(Oo)<|zlc (xc0 ZcO) (ZcX (s:=t) (a:=m-i) (b:=m) (m:=i) w0 w hS hsl hn8 qk Oa Oa Oa Oa) ?_;rintro _ w ⟨rfl,hS⟩
 refine zln<|XA ⟨_,rfl,?_⟩
 have hz:(swr t (m-i) m i)=rot s a m b:=by
   rw [<-hr,show j=i by omega];exact Za5 Oa
 rw [hz] at hS
 exact⟨rfl,hS⟩
theorem Zhp {n:Int} {s:Of} {lt:Int->Int->Prop} {F:Gw.Frame} (w0 w:World) (hS:Sat w0 w [.own vd 2 97 n (Ze (fun z9=>pv (s z9)) (fun z9=>cnt (s z9))),.sem F]) (hsl:Slh vd n) (hn8:n<=100000000) (qk:∀x,(pv x).oneCell'=true) (qv:∀(w:World) (x y:Int),0<=x->x<nm->0<=y->y<nm->Below w0.heap.size w0 w->F.holds w->Calls Om 138 [.agg #[pv x,.int Oi (cnt x)],.agg #[pv y,.int Oi (cnt y)]].toArray w fun e w'=>∃v,e= .returned v/\∃c:Int,v= .int Oi c/\(c<0↔lt x y)/\Sat w w' []) (hd:∀k,0<=k->k<n->0<=s k/\s k<nm) (hw:Swo lt) (a0:0<=a) (ab:a<=b) (bn:b<=n) (qN:UP a b s):
   Calls Om 272 [vd,.int Oi a,.int Oi b,.func (.func 138) #[] #[]].toArray w fun e w=>∃v,e= .returned v/\v= .tuple #[]/\∃t:Of,PermOn a b s t/\Srt (Tie lt) a b t/\Sat w0 w [.own vd 2 97 n (Ze (fun z9=>pv (t z9)) (fun z9=>cnt (t z9))),.sem F]:=by
 refine zenF Tryz.func272 Tryz.ntmps272 ?_
 refine zsr<|(zP)<|(zV (Zg (r:=a+1)))<|(zP)<|zx6<|zlp (fun mm M w=>∃(t:Of) (i:Int),mm=((b-i).toNat)/\(a+1<=i)/\(i<=b\/i=a+1)/\(PermOn a i s t)/\(Srt (Tie lt) a i t)/\(∀k,0<=k->k<n->0<=t k/\t k<nm)/\M= [(0,vd),(1,.int Oi a),(2,.int Oi b),(3,.func (.func 138) #[] #[]),(8,.int Oi i)]/\Sat w0 w [.own vd 2 97 n (Ze (fun z9=>pv (t z9)) (fun z9=>cnt (t z9))),.sem F]) ⟨s,a+1,rfl,Oa,Oa,?_,?_,?_,rfl,hS⟩ ?_
 ·
  exact .refl _ _ _
 ·
  intro p q p0 pq q1;omega
 ·
  exact hd
 clear hS w
 rintro mm M w ⟨t,i,rfl,i0,i1,hp,hs,hd1,rfl,hS⟩
 refine zsq<|zsr<|(Oo)<|zlt<|Zf ?_ ?_<;>intro hc
 ·
  refine zx3<|(On)<|zx6<|zlp (fun mm M w=>∃(t2:Of) (j:Int),mm=((j-a).toNat)/\(a<=j)/\(j<=i)/\(Ins lt a i j t t2)/\(∀k,0<=k->k<n->0<=t2 k/\t2 k<nm)/\M= [(0,vd),(1,.int Oi a),(2,.int Oi b),(3,.func (.func 138) #[] #[]),(8,.int Oi i),(9,.int Oi j)]/\Sat w0 w [.own vd 2 97 n (Ze (fun z9=>pv (t2 z9)) (fun z9=>cnt (t2 z9))),.sem F]) ⟨t,i,rfl,Oa,Oa,?_,?_,rfl,hS⟩ ?_
  ·
   exact Ins.start Oa hs (Zds hp qN Oa)
  ·
   exact hd1
  clear hS w
  rintro mm M w ⟨t2,j,rfl,j0,j1,hI,hd2,rfl,hS⟩
  refine zsq<|zsq<|zdst [0,1] [0,1] 1000 mx_ hS ?_;clear hS;intro w hS
  refine(zDw 0 xmv)<|(zDw 1 xmv)<|(zDw 2 Yx)<|(zDw 3 xmv)<|zdb 21 ?_ ?_<;>intro hc
  ·
   refine(zDw 4 xmv)<|(zDw 5 xmv)<|(zDw 6 xmv)<|(zDw 7 (xix (kk:=2*j) Yr hsl))<|(zDl 8 (fun w hS=>(xlw (cs:= [(pv (t2 j)),.int Oi (cnt (t2 j))]) ZZ (hS.rowN 0 rfl) (Zx (k:=2*j) (i:=j) (fun z9=>pv (t2 z9)) (fun z9=>cnt (t2 z9)) Oa))))<|(zDw 9 xmv)<|(zDw 10 xmv)<|(zDw 11 (Zp (r:=j-1)))<|(zDw 12 (xix (kk:=2*j-2) Yr hsl))<|(zDl 13 (fun w hS=>(xlw (cs:= [(pv (t2 (j-1))),.int Oi (cnt (t2 (j-1)))]) ZZ (hS.rowN 0 rfl) (Zx (k:=2*j-2) (i:=j-1) (fun z9=>pv (t2 z9)) (fun z9=>cnt (t2 z9)) Oa))))<|zdc 14 (xc0 Zau) (qv w (t2 j) (t2 (j-1)) (hd2 j Oa Oa).1 (hd2 j Oa Oa).2 (hd2 (j-1) Oa Oa).1 (hd2 (j-1) Oa Oa).2 hS.below (hS.holds _ (List.mem_of_getElem? (i:=1) rfl))) ?_;rintro _ w ⟨c1,rfl,hc1,hS'⟩
   replace hS:=hS.cmp hS';clear hS'
   refine⟨⟨fun _=>hS,hS⟩,?_⟩
   refine(zDw 15 Z9)<|(zDw 16 xpt)<|zdd<|ztn ?_
   refine Zf ?_ ?_<;>intro hc
   ·
    refine zsk<|ztn<|zsq<|zbk<|zdst [0,1] [1] 15 mx_ hS ?_;clear hS;intro w hS
    refine(zDw 0 xmv)<|(zDw 1 xmv)<|(zDw 2 xmv)<|(zDw 3 xmv)<|(zDw 4 (Zp (r:=j-1)))<|(zDw 5 xmv)<|(zDw 6 xmv)<|(zDw 7 (Zp (r:=j-1)))<|(zDw 8 (xix (kk:=2*j-2) Yr hsl))<|zdl 9 (fun w hS=>(xlw (cs:= [(pv (t2 (j-1))),.int Oi (cnt (t2 (j-1)))]) ZZ (hS.rowN 0 rfl) (Zx (k:=2*j-2) (i:=j-1) (fun z9=>pv (t2 z9)) (fun z9=>cnt (t2 z9)) Oa))) ?_
    refine(zDw 10 xmv)<|(zDw 11 xmv)<|(zDw 12 (xix (kk:=2*j) Yr hsl))<|zdl 13 (fun w hS=>(xlw (cs:= [(pv (t2 j)),.int Oi (cnt (t2 j))]) ZZ (hS.rowN 0 rfl) (Zx (k:=2*j) (i:=j) (fun z9=>pv (t2 z9)) (fun z9=>cnt (t2 z9)) Oa))) ?_
    refine(zDw 14 (xix (kk:=2*j) Yr hsl))<|zde 15 (xso2 0 ZZ hS (XP (i:=j) (k:=2*j) _ _ _ _ Oa) (hv:=qk _)) ?_;clear hS;rintro w hS
    refine⟨⟨fun h=>absurd h (by decide),hS.pk [1]⟩,?_⟩
    refine(zDw 16 (xix (kk:=2*j-2) Yr hsl))<|zde 17 (xso2 0 ZZ hS (Eq.trans (XP (i:=j-1) (k:=2*j-2) _ _ _ _ Oa) (Wj pv cnt t2 j (j-1))) (hv:=qk _)) ?_;clear hS;rintro w hS
    refine⟨⟨fun h=>absurd h (by decide),hS.pk [1]⟩,?_⟩
    refine zdd<|zbn<|ztn<|zrg ?_
    refine(zP)<|(zV (Zp (r:=j-1)))<|(zP)<|zln<|zlq ⟨swp t2 j (j-1),j-1,rfl,Oa,Oa,?_,?_,rfl,hS⟩
    ·
     exact hI.step Oa Oa (hc1.1 ‹c1<0›)
    ·
     exact(Ta (lo:=a) (hi:=n) Oa Oa Oa Oa).dom a0 (.inl Oa) hd2
   refine zxt<|ztx<|ztx<|zbh<|zbn<|ztn<|zrg<|(zP)<|(zV (Zg (r:=i+1)))<|(zP)<|zln<|zlq ⟨t2,i+1,rfl,Oa,Oa,?_,?_,?_,rfl,hS⟩
   ·
    exact(hp.mono Oa Oa).trans hI.perm
   ·
    exact hI.fin hw Oa Oa (by first|exact .inl Oa|exact .inr fun h=>absurd (hc1.2 h) ‹¬c1<0›)
   ·
    exact hd2
  refine(zDo 4)<|(zDo 5)<|(zDo 6)<|(zDo 7)<|(zDo 8)<|(zDo 9)<|(zDo 10)<|(zDo 11)<|(zDo 12)<|(zDo 13)<|(zDo 14)<|(zDo 15)<|(zDw 16 xpf)<|zdd<|ztn<|zcf<|zxt<|ztx<|ztx<|zbh<|zbn<|ztn<|zrg ?_
  refine(zP)<|(zV (Zg (r:=i+1)))<|(zP)<|zln<|zlq ⟨t2,i+1,rfl,Oa,Oa,?_,?_,?_,rfl,hS⟩
  ·
   exact(hp.mono Oa Oa).trans hI.perm
  ·
   exact hI.fin hw Oa Oa (by first|exact .inl Oa|exact .inr fun h=>absurd (hc1.2 h) ‹¬c1<0›)
  ·
   exact hd2
 refine zxt<|ztx<|ztx<|zbh<|XA ⟨_,rfl,?_⟩
 refine⟨rfl,t,?_,?_,hS⟩
 · by_cases hab:i<=b
   · exact hp.mono Oa Oa
   · obtain⟨p_,q_,e1,e2,e3⟩:=hp
     exact⟨p_,q_,e1,fun k hk=>by
       by_cases hka:k=a
       · subst hka
         apply Classical.byContradiction;intro hne
         have h5:=e2 (p_ k) Oa
         have h6:=congrArg q_ h5
         rw [(e1 _).2,(e1 _).2] at h6;exact hne h6
       · exact e2 k Oa,e3⟩
 · exact hs.mono Oa Oa
theorem Zg1 {n:Int} {lt:Int->Int->Prop} {F:Gw.Frame} (hsl:Slh vd n) (hn8:n<=100000000) (qk:∀x,(pv x).oneCell'=true) (hw:Swo lt) (N:Nat):∀{s:Of} {a m b:Int} (w0 w:World) (hS:Sat w0 w [.own vd 2 97 n (Ze (fun z9=>pv (s z9)) (fun z9=>cnt (s z9))),.sem F]) (qv:∀(w:World) (x y:Int),0<=x->x<nm->0<=y->y<nm->Below w0.heap.size w0 w->F.holds w->Calls Om 138 [.agg #[pv x,.int Oi (cnt x)],.agg #[pv y,.int Oi (cnt y)]].toArray w fun e w'=>∃v,e= .returned v/\∃c:Int,v= .int Oi c/\(c<0↔lt x y)/\Sat w w' []) (hd:∀k,0<=k->k<n->0<=s k/\s k<nm) (a0:0<=a) (am:a<m) (mb:m<b) (bn:b<=n) (h1:Srt (Tie lt) a m s) (h2:Srt (Tie lt) m b s) (hp:Parted a m b s) (hN:(b-a).toNat<N),
   Calls Om 273 [vd,.int Oi a,.int Oi m,.int Oi b,.func (.func 138) #[] #[]].toArray w fun e w=>∃v,e= .returned v/\v= .tuple #[]/\∃t:Of,PermOn a b s t/\Srt (Tie lt) a b t/\Sat w0 w [.own vd 2 97 n (Ze (fun z9=>pv (t z9)) (fun z9=>cnt (t z9))),.sem F]:=by
 induction N with
 |zero=>intros;omega
 | succ N ih=>
   intro s a m b w0 w hS qv hd a0 am mb bn h1 h2 hp hN
   refine zenF Tryz.func273 Tryz.ntmps273 ?_
   refine zsq<|zsr<|(On)<|(zV (Zp (r:=m-a)))<|(zP)<|zlt<|Zf ?_ ?_<;>intro hc
   ·
    refine zsr<|(On)<|zlz<|(On)<|zlt<|zsq<|zbk<|zlp (fun mm M w=>∃(i:Int) (j:Int),mm=((j-i).toNat)/\(m<=i)/\(i<=j)/\(j<=b)/\(i=a+1\/lt (s (i-1)) (s a))/\(j=b\/¬lt (s j) (s a))/\M= [(0,vd),(1,.int Oi a),(2,.int Oi m),(3,.int Oi b),(4,.func (.func 138) #[] #[]),(10,.int Oi i),(11,.int Oi j)]/\Sat w0 w [.own vd 2 97 n (Ze (fun z9=>pv (s z9)) (fun z9=>cnt (s z9))),.sem F]) ⟨m,b,rfl,Oa,Oa,Oa,?_,?_,rfl,hS⟩ ?_
    ·
     exact .inl Oa
    ·
     exact .inl rfl
    clear hS w
    rintro mm M w ⟨i,j,rfl,i0,ij,j1,hi,hj,rfl,hS⟩
    refine zsq<|zsr<|(Oo)<|zlt<|Zf ?_ ?_<;>intro hc
    ·
     refine zsk<|ztn<|zbk<|zsr<|(On)<|(zV (Zg (r:=i+j)))<|(zV (xcv TW XZ))<|(zV (Uz (r:=((i+j)/2))))<|(zV (xcv Wk KY))<|(zP)<|zx7<|zdst [0,1] [0,1] 1000 mx_ hS ?_;clear hS;intro w hS
     refine(zDw 0 xmv)<|(zDw 1 xmv)<|(zDw 2 xmv)<|(zDw 3 (xix (kk:=2*((i+j)/2)) Yr hsl))<|(zDl 4 (fun w hS=>(xlw (cs:= [(pv (s ((i+j)/2))),.int Oi (cnt (s ((i+j)/2)))]) ZZ (hS.rowN 0 rfl) (Zx (k:=2*((i+j)/2)) (i:=((i+j)/2)) (fun z9=>pv (s z9)) (fun z9=>cnt (s z9)) Oa))))<|(zDw 5 xmv)<|(zDw 6 xmv)<|(zDw 7 (xix (kk:=2*a) Yr hsl))<|(zDl 8 (fun w hS=>(xlw (cs:= [(pv (s a)),.int Oi (cnt (s a))]) ZZ (hS.rowN 0 rfl) (Zx (k:=2*a) (i:=a) (fun z9=>pv (s z9)) (fun z9=>cnt (s z9)) Oa))))<|zdc 9 (xc0 Zau) (qv w (s ((i+j)/2)) (s a) (hd ((i+j)/2) Oa Oa).1 (hd ((i+j)/2) Oa Oa).2 (hd a Oa Oa).1 (hd a Oa Oa).2 hS.below (hS.holds _ (List.mem_of_getElem? (i:=1) rfl))) ?_;rintro _ w ⟨c1,rfl,hc1,hS'⟩
     replace hS:=hS.cmp hS';clear hS'
     refine⟨⟨fun _=>hS,hS⟩,?_⟩
     refine(zDw 10 Z9)<|zdd<|ztn ?_
     refine Zf ?_ ?_<;>intro hc
     ·
      refine zrg<|(zP)<|(zV (Zg (r:=((i+j)/2)+1)))<|(zP)<|zln<|zbn<|zlq ⟨((i+j)/2)+1,j,rfl,Oa,Oa,Oa,?_,?_,rfl,hS⟩
      ·
       first|exact hi|(right;rw [show(i+j)/2+1-1=(i+j)/2 by omega];exact hc1.1 ‹c1<0›)
      ·
       first|exact hj|exact .inr fun h=>absurd (hc1.2 h) ‹¬c1<0›
     refine zrg<|(On)<|zln<|zbn<|zlq ⟨i,((i+j)/2),rfl,Oa,Oa,Oa,?_,?_,rfl,hS⟩
     ·
      first|exact hi|(right;rw [show(i+j)/2+1-1=(i+j)/2 by omega];exact hc1.1 ‹c1<0›)
     ·
      first|exact hj|exact .inr fun h=>absurd (hc1.2 h) ‹¬c1<0›
    refine zx18<|(On)<|zx6<|zlp (fun mm M w=>∃(t:Of) (k:Int),mm=((i-1-k).toNat)/\(a<=k)/\(k<=i-1)/\(t=rot s a (a+1) (k+1))/\M= [(0,vd),(1,.int Oi a),(2,.int Oi m),(3,.int Oi b),(4,.func (.func 138) #[] #[]),(10,.int Oi i),(13,.int Oi k)]/\Sat w0 w [.own vd 2 97 n (Ze (fun z9=>pv (t z9)) (fun z9=>cnt (t z9))),.sem F]) ⟨s,a,rfl,Oa,Oa,?_,rfl,hS⟩ ?_
    ·
     exact(Za1 s a).symm
    clear hS w
    rintro mm M w ⟨t,k,rfl,k0,k1,ht,rfl,hS⟩
    refine zsq<|zsr<|(On)<|(zV (Zp (r:=i-1)))<|(zP)<|zlt<|Zf ?_ ?_<;>intro hc
    ·
     refine zsk<|ztn<|zsq<|zbk<|zdst [0,1] [1] 15 mx_ hS ?_;clear hS;intro w hS
     refine(zDw 0 xmv)<|(zDw 1 xmv)<|(zDw 2 xmv)<|(zDw 3 xmv)<|(zDw 4 (Zg (r:=k+1)))<|(zDw 5 xmv)<|(zDw 6 xmv)<|(zDw 7 (Zg (r:=k+1)))<|(zDw 8 (xix (kk:=2*k+2) Yr hsl))<|zdl 9 (fun w hS=>(xlw (cs:= [(pv (t (k+1))),.int Oi (cnt (t (k+1)))]) ZZ (hS.rowN 0 rfl) (Zx (k:=2*k+2) (i:=k+1) (fun z9=>pv (t z9)) (fun z9=>cnt (t z9)) Oa))) ?_
     refine(zDw 10 xmv)<|(zDw 11 xmv)<|(zDw 12 (xix (kk:=2*k) Yr hsl))<|zdl 13 (fun w hS=>(xlw (cs:= [(pv (t k)),.int Oi (cnt (t k))]) ZZ (hS.rowN 0 rfl) (Zx (k:=2*k) (i:=k) (fun z9=>pv (t z9)) (fun z9=>cnt (t z9)) Oa))) ?_
     refine(zDw 14 (xix (kk:=2*k) Yr hsl))<|zde 15 (xso2 0 ZZ hS (XP (i:=k) (k:=2*k) _ _ _ _ Oa) (hv:=qk _)) ?_;clear hS;rintro w hS
     refine⟨⟨fun h=>absurd h (by decide),hS.pk [1]⟩,?_⟩
     refine(zDw 16 (xix (kk:=2*k+2) Yr hsl))<|zde 17 (xso2 0 ZZ hS (Eq.trans (XP (i:=k+1) (k:=2*k+2) _ _ _ _ Oa) (Wj pv cnt t k (k+1))) (hv:=qk _)) ?_;clear hS;rintro w hS
     refine⟨⟨fun h=>absurd h (by decide),hS.pk [1]⟩,?_⟩
     refine zdd<|zbn<|ztn<|zrg ?_
     refine(zP)<|(zV (Zg (r:=k+1)))<|(zP)<|zln<|zlq ⟨swp t k (k+1),k+1,rfl,Oa,Oa,?_,rfl,hS⟩
     ·
      rw [ht];exact Za2 Oa
    refine zxt<|ztx<|ztx<|zbh<|ztn<|zrt<|ztr<|zf0 ⟨_,rfl,?_⟩
    have hki:k+1=i:=Oa
    rw [hki] at ht
    refine⟨rfl,t,?_,?_,hS⟩
    · rw [ht];exact(Yp Oa Oa).mono Oa Oa
    · rw [ht];obtain rfl:m=a+1:=Oa
      exact RD hw h2 (fun j j0 j1=>hp a j Oa Oa j0 j1) Oa Oa hi (by rw [show i=j by omega];exact hj)
   refine zsk<|ztn<|zsq<|zsr<|(On)<|(zV (Zp (r:=b-m)))<|(zP)<|zlt<|Zf ?_ ?_<;>intro hc
   ·
    refine zsr<|(On)<|zlz<|(On)<|zlt<|zsq<|zbk<|zlp (fun mm M w=>∃(i:Int) (j:Int),mm=((j-i).toNat)/\(a<=i)/\(i<=j)/\(j<=m)/\(i=a\/¬lt (s m) (s (i-1)))/\(j=m\/lt (s m) (s j))/\M= [(0,vd),(1,.int Oi a),(2,.int Oi m),(3,.int Oi b),(4,.func (.func 138) #[] #[]),(14,.int Oi i),(15,.int Oi j)]/\Sat w0 w [.own vd 2 97 n (Ze (fun z9=>pv (s z9)) (fun z9=>cnt (s z9))),.sem F]) ⟨a,m,rfl,Oa,Oa,Oa,?_,?_,rfl,hS⟩ ?_
    ·
     exact .inl rfl
    ·
     exact .inl rfl
    clear hS w
    rintro mm M w ⟨i,j,rfl,i0,ij,j1,hi,hj,rfl,hS⟩
    refine zsq<|zsr<|(Oo)<|zlt<|Zf ?_ ?_<;>intro hc
    ·
     refine zsk<|ztn<|zbk<|zsr<|(On)<|(zV (Zg (r:=i+j)))<|(zV (xcv TW XZ))<|(zV (Uz (r:=((i+j)/2))))<|(zV (xcv Wk KY))<|(zP)<|zx7<|zdst [0,1] [0,1] 1000 mx_ hS ?_;clear hS;intro w hS
     refine(zDw 0 xmv)<|(zDw 1 xmv)<|(zDw 2 xmv)<|(zDw 3 (xix (kk:=2*m) Yr hsl))<|(zDl 4 (fun w hS=>(xlw (cs:= [(pv (s m)),.int Oi (cnt (s m))]) ZZ (hS.rowN 0 rfl) (Zx (k:=2*m) (i:=m) (fun z9=>pv (s z9)) (fun z9=>cnt (s z9)) Oa))))<|(zDw 5 xmv)<|(zDw 6 xmv)<|(zDw 7 (xix (kk:=2*((i+j)/2)) Yr hsl))<|(zDl 8 (fun w hS=>(xlw (cs:= [(pv (s ((i+j)/2))),.int Oi (cnt (s ((i+j)/2)))]) ZZ (hS.rowN 0 rfl) (Zx (k:=2*((i+j)/2)) (i:=((i+j)/2)) (fun z9=>pv (s z9)) (fun z9=>cnt (s z9)) Oa))))<|zdc 9 (xc0 Zau) (qv w (s m) (s ((i+j)/2)) (hd m Oa Oa).1 (hd m Oa Oa).2 (hd ((i+j)/2) Oa Oa).1 (hd ((i+j)/2) Oa Oa).2 hS.below (hS.holds _ (List.mem_of_getElem? (i:=1) rfl))) ?_;rintro _ w ⟨c1,rfl,hc1,hS'⟩
     replace hS:=hS.cmp hS';clear hS'
     refine⟨⟨fun _=>hS,hS⟩,?_⟩
     refine(zDw 10 Z9)<|(zDw 11 YE)<|zdd<|ztn ?_
     refine Zf ?_ ?_<;>intro hc
     ·
      refine zrg<|(zP)<|(zV (Zg (r:=((i+j)/2)+1)))<|(zP)<|zln<|zbn<|zlq ⟨((i+j)/2)+1,j,rfl,Oa,Oa,Oa,?_,?_,rfl,hS⟩
      ·
       first|exact hi|(right;rw [show(i+j)/2+1-1=(i+j)/2 by omega];exact fun h=>absurd (hc1.2 h) ‹¬c1<0›)
      ·
       first|exact hj|exact .inr (hc1.1 (Od ‹_›))
     refine zrg<|(On)<|zln<|zbn<|zlq ⟨i,((i+j)/2),rfl,Oa,Oa,Oa,?_,?_,rfl,hS⟩
     ·
      first|exact hi|(right;rw [show(i+j)/2+1-1=(i+j)/2 by omega];exact fun h=>absurd (hc1.2 h) ‹¬c1<0›)
     ·
      first|exact hj|exact .inr (hc1.1 (Od ‹_›))
    refine zx18<|(On)<|zx6<|zlp (fun mm M w=>∃(t:Of) (k:Int),mm=((k-i).toNat)/\(i<=k)/\(k<=m)/\(t=rot s k m (m+1))/\M= [(0,vd),(1,.int Oi a),(2,.int Oi m),(3,.int Oi b),(4,.func (.func 138) #[] #[]),(14,.int Oi i),(17,.int Oi k)]/\Sat w0 w [.own vd 2 97 n (Ze (fun z9=>pv (t z9)) (fun z9=>cnt (t z9))),.sem F]) ⟨s,m,rfl,Oa,Oa,?_,rfl,hS⟩ ?_
    ·
     exact(ZaZ s m).symm
    clear hS w
    rintro mm M w ⟨t,k,rfl,k0,k1,ht,rfl,hS⟩
    refine zsq<|zsr<|(Oo)<|zlt<|Zf ?_ ?_<;>intro hc
    ·
     refine zsk<|ztn<|zsq<|zbk<|zdst [0,1] [1] 15 mx_ hS ?_;clear hS;intro w hS
     refine(zDw 0 xmv)<|(zDw 1 xmv)<|(zDw 2 xmv)<|(zDw 3 xmv)<|(zDw 4 (Zp (r:=k-1)))<|(zDw 5 xmv)<|(zDw 6 xmv)<|(zDw 7 (Zp (r:=k-1)))<|(zDw 8 (xix (kk:=2*k-2) Yr hsl))<|zdl 9 (fun w hS=>(xlw (cs:= [(pv (t (k-1))),.int Oi (cnt (t (k-1)))]) ZZ (hS.rowN 0 rfl) (Zx (k:=2*k-2) (i:=k-1) (fun z9=>pv (t z9)) (fun z9=>cnt (t z9)) Oa))) ?_
     refine(zDw 10 xmv)<|(zDw 11 xmv)<|(zDw 12 (xix (kk:=2*k) Yr hsl))<|zdl 13 (fun w hS=>(xlw (cs:= [(pv (t k)),.int Oi (cnt (t k))]) ZZ (hS.rowN 0 rfl) (Zx (k:=2*k) (i:=k) (fun z9=>pv (t z9)) (fun z9=>cnt (t z9)) Oa))) ?_
     refine(zDw 14 (xix (kk:=2*k) Yr hsl))<|zde 15 (xso2 0 ZZ hS (XP (i:=k) (k:=2*k) _ _ _ _ Oa) (hv:=qk _)) ?_;clear hS;rintro w hS
     refine⟨⟨fun h=>absurd h (by decide),hS.pk [1]⟩,?_⟩
     refine(zDw 16 (xix (kk:=2*k-2) Yr hsl))<|zde 17 (xso2 0 ZZ hS (Eq.trans (XP (i:=k-1) (k:=2*k-2) _ _ _ _ Oa) (Wj pv cnt t k (k-1))) (hv:=qk _)) ?_;clear hS;rintro w hS
     refine⟨⟨fun h=>absurd h (by decide),hS.pk [1]⟩,?_⟩
     refine zdd<|zbn<|ztn<|zrg ?_
     refine(zP)<|(zV (Zp (r:=k-1)))<|(zP)<|zln<|zlq ⟨swp t k (k-1),k-1,rfl,Oa,Oa,?_,rfl,hS⟩
     ·
      rw [ht];exact Za0 Oa
    refine zxt<|ztx<|ztx<|zbh<|ztn<|zrt<|ztr<|zf0 ⟨_,rfl,?_⟩
    have hki:k=i:=Oa
    rw [hki] at ht
    refine⟨rfl,t,?_,?_,hS⟩
    · rw [ht];exact(Yp Oa Oa).mono Oa Oa
    · rw [ht];obtain rfl:b=m+1:=Oa
      exact Ts hw h1 (fun i i0 i1=>hp i m i0 i1 Oa Oa) Oa Oa hi (by rw [show i=j by omega];exact hj)
   refine ZY<|(On)<|(zV (Zg (r:=a+b)))<|(zV (xcv TW XZ))<|(zV (Uz (r:=((a+b)/2))))<|(zV (xcv Wk KY))<|(zP)<|zlz<|(On)<|(zV (Zg (r:=((a+b)/2)+m)))<|(zP)<|zlz<|(On)<|zx7 ?_
   refine Vx (fun M w=>∃(mid:Int) (s0:Int) (r0:Int),(mid=((a+b)/2))/\((mid<m/\s0=mid+m-b/\r0=mid)\/(m<=mid/\s0=a/\r0=m))/\M= [(0,vd),(1,.int Oi a),(2,.int Oi m),(3,.int Oi b),(4,.func (.func 138) #[] #[]),(25,.int Oi m),(26,.int Oi a),(27,.int Oi (m-a)),(28,B (m-a=1)),(77,.int Oi b),(78,.int Oi m),(79,.int Oi (b-m)),(80,B (b-m=1)),(129,.int Oi a),(130,.int Oi b),(131,.int Oi (a+b)),(132,.int .u64 (a+b)),(133,.int .u64 ((a+b)/2)),(134,.int Oi ((a+b)/2)),(18,.int Oi mid),(135,.int Oi ((a+b)/2)),(136,.int Oi m),(137,.int Oi (((a+b)/2)+m)),(19,.int Oi (mid+m)),(20,.int Oi s0),(21,.int Oi r0)]/\Sat w0 w [.own vd 2 97 n (Ze (fun z9=>pv (s z9)) (fun z9=>cnt (s z9))),.sem F]) ?_ ?_
   ·
    refine zsr<|(Oo)<|zlt<|Zf ?_ ?_<;>intro hc
    ·
     refine zsr<|(On)<|(zV (Zp (r:=((a+b)/2)+m-b)))<|(zP)<|zlt<|zrg<|(On)<|zln<|zgj ⟨((a+b)/2),(((a+b)/2)+m-b),((a+b)/2),rfl,Oa,rfl,hS⟩
    refine zsr<|(On)<|zlt<|zrg<|(On)<|zln<|zgj ⟨((a+b)/2),a,m,rfl,Oa,rfl,hS⟩
   clear hS w;rintro M w ⟨mid,s0,r0,gE,hq,rfl,hS⟩
   refine ztn<|zsr<|(zP)<|(zV (Zp (r:=mid+m-1)))<|(zP)<|zlt<|zsq<|zbk<|zlp (fun mm M w=>∃(x:Int) (y:Int),mm=((y-x).toNat)/\(s0<=x)/\(x<=y)/\(y<=r0)/\(x=s0\/¬lt (s (mid+m-x)) (s (x-1)))/\(y=r0\/lt (s (mid+m-y-1)) (s y))/\M= [(0,vd),(1,.int Oi a),(2,.int Oi m),(3,.int Oi b),(4,.func (.func 138) #[] #[]),(18,.int Oi mid),(19,.int Oi (mid+m)),(20,.int Oi x),(21,.int Oi y),(22,.int Oi (mid+m-1))]/\Sat w0 w [.own vd 2 97 n (Ze (fun z9=>pv (s z9)) (fun z9=>cnt (s z9))),.sem F]) ⟨s0,r0,rfl,Oa,Oa,Oa,?_,?_,rfl,hS⟩ ?_
   ·
    exact .inl rfl
   ·
    exact .inl rfl
   clear hS w
   rintro mm M w ⟨x,y,rfl,x0,xy,y1,hx,hy,rfl,hS⟩
   refine zsq<|zsr<|(Oo)<|zlt<|Zf ?_ ?_<;>intro hc
   ·
    refine zsk<|ztn<|zbk<|zsr<|(On)<|(zV (Zg (r:=x+y)))<|(zV (xcv TW XZ))<|(zV (Uz (r:=((x+y)/2))))<|(zV (xcv Wk KY))<|(zP)<|zx7<|zdst [0,1] [0,1] 1000 mx_ hS ?_;clear hS;intro w hS
    refine(zDw 0 xmv)<|(zDw 1 xmv)<|(zDw 2 xmv)<|(zDw 3 xmv)<|(zDw 4 (Zp (r:=mid+m-((x+y)/2)-1)))<|(zDw 5 (xix (kk:=2*mid+2*m-2*((x+y)/2)-2) Yr hsl))<|(zDl 6 (fun w hS=>(xlw (cs:= [(pv (s (mid+m-((x+y)/2)-1))),.int Oi (cnt (s (mid+m-((x+y)/2)-1)))]) ZZ (hS.rowN 0 rfl) (Zx (k:=2*mid+2*m-2*((x+y)/2)-2) (i:=mid+m-((x+y)/2)-1) (fun z9=>pv (s z9)) (fun z9=>cnt (s z9)) Oa))))<|(zDw 7 xmv)<|(zDw 8 xmv)<|(zDw 9 (xix (kk:=2*((x+y)/2)) Yr hsl))<|(zDl 10 (fun w hS=>(xlw (cs:= [(pv (s ((x+y)/2))),.int Oi (cnt (s ((x+y)/2)))]) ZZ (hS.rowN 0 rfl) (Zx (k:=2*((x+y)/2)) (i:=((x+y)/2)) (fun z9=>pv (s z9)) (fun z9=>cnt (s z9)) Oa))))<|zdc 11 (xc0 Zau) (qv w (s (mid+m-((x+y)/2)-1)) (s ((x+y)/2)) (hd (mid+m-((x+y)/2)-1) Oa Oa).1 (hd (mid+m-((x+y)/2)-1) Oa Oa).2 (hd ((x+y)/2) Oa Oa).1 (hd ((x+y)/2) Oa Oa).2 hS.below (hS.holds _ (List.mem_of_getElem? (i:=1) rfl))) ?_;rintro _ w ⟨c1,rfl,hc1,hS'⟩
    replace hS:=hS.cmp hS';clear hS'
    refine⟨⟨fun _=>hS,hS⟩,?_⟩
    refine(zDw 12 Z9)<|(zDw 13 YE)<|zdd<|ztn ?_
    refine Zf ?_ ?_<;>intro hc
    ·
     refine zrg<|(zP)<|(zV (Zg (r:=((x+y)/2)+1)))<|(zP)<|zln<|zbn<|zlq ⟨((x+y)/2)+1,y,rfl,Oa,Oa,Oa,?_,?_,rfl,hS⟩
     ·
      first|exact hx|(right;rw [show mid+m-((x+y)/2+1)=mid+m-(x+y)/2-1 by omega,show(x+y)/2+1-1=(x+y)/2 by omega];exact fun h=>absurd (hc1.2 h) ‹¬c1<0›)
     ·
      first|exact hy|exact .inr (hc1.1 (Od ‹_›))
    refine zrg<|(On)<|zln<|zbn<|zlq ⟨x,((x+y)/2),rfl,Oa,Oa,Oa,?_,?_,rfl,hS⟩
    ·
     first|exact hx|(right;rw [show mid+m-((x+y)/2+1)=mid+m-(x+y)/2-1 by omega,show(x+y)/2+1-1=(x+y)/2 by omega];exact fun h=>absurd (hc1.2 h) ‹¬c1<0›)
    ·
     first|exact hy|exact .inr (hc1.1 (Od ‹_›))
   refine zx8<|(On)<|(zV (Zp (r:=mid+m-x)))<|(zP)<|zx7 ?_
   refine Vx (fun M w=>∃(t:Of),(t=rot s x m (mid+m-x))/\M= [(0,vd),(1,.int Oi a),(2,.int Oi m),(3,.int Oi b),(4,.func (.func 138) #[] #[]),(18,.int Oi mid),(19,.int Oi (mid+m)),(20,.int Oi x),(21,.int Oi y),(22,.int Oi (mid+m-1)),(149,.int Oi x),(150,.int Oi y),(151,B (x<y)),(175,.int Oi (mid+m)),(176,.int Oi x),(177,.int Oi (mid+m-x)),(24,.int Oi (mid+m-x))]/\Sat w0 w [.own vd 2 97 n (Ze (fun z9=>pv (t z9)) (fun z9=>cnt (t z9))),.sem F]) ?_ ?_
   ·
    refine zsr<|zs4 ?_
    refine zlb 181 ?_ ?_<;>intro hc
    ·
     refine zs4 ?_
     refine zlt<|Zf ?_ ?_<;>intro hc
     ·
      refine zrg<|zs5 ?_
      refine zlc (xc0 ZlA) (ZmI (s:=s) (a:=x) (m:=m) (b:=mid+m-x) w0 w hS hsl hn8 qk Oa Oa Oa Oa) ?_;rintro _ w ⟨rfl,hS⟩
      refine zln<|zgj ⟨(rot s x m (mid+m-x)),rfl,rfl,hS⟩
     refine zsk<|zgj ⟨s,(VE Oa Oa Oa).symm,rfl,hS⟩
    iterate 3 refine zlo ?_
    refine(zP)<|zlt<|zcf<|zsk<|zgj ⟨s,(VE Oa Oa Oa).symm,rfl,hS⟩
   clear hS w;rintro M w ⟨t,ht,rfl,hS⟩
   have hdt:=(Yp (a:=s) (lo:=x) (c:=m) (hi:=mid+m-x) Oa Oa).dom (n:=n) (N:=nm) Oa (.inl Oa) hd
   rw [<-ht] at hdt
   have hH:=VM hw h1 h2 hp (s:=x) (mid:=mid) (e:=mid+m-x) Oa Oa Oa Oa Oa (by rcases hq with hq|hq<;>rcases hx with hx|hx<;>first|exact .inl Oa|exact .inr (.inl Oa)|exact .inr (.inr hx)) (by rcases hq with hq|hq<;>rcases hy with hy|hy<;>first|exact .inl Oa|exact .inr (.inl Oa)|(refine .inr (.inr ?_);rw [show x=y by omega];exact hy))
   rw [<-ht] at hH
   refine ztn<|zsq<| ?_
   refine Vx (fun M w=>∃(t1:Of),(PermOn a mid t t1)/\(Srt (Tie lt) a mid t1)/\(∀k,0<=k->k<n->0<=t1 k/\t1 k<nm)/\M= [(0,vd),(1,.int Oi a),(2,.int Oi m),(3,.int Oi b),(4,.func (.func 138) #[] #[]),(18,.int Oi mid),(19,.int Oi (mid+m)),(20,.int Oi x),(21,.int Oi y),(22,.int Oi (mid+m-1)),(149,.int Oi x),(150,.int Oi y),(151,B (x<y)),(175,.int Oi (mid+m)),(176,.int Oi x),(177,.int Oi (mid+m-x)),(24,.int Oi (mid+m-x))]/\Sat w0 w [.own vd 2 97 n (Ze (fun z9=>pv (t1 z9)) (fun z9=>cnt (t1 z9))),.sem F]) ?_ ?_
   ·
    refine zsr<|zs4 ?_
    refine zlb 195 ?_ ?_<;>intro hc
    ·
     refine zs4 ?_
     refine zlt<|Zf ?_ ?_<;>intro hc
     ·
      refine zrg<|zs5 ?_
      refine zlc (xc0 Zaq) (ih (s:=t) (a:=a) (m:=x) (b:=mid) w0 w hS qv hdt Oa Oa Oa Oa (hH.l1) (hH.l2) (hH.pl) Oa) ?_;rintro _ w ⟨rfl,u1,qq,qZ,hS⟩
      have xQ:=qq.dom Oa (.inl Oa) hdt
      refine zln<|zgj ⟨u1,qq,qZ,xQ,rfl,hS⟩
     refine zsk<|zgj ⟨t,(.refl _ _ _),(hH.left (by first|omega|(rintro⟨h3,h4⟩;omega)) Oa Oa),hdt,rfl,hS⟩
    iterate 3 refine zlo ?_
    refine(zP)<|zlt<|zcf<|zsk<|zgj ⟨t,(.refl _ _ _),(hH.left (by first|omega|(rintro⟨h3,h4⟩;omega)) Oa Oa),hdt,rfl,hS⟩
   clear hS w;rintro M w ⟨t1,hq1,hq2,bc,rfl,hS⟩
   have hH2:Halves lt a a mid (mid+m-x) b t1:=Halves.after hH hq1 hq2 Oa Oa
   refine ztn<|zsr<|zs4 ?_
   refine zlb 209 ?_ ?_<;>intro hc
   ·
    refine zs4 ?_
    refine zlt<|Zf ?_ ?_<;>intro hc
    ·
     refine zrg<|zs5 ?_
     refine zlc (xc0 Zaq) (ih (s:=t1) (a:=mid) (m:=mid+m-x) (b:=b) w0 w hS qv bc Oa Oa Oa Oa (hH2.r1) (hH2.r2) (hH2.pr) Oa) ?_;rintro _ w ⟨rfl,u1,qq,qZ,hS⟩
     have xQ:=qq.dom Oa (.inl Oa) bc
     refine zln<|XA ⟨_,rfl,?_⟩
     refine⟨rfl,u1,((((Yp (a:=s) (lo:=x) (c:=m) (hi:=mid+m-x) Oa Oa).mono Oa Oa:PermOn a b s _)).trans (ht▸hq1.mono Oa Oa)).trans (qq.mono Oa Oa),?_,hS⟩
     exact hH.join hw Oa Oa hq1 hq2 qq qZ
    refine zsk<|XA ⟨_,rfl,?_⟩
    refine⟨rfl,t1,(((Yp (a:=s) (lo:=x) (c:=m) (hi:=mid+m-x) Oa Oa).mono Oa Oa:PermOn a b s _)).trans (ht▸hq1.mono Oa Oa),?_,hS⟩
    exact hH.join hw Oa Oa hq1 hq2 (.refl _ _ _) (hH2.right (by first|omega|(rintro⟨h3,h4⟩;omega)) Oa Oa)
   iterate 3 refine zlo ?_
   refine(zP)<|zlt<|zcf<|zsk<|XA ⟨_,rfl,?_⟩
   refine⟨rfl,t1,(((Yp (a:=s) (lo:=x) (c:=m) (hi:=mid+m-x) Oa Oa).mono Oa Oa:PermOn a b s _)).trans (ht▸hq1.mono Oa Oa),?_,hS⟩
   exact hH.join hw Oa Oa hq1 hq2 (.refl _ _ _) (hH2.right (by first|omega|(rintro⟨h3,h4⟩;omega)) Oa Oa)
theorem ZeQ{n:Int}{s:Of}{lt:Int->Int->Prop}{F:Gw.Frame}(w0 w:World)(hS:Sat w0 w [.own vd 2 97 n (Ze (fun z9=>pv (s z9)) (fun z9=>cnt (s z9))),.sem F])(hsl:Slh vd n)(hn8:n<=100000000)(qk:∀x,(pv x).oneCell'=true)(qv:∀(w:World) (x y:Int),0<=x->x<nm->0<=y->y<nm->Below w0.heap.size w0 w->F.holds w->Calls Om 138 [.agg #[pv x,.int Oi (cnt x)],.agg #[pv y,.int Oi (cnt y)]].toArray w fun e w'=>∃v,e= .returned v/\∃c:Int,v= .int Oi c/\(c<0↔lt x y)/\Sat w w' [])(hd:∀k,0<=k->k<n->0<=s k/\s k<nm)(hw:Swo lt)(qN:UP 0 n s):
   Calls Om 218 [vd,.int Oi n,.func (.func 138) #[] #[]].toArray w fun e w=>∃v,e= .returned v/\v= .tuple #[]/\∃t:Of,PermOn 0 n s t/\Srt (Tie lt) 0 n t/\Sat w0 w [.own vd 2 97 n (Ze (fun z9=>pv (t z9)) (fun z9=>cnt (t z9))),.sem F]:=by
 have hn0:=hsl.n0
 refine zenF Tryz.func218 Tryz.ntmps218 ?_
 refine zsr<|(zP)<|zlz<|(Oo)<|zlt<|zsq<|zbk<|zlp (fun mm M w=>∃(t:Of) (a:Int) (b:Int),mm=((n-a).toNat)/\(0<=a)/\(a<=n)/\(b=a+20)/\((20:Int)∣a)/\(PermOn 0 a s t)/\(Runs_ lt 20 n 0 a t)/\(∀k,0<=k->k<n->0<=t k/\t k<nm)/\M= [(0,vd),(1,.int Oi n),(2,.func (.func 138) #[] #[]),(6,.int Oi 20),(7,.int Oi a),(8,.int Oi b)]/\Sat w0 w [.own vd 2 97 n (Ze (fun z9=>pv (t z9)) (fun z9=>cnt (t z9))),.sem F]) ⟨s,0,20,rfl,Oa,Oa,Oa,?_,?_,?_,?_,rfl,hS⟩ ?_
 ·
  exact Int.dvd_zero 20
 ·
  exact .refl _ _ _
 ·
  intro c c0 c1;omega
 ·
  exact hd
 clear hS w
 rintro mm M w ⟨t,a,b,rfl,a0,a1,hb,hda,hp,hr,hd1,rfl,hS⟩
 refine zsq<|zsr<|(Oo)<|zlt<|Zf ?_ ?_<;>intro hc
 ·
  refine zsk<|ztn<|zbk<|zsr<|zs4 ?_
  refine zlc (xc0 ZgL) (Zhp (s:=t) (a:=a) (b:=b) w0 w hS hsl hn8 qk qv hd1 hw Oa Oa Oa (W7 hp qN Oa Oa Oa)) ?_;rintro _ w ⟨rfl,u1,qq,qZ,hS⟩
  have xQ:=qq.dom Oa (.inl Oa) hd1
  refine zlz<|(On)<|zlt<|zrg<|(On)<|(zV (Zg (r:=b+20)))<|(zP)<|zln<|zbn<|zlq ⟨u1,b,b+20,rfl,Oa,Oa,Oa,?_,?_,?_,?_,rfl,hS⟩
  ·
   rw [hb];exact Int.dvd_add hda (Int.dvd_refl 20)
  ·
   exact(hp.mono Oa Oa).trans (qq.mono Oa Oa)
  ·
   exact Wm Oa qN hr a0 hda hp qq qZ (.inl ⟨hb,Oa⟩) Oa
  ·
   exact xQ
 refine zx8<|zs4 ?_
 refine zlc (xc0 ZgL) (Zhp (s:=t) (a:=a) (b:=n) w0 w hS hsl hn8 qk qv hd1 hw Oa Oa Oa (W7 hp qN Oa Oa Oa)) ?_;rintro _ w ⟨rfl,u1,qq,qZ,hS⟩
 have xQ:=qq.dom Oa (.inl Oa) hd1
 refine zx6<|zlp (fun mm M w=>∃(t2:Of) (z:Int),mm=((n-z).toNat)/\(20<=z)/\(z<=2*n+20)/\(PermOn 0 n s t2)/\(Runs_ lt z n 0 n t2)/\(∀k,0<=k->k<n->0<=t2 k/\t2 k<nm)/\M= [(0,vd),(1,.int Oi n),(2,.func (.func 138) #[] #[]),(6,.int Oi z)]/\Sat w0 w [.own vd 2 97 n (Ze (fun z9=>pv (t2 z9)) (fun z9=>cnt (t2 z9))),.sem F]) ⟨u1,20,rfl,Oa,Oa,?_,?_,?_,rfl,hS⟩ ?_
 ·
  exact(hp.mono Oa Oa).trans (qq.mono Oa Oa)
 ·
  exact Wm Oa qN hr a0 hda hp qq qZ (.inr ⟨rfl,Oa⟩) Oa
 ·
  exact xQ
 clear hS w
 rintro mm M w ⟨t2,z,rfl,z0,z1,hp2,hr2,hd2,rfl,hS⟩
 refine zsq<|zsr<|(Oo)<|zlt<|Zf ?_ ?_<;>intro hc
 ·
  refine zsk<|ztn<|zbk<|zsr<|(zP)<|(zV (Yf (r:=2*z)))<|(On)<|zlt<|zsq<|zbk<|zlp (fun mm M w=>∃(t3:Of) (a3:Int) (b3:Int),mm=((n-a3).toNat)/\(0<=a3)/\(a3<=n)/\(b3=a3+2*z)/\(2*z∣a3)/\(PermOn 0 n s t3)/\(Runs_ lt (2*z) n 0 a3 t3)/\(Runs_ lt z n a3 n t3)/\(∀k,0<=k->k<n->0<=t3 k/\t3 k<nm)/\M= [(0,vd),(1,.int Oi n),(2,.func (.func 138) #[] #[]),(6,.int Oi z),(7,.int Oi a3),(8,.int Oi b3)]/\Sat w0 w [.own vd 2 97 n (Ze (fun z9=>pv (t3 z9)) (fun z9=>cnt (t3 z9))),.sem F]) ⟨t2,0,2*z,rfl,Oa,Oa,Oa,?_,?_,?_,?_,?_,rfl,hS⟩ ?_
  ·
   exact Int.dvd_zero _
  ·
   exact hp2
  ·
   intro c c0 c1;omega
  ·
   exact hr2
  ·
   exact hd2
  clear hS w
  rintro mm M w ⟨t3,a3,b3,rfl,a30,a31,hb3,xc,hp3,hA,hB,hd3,rfl,hS⟩
  refine zsq<|zsr<|(Oo)<|zlt<|Zf ?_ ?_<;>intro hc
  ·
   refine zsk<|ztn<|zbk<|zsr<|zs4 ?_
   refine(zV (Zg (r:=a3+z)))<|zs2 ?_
   have hk:=VB (lt:=lt) (z:=z) (n:=n) (a:=a3) (b:=b3) (t:=t3) Oa a30 (Int.dvd_trans (Int.dvd_mul_left 2 z) xc) hB Oa Oa Oa
   refine zlc (xc0 Zaq) (Zg1 (nm:=nm) (lt:=lt) hsl hn8 qk hw _ (s:=t3) (a:=a3) (m:=a3+z) (b:=b3) w0 w hS qv hd3 Oa Oa Oa Oa hk.1 hk.2.1 hk.2.2 (Nat.lt_succ_self _)) ?_;rintro _ w ⟨rfl,u2,qS,yc,hS⟩
   have yO:=qS.dom Oa (.inl Oa) hd3
   refine zlz<|(On)<|zlt<|zrg<|(On)<|(zV (Yf (r:=2*z)))<|(zV (Zg (r:=b3+2*z)))<|(zP)<|zln<|zbn<|zlq ⟨u2,b3,b3+2*z,rfl,Oa,Oa,Oa,?_,?_,?_,?_,?_,rfl,hS⟩
   ·
    rw [hb3];exact Int.dvd_add xc (Int.dvd_refl _)
   ·
    exact hp3.trans (qS.mono Oa Oa)
   ·
    exact(Yl Oa a30 xc hA hB qS yc (.inl ⟨hb3,Oa⟩) Oa).1
   ·
    exact(Yl Oa a30 xc hA hB qS yc (.inl ⟨hb3,Oa⟩) Oa).2
   ·
    exact yO
  refine zx18<|(On)<|(zV (Zg (r:=a3+z)))<|(zP)<|zlz<|(Oo)<|zlt<|Zf ?_ ?_<;>intro hc
  ·
   refine zrg<|zs5 ?_
   have hk:=VB (lt:=lt) (z:=z) (n:=n) (a:=a3) (b:=n) (t:=t3) Oa a30 (Int.dvd_trans (Int.dvd_mul_left 2 z) xc) hB Oa Oa Oa
   refine zlc (xc0 Zaq) (Zg1 (nm:=nm) (lt:=lt) hsl hn8 qk hw _ (s:=t3) (a:=a3) (m:=a3+z) (b:=n) w0 w hS qv hd3 Oa Oa Oa Oa hk.1 hk.2.1 hk.2.2 (Nat.lt_succ_self _)) ?_;rintro _ w ⟨rfl,u2,qS,yc,hS⟩
   have yO:=qS.dom Oa (.inl Oa) hd3
   refine zlt<|zrg<|(zP)<|(zV (Yf (r:=2*z)))<|(zP)<|zln<|zbn<|zlq ⟨u2,2*z,rfl,Oa,Oa,?_,?_,?_,rfl,hS⟩
   ·
    first|exact hp3.trans (qS.mono Oa Oa)|exact hp3
   ·
    first|exact(Yl Oa a30 xc hA hB qS yc (.inr ⟨rfl,Oa⟩) Oa).1|exact VC Oa a30 xc hA hB Oa Oa
   ·
    first|exact yO|exact hd3
  refine zsk<|ztn<|zrg<|(zP)<|(zV (Yf (r:=2*z)))<|(zP)<|zln<|zbn<|zlq ⟨t3,2*z,rfl,Oa,Oa,?_,?_,?_,rfl,hS⟩
  ·
   first|exact hp3.trans (qS.mono Oa Oa)|exact hp3
  ·
   first|exact(Yl Oa a30 xc hA hB qS yc (.inr ⟨rfl,Oa⟩) Oa).1|exact VC Oa a30 xc hA hB Oa Oa
  ·
   first|exact yO|exact hd3
 refine zxt<|ztx<|ztx<|zbh<|XA ⟨_,rfl,?_⟩
 exact⟨rfl,t2,hp2,Za4 hr2 Oa,hS⟩
theorem Zg3{n:Int}{s:Of}{lt:Int->Int->Prop}{F:Gw.Frame}(w0 w:World)(hS:Sat w0 w [.own vd 2 97 n (Ze (fun z9=>pv (s z9)) (fun z9=>cnt (s z9))),.sem F])(hsl:Slh vd n)(hn8:n<=100000000)(qk:∀x,(pv x).oneCell'=true)(qv:∀(w:World) (x y:Int),0<=x->x<nm->0<=y->y<nm->Below w0.heap.size w0 w->F.holds w->Calls Om 138 [.agg #[pv x,.int Oi (cnt x)],.agg #[pv y,.int Oi (cnt y)]].toArray w fun e w'=>∃v,e= .returned v/\∃c:Int,v= .int Oi c/\(c<0↔lt x y)/\Sat w w' [])(hd:∀k,0<=k->k<n->0<=s k/\s k<nm)(hw:Swo lt)(qN:UP 0 n s):
   Calls Om 137 [vd,.func (.func 138) #[] #[]].toArray w fun e w=>∃v,e= .returned v/\v= .tuple #[]/\∃t:Of,PermOn 0 n s t/\Srt (Tie lt) 0 n t/\Sat w0 w [.own vd 2 97 n (Ze (fun z9=>pv (t z9)) (fun z9=>cnt (t z9))),.sem F]:=by
 refine zenF Tryz.func137 Tryz.ntmps137 ?_
 refine zrg<|(On)<|(zV (xln ZQ hsl))<|(zP)<|zlc (xc0 Zl8) (ZeQ (s:=s) w0 w hS hsl hn8 qk qv hd hw qN) ?_;rintro _ w ⟨rfl,u1,qq,qZ,hS⟩
 refine zln<|XA ⟨_,rfl,?_⟩
 exact⟨rfl,u1,qq,qZ,hS⟩
end Go.Proofs.YtpnamgfdakfccaaGreat
namespace Go.Proofs.YtpnamgfdakfccaaGreat
open Go Go.RowKit Go.Proofs.Gw
variable {m:Int} {f g:Of} {vA vB:Value}
theorem Zmw:Zc Om 139=true:=Oc
theorem Zl9:Zc Om 182=true:=Oc
theorem ZgM:Zc Om 253=true:=Oc
theorem fd_97_0:Zs Om 97 0=some 0:=Oc
theorem ZdU{x:Int}(w0:World):
   Calls Om 253 [.int Oi x].toArray w0 fun e w=>∃v,e= .returned v/\v= .bool false/\Sat w0 w []:=by
 refine zenG Tryz.func253 Tryz.ntmps253 fun w hS=> ?_
 refine zsr<|(zP)<|zlz<|(On)<|(zV (xkf Y9))<|(zP)<|zx1<|Oj ?_
 exact⟨rfl,hS⟩
def Zc4(x y c:Int):Prop:=(c= -1/\x<y)\/(c=0/\x=y)\/(c=1/\y<x)
theorem Zne{x y:Int}(w0:World):
   Calls Om 182 [.int Oi x,.int Oi y].toArray w0 fun e w=>∃v,e= .returned v/\∃c:Int,v= .int Oi c/\Zc4 x y c/\Sat w0 w []:=by
 refine zenG Tryz.func182 Tryz.ntmps182 fun w hS=> ?_
 refine zsr<|(zP)<|zlz<|(zP)<|zlc (xc0 ZgM) (ZdU (x:=x) w) ?_;rintro _ w ⟨rfl,hS'⟩
 replace hS:=hS.cmp hS';clear hS'
 refine(zP)<|zlz<|(zP)<|zlc (xc0 ZgM) (ZdU (x:=y) w) ?_;rintro _ w ⟨rfl,hS'⟩
 replace hS:=hS.cmp hS';clear hS'
 refine(zP)<|zx5<|(zP)<|zlt<|zcf<|zsk<|ztn<|zsq<|zsr ?_
 refine(zP)<|zlt<|zcf<|zsk<|ztn<|zsq<|zsr ?_
 refine(Oo)<|zlt<|Zf ?_ ?_<;>intro hc
 ·
  refine zsr<|(zP)<|zx14<|Oj ?_
  exact⟨(-1),rfl,by unfold Zc4;omega,hS⟩
 refine zsk<|ztn<|zsq<|zsr<|(Oo)<|zlt<|Zf ?_ ?_<;>intro hc
 ·
  refine zsr<|(zP)<|zx14<|Oj ?_
  exact⟨1,rfl,by unfold Zc4;omega,hS⟩
 refine ZY<|(zP)<|zx1<|Oj ?_
 exact⟨0,rfl,by unfold Zc4;omega,hS⟩
theorem ZmH {n:Int} (w0:World) (hA:Row w0 vA 1 n (ints f)) (hB:Row w0 vB 1 m (ints g)):
   Calls Om 139 [vA,vB].toArray w0 fun e w=>∃v,e= .returned v/\∃c:Int,v= .int Oi c/\(c<0↔ahd (lst m g) (lst n f))/\Sat w0 w []:=by
 have hn:=hA.slh.n0;have hn1:=hA.slh.n1;have hm:=hB.slh.n0;have hm1:=hB.slh.n1
 refine zenG Tryz.func139 Tryz.ntmps139 fun w hS=> ?_
 refine zsr<|(zP)<|zx5<|(zP)<|(zV (xln Zb hA.slh))<|(zP)<|zx6<|zlp (fun mm M w=>∃(i:Int),mm=((n-i).toNat)/\(0<=i)/\(i<=n)/\(i<=m)/\(∀k,0<=k->k<i->f k=g k)/\M= [(0,vA),(1,vB),(9,vA),(10,.int Oi n),(11,.int Oi i)]/\Sat w0 w []) ⟨0,rfl,Oa,Oa,Oa,?_,rfl,hS⟩ ?_
 ·
  intro k h0 h1;omega
 clear hS w
 rintro mm M w ⟨i,rfl,h0,h1,h2,qa,rfl,hS⟩
 refine zsr<|(zP)<|zx7<|Zf ?_ ?_<;>intro hc
 ·
  refine zx3<|(zP)<|(zV (xix (kk:=i) Zb hA.slh))<|(zV (xlr (u:= .int Oi (f i)) pl_3 (hA.below hS.below)))<|(On)<|zx5<|(On)<|(zV (xln Zb hB.slh))<|(zP)<|zlt<|Zf ?_ ?_<;>intro hc
  ·
   refine zsr<|(zP)<|zlt<|zrt<|ztr<|zbr<|ztr<|ztr<|zbr<|ztr<|Oj ?_
   exact⟨1,rfl,⟨fun h=>Oa,fun h=>absurd h (V3 (Zb2 Oa Oa (fun k k0 k1=>qa k k0 Oa)))⟩,hS⟩
  refine ZY<|(On)<|(zV (xix (kk:=i) Zb hB.slh))<|(zV (xlr (u:= .int Oi (g i)) pl_3 (hB.below hS.below)))<|(zP)<|zlz<|(On)<|zlc (xc0 Zl9) (Zne (x:=(f i)) (y:=(g i)) w) ?_;rintro _ w ⟨c1,rfl,hc1,hS'⟩
  replace hS:=hS.cmp hS';clear hS'
  refine(zP)<|zlz<|(On)<|zlt<|Zf ?_ ?_<;>intro hc
  ·
   refine zsr<|(On)<|zx2<|Oj ?_
   exact⟨c1,rfl,⟨fun h=>ZhG (j:=i) Oa Oa Oa (fun k k0 k1=>(qa k k0 k1).symm) (by unfold Zc4 at hc1;omega),fun h=>by
       unfold Zc4 at hc1
       by_cases h9:c1<0
       · exact h9
       · exact absurd h (V3 (ZhG (j:=i) Oa Oa Oa (fun k k0 k1=>qa k k0 k1) Oa))⟩,hS⟩
  refine zx4<|(zV (Zg (r:=i+1)))<|(zP)<|zln<|zlq ⟨i+1,rfl,Oa,Oa,Oa,?_,rfl,hS⟩
  ·
   intro k h0' h1';rcases Int.lt_or_eq_of_le (show k<=i by omega) with hk|hk;exact qa k h0' hk;rw [hk];(unfold Zc4 at hc1;omega)
 refine zx18<|(zP)<|(zV (xln Zb hA.slh))<|(zP)<|(zV (xln Zb hB.slh))<|(zP)<|zlt<|Zf ?_ ?_<;>intro hc
 ·
  refine zsr<|(zP)<|zx14<|Oj ?_
  exact⟨(-1),rfl,⟨fun _=>Zb2 Oa Oa (fun k k0 k1=>(qa k k0 Oa).symm),fun _=>Oa⟩,hS⟩
 refine ZY<|(zP)<|zx1<|Oj ?_
 exact⟨0,rfl,⟨fun h=>Oa,fun h=>absurd h (by rw [show n=m by omega];exact ZhF (fun k k0 k1=>(qa k k0 Oa).symm))⟩,hS⟩
theorem ZmR{n:Int}{a b:Int}(w0:World)(hA:Row w0 vA 1 n (ints f))(hB:Row w0 vB 1 m (ints g)):
   Calls Om 138 [.agg #[vA,.int Oi a],.agg #[vB,.int Oi b]].toArray w0 fun e w=>∃v,e= .returned v/\∃c:Int,v= .int Oi c/\(c<0↔ahd (lst n f) (lst m g))/\Sat w0 w []:=by
 refine zenG Tryz.func138 Tryz.ntmps138 fun w hS=> ?_
 refine zsr<|zla (xbx (cs:= [_,_]) hS) ?_;rintro _ w ⟨g1,rfl,hS⟩
 refine zla (xbx (cs:= [_,_]) hS) ?_;rintro _ w ⟨g2,rfl,hS⟩
 refine(zP)<|zlz<|(zV (xfb 0 fd_97_0))<|(zV (xlb 1 pl_22 hS))<|(zV (xfb 0 fd_97_0))<|(zV (xlb 0 pl_22 hS))<|zlc (xc0 Zmw) (ZmH (n:=m) (f:=g) (m:=n) (g:=f) w (hB.below hS.below) (hA.below hS.below)) ?_;rintro _ w ⟨c1,rfl,hc1,hS'⟩
 replace hS:=hS.cmp hS';clear hS'
 refine(zP)<|zx1<|Oj ?_
 exact⟨_,rfl,hc1,hS.nl⟩
theorem ZoN{n:Int}(w0:World)(hA:Row w0 vA 1 n (ints f))(hB:Row w0 vB 1 m (ints g)):
   Calls Om 134 [vA,vB].toArray w0 fun e w=>∃v,e= .returned v/\v=B (lst n f=lst m g)/\Sat w0 w []:=by
 have hn:=hA.slh.n0;have hn1:=hA.slh.n1;have hm:=hB.slh.n0;have hm1:=hB.slh.n1
 refine zenG Tryz.func134 Tryz.ntmps134 fun w hS=> ?_
 refine zsr<|(zP)<|zx5<|(zP)<|(zV (xln Zb hA.slh))<|(zP)<|(zV (xln Zb hB.slh))<|(zP)<|zlt<|Zf ?_ ?_<;>intro hc
 ·
  refine zsr<|(zP)<|zx14<|Oj ?_
  exact⟨Zi (by intro hh;have h9:=(Uh hn hm).1 hh;first|omega|(have:=h9.2 i h0 Oa;omega)),hS⟩
 refine zsk<|ztn<|zsq<|zsr<|(zP)<|(zV (xln Zb hA.slh))<|(zP)<|zx6<|zlp (fun mm M w=>∃(i:Int),mm=((n-i).toNat)/\(0<=i)/\(i<=n)/\(∀k,0<=k->k<i->f k=g k)/\M= [(0,vA),(1,vB),(12,.int Oi n),(13,.int Oi i)]/\Sat w0 w []) ⟨0,rfl,Oa,Oa,?_,rfl,hS⟩ ?_
 ·
  intro k h0 h1;omega
 clear hS w
 rintro mm M w ⟨i,rfl,h0,h1,qa,rfl,hS⟩
 refine zsr<|(zP)<|zx7<|Zf ?_ ?_<;>intro hc
 ·
  refine zx3<|(On)<|zx7<|zdst [] [] 1000 mx_ hS ?_;clear hS;intro w hS
  refine(zDw 0 xmv)<|(zDw 1 xmv)<|(zDw 2 (xix (kk:=i) Zb hA.slh))<|(zDl 3 (fun w hS=>(xlr (u:= .int Oi (f i)) pl_3 (hA.below hS.below))))<|(zDw 4 xmv)<|(zDw 5 xmv)<|(zDw 6 (xix (kk:=i) Zb hB.slh))<|(zDl 7 (fun w hS=>(xlr (u:= .int Oi (g i)) pl_3 (hB.below hS.below))))<|(zDw 8 Y9)<|zdd<|ztn ?_
  refine Zf ?_ ?_<;>intro hc
  ·
   refine zsr<|(zP)<|zx2<|Oj ?_
   exact⟨Zi (by intro hh;have h9:=(Uh hn hm).1 hh;first|omega|(have:=h9.2 i h0 Oa;omega)),hS⟩
  refine zx4<|(zV (Zg (r:=i+1)))<|(zP)<|zln<|zlq ⟨i+1,rfl,Oa,Oa,?_,rfl,hS⟩
  ·
   intro k h0' h1';rcases Int.lt_or_eq_of_le (show k<=i by omega) with hk|hk;exact qa k h0' hk;rw [hk];omega
 refine zx8<|(zP)<|zx1<|Oj ?_
 exact⟨YA (by exact(Uh hn hm).2 ⟨by omega,fun k k0 k1=>qa k k0 Oa⟩),hS⟩
end Go.Proofs.YtpnamgfdakfccaaGreat
namespace Go.Proofs.YtpnamgfdakfccaaGreat
open Go Go.RowKit Go.Proofs.Gw
variable {cnt ln:Of} {pt:Og} {pv:Int->Value} {vV:Value}
theorem ZcS:Zc Om 132=true:=Oc
theorem ZmB:Zc Om 133=true:=Oc
theorem ZmA:Zc Om 134=true:=Oc
theorem Zmy:Zc Om 136=true:=Oc
theorem fd_97_1:Zs Om 97 1=some 1:=Oc
theorem ZoF{vB:Value}{m b:Int}{g:Of}{vA:Value}{n a:Int}{f:Of}{gu:Nat}(w0:World)(hG:(Ent.blk gu [vA,.int Oi a]).holds w0)(hA:Row w0 vA 1 n (ints f))(hB:Row w0 vB 1 m (ints g)):
   Calls Om 133 [.agg #[vB,.int Oi b],Or gu].toArray w0 fun e w=>∃v,e= .returned v/\v=B (lst n f=lst m g)/\Sat w0 w []:=by
 refine zenG Tryz.func133 Tryz.ntmps133 fun w hS=> ?_
 refine zsr<|zla (xbx (cs:= [_,_]) hS) ?_;rintro _ w ⟨g1,rfl,hS⟩
 refine(zP)<|zlz<|(zV (xfb 0 fd_97_0))<|(zV (xlf pl_22 (Ent.holds.cell hG (o:=0) rfl) hS))<|(zV (xfb 0 fd_97_0))<|(zV (xlb 0 pl_22 hS))<|zlc (xc0 ZmA) (ZoN (n:=n) (f:=f) (m:=m) (g:=g) w (hA.below hS.below) (hB.below hS.below)) ?_;rintro _ w ⟨rfl,hS'⟩
 replace hS:=hS.cmp hS';clear hS'
 refine(zP)<|zx1<|Oj ?_
 exact⟨rfl,hS.nl⟩
theorem ZmY{u:Int}{vA:Value}{n a:Int}{f:Of}{gu:Nat}(w0:World)(hV:VAt w0 vV u pv ln pt cnt)(hG:(Ent.blk gu [vA,.int Oi a]).holds w0)(hA:Row w0 vA 1 n (ints f)):
   Calls Om 132 [vV,.func (.func 133) #[] #[Or gu]].toArray w0 fun e w=>∃v,e= .returned v/\∃r:Int,v= .int Oi r/\((r= -1/\∀k,0<=k->k<u->¬(lst n f=lst (ln k) (pt k)))\/(0<=r/\r<u/\(lst n f=lst (ln r) (pt r))/\∀k,0<=k->k<r->¬(lst n f=lst (ln k) (pt k))))/\Sat w0 w []:=by
 have hn:=hV.row.slh.n0;have hn1:=hV.row.slh.n1
 refine zenG Tryz.func132 Tryz.ntmps132 fun w hS=> ?_
 refine zsr<|(zP)<|zx5<|(zP)<|(zV (xln ZQ hV.row.slh))<|(zP)<|zx6<|zlp (fun mm M w=>∃(i:Int),mm=((u-i).toNat)/\(0<=i)/\(i<=u)/\(∀k,0<=k->k<i->¬(lst n f=lst (ln k) (pt k)))/\M= [(0,vV),(1,.func (.func 133) #[] #[Or gu]),(7,.int Oi u),(8,.int Oi i)]/\Sat w0 w []) ⟨0,rfl,Oa,Oa,?_,rfl,hS⟩ ?_
 ·
  intro k h0 h1;omega
 clear hS w
 rintro mm M w ⟨i,rfl,h0,h1,qa,rfl,hS⟩
 refine zsr<|(zP)<|zx7<|Zf ?_ ?_<;>intro hc
 ·
  refine zx3<|(On)<|zlz<|(Oo)<|(zV (xix (kk:=2*i) ZQ hV.row.slh))<|(zV (xlw (cs:= [(pv i),.int Oi (cnt i)]) ZZ (hV.row.below hS.below) (Zx (k:=2*i) (i:=i) pv cnt Oa)))<|zlc (xcc (vs:= [_]) ZmB) (ZoF (n:=n) (f:=f) (m:=(ln i)) (g:=(pt i)) w (Sat.oldblk hS hG) (hA.below hS.below) ((hV.p i Oa Oa).below hS.below)) ?_;rintro _ w ⟨rfl,hS'⟩
  replace hS:=hS.cmp hS';clear hS'
  refine zlt<|Zf ?_ ?_<;>intro hc
  ·
   refine zsr<|(On)<|zx2<|Oj ?_
   exact⟨i,rfl,.inr ⟨by omega,Oa,‹lst n f=lst (ln i) (pt i)›,qa⟩,hS⟩
  refine zx4<|(zV (Zg (r:=i+1)))<|(zP)<|zln<|zlq ⟨i+1,rfl,Oa,Oa,?_,rfl,hS⟩
  ·
   intro k h0' h1';rcases Int.lt_or_eq_of_le (show k<=i by omega) with hk|hk;exact qa k h0' hk;rw [hk];assumption
 refine zx8<|(zP)<|zx1<|Oj ?_
 exact⟨-1,rfl,.inl ⟨rfl,fun k h0 h1=>qa k h0 Oa⟩,hS⟩
theorem ZoE{vB:Value}{m b:Int}{g:Of}(w0:World)(hB:Row w0 vB 1 m (ints g)):
   Calls Om 136 [.agg #[vB,.int Oi b]].toArray w0 fun e w=>∃v,e= .returned v/\v=B (b<1)/\Sat w0 w []:=by
 refine zenG Tryz.func136 Tryz.ntmps136 fun w hS=> ?_
 refine zsr<|zla (xbx (cs:= [_,_]) hS) ?_;rintro _ w ⟨g1,rfl,hS⟩
 refine(zP)<|zlz<|(zV (xfb 1 fd_97_1))<|(zV (xlb 0 pl_3 hS))<|(On)<|zx1<|Oj ?_
 exact⟨rfl,hS.nl⟩
theorem ZmX{u:Int}(w0:World)(hV:VAt w0 vV u pv ln pt cnt)(hpc:∀k,0<=k->k<u->1<=cnt k):
   Calls Om 132 [vV,.func (.func 136) #[] #[]].toArray w0 fun e w=>∃v,e= .returned v/\v= .int Oi (-1)/\Sat w0 w []:=by
 have hn:=hV.row.slh.n0;have hn1:=hV.row.slh.n1
 refine zenG Tryz.func132 Tryz.ntmps132 fun w hS=> ?_
 refine zsr<|(zP)<|zx5<|(zP)<|(zV (xln ZQ hV.row.slh))<|(zP)<|zx6<|zlp (fun mm M w=>∃(i:Int),mm=((u-i).toNat)/\(0<=i)/\(i<=u)/\M= [(0,vV),(1,.func (.func 136) #[] #[]),(7,.int Oi u),(8,.int Oi i)]/\Sat w0 w []) ⟨0,rfl,Oa,Oa,rfl,hS⟩ ?_
 clear hS w
 rintro mm M w ⟨i,rfl,h0,h1,rfl,hS⟩
 refine zsr<|(zP)<|zx7<|Zf ?_ ?_<;>intro hc
 ·
  refine zx3<|(On)<|zlz<|(Oo)<|(zV (xix (kk:=2*i) ZQ hV.row.slh))<|(zV (xlw (cs:= [(pv i),.int Oi (cnt i)]) ZZ (hV.row.below hS.below) (Zx (k:=2*i) (i:=i) pv cnt Oa)))<|zlc (xc0 Zmy) (ZoE (b:=(cnt i)) w ((hV.p i Oa Oa).below hS.below)) ?_;rintro _ w ⟨rfl,hS'⟩
  replace hS:=hS.cmp hS';clear hS'
  refine zlt<|Zf ?_ ?_<;>intro hc
  ·
   refine zsr<|(On)<|zx2<|Oj ?_
   have:=hpc i h0 Oa
   omega
  refine zx4<|(zV (Zg (r:=i+1)))<|(zP)<|zln<|zlq ⟨i+1,rfl,Oa,Oa,rfl,hS⟩
 refine zx8<|(zP)<|zx1<|Oj ?_
 exact⟨rfl,hS⟩
theorem Zm8{u:Int}(w0:World)(hV:VAt w0 vV u pv ln pt cnt)(hpc:∀k,0<=k->k<u->1<=cnt k):
   Calls Om 135 [vV,.func (.func 136) #[] #[]].toArray w0 fun e w=>∃v,e= .returned v/\vV=v/\Sat w0 w []:=by
 refine zenG Tryz.func135 Tryz.ntmps135 fun w hS=> ?_
 refine zsr<|(zP)<|zlz<|(On)<|zlc (xc0 ZcS) (ZmX (u:=u) (pv:=pv) (ln:=ln) (pt:=pt) (cnt:=cnt) w (hV.below hS.below) hpc) ?_;rintro _ w ⟨rfl,hS'⟩
 replace hS:=hS.cmp hS';clear hS'
 refine(zP)<|zx5<|(zP)<|(zV (xkt Xa))<|zlt<|zct<|zsr ?_
 refine(On)<|zx14<|Oj ?_
 exact⟨rfl,hS⟩
end Go.Proofs.YtpnamgfdakfccaaGreat
namespace Go.Proofs.YtpnamgfdakfccaaGreat
open Go Go.RowKit Go.Proofs.Gw
variable {cnt ln:Of} {pt:Og}
theorem Zmz:Zc Om 135=true:=Oc
theorem Zmx:Zc Om 137=true:=Oc
theorem Zbn{nO i:Int}{lO cO:Of}{gO:Og}(n0:0<=nO)(i0:0<=i)(hs:plL nO lO gO cO=VA (plL i ln pt cnt))(hne:∀k,0<=k->k<nO->¬(lst (ln i) (pt i)=lst (lO k) (gO k))):
   plL (nO+1) (gsn lO nO (ln i)) (gsn gO nO (pt i)) (snoc cO nO (cnt i))=VA (plL (i+1) ln pt cnt):=by
 rw [X5 i0,Ri,<-hs,Zb4 fun v hv e=>by
   obtain⟨j,hj⟩:=List.mem_iff_getElem?.1 hv
   rw [plL_get] at hj
   split at hj
   · injection hj with hj
     rw [<-hj] at e
     exact hne j Oa (by assumption) e.symm
   · cases hj]
 exact Tn n0 (fun k k0 k1=>⟨Zv k1,Zt k1,Zv k1⟩) (ZF Oa) (Zu Oa) (ZF Oa)
theorem Zdm{nO i r:Int}{lO cO:Of}{gO:Og}(i0:0<=i)(hs:plL nO lO gO cO=VA (plL i ln pt cnt))(r0:0<=r)(r1:r<nO)(e:lst (ln i) (pt i)=lst (lO r) (gO r))(hne:∀k,0<=k->k<r->¬(lst (ln i) (pt i)=lst (lO k) (gO k))):
   plL nO lO gO (upd cO r (cO r+cnt i))=VA (plL (i+1) ln pt cnt):=by
 rw [X5 i0,Ri,<-hs,Zd1 (j:=r.toNat) (v:=(lst (lO r) (gO r),cO r)) (by rw [plL_get,Int.toNat_of_nonneg r0,if_pos r1]) e.symm fun k hk w hw h=>by
   rw [plL_get,if_pos Oa] at hw
   injection hw with hw
   rw [<-hw] at h
   exact hne k Oa Oa h.symm]
 apply List.ext_getElem?
 intro k
 rw [List.getElem?_set,plL_get,plL_get,plL_len]
 unfold upd
 by_cases hk:(k:Int)<nO
 · rw [if_pos hk,if_pos hk]
   by_cases hr:r.toNat=k
   · have hr':(k:Int)=r:=Oa
     rw [if_pos hr',if_pos hr,if_pos Oa,hr']
   · have hr':¬(k:Int)=r:=Oa
     rw [if_neg hr',if_neg hr]
 · rw [if_neg hk,if_neg hk,if_neg Oa]
theorem ZfJ{cC:Of}{nC B C x:Int}(h:∀k,0<=k->k<nC->1<=cC k/\cC k<=B)(hB:B<=C)(x1:1<=x)(x2:x<=C):∀k,0<=k->k<nC+1->1<=snoc cC nC x k/\snoc cC nC x k<=C:=fun k k0 k1=>by
 by_cases e:k<nC
 · rw [Zt e];have:=h k k0 e;omega
 · rw [Zu e];omega
theorem ZjU{cC:Of}{nC B C x r:Int}(h:∀k,0<=k->k<nC->1<=cC k/\cC k<=B)(hB:B<=C)(x1:1<=x)(x2:x<=C):∀k,0<=k->k<nC->1<=upd cC r x k/\upd cC r x k<=C:=fun k k0 k1=>by
 unfold upd
 by_cases e:k=r
 · rw [if_pos e];omega
 · rw [if_neg e];have:=h k k0 k1;omega
theorem Zaz{vV:Value}{u:Int}{pv:Int->Value}(w0:World)(hV:VAt w0 vV u pv ln pt cnt)(hn5:u<=10000000)(hlc:∀k,0<=k->k<u->ln k<=100000)(hpc:∀k,0<=k->k<u->1<=cnt k/\cnt k<=1000):
   Calls Om 68 [vV].toArray w0 fun e w=>∃v,e= .returned v/\∃r n2 pv2 ln2 pt2 qg,v=r/\NormR (plL u ln pt cnt) (plL n2 ln2 pt2 qg)/\0<=n2/\n2<=u/\(∀k,0<=k->k<n2->1<=qg k/\qg k<=1000*u)/\Slh r n2/\Sat w0 w [.own r 2 97 n2 (Ze pv2 qg),.sem (Frame.rows 3 n2 pv2 ln2 pt2)]:=by
 have hn:=hV.row.slh.n0;have hn1:=hV.row.slh.n1
 refine zenG Tryz.func68 Tryz.ntmps68 fun w hS=> ?_
 refine zsr<|(zP)<|zlz<|(zP)<|zx5<|(zP)<|(zV (xln ZQ hV.row.slh))<|(zP)<|zx6 ?_
 replace hS:=hS.addnil 2 97 (Ze (fun _=>Oh) (fun _=>0))
 replace hS:=hS.addrows 3 (fun _=>Oh) (fun _=>0) (fun _ _=>0)
 have aK:=fun k (k0:0<=k) (k1:k<0)=>hS.slhIn 1 rfl k0 k1
 refine zlp (fun mm M w=>∃(nC:Int) (wv:Int->Value) (lC:Of) (gC:Og) (cC:Of) (i:Int) (wC:Value),mm=((u-i).toNat)/\(0<=i)/\(i<=u)/\(0<=nC/\nC<=i)/\(plL nC lC gC cC=VA (plL i ln pt cnt))/\(∀k,0<=k->k<nC->1<=cC k/\cC k<=1000*i)/\(∀x,(wv x).oneCell'=true)/\(Slh wC nC)/\M= [(2,Oh),(3,wC),(7,vV),(8,.int Oi u),(9,.int Oi i)]/\Sat w0 w [.own wC 2 97 nC (Ze wv cC),.sem (Frame.rows 3 nC wv lC gC)]) ⟨0,(fun _=>Oh),(fun _=>0),(fun _ _=>0),(fun _=>0),0,Oh,rfl,Oa,Oa,Oa,?_,?_,?_,?_,rfl,hS⟩ ?_
 ·
  rfl
 ·
  intro k k0 k1;omega
 ·
  intro x;rfl
 ·
  exact slh_nil
 clear hS w
 rintro mm M w ⟨nC,wv,lC,gC,cC,i,wC,rfl,h0,h1,hnC,hs,hbc,qk,hwC,rfl,hS⟩
 have xl:=fun k (k0:0<=k) (k1:k<nC)=>hS.slhIn 1 rfl k0 k1
 refine zsr<|(zP)<|zx7<|Zf ?_ ?_<;>intro hc
 ·
  refine zx3<|(zV (xix (kk:=2*i) ZQ hV.row.slh))<|zlv (xlw (cs:= [(pv i),.int Oi (cnt i)]) ZZ (hV.row.below hS.below) (Zx (k:=2*i) (i:=i) pv cnt Oa)) ?_
  have hci:=hpc i h0 Oa
  have hli:=hlc i h0 Oa
  refine zla (xal (cs:= [_,_]) YW hS) ?_;rintro _ w ⟨g1,rfl,hS⟩
  refine zle (xsw 2 ZZ hS (hd:=(Za (hV.p i Oa Oa).slh.one (Za rfl Zh)))) ?_;clear hS;rintro w hS
  refine zlz<|(zP)<|(zV xmf)<|zlc (xc0 ZcS) (ZmY (u:=nC) (pv:=wv) (ln:=lC) (pt:=gC) (cnt:=cC) (n:=(ln i)) (f:=(pt i)) w (⟨(hS.rowN 0 rfl),fun k k0 k1=>hS.rowIn 1 rfl k0 k1,fun k k0 k1=>hS.roomIn 1 rfl k0 k1⟩:VAt _ wC nC wv lC gC cC) (hS.holds _ (List.mem_of_getElem? (i:=2) rfl)) ((hV.p i Oa Oa).below hS.below)) ?_;rintro _ w ⟨r1,rfl,hr1,hS'⟩
  replace hS:=hS.cmp hS';clear hS'
  have hbr:0<=r1->1<=cC r1/\cC r1<=1000*i:=fun h=>hbc r1 h (by rcases hr1 with⟨h2,_⟩|⟨_,h2,_⟩<;>omega)
  have hrr:r1= -1\/(0<=r1/\r1<nC):=by rcases hr1 with⟨h2,_⟩|⟨h2,h3,_⟩<;>omega
  refine(zP)<|zlz<|(On)<|zlt<|Zf ?_ ?_<;>intro hc
  ·
   refine zdst [0,1,2] [1,2] 10 mx_ hS ?_;clear hS;intro w hS
   refine(zDw 0 xmv)<|(zDw 1 xmv)<|(zDw 2 (xix (kk:=2*r1) ZQ hwC))<|(zDw 3 (xfc (kk:=2*r1+1) fd_97_1 hwC))<|zdl 4 (fun w hS=>(xlr (u:= .int Oi (cC r1)) pl_3 (hS.rowN 0 rfl) (e:=(Zc8 wv cC Oa)))) ?_
   refine(zDw 5 (xfb 1 fd_97_1))<|(zDl 6 (fun w hS=>(xlb 1 pl_3 hS)))<|(zDw 7 (Zg (r:=(cC r1)+(cnt i))))<|(zDw 8 (xix (kk:=2*r1) ZQ hwC))<|(zDw 9 (xfc (kk:=2*r1+1) fd_97_1 hwC))<|zde 10 (xso 0 pl_3 hS (ZaO (k:=2*r1+1) (i:=r1) _ _ Oa)) ?_;clear hS;rintro w hS
   refine⟨⟨fun h=>absurd h (by decide),hS.pk [1,2]⟩,?_⟩
   refine zdd<|zbn<|ztn<|zrg ?_
   refine(zV (Zg (r:=i+1)))<|(zP)<|zln<|zlq ⟨nC,wv,lC,gC,(upd cC r1 ((cC r1)+(cnt i))),i+1,wC,rfl,Oa,Oa,Oa,?_,?_,?_,?_,rfl,hS.pk [0,1]⟩
   ·
    first|exact Zbn Oa h0 hs (hr1.resolve_right (fun h=>Oa)).2|(have hr9:=hr1.resolve_left (fun h=>Oa);exact Zdm h0 hs hr9.1 hr9.2.1 hr9.2.2.1 hr9.2.2.2)
   ·
    first|exact ZfJ hbc Oa Oa Oa|exact ZjU hbc Oa Oa Oa
   ·
    first|exact qk|exact Zdx qk ‹Slh _ _›.one
   ·
    exact hwC
  refine zdst [2] [2] 1000 mx_ hS ?_;clear hS;intro w hS
  refine(zDw 0 xmv)<|(zDw 1 (xfb 0 fd_97_0))<|(zDl 2 (fun w hS=>(xlb 0 pl_22 hS)))<|(zDw 4 (xfb 1 fd_97_1))<|(zDl 5 (fun w hS=>(xlb 0 pl_3 hS)))<|zdc 3 (xc0 cl_66) (c_clone (n:=(ln i)) (f:=(pt i)) w ((hV.p i Oa Oa).below hS.below) Oa) ?_;rintro vq1 w ⟨_,rfl,qb,hS'⟩
  replace hS:=(hS.comp hS').n4;clear hS'
  refine⟨⟨fun _=>hS.pk [2],hS.pk [2]⟩,?_⟩
  refine zDrv 6 (xany (v:= .agg #[vq1,.int Oi (cnt i)]) (hr:=by obtain⟨_,_,_,_,rfl,_⟩:=qb;kernel_rfl)) ?_
  refine zda 7 (xli (n:=1) (len:=1) (pv:= [(0,.agg #[vq1,.int Oi (cnt i)])]) (cs:= [vq1,.int Oi (cnt i)]) (c:=Ze (fun _=>vq1) (fun _=>(cnt i))) ZQ YW hS (hf:=by obtain⟨_,_,_,_,rfl,_⟩:=qb;kernel_rfl)) ?_;rintro v1 w ⟨hS,hv1⟩
  refine⟨⟨fun _=>hS.pk [2],hS.pk [2]⟩,?_⟩
  refine zda 8 (xap 0 (r:=nC+1) ZQ YW hS (hS.rowN 4 rfl) (Xg _ _ _ _ _) (h1:=fun k _ _=>Xb (fun _=>qb.one) k)) ?_;rintro v2 w ⟨hS,hv2⟩
  replace hS:=Sat.merge (l1:= [_]) (l2:= [_]) (l3:= [_]) hS Oa
  have y4:=fun k (k0:0<=k) (k1:k<nC+1)=>hS.slhIn 1 rfl k0 k1
  refine⟨⟨fun _=>hS.pk [2],hS.pk [2]⟩,?_⟩
  refine(zDw 9 xas)<|zdd<|zbn<|ztn<|zrg ?_
  refine(zV (Zg (r:=i+1)))<|(zP)<|zln<|zlq ⟨nC+1,gsn wv nC vq1,gsn lC nC (ln i),gsn gC nC (pt i),(snoc cC nC (cnt i)),i+1,v2,rfl,Oa,Oa,Oa,?_,?_,?_,?_,rfl,hS.pk [0,1]⟩
  ·
   first|exact Zbn Oa h0 hs (hr1.resolve_right (fun h=>Oa)).2|(have hr9:=hr1.resolve_left (fun h=>Oa);exact Zdm h0 hs hr9.1 hr9.2.1 hr9.2.2.1 hr9.2.2.2)
  ·
   first|exact ZfJ hbc Oa Oa Oa|exact ZjU hbc Oa Oa Oa
  ·
   first|exact qk|exact Zdx qk ‹Slh _ _›.one
  ·
   exact hv2
 refine zx8<|(zP)<|zlc (xc0 Zmz) (Zm8 (u:=nC) (pv:=wv) (ln:=lC) (pt:=gC) (cnt:=cC) w (⟨(hS.rowN 0 rfl),fun k k0 k1=>hS.rowIn 1 rfl k0 k1,fun k k0 k1=>hS.roomIn 1 rfl k0 k1⟩:VAt _ wC nC wv lC gC cC) (fun k k0 k1=>(hbc k k0 k1).1)) ?_;rintro _ w ⟨rfl,hS'⟩
 replace hS:=hS.cmp hS';clear hS'
 refine(zP)<|zlz<|(zP)<|zlc (xc0 Zmx) (Zg3 (vd:=wC) (n:=nC) (nm:=nC) (s:=fun k=>k) (pv:=wv) (cnt:=cC) (lt:=fun x y=>ahd (lst (lC x) (gC x)) (lst (lC y) (gC y))) (F:=Frame.rows 3 nC wv lC gC) w0 w (hS.pk [0,1]) hwC Oa qk (fun w x y x0 x1 y0 y1 _ hF=>ZmR w (hF.1 x x0 x1).row (hF.1 y y0 y1).row) (fun k k0 k1=>⟨k0,k1⟩) (ZhZ fun x=>lst (lC x) (gC x)) (fun i j _ h _=>h)) ?_;rintro _ w ⟨rfl,t1,zZ,cP,hS⟩
 replace hS:=hS.pmrows 1 zZ
 replace hS:Sat w0 w [.own wC 2 97 nC (Ze (fun k=>wv (t1 k)) (fun k=>cC (t1 k))),.sem (Frame.rows 3 nC (fun k=>wv (t1 k)) (fun k=>lC (t1 k)) (fun k=>gC (t1 k)))]:=hS
 refine zlz<|(On)<|zx1<|Oj ?_
 obtain rfl:i=u:=Oa
 exact⟨_,_,_,_,_,_,rfl,.of_names hnC.1 hs zZ cP,hnC.1,hnC.2,fun k k0 k1=>(by obtain⟨q,q0,q1,q2⟩:=zZ.fr k0 k1;rw [show t1 k=q from q2];exact hbc q q0 q1),hwC,hS⟩
end Go.Proofs.YtpnamgfdakfccaaGreat
namespace Go.Proofs.Gw
variable {c i m x:Int} {sz:Of}
def incr1(p:List Int)(x:Int):List Int:=p.modify x.toNat (· +1)
def Yc(m room:Int)(sz:Of)(x:Int):Us->Us
  | []=> [(incr1 (lst m fun _=>0) x,room-sz x)]
  |b::r=>if sz x<=b.2 then(incr1 b.1 x,b.2-sz x)::r else b::Yc m room sz x r
def YM(m room:Int)(sz:Of)(l:List Int):Us:=l.foldl (fun s x=>Yc m room sz x s) []
theorem TE(m room:Int)(sz:Of)(l:List Int)(x:Int):YM m room sz (l++ [x])=Yc m room sz x (YM m room sz l):=by simp [YM]
theorem RZ{m room:Int}{sz:Of}{x:Int}:∀{s:Us},(∀b∈s,b.2<sz x)->Yc m room sz x s=s++ [(incr1 (lst m fun _=>0) x,room-sz x)]
 | [],_=>rfl
 | b::r,h=>by
   have h1:=h b (by simp)
   rw [Yc,if_neg Oa,RZ fun c hc=>h c (by simp [hc])];rfl
theorem ZbJ{m room:Int}{sz:Of}{x:Int}:∀{s:Us} {j:Nat} {b:List Int×Int},s[j]? =some b->sz x<=b.2->(∀k<j,∀c,s[k]? =some c->c.2<sz x)->Yc m room sz x s=s.set j (incr1 b.1 x,b.2-sz x)
 | [],_,_,h,_,_=>by simp at h
 | c::r,0,b,h,e,_=>by
   simp at h;subst h
   rw [Yc,if_pos e];rfl
 | c::r,j+1,b,h,e,hk=>by
   simp at h
   have h1:=hk 0 Oa c (by simp)
   rw [Yc,if_neg Oa,ZbJ h e fun k hk' d hd=>hk (k+1) Oa d (by simpa using hd)];rfl
theorem RN{f:Of}(x0:0<=x):incr1 (lst m f) x=lst m (fun k=>if k=x then f k+1 else f k):=by
 apply List.ext_getElem?
 intro k
 unfold incr1
 rw [List.getElem?_modify,lst_get,lst_get]
 by_cases hk:(k:Int)<m
 · rw [if_pos hk,if_pos hk]
   by_cases hx:x.toNat=k
   · have hx':(k:Int)=x:=Oa
     simp [hx,hx']
   · have hx':¬(k:Int)=x:=Oa
     simp [hx,hx']
 · rw [if_neg hk,if_neg hk];rfl
theorem Zn2{n room:Int}{P P':Og}{L L':Of}{k:Int}(n0:0<=n)(x0:0<=x)(k0:0<=k)(kn:k<n)(h:sz x<=L k)(hf:∀j,0<=j->j<k->L j<sz x)
   (hP:∀a,0<=a->a<n->∀b,0<=b->b<m->P' a b=if a=k/\b=x then P a b+1 else P a b) (hL:∀a,0<=a->a<n->L' a=if a=k then L a-sz x else L a):plL n (fun _=>m) P' L'=Yc m room sz x (plL n (fun _=>m) P L):=by
 have hg:(plL n (fun _=>m) P L)[k.toNat]? =some (lst m (P k),L k):=by rw [plL_get,Int.toNat_of_nonneg k0,if_pos kn]
 rw [ZbJ hg h fun j hj c hc=>by
   rw [plL_get,if_pos Oa] at hc;injection hc with hc;rw [<-hc];exact hf j Oa Oa]
 apply List.ext_getElem?
 intro j
 rw [List.getElem?_set,plL_get,plL_get,plL_len]
 by_cases hj:(j:Int)<n
 · rw [if_pos hj,if_pos hj,hL j Oa hj]
   by_cases hjk:k.toNat=j
   · rw [if_pos hjk,if_pos Oa,if_pos Oa]
     rw [RN x0,show(j:Int)=k by omega]
     congr 2
     apply Yh;intro b b0 b1
     rw [hP k k0 kn b b0 b1]
     by_cases hb:b=x
     · rw [if_pos ⟨rfl,hb⟩,if_pos hb]
     · rw [if_neg fun h=>hb h.2,if_neg hb]
   · rw [if_neg hjk,if_neg Oa]
     congr 2
     apply Yh;intro b b0 b1
     rw [hP j Oa hj b b0 b1,if_neg fun h=>hjk Oa]
 · rw [if_neg hj,if_neg hj]
   by_cases hjk:k.toNat=j
   · omega
   · rw [if_neg hjk]
theorem ZkU{n room:Int}{P P':Og}{L L':Of}(n0:0<=n)(x0:0<=x)(hf:∀j,0<=j->j<n->L j<sz x)
   (hP:∀a,0<=a->a<n->∀b,0<=b->b<m->P' a b=P a b) (hN:∀b,0<=b->b<m->P' n b=if b=x then 1 else 0) (hL:∀a,0<=a->a<n->L' a=L a) (hl:L' n=room-sz x):plL (n+1) (fun _=>m) P' L'=Yc m room sz x (plL n (fun _=>m) P L):=by
 rw [RZ fun b hb=>by
   obtain⟨j,hj⟩:=List.mem_iff_getElem?.1 hb
   rw [plL_get] at hj
   split at hj
   · injection hj with hj;rw [<-hj];exact hf j Oa (by assumption)
   · cases hj]
 rw [X5 n0,hl]
 congr 1
 · exact Rv fun k k0 k1=>⟨rfl,hL k k0 k1,fun j j0 j1=>hP k k0 k1 j j0 j1⟩
 · rw [RN x0]
   congr 2
   apply Yh;intro b b0 b1
   rw [hN b b0 b1]
   by_cases hb:b=x
   · rw [if_pos hb,if_pos hb];rfl
   · rw [if_neg hb,if_neg hb]
def pcs(d:Of):Nat->List Int
  |0=> []
  |k+1=>pcs d k++List.replicate (d k).toNat (k:Int)
def pcsTo(d:Of)(i c:Int):List Int:=pcs d i.toNat++List.replicate c.toNat i
theorem Zct(d:Of)(c0:0<=c):pcsTo d i (c+1)=pcsTo d i c++ [i]:=by
 unfold pcsTo;rw [show(c+1).toNat=c.toNat+1 by omega,List.replicate_succ',List.append_assoc]
theorem Zcu(d:Of)(i0:0<=i)(hc:c.toNat=(d i).toNat):pcsTo d (i+1) 0=pcsTo d i c:=by
 unfold pcsTo;rw [show(i+1).toNat=i.toNat+1 by omega,pcs,Int.toNat_of_nonneg i0,hc];simp
def psum(f d:Of):Nat->Int
  |0=>0
  |k+1=>psum f d k+f k*d k
theorem YJ(f d:Of)(h:0<=i):psum f d (i+1).toNat=psum f d i.toNat+f i*d i:=by
 rw [show(i+1).toNat=i.toNat+1 by omega,psum,Int.toNat_of_nonneg h]
theorem Kx(f:Of)(x:Int):∀n:Nat,((List.replicate n x).map f).sum=f x*n
 |0=>by simp
 |n+1=>by rw [List.replicate_succ,List.map_cons,List.sum_cons,Kx f x n];push_cast;rw [Int.mul_add];omega
theorem Zdi(f d:Of):∀n:Nat,(∀k:Nat,k<n->0<=d k)->((pcs d n).map f).sum=psum f d n
 |0,_=>by simp [pcs,psum]
 | n+1,h=>by
   have h0:=h n Oa
   rw [pcs,List.map_append,List.sum_append,Zdi f d n fun k hk=>h k Oa,Kx,psum,Int.toNat_of_nonneg h0]
theorem Ry(f d:Of)(i0:0<=i)(c0:0<=c)(h:∀k,0<=k->k<i->0<=d k):((pcsTo d i c).map f).sum=psum f d i.toNat+f i*c:=by
 unfold pcsTo;rw [List.map_append,List.sum_append,Zdi f d _ fun k hk=>h k Oa Oa,Kx,Int.toNat_of_nonneg c0]
theorem Zek(d:Of)(i0:0<=i)(c0:0<=c)(h:∀k,0<=k->k<i->0<=d k):((pcsTo d i c).length:Int)=psum (fun _=>1) d i.toNat+c:=by
 have h1:=Ry (fun _=>1) d i0 c0 h
 have h2:∀l:List Int,(l.map fun _=>(1:Int)).sum=l.length:=fun l=>by
   induction l with
   |nil=>rfl
   |cons a l ih=>rw [List.map_cons,List.sum_cons,ih,List.length_cons];push_cast;omega
 rw [h2] at h1;omega
theorem WZ{d:Of}{f:Of}:∀{i n:Nat},i<=n->(∀k:Nat,k<n->0<=f k*d k)->psum f d i<=psum f d n:=by
 intro i n hin h
 induction hin with
 |refl=>exact Int.le_refl _
 | step hh ih=>
   have h1:=ih fun k hk=>h k Oa
   have h2:=h _ (Nat.lt_succ_self _)
   simp only [psum];omega
def Wn(sz:Of)(p:List Int):Int:=((List.range p.length).map fun(k:Nat)=>p.getD k 0*sz k).sum
theorem XX{α:Type}{f g:α->Int}{l:List α}(h:∀x∈l,f x=g x):(l.map f).sum=(l.map g).sum:=by rw [List.map_congr_left h]
theorem Zdc{f:Nat->Int}{x:Nat}{c:Int}:∀{n:Nat},x<n->((List.range n).map fun k=>if k=x then f k+c else f k).sum=((List.range n).map f).sum+c
 |0,h=>Oa
 | n +1,h=>by
   rw [List.range_succ,List.map_append,List.map_append,List.sum_append,List.sum_append]
   by_cases hx:x=n
   · subst hx
     rw [XX (g:=f) fun k hk=>by rw [if_neg];have:=List.mem_range.1 hk;omega]
     simp;omega
   · rw [Zdc Oa]
     simp [Ne.symm hx];omega
theorem WX(sz:Of){p:List Int}(x0:0<=x)(h:x.toNat<p.length):Wn sz (incr1 p x)=Wn sz p+sz x:=by
 unfold Wn incr1
 rw [List.length_modify,<-Zdc (x:=x.toNat) h]
 apply XX
 intro k hk
 have hk:=List.mem_range.1 hk
 rw [List.getD_eq_getElem?_getD,List.getD_eq_getElem?_getD,List.getElem?_modify]
 by_cases hx:x.toNat=k
 · have hx':(k:Int)=x:=Oa
   rw [if_pos hx.symm,List.getElem?_eq_getElem hk]
   simp [hx,Int.add_mul,hx']
 · rw [if_neg (Ne.symm hx)];simp [hx]
theorem Rq(sz:Of)(m:Int):Wn sz (lst m fun _=>0)=0:=by
 unfold Wn
 rw [XX (g:=fun _=>0) fun k hk=>by
   rw [YR] at hk
   have hk:=List.mem_range.1 hk
   rw [List.getD_eq_getElem?_getD,lst_get,if_pos Oa];simp]
 induction (List.range (lst m fun _=>0).length) with
 |nil=>rfl
 |cons a l ih=>rw [List.map_cons,List.sum_cons,ih];rfl
structure FFOk (m room:Int) (sz:Of) (qc:List Int) (s:Us):Prop where
  ok:∀b∈s,b.1.length=m.toNat/\Wn sz b.1+b.2=room/\0<=b.2
  pr:s.Pairwise fun a b=>a.2+b.2<room
  mt:(s.map fun b=>room-b.2).sum=(qc.map sz).sum
  ct:∀g:Of,(s.map fun b=>Wn g b.1).sum=(qc.map g).sum
  ln:s.length<=qc.length
  nn:∀b∈s,∀v∈b.1,0<=v
theorem FFOk.nil(m room:Int)(sz:Of):FFOk m room sz [] []:=⟨by simp,.nil,rfl,fun _=>rfl,by simp,by simp⟩
theorem Zbx{p:List Int}(h:∀v∈p,0<=v):∀v∈incr1 p x,0<=v:=by
 intro v hv
 unfold incr1 at hv
 obtain⟨k,hk⟩:=List.mem_iff_getElem?.1 hv
 rw [List.getElem?_modify] at hk
 cases hp:p[k]? with
 |none=>rw [hp] at hk;cases hk
 | some u=>
   rw [hp] at hk
   have h0:=h u (List.mem_of_getElem? hp)
   by_cases hx:x.toNat=k
   · simp [hx] at hk;omega
   · simp [hx] at hk;omega
theorem W8 {m room:Int} {sz:Of} {x:Int}:∀{s:Us},∀b∈Yc m room sz x s,b∈s\/(∃c∈s,sz x<=c.2/\b=(incr1 c.1 x,c.2-sz x))\/(b=(incr1 (lst m fun _=>0) x,room-sz x)/\∀c∈s,c.2<sz x)
 | [],b,h=>by simp [Yc] at h;exact .inr (.inr ⟨h,by simp⟩)
 | c :: r, b,h=>by
   rw [Yc] at h
   split at h
   · rename_i hc
     rcases List.mem_cons.1 h with h|h
     · exact .inr (.inl ⟨c,by simp,hc,h⟩)
     · exact .inl (by simp [h])
   · rename_i hc
     rcases List.mem_cons.1 h with h|h
     · exact .inl (by simp [h])
     · rcases W8 b h with h|⟨d,hd,e⟩|⟨e,hd⟩
       · exact .inl (by simp [h])
       · exact .inr (.inl ⟨d,by simp [hd],e⟩)
       · exact .inr (.inr ⟨e,fun d hd'=>by
           rcases List.mem_cons.1 hd' with h|h
           · rw [h];omega
           · exact hd d h⟩)
theorem RY{m room:Int}{sz:Of}{x:Int}(F:List Int×Int->Int)(y:Int)(h1:∀c:List Int×Int,sz x<=c.2->F (incr1 c.1 x,c.2-sz x)=F c+y)(h2:F (incr1 (lst m fun _=>0) x,room-sz x)=y):∀{s:Us},((Yc m room sz x s).map F).sum=(s.map F).sum+y
 | []=>by simp [Yc,h2]
 | c ::r=>by
   rw [Yc]
   split
   · rename_i hc
     simp only [List.map_cons,List.sum_cons,h1 c hc];omega
   · simp only [List.map_cons,List.sum_cons,RY F y h1 h2 (s:=r)];omega
theorem ZbI{m room:Int}{sz:Of}{x:Int}(hx:0<=sz x):∀{s:Us},s.Pairwise (fun a b=>a.2+b.2<room)->(Yc m room sz x s).Pairwise fun a b=>a.2+b.2<room
 | [],_=>by simp [Yc]
 | c ::r,h=>by
   have h1:=List.pairwise_cons.1 h
   rw [Yc]
   split
   · refine List.pairwise_cons.2 ⟨fun b hb=> ?_,h1.2⟩
     have:=h1.1 b hb
     dsimp only;omega
   · refine List.pairwise_cons.2 ⟨fun b hb=> ?_,ZbI hx h1.2⟩
     rcases W8 b hb with h|⟨d,hd,_,e⟩|⟨e,hd⟩
     · exact h1.1 b h
     · rw [e];have:=h1.1 d hd;dsimp only;omega
     · rw [e];dsimp only;omega
theorem R0{m room:Int}{sz:Of}{x:Int}:∀{s:Us},(Yc m room sz x s).length<=s.length+1
 | []=>by simp [Yc]
 | c::r=>by
   rw [Yc]
   split
   · simp
   · simp only [List.length_cons];have:=R0 (m:=m) (room:=room) (sz:=sz) (x:=x) (s:=r);omega
theorem Zgf {room:Int} {qc:List Int} {s:Us} (h:FFOk m room sz qc s) (x0:0<=x) (x1:x<m) (hx:0<=sz x) (hr:sz x<=room):FFOk m room sz (qc++ [x]) (Yc m room sz x s):=by
 have hl:x.toNat<(lst m fun _=>(0:Int)).length:=by rw [YR];omega
 refine⟨fun b hb=> ?_,ZbI hx h.pr,?_,fun g=> ?_,?_,fun b hb=> ?_⟩
 · rcases W8 b hb with hb|⟨c,hc,hs,e⟩|⟨e,_⟩
   · exact h.ok b hb
   · obtain⟨h1,h2,h3⟩:=h.ok c hc
     rw [e]
     refine⟨by simp [incr1,h1],?_,by dsimp only;omega⟩
     rw [WX sz x0 Oa];dsimp only;omega
   · rw [e]
     refine⟨by simp [incr1,YR],?_,by dsimp only;omega⟩
     rw [WX sz x0 hl,Rq];dsimp only;omega
 · rw [RY (fun b=>room-b.2) (sz x) (fun c hc=>by dsimp only;omega) (by dsimp only;omega),h.mt];simp
 · have key:∀{s:Us},(∀b∈s,b.1.length=m.toNat)->((Yc m room sz x s).map fun b=>Wn g b.1).sum=(s.map fun b=>Wn g b.1).sum+g x:=by
     intro s hs
     induction s with
     |nil=>simp [Yc,WX g x0 hl,Rq]
     | cons c r ih=>
       rw [Yc]
       split
       · simp only [List.map_cons,List.sum_cons]
         rw [WX g x0 (by rw [hs c (by simp)];omega)];omega
       · simp only [List.map_cons,List.sum_cons,ih fun b hb=>hs b (by simp [hb])];omega
   rw [key fun b hb=>(h.ok b hb).1,h.ct];simp
 · have:=R0 (m:=m) (room:=room) (sz:=sz) (x:=x) (s:=s);have:=h.ln;simp;omega
 · rcases W8 b hb with hb|⟨c,hc,hs,e⟩|⟨e,_⟩
   · exact h.nn b hb
   · rw [e];exact Zbx (h.nn c hc)
   · rw [e];exact Zbx fun v hv=>by
       unfold lst at hv;simp at hv;omega
theorem Zge{room:Int}:∀{l:List Int},(∀x∈l,0<=x/\x<m/\0<=sz x/\sz x<=room)->FFOk m room sz l (YM m room sz l):=by
 intro l
 have key:∀(l h:List Int) (s:Us),FFOk m room sz h s->(∀x∈l,0<=x/\x<m/\0<=sz x/\sz x<=room)->FFOk m room sz (h++l) (l.foldl (fun s x=>Yc m room sz x s) s):=by
   intro l
   induction l with
   |nil=>intro h s hs _;simpa using hs
   | cons x l ih=>
     intro h s hs hl
     obtain⟨h1,h2,h3,h4⟩:=hl x (by simp)
     have:=ih (h++ [x]) _ (Zgf hs h1 h2 h3 h4) fun y hy=>hl y (by simp [hy])
     simpa using this
 intro hl
 have:=key l [] [] (.nil _ _ _) hl
 simpa [YM] using this
theorem Zdj{d:Of}:∀{n:Nat},∀x∈pcs d n,0<=x/\x<n
 |0,x,h=>by simp [pcs] at h
 | n+1,x,h=>by
   rw [pcs] at h
   rcases List.mem_append.1 h with h|h
   · have:=Zdj x h;omega
   · have:=(List.mem_replicate.1 h).2;omega
def T0(s:Us):Us:=s.map fun b=>(b.1,1)
theorem V5(f:List Int->Int):∀s:Us,wsum f (T0 s)=(s.map fun b=>f b.1).sum
 | []=>rfl
 | b::r=>by
   have:=V5 f r
   unfold T0 at this⊢
   simp only [List.map_cons,wsum,List.sum_cons,this];omega
end Go.Proofs.Gw
namespace Go.Proofs.YtpnamgfdakfccaaGreat
open Go Go.RowKit Go.Proofs.Gw
variable {vD:Value}
theorem Zmt:Zc Om 145=true:=Oc
theorem Zjd{vL:Value}{p:Prob}(w0:World)(h:PAt w0 vL vD p)(hok:p.Ok):
   Calls Om 145 [.agg #[vL,vD,.int Oi p.stock,.int Oi p.kerf]].toArray w0 fun e w=>∃v,e= .returned v/\v= .int Oi (psum (fun _=>1) p.D p.m.toNat)/\Sat w0 w []:=by
 obtain⟨hm,hm1,hd,hd1,hs,hk⟩:=h.Oq
 have hpd:=hok.d;have qX:=hok.m2
 refine zenG Tryz.func145 Tryz.ntmps145 fun w hS=> ?_
 refine zsr<|zla (xbx (cs:= [_,_,_,_]) hS) ?_;rintro _ w ⟨g1,rfl,hS⟩
 refine(zP)<|zlz<|(zP)<|zx5<|(zV (xfb 1 fd_27_1))<|(zV (xlb 0 pl_22 hS))<|(zV (xln Zb h.D.slh))<|(zP)<|zx6<|zlp (fun mm M w=>∃(s:Int) (i:Int),mm=((p.d-i).toNat)/\(0<=i)/\(i<=p.d)/\(s=psum (fun _=>1) p.D i.toNat)/\(0<=s/\s<=1000000*i)/\M= [(2,.int Oi 0),(3,.int Oi s),(7,vD),(8,.int Oi p.d),(9,.int Oi i)]/\Sat w0 w [.blk g1 [vL,vD,.int Oi p.stock,.int Oi p.kerf]]) ⟨0,0,rfl,Oa,Oa,?_,Oa,rfl,hS⟩ ?_
 ·
  rfl
 clear hS w
 rintro mm M w ⟨s,i,rfl,h0,h1,hs9,hsb,rfl,hS⟩
 refine zsr<|(zP)<|zx7<|Zf ?_ ?_<;>intro hc
 ·
  refine zx3<|(zV (xix (kk:=i) Zb h.D.slh))<|zlv (xlr (u:= .int Oi (p.D i)) pl_3 (h.D.below hS.below)) ?_
  have hbv:=h.iD i
  have he:=hok.all i h0 Oa;unfold Prob.each at he
  refine(zP)<|zlt<|zrg<|(On)<|(zV (Zg (r:=s+p.D i)))<|(zP)<|zx10<|(zV (Zg (r:=i+1)))<|(zP)<|zln<|zlq ⟨s+p.D i,i+1,rfl,Oa,Oa,?_,Oa,rfl,hS⟩
  ·
   rw [YJ _ _ h0,<-hs9];omega
 refine zx8<|(On)<|zx1<|Oj ?_
 obtain rfl:p.m=i:=Oa
 rw [<-hs9]
 exact⟨rfl,hS.nl⟩
def ZhQ(p:Prob)(e:Int):Prop:=(¬p.Ok/\e=1)\/(p.Ok/\1000<psum (fun _=>1) p.D p.m.toNat/\e=9)\/(p.Ok/\psum (fun _=>1) p.D p.m.toNat<=1000/\e=0)
theorem ZdW{vL:Value}{p:Prob}(w0:World)(h:PAt w0 vL vD p):
   Calls Om 75 [.agg #[vL,vD,.int Oi p.stock,.int Oi p.kerf]].toArray w0 fun e w=>∃v,e= .returned v/\∃e:Int,v= .int Oi e/\ZhQ p e/\Sat w0 w []:=by
 obtain⟨hm,hm1,hd,hd1,hs,hk⟩:=h.Oq
 refine zenG Tryz.func75 Tryz.ntmps75 fun w hS=> ?_
 refine zsr<|zla (xbx (cs:= [_,_,_,_]) hS) ?_;rintro _ w ⟨g1,rfl,hS⟩
 refine(zP)<|zlt<|zsq<|zbk<|zsr<|(zV (xls 0 st_27 hS))<|zlc (xc0 XJ) (Z8 (p:=p) w (h.below hS.below)) ?_;rintro _ w ⟨rfl,hS'⟩
 replace hS:=hS.cmp hS';clear hS'
 refine(On)<|zlt<|Zf ?_ ?_<;>intro hc
 ·
  refine zsr<|(zP)<|zlt<|zrt<|zbr<|ztr<|Oj ?_
  exact⟨1,rfl,.inl ⟨‹¬p.Ok›,rfl⟩,hS.nl⟩
 refine zsr<|zlv (xls 0 st_27 hS) ?_
 have xM:p.Ok:=by first|assumption|exact Od ‹_›
 refine zlc (xc0 Zmt) (Zjd (p:=p) w (h.below hS.below) xM) ?_;rintro _ w ⟨rfl,hS'⟩
 replace hS:=hS.cmp hS';clear hS'
 refine(On)<|zlt<|Zf ?_ ?_<;>intro hc
 ·
  refine zsr<|(zP)<|zlt<|zrt<|zbr<|ztr<|Oj ?_
  exact⟨9,rfl,.inr (.inl ⟨xM,Oa,rfl⟩),hS.nl⟩
 refine zsk<|zbn<|ztn<|zsr<|(zP)<|zx1<|Oj ?_
 exact⟨0,rfl,.inr (.inr ⟨xM,Oa,rfl⟩),hS.nl⟩
theorem Zhc{vL:Value}{p:Prob}(w0:World)(h:PAt w0 vL vD p):
   Calls Om 146 [.agg #[vL,vD,.int Oi p.stock,.int Oi p.kerf]].toArray w0 fun e w=>∃v,e= .returned v/\∃g,v= .func (.func 223) #[] #[Or g]/\Sat w0 w [.blk g [vL,vD,.int Oi p.stock,.int Oi p.kerf]]:=by
 refine zenG Tryz.func146 Tryz.ntmps146 fun w hS=> ?_
 refine zsr<|zla (xbx (cs:= [_,_,_,_]) hS) ?_;rintro _ w ⟨g1,rfl,hS⟩
 refine(zP)<|zlz<|(zV xmf)<|(zP)<|zx1<|Oj ?_
 exact⟨_,rfl,hS⟩
theorem ZeS{vL:Value}{p:Prob}{gp:Nat}{St:Type}(qc:St->List Int)(Inv:St->Prop)(s0:St)(hs0:qc s0= [])(hI0:Inv s0)(w0:World)(h:PAt w0 vL vD p)(hok:p.Ok):ItC (St:=St) (X:=Int) (Tt:=Unit) Om w0 223 [Or gp] [.blk gp [vL,vD,.int Oi p.stock,.int Oi p.kerf]] (fun x=> [.int Oi x]) (fun s x rest=>Inv s/\∃c,0<=x/\x<p.m/\0<=c/\c<p.D x/\qc s=pcsTo p.D x c) (fun s x s1=>qc s1=qc s++ [x]/\Inv s1) (fun _ _ _=>False) (s0) (fun s rest=>Inv s/\qc s=pcsTo p.D p.m 0) (fun _ _=>False):=by
 intro l C D w hS hY
 obtain⟨hm,hm1,hd,hd1,hs,hk⟩:=h.Oq
 have hpd:=hok.d;have qX:=hok.m2
 refine ZfZ Tryz.func223 Tryz.ntmps223 ?_
 refine hsq<|hrz ?_
 refine zlv (xfb 1 fd_27_1) ?_
 refine zlv (xlb 1 pl_22 hS) ?_
 refine zlv (xln Zb h.D.slh) ?_
 refine zlv xmv ?_
 refine zln<|zh<|htn<|hbk<|hlp (fun mm M w=>∃(s:St) (i:Int),mm=((p.d-i).toNat)/\(0<=i)/\(i<=p.d)/\(Inv s)/\(qc s=pcsTo p.D i 0)/\M= [(0,.func (.yield l) #[] #[]),(6,vD),(7,.int Oi p.d),(8,.int Oi i)]/\Sat w0 w [.sem (C s),.blk gp [vL,vD,.int Oi p.stock,.int Oi p.kerf]]) ⟨s0,0,rfl,Oa,Oa,?_,?_,rfl,hS⟩ ?_
 ·
  exact hI0
 ·
  exact hs0
 clear hS w
 rintro mm M w ⟨s,i,rfl,h0,h1,hI,hh,rfl,hS⟩
 refine hsq<|hrz ?_
 refine zlv Z9 ?_
 refine zln<|zh<|htn<|hsq ?_
 refine YS ?_ ?_<;>intro hc
 ·
  refine hsk<|htn<|hsq<|hbk<|hsq<|hrz ?_
  refine zlv xmv ?_
  refine zlv (xix (kk:=i) Zb h.D.slh) ?_
  refine zlv (xlr (u:= .int Oi (p.D i)) pl_3 (h.D.below hS.below)) ?_
  have hbv:=h.iD i
  have he:=hok.all i h0 Oa;unfold Prob.each at he
  refine zs2 ?_
  refine zln<|zh<|htn<|hsq<|hrz ?_
  refine zs2 ?_
  refine zln<|zh<|htn<|hbk<|hlp (fun mm M w=>∃(s2:St) (c:Int),mm=((p.D i-c).toNat)/\(0<=c)/\(c<=p.D i)/\(Inv s2)/\(qc s2=pcsTo p.D i c)/\M= [(0,.func (.yield l) #[] #[]),(3,.int Oi i),(6,vD),(7,.int Oi p.d),(8,.int Oi i),(13,.int Oi (p.D i)),(14,.int Oi c)]/\Sat w0 w [.sem (C s2),.blk gp [vL,vD,.int Oi p.stock,.int Oi p.kerf]]) ⟨s,0,rfl,Oa,Oa,?_,?_,rfl,hS⟩ ?_
  ·
   exact hI
  ·
   exact hh
  clear hS w
  rintro mm M w ⟨s2,c,rfl,c0,c1,hI2,hh2,rfl,hS⟩
  refine hsq<|hrz ?_
  refine zlv Z9 ?_
  refine zln<|zh<|htn<|hsq ?_
  refine YS ?_ ?_<;>intro hc
  ·
   refine hsk<|htn<|hsq<|hbk<|hsq<|hrg ?_
   iterate 2 refine hlv xmv ?_
   refine hly (hY s2 i _ w ⟨hI2,c,h0,Oa,c0,Oa,hh2⟩ (Sat.bundle (l1:= [_,_]) (l2:= []) hS)) ?_;rintro _ w (⟨rfl,sy1,qu,hS⟩|⟨rfl,ty1,xb,hS⟩)
   ·
    replace hS:=Sat.unbundle (l1:= [_,_]) (l3:= []) hS
    replace hS:=hS.n2
    refine hlv xnt ?_
    refine hln<|htn<|hcf<|hsk<|zbn<|htn<|hrz ?_
    refine zlv (Zg (r:=c+1)) ?_
    refine zlv xmv ?_
    refine zln<|zh<|hlq ⟨sy1,c+1,rfl,Oa,Oa,?_,?_,rfl,hS⟩
    ·
     exact qu.2
    ·
     rw [qu.1,hh2,<-Zct _ c0]
   ·
    replace hS:=Sat.unbundle (l1:= [_,_]) (l3:= []) hS
    replace hS:=hS.n2
    refine hlv xnf ?_
    refine hln<|htn<|hct<|hrt<|zbr<|ztr<|ztr<|zbr<|zbr<|ztr<|ztr<|zbr<|zf0 ⟨_,rfl,?_⟩
    exact xb.elim
  refine hxt<|ztx<|ztx<|zbh<|zbn<|htn<|hrz ?_
  refine zlv (Zg (r:=i+1)) ?_
  refine zlv xmv ?_
  refine zln<|zh<|hlq ⟨s2,i+1,rfl,Oa,Oa,?_,?_,rfl,hS⟩
  ·
   exact hI2
  ·
   rw [Zcu _ h0 (c:=c) Oa];exact hh2
 refine hxt<|ztx<|ztx<|zbh<|XA ⟨_,rfl,?_⟩
 exact .inl ⟨s,_,⟨hI,by rw [hh,show i=p.m by omega]⟩,Sat.bundle (l1:= [_,_]) (l2:= []) hS⟩
end Go.Proofs.YtpnamgfdakfccaaGreat
namespace Go.Proofs.YtpnamgfdakfccaaGreat
open Go Go.RowKit Go.Proofs.Gw
variable {m x:Int} {sz:Of}
theorem To{d:Of}{i c:Int}(hd:∀k,0<=k->k<m->0<=d k)(i0:0<=i)(i1:i<=m)(c0:0<=c)(c1:i<m->c<=d i)(c2:i=m->c=0):(∀x∈pcsTo d i c,0<=x/\x<m)/\((pcsTo d i c).length:Int)<=psum (fun _=>1) d m.toNat:=by
 constructor
 · intro x hx
   unfold pcsTo at hx
   rcases List.mem_append.1 hx with h|h
   · have:=Zdj x h;omega
   · have h1:=List.mem_replicate.1 h
     have h2:=h1.2
     rcases Int.lt_or_eq_of_le i1 with h3|h3
     · omega
     · have:=c2 h3;have:=h1.1;omega
 · rw [Zek d i0 c0 fun k k0 k1=>hd k k0 Oa]
   rcases Int.lt_or_eq_of_le i1 with h3|h3
   · have h4:=c1 h3
     have h5:=YJ (fun _=>1) d i0
     have h6:=WZ (d:=d) (f:=fun _=>1) (i:=(i+1).toNat) (n:=m.toNat) Oa fun k hk=>by have:=hd k Oa Oa;omega
     rw [h5] at h6;omega
   · have:=c2 h3;rw [h3];omega
theorem KK {p:List Int} (hp:∀v∈p,0<=v) (hs:∀k:Nat,k<p.length->1<=sz k) {j:Nat} (hj:j<p.length):p.getD j 0<=Wn sz p:=by
 have key:∀(l:List Nat) (f:Nat->Int),(∀k∈l,0<=f k)->∀j∈l,f j<=(l.map f).sum:=by
   intro l f
   induction l with
   |nil=>intro _ j h;simp at h
   | cons a l ih=>
     intro h0 j h
     have h1:0<=(l.map f).sum:=by
       clear ih h
       induction l with
       |nil=>simp
       |cons b l ih2=>rw [List.map_cons,List.sum_cons];have:=h0 b (by simp);have:=ih2 (fun k hk=>h0 k (by rcases List.mem_cons.1 hk with h|h<;>simp [h]));omega
     rw [List.map_cons,List.sum_cons]
     rcases List.mem_cons.1 h with e|e
     · rw [e];omega
     · have:=ih (fun k hk=>h0 k (by simp [hk])) j e;have:=h0 a (by simp);omega
 have nn:∀k:Nat,k<p.length->0<=p.getD k 0:=fun k hk=>by
   rw [List.getD_eq_getElem?_getD,List.getElem?_eq_getElem hk]
   exact hp _ (List.getElem_mem hk)
 have h1:=key (List.range p.length) (fun k=>p.getD k 0*sz k) (fun k hk=>by
   have hk:=List.mem_range.1 hk
   exact Int.mul_nonneg (nn k hk) (by have:=hs k hk;omega)) j (List.mem_range.2 hj)
 have h2:=nn j hj
 have h3:=hs j hj
 have h4:=Int.mul_le_mul_of_nonneg_left h3 h2
 exact Int.le_trans (show p.getD j 0<=p.getD j 0*sz j by omega) h1
structure FSt where
  h:List Int
  vB:Value
  n:Int
  vv:Int->Value
  P:Og
  vL:Value
  L:Of
abbrev szP(p:Prob):Of:=fun k=>p.L k+p.kerf
def FInv(p:Prob)(s:FSt):Prop:=plL s.n (fun _=>p.m) s.P s.L=YM p.m (p.stock+p.kerf) (szP p) s.h/\Slh s.vB s.n/\Slh s.vL s.n
def FSt.zer:FSt:=⟨[],Oh,0,fun _=> Oh,fun _ _=>0,Oh,fun _=>0⟩
theorem FInv.zer(p:Prob):FInv p FSt.zer:=⟨rfl,slh_nil,slh_nil⟩
theorem Zcm{p:Prob}(hok:p.Ok)(x0:0<=x)(x1:x<p.m):1<=szP p x/\szP p x<=p.stock+p.kerf:=by
 have he:=hok.all x x0 x1
 unfold Prob.each at he
 have:=hok.k1
 unfold szP;omega
theorem ZdA{p:Prob}(hok:p.Ok){l:List Int}(hm:∀x∈l,0<=x/\x<p.m):FFOk p.m (p.stock+p.kerf) (szP p) l (YM p.m (p.stock+p.kerf) (szP p) l):=
 Zge fun x hx=>by
   have h1:=hm x hx
   have h2:=Zcm hok h1.1 h1.2
   exact⟨h1.1,h1.2,Oa,h2.2⟩
theorem FInv.rng{p:Prob}{s:FSt}(hok:p.Ok)(h:FInv p s)(hm:∀x∈s.h,0<=x/\x<p.m)(hl:(s.h.length:Int)<=1000):s.n<=1000/\∀k,0<=k->k<s.n->(0<=s.L k/\s.L k<=p.stock+p.kerf)/\∀j,0<=j->j<p.m->0<=s.P k j/\s.P k j<=p.stock+p.kerf:=by
 have hk:=ZdA hok hm
 rw [<-h.1] at hk
 have h1:=hk.ln
 rw [plL_len] at h1
 refine⟨by omega,fun k k0 k1=> ?_⟩
 have hb:(lst p.m (s.P k),s.L k)∈plL s.n (fun _=>p.m) s.P s.L:=List.mem_iff_getElem?.2 ⟨k.toNat,by rw [plL_get,Int.toNat_of_nonneg k0,if_pos k1]⟩
 obtain⟨h2,h3,h4⟩:=hk.ok _ hb
 have h5:=hk.nn _ hb
 dsimp only at h2 h3 h4 h5
 have hg:∀j,0<=j->j<p.m->(lst p.m (s.P k)).getD j.toNat 0=s.P k j:=fun j j0 j1=>by rw [List.getD_eq_getElem?_getD,lst_get,Int.toNat_of_nonneg j0,if_pos j1];rfl
 have h8:∀j:Nat,j<(lst p.m (s.P k)).length->1<=szP p j:=fun j hj=>by
   rw [YR] at hj
   exact(Zcm hok Oa Oa).1
 have h9:0<=Wn (szP p) (lst p.m (s.P k)):=by
   have hm1:=hok.m1
   have h10:=KK h5 h8 (j:=0) (by rw [YR];omega)
   have h11:=hg 0 Oa Oa
   have h12:=h5 (s.P k 0) (by
     have:=lst_get p.m (s.P k) 0
     rw [if_pos Oa] at this
     exact List.mem_of_getElem? this)
   rw [show(0:Int).toNat=0 from rfl] at h11
   omega
 refine⟨⟨h4,Oa⟩,fun j j0 j1=> ?_⟩
 have h6:=KK h5 h8 (j:=j.toNat) (by rw [YR];omega)
 rw [hg j j0 j1] at h6
 have h7:=h5 (s.P k j) (by
   have:=lst_get p.m (s.P k) j.toNat
   rw [Int.toNat_of_nonneg j0,if_pos j1] at this
   exact List.mem_of_getElem? this)
 exact⟨h7,Oa⟩
theorem Zgd{n room r y:Int}{L:Of}{P:Og}(n0:0<=n)(x0:0<=x)(r0:0<=r)(r1:r<n)(h:sz x<=L r)(hf:∀j,0<=j->j<r->¬(sz x<=L j))(hy:y=L r-sz x):
   plL n (fun _=>m) (upd P r (upd (P r) x (P r x+1))) (upd L r y)=Yc m room sz x (plL n (fun _=>m) P L):=
 Zn2 n0 x0 r0 r1 h (fun j j0 j1=>by have:=hf j j0 j1;omega) (fun a a0 a1 b b0 b1=>by
   unfold upd
   by_cases ha:a=r
   · subst ha
     by_cases hb:b=x
     · subst hb;simp
     · simp [hb]
   · simp [ha]) (fun a a0 a1=>by
   unfold upd
   by_cases ha:a=r
   · subst ha;simp [hy]
   · simp [ha])
theorem Zdz{n room y:Int}{L:Of}{P:Og}(n0:0<=n)(x0:0<=x)(hf:∀j,0<=j->j<n->¬(sz x<=L j))(hy:y=snoc L n room n-sz x):
   plL (n+1) (fun _=>m) (upd (gsn P n (fun _=>0)) n (upd (gsn P n (fun _=>0) n) x (gsn P n (fun _=>0) n x+1))) (upd (snoc L n room) n y)=Yc m room sz x (plL n (fun _=>m) P L):=by
 have e1:gsn P n (fun _=>0) n=fun _=>0:=ZF Oa
 have e2:snoc L n room n=room:=Zu Oa
 rw [e2] at hy
 rw [e1]
 refine ZkU n0 x0 (fun j j0 j1=>by have:=hf j j0 j1;omega) (fun a a0 a1 b b0 b1=> ?_) (fun b b0 b1=> ?_) (fun a a0 a1=> ?_) ?_
 · unfold upd;rw [if_neg Oa,Zv a1]
 · unfold upd;rw [if_pos rfl]
   by_cases hb:b=x
   · simp [hb]
   · simp [hb]
 · unfold upd;rw [if_neg Oa,Zt a1]
 · unfold upd;rw [if_pos rfl];exact hy
theorem ZfF(n:Int)(ln:Of)(pt:Og)(cnt:Of):T0 (plL n ln pt cnt)=plL n ln pt (fun _=>1):=by
 unfold T0 plL
 rw [List.map_map];rfl
theorem RQ{α:Type}(a:α)(n:Int):gsn (fun _=>a) n a=fun _=>a:=by
 funext k;unfold gsn;split<;>rfl
end Go.Proofs.YtpnamgfdakfccaaGreat
namespace Go.Proofs.YtpnamgfdakfccaaGreat
open Go Go.RowKit Go.Proofs.Gw
theorem Zmr:Zc Om 148=true:=Oc
theorem ZoL{x m:Int}{a1:Addr}(w0:World)(hp1:w0.cell? a1=some (.int Oi m)):
   Calls Om 148 [.int Oi x,.pointer (some a1)].toArray w0 fun e w=>∃v,e= .returned v/\v=B (m<=x)/\Sat w0 w []:=by
 refine zenG Tryz.func148 Tryz.ntmps148 fun w hS=> ?_
 refine zsr<|(zP)<|zlz<|(zP)<|(zV (xlf pl_3 hp1 hS))<|(On)<|zx1<|Oj ?_
 exact⟨Zm Oa,hS⟩
theorem Zm2{v:Value}{n m:Int}{f:Of}{a1:Addr}(w0:World)(hR:Row w0 v 1 n (ints f))(hp1:w0.cell? a1=some (.int Oi m)):
   Calls Om 147 [v,.func (.func 148) #[] #[.pointer (some a1)]].toArray w0 fun e w=>∃v,e= .returned v/\∃r:Int,v= .int Oi r/\((r= -1/\∀k,0<=k->k<n->¬(m<=f k))\/(0<=r/\r<n/\(m<=f r)/\∀k,0<=k->k<r->¬(m<=f k)))/\Sat w0 w []:=by
 have hn:=hR.slh.n0;have hn1:=hR.slh.n1
 refine zenG Tryz.func147 Tryz.ntmps147 fun w hS=> ?_
 refine zsr<|(zP)<|zx5<|(zP)<|(zV (xln Zb hR.slh))<|(zP)<|zx6<|zlp (fun mm M w=>∃(i:Int),mm=((n-i).toNat)/\(0<=i)/\(i<=n)/\(∀k,0<=k->k<i->¬(m<=f k))/\M= [(0,v),(1,.func (.func 148) #[] #[.pointer (some a1)]),(7,.int Oi n),(8,.int Oi i)]/\Sat w0 w []) ⟨0,rfl,Oa,Oa,?_,rfl,hS⟩ ?_
 ·
  intro k h0 h1;omega
 clear hS w
 rintro mm M w ⟨i,rfl,h0,h1,qa,rfl,hS⟩
 refine zsr<|(zP)<|zx7<|Zf ?_ ?_<;>intro hc
 ·
  refine zx3<|(On)<|zlz<|(Oo)<|(zV (xix (kk:=i) Zb hR.slh))<|(zV (xlr (u:= .int Oi (f i)) pl_3 (hR.below hS.below)))<|zlc (xcc (vs:= [_]) Zmr) (ZoL (x:=(f i)) (m:=m) w (hS.ref hp1)) ?_;rintro _ w ⟨rfl,hS'⟩
  replace hS:=hS.cmp hS';clear hS'
  refine zlt<|Zf ?_ ?_<;>intro hc
  ·
   refine zsr<|(On)<|zx2<|Oj ?_
   exact⟨i,rfl,.inr ⟨by omega,Oa,‹m<=f i›,qa⟩,hS⟩
  refine zx4<|(zV (Zg (r:=i+1)))<|(zP)<|zln<|zlq ⟨i+1,rfl,Oa,Oa,?_,rfl,hS⟩
  ·
   intro k h0' h1';rcases Int.lt_or_eq_of_le (show k<=i by omega) with hk|hk;exact qa k h0' hk;rw [hk];assumption
 refine zx8<|(zP)<|zx1<|Oj ?_
 exact⟨-1,rfl,.inl ⟨rfl,fun k h0 h1=>qa k h0 Oa⟩,hS⟩
theorem Zms:Zc Om 146=true:=Oc
theorem Zl3:Zc Om 223=true:=Oc
theorem ZdK:Zc Om 68=true:=Oc
theorem Zgw:ZM Om 52=some (Oh,1,24):=Oc
theorem TO{vL vD:Value}{p:Prob}(w0:World)(h:PAt w0 vL vD p)(hok:p.Ok)(aH:psum (fun _=>1) p.D p.m.toNat<=1000):
   Calls Om 76 [.agg #[vL,vD,.int Oi p.stock,.int Oi p.kerf]].toArray w0 fun e w=>∃v,e= .returned v/\∃r n2 pv2 ln2 pt2 qg,v=r/\NormR (T0 (YM p.m (p.stock+p.kerf) (szP p) (pcsTo p.D p.m 0))) (plL n2 ln2 pt2 qg)/\0<=n2/\n2<=1000/\(∀k,0<=k->k<n2->1<=qg k/\qg k<=1000000)/\Slh r n2/\Sat w0 w [.own r 2 97 n2 (Ze pv2 qg),.sem (Frame.rows 3 n2 pv2 ln2 pt2)]:=by
 obtain⟨hm,hm1,hd,hd1,hs,hk⟩:=h.Oq
 have hpd:=hok.d;have qX:=hok.m2;have aO:=hok.m1;have hs1:=hok.s1;have hs2:=hok.s2;have hk1:=hok.k1;have hk2:=hok.k2
 refine ZiI Tryz.func76 Tryz.ntmps76 fun w hS=> ?_
 refine hsq<|hrz ?_
 refine zla (xbx (cs:= [_,_,_,_]) hS) ?_;rintro _ w ⟨g1,rfl,hS⟩
 refine(zP)<|zln<|zh<|htn<|hsq<|hrz ?_
 refine zla (xal (cs:= [_]) Zgw hS) ?_;rintro _ w ⟨g2,rfl,hS⟩
 refine zln<|zh<|htn<|hsq<|hrz ?_
 refine zla (xal (cs:= [_]) Yj hS) ?_;rintro _ w ⟨g3,rfl,hS⟩
 refine zln<|zh<|htn<|hsq<|hsq<|hrz ?_
 refine(zV (xls 0 st_27 hS))<|zlc (xc0 Zms) (Zhc (p:=p) w (h.below hS.below)) ?_;rintro _ w ⟨g4,rfl,hS'⟩
 replace hS:=(hS.comp hS').n4;clear hS'
 refine zln<|zh<|htn<|hbk ?_
 replace hS:=hS.addnil 1 22 (fun _=>Oh)
 replace hS:=hS.addrows 3 (fun _=>Oh) (fun _=>p.m) (fun _ _=>0)
 replace hS:=hS.addnil 1 3 (ints (fun _=>0))
 refine hrf (St:=FSt) (X:=Int) (Tt:=Unit) (fun s=> [.blk g1 [vL,vD,.int Oi p.stock,.int Oi p.kerf],.blk g2 [s.vB],.blk g3 [s.vL],.own s.vB 1 22 s.n s.vv,.sem (Frame.rows 3 s.n s.vv (fun _=>p.m) s.P),.own s.vL 1 3 s.n (ints s.L)]) (fun t=> []) (fun _=> .ret) FSt.zer (fun x M es=>M= [(0,.agg #[vL,vD,.int Oi p.stock,.int Oi p.kerf]),(1,Or g1),(2,Oh),(3,Or g2),(4,Or g3),(11,.agg #[vL,vD,.int Oi p.stock,.int Oi p.kerf]),(12,.func (.func 223) #[] #[Or g4]),(13,.int Oi x),(5,.int Oi x)]/\es= []) (ZeS (gp:=g4) (fun s=>s.h) (FInv p) FSt.zer rfl (FInv.zer p) w0 h hok) (hS.pk [0,1,2,4,5,6,3]) Zl3 (fun _=>rfl) (fun _=> .inl rfl) ?_ ?_ ?_ ?_
 ·
  intro lq s x rest w qr qG hrr hS
  refine hrz ?_
  refine(zP)<|zln<|zh<|Zf0 ⟨rfl,rfl⟩ hS
 ·
  rintro lq s x _ _ rest w qr ⟨rfl,rfl⟩ qG hrr hS
  obtain⟨hIv,c,x0,x1,c0,c1,hh⟩:=qr
  have hlB:=hIv.2.1;have hlL:=hIv.2.2
  obtain⟨xN,xa⟩:=To (d:=p.D) (i:=x) (c:=c) (fun k k0 k1=>by have he:=hok.all k k0 k1;unfold Prob.each at he;omega) x0 Oa c0 (fun _=>Oa) (fun _=>Oa)
  rw [<-hh] at xN xa
  obtain⟨hn9,hrg⟩:=hIv.rng hok xN Oa
  have hex:=hok.all x x0 x1;unfold Prob.each at hex
  have hsn:=hlB.n0
  have hrB:=fun k (k0:0<=k) (k1:k<s.n)=>hS.slhIn 4 rfl k0 k1
  refine hbk<|hsq ?_
  refine hdst [0,1,2,3,4,5,6,7] [0,1,2,3,4,5,6,7] 9 mx_ hS ?_;clear hS;intro w hS
  refine(zDw 0 (xfb 0 fd_27_0))<|(zDl 1 (fun w hS=>(xlb 0 pl_22 hS)))<|(zDw 2 xmv)<|(zDw 3 (xix (kk:=x) Zb h.L.slh))<|YB 4 (fun w hS=>(xlr (u:= .int Oi (p.L x)) pl_3 (h.L.below hS.below))) ?_
  have hbv:=h.iL x
  refine(zDw 5 (xfb 3 fd_27_3))<|(zDl 6 (fun w hS=>(xlb 0 pl_3 hS)))<|(zDw 7 (Zg (r:=p.L x+p.kerf)))<|zda 8 (xal (cs:= [_]) ZG hS) ?_;rintro _ w ⟨g5,rfl,hS⟩
  refine⟨⟨fun _=>hS.pk [0,1,2,3,4,5,6,7],hS.pk [0,1,2,3,4,5,6,7]⟩,?_⟩
  refine zde 9 (xsb 8 pl_3 hS) ?_;clear hS;rintro w hS
  refine⟨⟨fun h=>absurd h (by decide),hS.pk [0,1,2,3,4,5,6,7]⟩,?_⟩
  refine zdd<|zh<|htn<|hsq<|hrz ?_
  refine(zV (xlb 2 pl_22 hS))<|(zV xmf)<|zlc (xc0 WN) (Zm2 (n:=s.n) (m:=(p.L x+p.kerf)) (f:=s.L) w (hS.rowN 5 rfl) (hS.cellN 8 rfl rfl)) ?_;rintro _ w ⟨r1,rfl,hr1,hS'⟩
  replace hS:=hS.cmp hS';clear hS'
  have hrr:r1= -1\/(0<=r1/\r1<s.n):=by rcases hr1 with⟨h2,_⟩|⟨h2,h3,_⟩<;>omega
  have hbr:0<=r1->(0<=s.L r1/\s.L r1<=p.stock+p.kerf)/\0<=s.P r1 x/\s.P r1 x<=p.stock+p.kerf:=fun h=>by have h9:=hrg r1 h Oa;exact⟨h9.1,h9.2 x x0 x1⟩
  refine(zP)<|zln<|zh<|htn<|hsq<|hsq<|hrz ?_
  refine(On)<|zln<|zh<|htn ?_
  refine YS ?_ ?_<;>intro hc
  ·
   refine hsq<|hrz ?_
   refine(zV (xlb 1 ZK hS))<|(zV (xln Zk hlB))<|(zP)<|zln<|zh<|htn<|hsq ?_
   refine hdst [0,1,2,6,7,8] [0,2,6,7,8] 7 mx_ hS ?_;clear hS;intro w hS
   refine zdl 0 (fun w hS=>(xlb 1 ZK hS)) ?_
   refine(zDw 1 (xfb 0 fd_27_0))<|(zDl 2 (fun w hS=>(xlb 0 pl_22 hS)))<|(zDw 3 (xln Zb h.L.slh))<|zda 4 (xmk Zb ZG hS) ?_;rintro v1 w ⟨hS,hv1⟩
   refine⟨⟨fun _=>hS.pk [0,1,2,6,7,8],hS.pk [0,2,6,7,8]⟩,?_⟩
   refine zda 5 (xli (n:=1) (len:=1) (pv:= [(0,v1)]) (cs:= [v1]) (c:=(fun _=>v1)) Zk Yj hS (hf:=by obtain⟨_,_,_,_,rfl,_⟩:=hv1;kernel_rfl)) ?_;rintro v2 w ⟨hS,hv2⟩
   refine⟨⟨fun _=>hS.pk [0,1,2,6,7,8],hS.pk [0,2,6,7,8]⟩,?_⟩
   refine zda 6 (xap 3 (r:=s.n+1) Zk Yj hS (hS.rowN 10 rfl) (Wv _ _ _) (h1:=fun _ _ _=>hv1.one)) ?_;rintro v3 w ⟨hS,hv3⟩
   replace hS:=Sat.merge (l1:= [_,_,_,_]) (l2:= [_,_,_,_]) (l3:= [_]) hS Oa
   have xl:=fun k (k0:0<=k) (k1:k<s.n+1)=>hS.slhIn 4 rfl k0 k1
   refine⟨⟨fun _=>hS.pk [0,1,2,6,7,8],hS.pk [0,2,6,7,8]⟩,?_⟩
   refine zde 7 (xsb 1 ZK hS (hv:=hv3.one)) ?_;clear hS;rintro w hS
   refine⟨⟨fun h=>absurd h (by decide),hS.pk [0,2,6,7,8]⟩,?_⟩
   refine zdd<|zh<|htn<|hrz ?_
   refine(zV (xlb 2 pl_22 hS))<|(zV (xfb 2 fd_27_2))<|(zV (xlb 0 pl_3 hS))<|(zV (xfb 3 fd_27_3))<|(zV (xlb 0 pl_3 hS))<|(zV (Zg (r:=p.stock+p.kerf)))<|zla (xli (n:=1) (len:=1) (pv:= [(0,.int Oi (p.stock+p.kerf))]) (cs:= [.int Oi (p.stock+p.kerf)]) (c:=ints (fun _=>p.stock+p.kerf)) Zb ZG hS) ?_;rintro v4 w ⟨hS,hv4⟩
   refine zla (xap 5 (r:=s.n+1) Zb ZG hS (hS.rowN 10 rfl) (We _ _ _)) ?_;rintro v5 w ⟨hS,hv5⟩
   rw [RQ] at hS xl
   have hz9:gsn s.P s.n (fun _=>0) s.n x=0:=by rw [ZF Oa]
   have hl9:snoc s.L s.n (p.stock+p.kerf) s.n=p.stock+p.kerf:=Zu Oa
   refine zle (xsb 2 pl_22 hS (hv:=hv5.one)) ?_;clear hS;rintro w hS
   refine zln<|zh<|htn<|hsq<|hrz ?_
   refine(zV (xlb 1 ZK hS))<|(zP)<|(zV (xix (kk:=s.n) Zk hv3))<|(zV (xlr (u:=((gsn s.vv s.n v1) s.n)) pl_22 (hS.rowN 3 rfl)))<|(zP)<|(zV (xix (kk:=x) Zb (xl s.n Oa Oa)))<|(zV (xlr (u:= .int Oi ((gsn s.P s.n (fun _=>0)) s.n x)) pl_3 (show Row _ _ 1 p.m _ from(hS.rowIn (k:=s.n) 4 rfl Oa Oa))))<|(zV (Zg (r:=((gsn s.P s.n (fun _=>0)) s.n x)+1)))<|(zV (xix (kk:=x) Zb (xl s.n Oa Oa)))<|zle (xsr 4 pl_3 hS rfl) ?_;clear hS;rintro w hS
   refine zln<|zh<|htn ?_
   refine hdst [0,1,2,3,4,5,6,7,8,9,10] [0,1,2,3,4,6,7,8,9,10] 7 mx_ hS ?_;clear hS;intro w hS
   refine(zDl 0 (fun w hS=>(xlb 2 pl_22 hS)))<|(zDw 1 xmv)<|(zDw 2 (xix (kk:=s.n) Zb hv5))<|zdl 3 (fun w hS=>(xlr (u:= .int Oi ((snoc s.L s.n (p.stock+p.kerf)) s.n)) pl_3 (hS.rowN 5 rfl))) ?_
   refine(zDl 4 (fun w hS=>(xlb 7 pl_3 hS)))<|(zDw 5 (Zp (r:=((snoc s.L s.n (p.stock+p.kerf)) s.n)-p.L x-p.kerf)))<|(zDw 6 (xix (kk:=s.n) Zb hv5))<|zde 7 (xso 5 pl_3 hS (ZA _ _ _)) ?_;clear hS;rintro w hS
   refine⟨⟨fun h=>absurd h (by decide),hS.pk [0,1,2,3,4,6,7,8,9,10]⟩,?_⟩
   refine zdd<|zh<|zbn<|ZcB ⟨s.h++ [x],v3,s.n+1,gsn s.vv s.n v1,upd (gsn s.P s.n (fun _=>0)) s.n (upd ((gsn s.P s.n (fun _=>0)) s.n) x (((gsn s.P s.n (fun _=>0)) s.n x)+1)),v5,(upd (snoc s.L s.n (p.stock+p.kerf)) s.n (((snoc s.L s.n (p.stock+p.kerf)) s.n)-p.L x-p.kerf))⟩ ⟨rfl,(by show plL _ _ _ _=YM _ _ _ (s.h++ [x]);rw [TE,<-hIv.1];first|exact Zdz (sz:=szP p) hsn x0 (hr1.resolve_right (fun h=>Oa)).2 (by unfold szP;omega)|(have hr9:=hr1.resolve_left (fun h=>Oa);exact Zgd (sz:=szP p) hsn x0 hr9.1 hr9.2.1 hr9.2.2.1 hr9.2.2.2 (by unfold szP;omega))),hv3,hv5⟩ (hS.pk [0,1,2,3,4,5,6,7])
  refine hsk<|htn<|hsq<|hrz ?_
  refine(zV (xlb 1 ZK hS))<|(zP)<|(zV (xix (kk:=r1) Zk hlB))<|(zV (xlr (u:=(s.vv r1)) pl_22 (hS.rowN 3 rfl)))<|(zP)<|(zV (xix (kk:=x) Zb (hrB r1 Oa Oa)))<|(zV (xlr (u:= .int Oi (s.P r1 x)) pl_3 (show Row _ _ 1 p.m _ from(hS.rowIn (k:=r1) 4 rfl Oa Oa))))<|(zV (Zg (r:=(s.P r1 x)+1)))<|(zV (xix (kk:=x) Zb (hrB r1 Oa Oa)))<|zle (xsr 4 pl_3 hS rfl) ?_;clear hS;rintro w hS
  refine zln<|zh<|htn ?_
  refine hdst [0,1,2,3,4,5,6,7,8] [0,1,2,3,4,6,7,8] 7 mx_ hS ?_;clear hS;intro w hS
  refine(zDl 0 (fun w hS=>(xlb 2 pl_22 hS)))<|(zDw 1 xmv)<|(zDw 2 (xix (kk:=r1) Zb hlL))<|zdl 3 (fun w hS=>(xlr (u:= .int Oi (s.L r1)) pl_3 (hS.rowN 5 rfl))) ?_
  refine(zDl 4 (fun w hS=>(xlb 7 pl_3 hS)))<|(zDw 5 (Zp (r:=(s.L r1)-p.L x-p.kerf)))<|(zDw 6 (xix (kk:=r1) Zb hlL))<|zde 7 (xso 5 pl_3 hS (ZA _ _ _)) ?_;clear hS;rintro w hS
  refine⟨⟨fun h=>absurd h (by decide),hS.pk [0,1,2,3,4,6,7,8]⟩,?_⟩
  refine zdd<|zh<|zbn<|ZcB ⟨s.h++ [x],s.vB,s.n,s.vv,upd s.P r1 (upd (s.P r1) x ((s.P r1 x)+1)),s.vL,(upd s.L r1 ((s.L r1)-p.L x-p.kerf))⟩ ⟨rfl,(by show plL _ _ _ _=YM _ _ _ (s.h++ [x]);rw [TE,<-hIv.1];first|exact Zdz (sz:=szP p) hsn x0 (hr1.resolve_right (fun h=>Oa)).2 (by unfold szP;omega)|(have hr9:=hr1.resolve_left (fun h=>Oa);exact Zgd (sz:=szP p) hsn x0 hr9.1 hr9.2.1 hr9.2.2.1 hr9.2.2.2 (by unfold szP;omega))),hlB,hlL⟩ (hS.pk [0,1,2,3,4,5,6,7])
 ·
  intro Dk s rest w qs hS
  obtain⟨hIv,hh⟩:=qs
  have hlB:=hIv.2.1;have hlL:=hIv.2.2
  obtain⟨xN,xa⟩:=To (d:=p.D) (i:=p.m) (c:=0) (fun k k0 k1=>by have he:=hok.all k k0 k1;unfold Prob.each at he;omega) Oa Oa Oa (fun h=>Oa) (fun _=>rfl)
  rw [<-hh] at xN xa
  obtain⟨hn9,hrg⟩:=hIv.rng hok xN Oa
  have hsn:=hlB.n0
  have hrB:=fun k (k0:0<=k) (k1:k<s.n)=>hS.slhIn 4 rfl k0 k1
  refine zbn<|htn<|hsq<|hrz ?_
  refine(zP)<|zln<|zh<|htn<|hsq<|hsq<|hrz ?_
  refine(zV (xlb 1 ZK hS))<|(zV (xln Zk hlB))<|(zP)<|zln<|zh<|htn<|hbk ?_
  replace hS:=hS.addnil 2 97 (Ze (fun _=>Oh) (fun _=>0))
  refine hlp (fun mm M w=>∃(nC:Int) (wv:Int->Value) (cC:Of) (i:Int) (wC:Value),mm=((s.n-i).toNat)/\(0<=i)/\(i<=s.n)/\(nC=i)/\(∀k,0<=k->k<i->wv k=s.vv k)/\(∀k,0<=k->k<i->cC k=1)/\(Slh wC nC)/\M= [(2,Oh),(8,wC),(60,s.vB),(61,.int Oi s.n),(62,.int Oi i)]/\Sat w0 w [.blk g1 [vL,vD,.int Oi p.stock,.int Oi p.kerf],.blk g2 [s.vB],.blk g3 [s.vL],.own s.vB 1 22 s.n s.vv,.sem (Frame.rows 3 s.n s.vv (fun _=>p.m) s.P),.own s.vL 1 3 s.n (ints s.L),.blk g4 [vL,vD,.int Oi p.stock,.int Oi p.kerf],.sem rest,.sem (Frame.obj Dk (.deferred (some []))),.own wC 2 97 nC (Ze wv cC)]) ⟨0,(fun _=>Oh),(fun _=>0),0,Oh,rfl,Oa,Oa,Oa,?_,?_,?_,rfl,hS⟩ ?_
  ·
   intro k k0 k1;omega
  ·
   intro k k0 k1;omega
  ·
   exact slh_nil
  clear hS w
  rintro mm M w ⟨nC,wv,cC,i,wC,rfl,h0,h1,hnC,hwv,hcC,hwC,rfl,hS⟩
  refine hsq<|hrz ?_
  refine(zP)<|zln<|zh<|htn<|hsq ?_
  refine YS ?_ ?_<;>intro hc
  ·
   refine hsk<|htn<|hsq<|hbk<|hsq<|hrz ?_
   refine(zV (xix (kk:=i) Zk hlB))<|(zV (xlr (u:=(s.vv i)) pl_22 (hS.rowN 3 rfl)))<|(zP)<|zln<|zh<|htn<|hrz ?_
   refine(On)<|zlv (xany (v:= .agg #[(s.vv i),.int Oi 1]) (hr:=by have hz:=(hrB i Oa Oa);revert hz;generalize (s.vv i)=z;rintro⟨_,_,_,_,rfl,_⟩;show _=_;kernel_rfl)) ?_
   refine zla (xli (n:=1) (len:=1) (pv:= [(0,.agg #[(s.vv i),.int Oi 1])]) (cs:= [(s.vv i),.int Oi 1]) (c:=Ze (fun _=>(s.vv i)) (fun _=>1)) ZQ YW hS (hf:=by have hz:=(hrB i Oa Oa);revert hz;generalize (s.vv i)=z;rintro⟨_,_,_,_,rfl,_⟩;show _=_;kernel_rfl)) ?_;rintro v6 w ⟨hS,hv6⟩
   refine zla (xap 9 (r:=nC+1) ZQ YW hS (hS.rowN 10 rfl) (Xg _ _ _ _ _) (h1:=fun k _ _=>Xb (fun _=>(hrB i Oa Oa).one) k)) ?_;rintro v7 w ⟨hS,hv7⟩
   refine(zP)<|zln<|zh<|zbn<|htn<|hrz ?_
   refine(zV (Zg (r:=i+1)))<|(zP)<|zln<|zh<|hlq ⟨nC+1,(gsn wv nC (s.vv i)),(snoc cC nC 1),i+1,v7,rfl,Oa,Oa,Oa,?_,?_,?_,rfl,hS.pk [0,1,2,3,4,5,6,7,8,9]⟩
   ·
    intro k k0 k1;by_cases e:k<nC
    · rw [Zv e];exact hwv k k0 Oa
    · rw [ZF e,show k=i by omega]
   ·
    intro k k0 k1;by_cases e:k<nC
    · rw [Zt e];exact hcC k k0 Oa
    · rw [Zu e]
   ·
    exact hv7
  refine hxt<|ztx<|ztx<|zbh<|htn<|hsq<|hrz ?_
  refine zlv xmv ?_
  have hiN:i=s.n:=Oa
  have hnN:nC=s.n:=Oa
  subst hnN
  replace hS:=hS.recont 9 rfl (d:=Ze s.vv (fun _=>1)) (fun k k0 k1=>by unfold Ze;rw [hwv _ Oa Oa,hcC _ Oa Oa])
  refine zlc (xc0 ZdK) (Zaz (u:=s.n) (pv:=s.vv) (ln:=(fun _=>p.m)) (pt:=s.P) (cnt:=(fun _=>1)) w (⟨(hS.rowN 9 rfl),fun k k0 k1=>hS.rowIn 4 rfl k0 k1,fun k k0 k1=>hS.roomIn 4 rfl k0 k1⟩:VAt _ wC s.n s.vv (fun _=>p.m) s.P (fun _=>1)) Oa (fun k k0 k1=>Oa) (fun k k0 k1=>Oa)) ?_;rintro xx w ⟨_,qD,xp,xY,x5,xt,rfl,xm,xo,yy,xU,xA,hS'⟩
  replace hS:=(hS.comp hS').n12;clear hS'
  have yi:=fun k (k0:0<=k) (k1:k<qD)=>hS.slhIn 11 rfl k0 k1
  refine(zP)<|zln<|zh<|htn<|hrt<|ZcC 8 hS fun w hS=>Oj ?_
  exact⟨_,_,_,_,_,_,rfl,(by rw [<-hh,<-hIv.1,ZfF];exact xm),xo,Oa,fun k k0 k1=>by have:=xU k k0 k1;omega,xA,hS.pk [10,11]⟩
 ·
  intro Dk t rest w qs hS
  exact qs.elim
theorem wsum_plL(f:List Int->Int){ln:Of}{pt:Og}{cnt:Of}:∀n:Nat,wsum f (plL (n:Int) ln pt cnt)=psum (fun k=>f (lst (ln k) (pt k))) cnt n
 |0=>rfl
 | n+1=>by
   rw [show((n+1:Nat):Int)=(n:Int)+1 by omega,X5 Oa,WA,wsum_plL f n]
   simp only [wsum,psum];omega
theorem Z5(f:List Int->Int){n:Int}{ln:Of}{pt:Og}{cnt:Of}(n0:0<=n):wsum f (plL n ln pt cnt)=psum (fun k=>f (lst (ln k) (pt k))) cnt n.toNat:=by
 have:=wsum_plL f (ln:=ln) (pt:=pt) (cnt:=cnt) n.toNat
 rwa [Int.toNat_of_nonneg n0] at this
theorem sum_range(f:Nat->Int):∀n:Nat,((List.range (n+1)).map f).sum=((List.range n).map f).sum+f n:=fun n=>by
 rw [List.range_succ,List.map_append,List.sum_append];simp
theorem Zft(sz:Of)(f:Of):∀n:Nat,Wn sz (lst (n:Int) f)=psum sz f n:=fun n=>by
 have key:∀j:Nat,j<=n->((List.range j).map fun(k:Nat)=>(lst (n:Int) f).getD k 0*sz k).sum=psum sz f j:=by
   intro j
   induction j with
   |zero=>intro _;rfl
   | succ j ih=>
     intro hj
     rw [sum_range,ih Oa,psum,List.getD_eq_getElem?_getD,lst_get,if_pos Oa,Int.mul_comm];rfl
 unfold Wn
 rw [YR,Int.toNat_natCast]
 exact key n (Nat.le_refl _)
theorem Rr(sz:Of)(f:Of){n:Int}(n0:0<=n):Wn sz (lst n f)=psum sz f n.toNat:=by
 have:=Zft sz f n.toNat
 rwa [Int.toNat_of_nonneg n0] at this
def FFitR(p:Prob)(l:Us)(e:Int):Prop:=ZhQ p e/\(e=0->NormR (T0 (YM p.m (p.stock+p.kerf) (szP p) (pcsTo p.D p.m 0))) l)/\(e≠0->l= [])
theorem Zj1:Zc Om 75=true:=Oc
theorem Zj0:Zc Om 76=true:=Oc
theorem Zm6{vL vD:Value}{p:Prob}(w0:World)(h:PAt w0 vL vD p):
   Calls Om 37 [.agg #[vL,vD,.int Oi p.stock,.int Oi p.kerf]].toArray w0 fun e w=>∃v,e= .returned v/\∃r n pv ln pt cnt e,v= .tuple #[r,.int Oi e]/\FFitR p (plL n ln pt cnt) e/\(∀k,0<=k->k<n->1<=cnt k/\cnt k<=1000000)/\n<=1000/\Slh r n/\Sat w0 w [.own r 2 97 n (Ze pv cnt),.sem (Frame.rows 3 n pv ln pt)]:=by
 obtain⟨hm,hm1,hd,hd1,hs,hk⟩:=h.Oq
 refine zenG Tryz.func37 Tryz.ntmps37 fun w hS=> ?_
 refine zsr<|zla (xbx (cs:= [_,_,_,_]) hS) ?_;rintro _ w ⟨g1,rfl,hS⟩
 refine(On)<|zx5<|(zV (xls 0 st_27 hS))<|zlc (xc0 Zj1) (ZdW (p:=p) w (h.below hS.below)) ?_;rintro _ w ⟨dw,rfl,ae,hS'⟩
 replace hS:=hS.cmp hS';clear hS'
 refine(zP)<|zlz<|(On)<|zlt<|Zf ?_ ?_<;>intro hc
 ·
  refine zsr<|(Oo)<|zx14<|zf2 ⟨_,rfl,?_⟩
  exact⟨_,0,fun _=>undef,fun _=>0,fun _ _=>0,fun _=>0,_,rfl,⟨ae,fun h=>Oa,fun _=>rfl⟩,fun k k0 k1=>Oa,Oa,slh_nil,((hS.sub (.cons _ .slnil)).addnil 2 97 (Ze (fun _=>undef) (fun _=>0))).addrows 3 (fun _=>undef) (fun _=>0) (fun _ _=>0)⟩
 refine ZY<|zlv (xls 0 st_27 hS) ?_
 obtain⟨xM,aH⟩:p.Ok/\psum (fun _=>1) p.D p.m.toNat<=1000:=by rcases ae with⟨_,h9⟩|⟨_,_,h9⟩|⟨h8,h9,_⟩;omega;omega;exact⟨h8,h9⟩
 refine zlc (xc0 Zj0) (TO (p:=p) w (h.below hS.below) xM Oa) ?_;rintro xx w ⟨_,qD,xp,xY,x5,xt,rfl,xm,xo,yy,xU,xA,hS'⟩
 replace hS:=(hS.comp hS').n3;clear hS'
 have yi:=fun k (k0:0<=k) (k1:k<qD)=>hS.slhIn 2 rfl k0 k1
 refine(On)<|zx1<|zf2 ⟨_,rfl,?_⟩
 exact⟨_,_,_,_,_,_,0,rfl,⟨(show dw=0 by omega)▸ae,fun _=>xm,fun h=>absurd rfl h⟩,xU,yy,xA,hS.pk [1,2]⟩
theorem U2{vV:Value}{u:Int}{pv:Int->Value}{ln:Of}{pt:Og}{cnt:Of}(w0:World)(hV:VAt w0 vV u pv ln pt cnt)(hu6:u<=1000000)(hbc:∀k,0<=k->k<u->0<=cnt k/\cnt k<=1000000000):
   Calls Om 14 [vV].toArray w0 fun e w=>∃v,e= .returned v/\v= .int Oi (psum (fun _=>1) cnt u.toNat)/\Sat w0 w []:=by
 have hn:=hV.row.slh.n0;have hn1:=hV.row.slh.n1
 refine zenG Tryz.func14 Tryz.ntmps14 fun w hS=> ?_
 refine zsr<|(zP)<|zlz<|(zP)<|zx5<|(zP)<|(zV (xln ZQ hV.row.slh))<|(zP)<|zx6<|zlp (fun mm M w=>∃(s:Int) (i:Int),mm=((u-i).toNat)/\(0<=i)/\(i<=u)/\(s=psum (fun _=>1) cnt i.toNat)/\(0<=s/\s<=1000000000*i)/\M= [(2,.int Oi 0),(3,.int Oi s),(6,vV),(7,.int Oi u),(8,.int Oi i)]/\Sat w0 w []) ⟨0,0,rfl,Oa,Oa,?_,Oa,rfl,hS⟩ ?_
 ·
  rfl
 clear hS w
 rintro mm M w ⟨s,i,rfl,h0,h1,hs9,hsb,rfl,hS⟩
 refine zsr<|(zP)<|zx7<|Zf ?_ ?_<;>intro hc
 ·
  refine zx3<|(zV (xix (kk:=2*i) ZQ hV.row.slh))<|zlv (xlw (cs:= [(pv i),.int Oi (cnt i)]) ZZ (hV.row.below hS.below) (Zx (k:=2*i) (i:=i) pv cnt Oa)) ?_
  have hci:=hbc i h0 Oa
  refine zla (xal (cs:= [_,_]) YW hS) ?_;rintro _ w ⟨g1,rfl,hS⟩
  refine zle (xsw 0 ZZ hS (hd:=(Za (hV.p i Oa Oa).slh.one (Za rfl Zh)))) ?_;clear hS;rintro w hS
  refine zlt<|zrg<|(zP)<|(zV (xfb 1 fd_97_1))<|(zV (xlb 0 pl_3 hS))<|(zV (Zg (r:=s+(cnt i))))<|(zP)<|zx10<|(zV (Zg (r:=i+1)))<|(zP)<|zln<|zlq ⟨s+(cnt i),i+1,rfl,Oa,Oa,?_,Oa,rfl,hS.nl⟩
  ·
   rw [YJ _ _ h0,<-hs9];omega
 refine zx8<|(On)<|zx1<|Oj ?_
 obtain rfl:i=u:=Oa
 exact⟨congrArg (Value.int .i64) hs9,hS⟩
variable {cnt ln:Of} {pt:Og} {pv:Int->Value} {gp:Nat} {vD vV:Value}
theorem Zmk:Zc Om 155=true:=Oc
theorem Zmj:Zc Om 157=true:=Oc
theorem ZdL:Zc Om 40=true:=Oc
theorem Zoe:Zc Om 83=true:=Oc
theorem Zni{vL:Value}{p:Prob}{vB:Value}{m b:Int}{g:Of}(w0:World)(hG:(Ent.blk gp [vL,vD,.int Oi p.stock,.int Oi p.kerf]).holds w0)(h:PAt w0 vL vD p)(hB:Row w0 vB 1 m (ints g)):
   Calls Om 155 [.agg #[vB,.int Oi b],Or gp].toArray w0 fun e w=>∃v,e= .returned v/\v=B (¬(1<=b/\b<=1000/\FitsP p m g))/\Sat w0 w []:=by
 refine zenG Tryz.func155 Tryz.ntmps155 fun w hS=> ?_
 refine zsr<|zla (xbx (cs:= [_,_]) hS) ?_;rintro _ w ⟨g1,rfl,hS⟩
 refine(zP)<|zlz<|(zV (xfb 1 fd_97_1))<|(zV (xlb 0 pl_3 hS))<|(On)<|zlb 7 ?_ ?_<;>intro hc;rotate_left
 refine(zV (xfb 1 fd_97_1))<|(zV (xlb 0 pl_3 hS))<|(Oo)<|zlb 12 ?_ ?_<;>intro hc;rotate_left
 refine(zV (xlfs st_27 hG hS))<|(zV (xfb 0 fd_97_0))<|(zV (xlb 0 pl_22 hS))<|zlc (xc0 ZgQ) (ZdT (p:=p) w (h.below hS.below) (hB.below hS.below)) ?_;rintro _ w ⟨rfl,hS'⟩
 replace hS:=hS.cmp hS';clear hS'
 refine(Oo)<|zx1<|Oj ?_
 exact⟨Zm ⟨fun h1 hh=>h1 hh.2.2,fun h1 hh=>h1 ⟨by omega,Oa,hh⟩⟩,hS.nl⟩
 all_goals
  refine zOps ?_
  refine zx1<|Oj ?_
  exact⟨YA (by rintro⟨h1,h2,h3⟩;first|omega|exact absurd h3 ‹_›),hS.nl⟩
theorem Zjs{u:Int}{vL:Value}{p:Prob}(w0:World)(hV:VAt w0 vV u pv ln pt cnt)(hG:(Ent.blk gp [vL,vD,.int Oi p.stock,.int Oi p.kerf]).holds w0)(h:PAt w0 vL vD p):
   Calls Om 132 [vV,.func (.func 155) #[] #[Or gp]].toArray w0 fun e w=>∃v,e= .returned v/\∃r:Int,v= .int Oi r/\((r= -1/\∀k,0<=k->k<u->¬(¬(1<=(cnt k)/\(cnt k)<=1000/\FitsP p (ln k) (pt k))))\/(0<=r/\r<u/\(¬(1<=(cnt r)/\(cnt r)<=1000/\FitsP p (ln r) (pt r)))/\∀k,0<=k->k<r->¬(¬(1<=(cnt k)/\(cnt k)<=1000/\FitsP p (ln k) (pt k)))))/\Sat w0 w []:=by
 have hn:=hV.row.slh.n0;have hn1:=hV.row.slh.n1
 refine zenG Tryz.func132 Tryz.ntmps132 fun w hS=> ?_
 refine zsr<|(zP)<|zx5<|(zP)<|(zV (xln ZQ hV.row.slh))<|(zP)<|zx6<|zlp (fun mm M w=>∃(i:Int),mm=((u-i).toNat)/\(0<=i)/\(i<=u)/\(∀k,0<=k->k<i->¬(¬(1<=(cnt k)/\(cnt k)<=1000/\FitsP p (ln k) (pt k))))/\M= [(0,vV),(1,.func (.func 155) #[] #[Or gp]),(7,.int Oi u),(8,.int Oi i)]/\Sat w0 w []) ⟨0,rfl,Oa,Oa,?_,rfl,hS⟩ ?_
 ·
  intro k h0 h1;omega
 clear hS w
 rintro mm M w ⟨i,rfl,h0,h1,qa,rfl,hS⟩
 refine zsr<|(zP)<|zx7<|Zf ?_ ?_<;>intro hc
 ·
  refine zx3<|(On)<|zlz<|(Oo)<|(zV (xix (kk:=2*i) ZQ hV.row.slh))<|(zV (xlw (cs:= [(pv i),.int Oi (cnt i)]) ZZ (hV.row.below hS.below) (Zx (k:=2*i) (i:=i) pv cnt Oa)))<|zlc (xcc (vs:= [_]) Zmk) (Zni (p:=p) (m:=(ln i)) (g:=(pt i)) w (Sat.oldblk hS hG) (h.below hS.below) ((hV.p i Oa Oa).below hS.below)) ?_;rintro _ w ⟨rfl,hS'⟩
  replace hS:=hS.cmp hS';clear hS'
  refine zlt<|Zf ?_ ?_<;>intro hc
  ·
   refine zsr<|(On)<|zx2<|Oj ?_
   exact⟨i,rfl,.inr ⟨by omega,Oa,‹¬(1<=(cnt i)/\(cnt i)<=1000/\FitsP p (ln i) (pt i))›,qa⟩,hS⟩
  refine zx4<|(zV (Zg (r:=i+1)))<|(zP)<|zln<|zlq ⟨i+1,rfl,Oa,Oa,?_,rfl,hS⟩
  ·
   intro k h0' h1';rcases Int.lt_or_eq_of_le (show k<=i by omega) with hk|hk;exact qa k h0' hk;rw [hk];assumption
 refine zx8<|(zP)<|zx1<|Oj ?_
 exact⟨-1,rfl,.inl ⟨rfl,fun k h0 h1=>qa k h0 Oa⟩,hS⟩
theorem ZjA{u:Int}{vL:Value}{p:Prob}(w0:World)(hV:VAt w0 vV u pv ln pt cnt)(hG:(Ent.blk gp [vL,vD,.int Oi p.stock,.int Oi p.kerf]).holds w0)(h:PAt w0 vL vD p):
   Calls Om 157 [vV,.func (.func 155) #[] #[Or gp]].toArray w0 fun e w=>∃v,e= .returned v/\v=B (∃k,0<=k/\k<u/\¬(1<=(cnt k)/\(cnt k)<=1000/\FitsP p (ln k) (pt k)))/\Sat w0 w []:=by
 refine zenG Tryz.func157 Tryz.ntmps157 fun w hS=> ?_
 refine zsr<|(zP)<|zlz<|(On)<|zlc (xc0 ZcS) (Zjs (u:=u) (pv:=pv) (ln:=ln) (pt:=pt) (cnt:=cnt) (p:=p) w (hV.below hS.below) (Sat.oldblk hS hG) (h.below hS.below)) ?_;rintro _ w ⟨r1,rfl,hr1,hS'⟩
 replace hS:=hS.cmp hS';clear hS'
 refine(On)<|zx1<|Oj ?_
 exact⟨Zm (by
  rcases hr1 with⟨h1,h2⟩|⟨h1,h2,h3,_⟩
  · exact⟨fun h=>Oa,fun⟨k,h4,h5,h6⟩=>absurd h6 (h2 k h4 h5)⟩
  · exact⟨fun _=>⟨_,h1,h2,h3⟩,fun _=>h1⟩),hS⟩
def PlanOk(p:Prob)(u:Int)(ln:Of)(pt:Og)(cnt:Of):Prop:=p.Ok/\u<=1000/\∀k,0<=k->k<u->1<=cnt k/\cnt k<=1000/\FitsP p (ln k) (pt k)
def ZD(u:Int)(pt:Og)(cnt:Of):Of:=fun j=>psum (fun k=>pt k j) cnt u.toNat
theorem KO{p:Prob}{u:Int}:¬(∃k,0<=k/\k<u/\¬(1<=cnt k/\cnt k<=1000/\FitsP p (ln k) (pt k)))↔∀k,0<=k->k<u->1<=cnt k/\cnt k<=1000/\FitsP p (ln k) (pt k):=
 ⟨fun h k k0 k1=>Od fun hn=>h ⟨k,k0,k1,hn⟩,fun h ⟨k,k0,k1,hn⟩=>hn (h k k0 k1)⟩
theorem XG{i j:Int}(i0:0<=i):ZD (i+1) pt cnt j=ZD i pt cnt j+pt i j*cnt i:=YJ _ _ i0
theorem WI{a b A B:Int}(a0:0<=a)(a1:a<=A)(b0:0<=b)(b1:b<=B):0<=a*b/\a*b<=A*B:=
 ⟨Int.mul_nonneg a0 b0,Int.mul_le_mul a1 b1 b0 Oa⟩
theorem X7{p:Prob}{u:Int}(h:∀k,0<=k->k<u->1<=cnt k/\cnt k<=1000/\FitsP p (ln k) (pt k)):∀{i:Int},0<=i->i<=u->∀{j:Int},0<=j->j<p.m->0<=ZD i pt cnt j/\ZD i pt cnt j<=2000000*i:=by
 intro i i0
 obtain⟨n,rfl⟩:=Int.eq_ofNat_of_zero_le i0
 induction n with
 |zero=>intro _ j _ _;exact⟨Int.le_refl _,by show(0:Int)<=_;omega⟩
 | succ n ih=>
   intro hi j j0 j1
   have h1:=ih Oa Oa j0 j1
   obtain⟨h2,h3,h4⟩:=h n Oa Oa
   have h5:=h4.all j j0 (by have:=h4.eq;omega)
   have h6:=WI h5.1 h5.2 (show 0<=cnt n by omega) h3
   have h7:=XG (pt:=pt) (cnt:=cnt) (i:=(n:Int)) (j:=j) Oa
   rw [show((n+1:Nat):Int)=(n:Int)+1 by omega,h7];omega
theorem Zhb{u:Int}{vL:Value}{p:Prob}(w0:World)(hV:VAt w0 vV u pv ln pt cnt)(h:PAt w0 vL vD p):
   Calls Om 83 [.agg #[vL,vD,.int Oi p.stock,.int Oi p.kerf],vV].toArray w0 fun e w=>∃v,e= .returned v/\v=B (PlanOk p u ln pt cnt)/\Sat w0 w []:=by
 obtain⟨hm,hm1,hd,hd1,hs,hk⟩:=h.Oq
 have hu:=hV.row.slh.n0;have hu1:=hV.row.slh.n1
 refine zenG Tryz.func83 Tryz.ntmps83 fun w hS=> ?_
 refine zsr<|zla (xbx (cs:= [_,_,_,_]) hS) ?_;rintro _ w ⟨g1,rfl,hS⟩
 refine(zP)<|zlz<|(zV xmf)<|(zP)<|zlz<|(zV (xls 0 st_27 hS))<|zlc (xc0 XJ) (Z8 (p:=p) w (h.below hS.below)) ?_;rintro _ w ⟨rfl,hS'⟩
 replace hS:=hS.cmp hS';clear hS'
 refine(zP)<|zlb 9 ?_ ?_<;>intro hc
 ·
  refine(zP)<|(zV (xln ZQ hV.row.slh))<|(Oo)<|zlb 14 ?_ ?_<;>intro hc
  ·
   refine(On)<|zlc (xc0 Zmj) (ZjA (u:=u) (pv:=pv) (ln:=ln) (pt:=pt) (cnt:=cnt) (p:=p) w (hV.below hS.below) (hS.holds _ (List.mem_of_getElem? (i:=0) rfl)) (h.below hS.below)) ?_;rintro _ w ⟨rfl,hS'⟩
   replace hS:=hS.cmp hS';clear hS'
   refine(Oo)<|zx1<|Oj ?_
   exact⟨Zm ⟨fun hh=>⟨by first|assumption|exact Od ‹_›,Oa,KO.1 hh⟩,fun hh=>KO.2 hh.2.2⟩,hS.nl⟩
  iterate 4 refine zlo ?_
  refine(On)<|zx1<|Oj ?_
  exact⟨Zi (by rintro⟨h1,h2,h3⟩;first|exact absurd h1 ‹_›|omega|exact absurd (KO.2 h3) ‹_›),hS.nl⟩
 iterate 3 refine zlo ?_
 refine zs2 ?_
 iterate 4 refine zlo ?_
 refine(On)<|zx1<|Oj ?_
 exact⟨Zi (by rintro⟨h1,h2,h3⟩;first|exact absurd h1 ‹_›|omega|exact absurd (KO.2 h3) ‹_›),hS.nl⟩
theorem U1{u:Int}{vL:Value}{p:Prob}(w0:World)(hV:VAt w0 vV u pv ln pt cnt)(h:PAt w0 vL vD p):
   Calls Om 40 [.agg #[vL,vD,.int Oi p.stock,.int Oi p.kerf],vV].toArray w0 fun e w=>∃v,e= .returned v/\∃r n f e,v= .tuple #[r,.int Oi e]/\((¬PlanOk p u ln pt cnt/\n=0/\e=1)\/(PlanOk p u ln pt cnt/\n=p.m/\f=ZD u pt cnt/\e=0))/\Slh r n/\Sat w0 w [.own r 1 3 n (ints f)]:=by
 obtain⟨hm,hm1,hd,hd1,hs,hk⟩:=h.Oq
 have hu:=hV.row.slh.n0;have hu1:=hV.row.slh.n1
 refine zenG Tryz.func40 Tryz.ntmps40 fun w hS=> ?_
 refine zsr<|zla (xbx (cs:= [_,_,_,_]) hS) ?_;rintro _ w ⟨g1,rfl,hS⟩
 refine(On)<|zx5<|(zV (xls 0 st_27 hS))<|(zP)<|zlc (xc0 Zoe) (Zhb (u:=u) (pv:=pv) (ln:=ln) (pt:=pt) (cnt:=cnt) (p:=p) w (hV.below hS.below) (h.below hS.below)) ?_;rintro _ w ⟨rfl,hS'⟩
 replace hS:=hS.cmp hS';clear hS'
 refine(zP)<|zlt<|Zf ?_ ?_<;>intro hc
 ·
  refine zsr<|(On)<|zx14<|zf2 ⟨_,rfl,?_⟩
  exact⟨_,0,fun _=>0,1,rfl,.inl ⟨‹¬PlanOk p u ln pt cnt›,rfl,rfl⟩,slh_nil,(hS.sub (.cons _ .slnil)).addnil 1 3 (ints fun _=>0)⟩
 refine ZY<|zlv (xfb 0 fd_27_0) ?_
 have qJ:PlanOk p u ln pt cnt:=by first|assumption|exact Od ‹_›
 have aO:=qJ.1.m1;have qX:=qJ.1.m2;have hu3:=qJ.2.1
 refine(zV (xlb 0 pl_22 hS))<|(zV (xln Zb h.L.slh))<|zla (xmk Zb ZG hS) ?_;rintro v1 w ⟨hS,hv1⟩
 refine(zP)<|zx5<|(zP)<|(zV (xln ZQ hV.row.slh))<|(zP)<|zx6<|zlp (fun mm M w=>∃(f:Of) (i:Int),mm=((u-i).toNat)/\(0<=i)/\(i<=u)/\(∀k,0<=k->k<p.m->f k=ZD i pt cnt k)/\M= [(4,Oh),(5,.int Oi 0),(6,v1),(19,vV),(20,.int Oi u),(21,.int Oi i)]/\Sat w0 w [.blk g1 [vL,vD,.int Oi p.stock,.int Oi p.kerf],.own v1 1 3 p.m (ints f)]) ⟨(fun _=>0),0,rfl,Oa,Oa,?_,rfl,hS⟩ ?_
 ·
  intro k _ _;rfl
 clear hS w
 rintro mm M w ⟨f,i,rfl,h0,h1,hf,rfl,hS⟩
 refine zsr<|(zP)<|zx7<|Zf ?_ ?_<;>intro hc
 ·
  refine zx3<|(zV (xix (kk:=2*i) ZQ hV.row.slh))<|zlv (xlw (cs:= [(pv i),.int Oi (cnt i)]) ZZ (hV.row.below hS.below) (Zx (k:=2*i) (i:=i) pv cnt Oa)) ?_
  obtain⟨hq1,hq2,hq3⟩:=qJ.2.2 i h0 Oa
  have hq4:=hq3.eq
  refine zla (xal (cs:= [_,_]) YW hS) ?_;rintro _ w ⟨g2,rfl,hS⟩
  refine zle (xsw 2 ZZ hS (hd:=(Za (hV.p i Oa Oa).slh.one (Za rfl Zh)))) ?_;clear hS;rintro w hS
  refine zlz<|(zV (xfb 0 fd_97_0))<|(zV (xlb 2 pl_22 hS))<|(zV (xln Zb (hV.p i Oa Oa).slh))<|(zP)<|zx6<|zlp (fun mm M w=>∃(f2:Of) (j:Int),mm=((ln i-j).toNat)/\(0<=j)/\(j<=ln i)/\(∀k,0<=k->k<p.m->f2 k=(if k<j then ZD (i+1) pt cnt k else ZD i pt cnt k))/\M= [(4,Oh),(5,.int Oi 0),(6,v1),(8,Or g2),(19,vV),(20,.int Oi u),(21,.int Oi i),(26,(pv i)),(27,.int Oi (ln i)),(28,.int Oi j)]/\Sat w0 w [.blk g1 [vL,vD,.int Oi p.stock,.int Oi p.kerf],.own v1 1 3 p.m (ints f2),.blk g2 [(pv i),.int Oi (cnt i)]]) ⟨f,0,rfl,Oa,Oa,?_,rfl,hS⟩ ?_
  ·
   intro k k0 k1;rw [if_neg Oa];exact hf k k0 k1
  clear hS w
  rintro mm M w ⟨f2,j,rfl,j0,j1,hf2,rfl,hS⟩
  refine zsr<|(zP)<|zx7<|Zf ?_ ?_<;>intro hc
  ·
   refine zx3<|(zP)<|(zV (xix (kk:=j) Zb (hV.p i Oa Oa).slh))<|zlv (xlr (u:= .int Oi ((pt i) j)) pl_3 ((hV.p i Oa Oa).below hS.below)) ?_
   have hpj:=hq3.all j j0 Oa
   have hmr:=X7 qJ.2.2 h0 Oa (j:=j) j0 Oa
   have hfj:=hf2 j j0 Oa
   rw [if_neg Oa] at hfj
   have hmj:=WI hpj.1 hpj.2 (show 0<=cnt i by omega) hq2
   refine(On)<|zlt<|zdst [0,1,2] [0,2] 10 mx_ hS ?_;clear hS;intro w hS
   refine(zDw 0 xmv)<|(zDw 1 xmv)<|(zDw 2 (xix (kk:=j) Zb hv1))<|zdl 3 (fun w hS=>(xlr (u:= .int Oi (f2 j)) pl_3 (hS.rowN 1 rfl))) ?_
   refine(zDw 4 xmv)<|(zDw 5 (xfb 1 fd_97_1))<|(zDl 6 (fun w hS=>(xlb 1 pl_3 hS)))<|(zDw 7 (Yf (r:=(((pt i) j)*(cnt i))) (e:=rfl)))<|(zDw 8 (Zg (r:=f2 j+(((pt i) j)*(cnt i)))))<|(zDw 9 (xix (kk:=j) Zb hv1))<|zde 10 (xso 1 pl_3 hS (ZA _ _ _)) ?_;clear hS;rintro w hS
   refine⟨⟨fun h=>absurd h (by decide),hS.pk [0,2]⟩,?_⟩
   refine zdd<|zbn<|ztn<|zrg ?_
   refine(zV (Zg (r:=j+1)))<|(zP)<|zln<|zlq ⟨(upd f2 j (f2 j+(((pt i) j)*(cnt i)))),j+1,rfl,Oa,Oa,?_,rfl,hS⟩
   ·
    intro k k0 k1;unfold upd;by_cases e:k=j
    · rw [if_pos e,if_pos Oa,e,XG h0];omega
    · rw [if_neg e,hf2 k k0 k1];by_cases e2:k<j
      · rw [if_pos e2,if_pos Oa]
      · rw [if_neg e2,if_neg Oa]
  refine zxt<|ztx<|ztx<|zbh<|zbn<|ztn<|zrg<|(zV (Zg (r:=i+1)))<|(zP)<|zln<|zlq ⟨f2,i+1,rfl,Oa,Oa,?_,rfl,hS.pk [0,1]⟩
  ·
   intro k k0 k1;rw [hf2 k k0 k1,if_pos Oa]
 refine zx8<|(Oo)<|zx1<|zf2 ⟨_,rfl,?_⟩
 have hiu:i=u:=Oa
 rw [hiu] at hf
 replace hS:=hS.recont 1 rfl (d:=ints (ZD u pt cnt)) (fun k k0 k1=>congrArg (Value.int .i64) (hf k k0 Oa))
 exact⟨_,_,_,0,rfl,.inr ⟨qJ,rfl,rfl,rfl⟩,hv1,hS.pk [1]⟩
theorem ZbX{u:Int}{vL:Value}{p:Prob}(w0:World)(hV:VAt w0 vV u pv ln pt cnt)(h:PAt w0 vL vD p):
   Calls Om 15 [.agg #[vL,vD,.int Oi p.stock,.int Oi p.kerf],vV].toArray w0 fun e w=>∃v,e= .returned v/\v=B (PlanOk p u ln pt cnt/\∀j,0<=j->j<p.m->p.D j<=ZD u pt cnt j)/\Sat w0 w []:=by
 obtain⟨hm,hm1,hd,hd1,hs,hk⟩:=h.Oq
 refine zenG Tryz.func15 Tryz.ntmps15 fun w hS=> ?_
 refine zsr<|zla (xbx (cs:= [_,_,_,_]) hS) ?_;rintro _ w ⟨g1,rfl,hS⟩
 refine(zP)<|zlz<|(zV (xls 0 st_27 hS))<|(zP)<|zlc (xc0 ZdL) (U1 (u:=u) (pv:=pv) (ln:=ln) (pt:=pt) (cnt:=cnt) (p:=p) w (hV.below hS.below) (h.below hS.below)) ?_;rintro _ w ⟨qz,ql,qe,y9,rfl,qT,qx,hS'⟩
 replace hS:=(hS.comp hS').n2;clear hS'
 refine zs3 ?_
 have hnd:=qx.n0;have kH:=qx.n1
 have kG:ql<=p.d:=by
   rcases qT with⟨_,g2,_⟩|⟨g1,g2,_,_⟩
   · omega
   · have:=g1.1.d;omega
 refine(On)<|zx5<|(zP)<|(zV (xln Zb qx))<|(zP)<|zx6<|zlp (fun mm M w=>∃(i:Int),mm=((ql-i).toNat)/\(0<=i)/\(i<=ql)/\(∀k,0<=k->k<i->p.D k<=qe k)/\M= [(2,Or g1),(6,.int Oi y9),(15,qz),(16,.int Oi ql),(17,.int Oi i)]/\Sat w0 w [.blk g1 [vL,vD,.int Oi p.stock,.int Oi p.kerf],.own qz 1 3 ql (ints qe)]) ⟨0,rfl,Oa,Oa,?_,rfl,hS⟩ ?_
 ·
  intro k h0 h1;omega
 clear hS w
 rintro mm M w ⟨i,rfl,h0,h1,qa,rfl,hS⟩
 refine zsr<|(zP)<|zx7<|Zf ?_ ?_<;>intro hc
 ·
  refine zx3<|(zP)<|(zV (xix (kk:=i) Zb qx))<|(zV (xlr (u:= .int Oi (qe i)) pl_3 (hS.rowN 1 rfl)))<|(On)<|zlz<|(zP)<|(zV (xfb 1 fd_27_1))<|(zV (xlb 0 pl_22 hS))<|(zP)<|(zV (xix (kk:=i) Zb h.D.slh))<|zlv (xlr (u:= .int Oi (p.D i)) pl_3 (h.D.below hS.below)) ?_
  have hbv:=h.iD i
  refine(zP)<|zlt<|Zf ?_ ?_<;>intro hc
  ·
   refine zsr<|(zP)<|zx2<|Oj ?_
   refine⟨Zi ?_,hS.nl⟩
   rcases qT with⟨g1,g2,g3⟩|⟨g1,g2,g3,g4⟩
   · exact fun hh=>g1 hh.1
   · intro hh;subst g3;have h9:=hh.2 i h0 Oa;omega
  refine zx4<|(zV (Zg (r:=i+1)))<|(zP)<|zln<|zlq ⟨i+1,rfl,Oa,Oa,?_,rfl,hS⟩
  ·
   intro k h0' h1';rcases Int.lt_or_eq_of_le (show k<=i by omega) with hk|hk;exact qa k h0' hk;rw [hk];omega
 refine zx8<|(Oo)<|zx1<|Oj ?_
 refine⟨Zm ?_,hS.nl⟩
 rcases qT with⟨g1,g2,g3⟩|⟨g1,g2,g3,g4⟩
 · exact⟨fun hh=>Oa,fun hh=>absurd hh.1 g1⟩
 · exact⟨fun _=>⟨g1,fun j j0 j1=>by have:=qa j j0 Oa;rw [g3] at this;exact this⟩,fun _=>Oa⟩
end Go.Proofs.YtpnamgfdakfccaaGreat
namespace Go.Proofs.Gw
open Go Go.RowKit
section
variable {P:Program} {l rest:List Oper} {Q Q':Exit->Act->World->Prop} {w w' w0:World} {o:Oper} {n d fuel i:Nat} {L M:List (Nat×Value)} {x y:Code} {c:Operand} {e:Exit} {p:Prop} {r:Option Nat} {ds:List Deferred} {listed:Array Bool} {K:Act->World->Prop}
def Hd(P:Program)(r:Option Nat)(n:Nat)(l:List Oper)(Q:Exit->Act->World->Prop)(fuel:Nat)(listed:Array Bool)(ds:List Deferred)(L:List (Nat×Value))(w:World):Prop:=∀a,Frd a n ds L->wpAnyIn (FZ r) 0 P .any l.toArray Q fuel listed a w
def Ho(P:Program)(r:Option Nat)(n:Nat)(l:List Oper)(Q:Exit->Act->World->Prop)(o:Oper)(K:Act->World->Prop)(ds:List Deferred)(L:List (Nat×Value))(w:World):Prop:=∀a,Frd a n ds L->if Region.wanted o (yielded l.toArray a.tmps)=true then o.wpIn (FZ r) 0 P a w K Q else(∀f,o.about P w a.eval=some f->(FZ r).fn f)/\K (a.put o.dst undef) w
theorem Ho.op{i:Nat}(h:Ho P r n l Q o K ds L w)(ho:l[i]? =some o){a:Act}(hF:Frd a n ds L):wpOpIn (FZ r) 0 P l.toArray Q i K a w:=by
 unfold wpOpIn
 rw [show l.toArray[i]? =some o by simpa using ho]
 exact h a hF
theorem hdr{id:Nat}{m:List Ent}(fuel:Nat)(hm:P.follows .mixedOrders=true)(hS:Sat w0 w m)(K:∀w,Sat w0 w m->Hd P r n l Q fuel (Array.replicate fuel false) ds L w)(hn:l.length=fuel:=by exact rfl):Hc P r n Q (.region id l.toArray true) ds L w:=fun a hF=>by
 subst hn
 exact wpIn_region_any hm (by have:=K _ hS.draw a hF;simpa using this)
theorem hd0(h:He n Q .normal ds L w)(hr:Region.ready .any l.toArray listed= []:=by kernel_rfl):Hd P r n l Q fuel listed ds L w:=fun a hF=>wpAnyIn_done hr (h a hF) _
theorem hd1(i:Nat){o:Oper}(h:Ho P r n l Q o (wpAnyIn (FZ r) 0 P .any l.toArray Q fuel (listed.setIfInBounds i true)) ds L w)(hr:Region.ready .any l.toArray listed= [i]:=by kernel_rfl)(ho:l[i]? =some o:=by exact rfl):Hd P r n l Q (fuel+1) listed ds L w:=fun a hF=>
 wpAnyIn_all hr (by simp) fun j hj => by obtain rfl:j=i:=by simpa using hj
                                         exact h.op ho hF
theorem hd2(i j:Nat){o o':Oper}(hi:Ho P r n l Q o (wpAnyIn (FZ r) 0 P .any l.toArray Q fuel (listed.setIfInBounds i true)) ds L w)(hj:Ho P r n l Q o' (wpAnyIn (FZ r) 0 P .any l.toArray Q fuel (listed.setIfInBounds j true)) ds L w)(hr:Region.ready .any l.toArray listed= [i,j]:=by kernel_rfl)(ho:l[i]? =some o:=by exact rfl)(ho':l[j]? =some o':=by exact rfl):Hd P r n l Q (fuel+1) listed ds L w:=fun a hF=>
 wpAnyIn_all hr (by simp) fun k hk=>by
   rcases List.mem_cons.1 hk with rfl|hk
   · exact hi.op ho hF
   · obtain rfl:k=j:=by simpa using hk
     exact hj.op ho' hF
theorem hov{v:Value}(hr:Runs P L w o (.value v) w')(K:Hd P r n l Q fuel listed ds ((d,v)::L) w')(hg:gdB l L o=some true:=by exact rfl)(hd:o.dst=some d:=by exact rfl)(hdn:Nat.blt d n=true:=by exact rfl)(hn:ndf o=true:=by exact rfl):Ho P r n l Q o (wpAnyIn (FZ r) 0 P .any l.toArray Q fuel listed) ds L w:=fun a hF=>by
 rw [if_pos (Tz hF hg)]
 refine⟨fun _ _=>trivial,?_⟩
 rw [YQ hn,hr _ hF.agr,Oper.uponIn_value,hd]
 exact K _ (hF.put (by simpa [Nat.blt_eq] using hdn) v)
theorem hof(K:Hd P r n l Q fuel listed ds ((d,undef)::L) w)(hg:gdB l L o=some false:=by exact rfl)(hd:o.dst=some d:=by exact rfl)(hdn:Nat.blt d n=true:=by exact rfl):Ho P r n l Q o (wpAnyIn (FZ r) 0 P .any l.toArray Q fuel listed) ds L w:=fun a hF=>by
 rw [if_neg (by rw [Tz hF hg];simp)]
 refine⟨fun _ _=>trivial,?_⟩
 rw [hd]
 exact K _ (hF.put (by simpa [Nat.blt_eq] using hdn) undef)
theorem hoc{f:FuncId}{args:Array Value}{R:Value->World->Prop}(hr:Runs P L w o (.enter f args) w)(hc:Calls P f args w fun e w'=>∃v,e= .returned v/\R v w')(K:∀v w',R v w'->Hd P r n l Q fuel listed ds ((d,v)::L) w')
   (hg:gdB l L o=some true:=by exact rfl) (hd:o.dst=some d:=by exact rfl) (hdn:Nat.blt d n=true:=by exact rfl) (hn:ndf o=true:=by exact rfl):Ho P r n l Q o (wpAnyIn (FZ r) 0 P .any l.toArray Q fuel listed) ds L w:=fun a hF=>by
 rw [if_pos (Tz hF hg)]
 refine⟨fun _ _=>trivial,?_⟩
 rw [YQ hn,hr _ hF.agr,Oper.uponIn_enter]
 refine⟨fun h=>(by cases h),Wh (hc.mono fun e w' ⟨v,he,hR⟩=> ?_)⟩
 subst he
 rw [hd]
 exact K v w' hR _ (hF.put (by simpa [Nat.blt_eq] using hdn) v)
theorem hoy{l0:Nat}{xs:Array Operand}{ts:Array TypeId}{vs:List Value}{z:Operand}{R:Value->World->Prop}(hY:Yld P l0 vs w R)(K:∀v w',R v w'->Hd P r n l Q fuel listed ds ((d,v)::L) w')
   (hop:o.op= .call {callee:= .value z,args:=xs,argTypes:=ts}:=by exact rfl) (hx:evL L z=some (.func (.yield l0) #[] #[]):=by exact rfl) (ha:Uy L xs vs:=by repeat' first|exact Zb1|apply Wf rfl)
   (hg:gdB l L o=some true:=by exact rfl) (hd:o.dst=some d:=by exact rfl) (hdn:Nat.blt d n=true:=by exact rfl):Ho P r n l Q o (wpAnyIn (FZ r) 0 P .any l.toArray Q fuel listed) ds L w:=fun a hF=>by
 obtain⟨fn,tmps,assign,body,hy,hR⟩:=hY
 have hr:=xyl (P:=P) (L:=L) (o:=o) hy hop hx ha
 rw [if_pos (Tz hF hg)]
 refine⟨fun _ _=>trivial,?_⟩
 rw [YQ (by unfold ndf;rw [hop]),hr _ hF.agr,Oper.uponIn_round]
 refine⟨fun h=>(by cases h),(show RoundIn (FZ r) (0-1) P l0 fn tmps assign body w fun e w'=>∃v,e= .returned v/\R v w' from hR).mono fun e w' ⟨v,he,hR⟩=> ?_⟩
 subst he
 rw [hd]
 exact K v w' hR _ (hF.put (by simpa [Nat.blt_eq] using hdn) v)
theorem ZnW{f:FuncId}{fn:Func}{vs:List Value}{R:Ending->World->Prop}(hf:P.funcs[f]? =some fn)(hn:fn.ntmps=n)(K:Hc P none n (bodyPostM (FZ none) 0 P fn R) x [] (num 0 vs) w)(hb:fn.body=some x:=by exact rfl)(hv:Nat.ble vs.length n=true:=by exact rfl):Calls P f vs.toArray w R:=
 Ux (r:=none) (n:=0) (callsIn_of_wp_marks hf hb trivial (by
   rw [hn]
   exact K _ ((Fr.enter (vs:=vs.toArray) (by simpa using Nat.le_of_ble_eq_true hv) fun t v ht=>by have:=(KR vs 0 t v ht).2;simpa using this))))
theorem ZnV{fn:Func}{R:Ending->World->Prop}{E:List Ent}{D:Nat}(i:Nat)(hS:Sat w0 w E)(K:∀w',Sat w0 w' (E.set i (dfE D false))->Ge n [] (bodyPost P fn R) .normal L w')(hi:E[i]? =some (dfE D true):=by exact rfl):He n (bodyPostM (FZ none) 0 P fn R) .normal [mrk D] L w:=fun a hF=>ZcC i hS (fun w' h a hF=>K w' h a hF) hi a hF
end
end Go.Proofs.Gw
namespace Go.Proofs.Gw
open Go Go.RowKit
section
variable {P:Program} {Q:Exit->Act->World->Prop} {w w' w0:World} {n:Nat} {L:List (Nat×Value)} {ds:List Deferred}
def ItG {St X Tt:Type} (P:Program) (w0:World) (gf:FuncId) (lb:List Value) (Sh:List Ent) (enc:X->List Value) (Gx:X->List Ent) (Pre:St->X->Frame->Prop) (Nx:St->X->St->Prop) (Sx:St->X->Tt->Prop) (s0:St) (Fin:St->Frame->Prop) (FinX:Tt->Frame->Prop):Prop:=
  ∀ (l:Nat) (C:St->Frame) (D:Tt->Frame) (w:World),Sat w0 w (.sem (C s0)::Sh)->
    (∀s x rest w,Pre s x rest->Sat w0 w (.sem (C s)::(Sh++(Gx x++ [.sem rest])))->Yld P l (enc x) w fun v w'=>
      (v= .bool true/\∃s',Nx s x s'/\Sat w0 w' (.sem (C s')::(Sh++ [.sem rest])))\/(v= .bool false/\∃t,Sx s x t/\Sat w0 w' (.sem (D t)::(Sh++ [.sem rest]))))->
    Calls P gf (.func (.yield l) #[] #[]::lb).toArray w fun e w'=>∃v,e= .returned v/\
      ((∃s rest,Fin s rest/\Sat w0 w' (.sem (C s)::(Sh++ [.sem rest])))\/(∃t rest,FinX t rest/\Sat w0 w' (.sem (D t)::(Sh++ [.sem rest]))))
theorem ZnU {St X Tt:Type} {gf:FuncId} {lb:List Value} {g:Operand} {ps:Array Tmp} {assign body:Code} {Sh:List Ent} {enc:X->List Value} {Gx:X->List Ent} {Pre:St->X->Frame->Prop} {Nx:St->X->St->Prop} {Sx:St->X->Tt->Prop} {Fin:St->Frame->Prop} {FinX:Tt->Frame->Prop}
   (C:St->List Ent) (D:Tt->List Ent) (jc:Tt->Code) (s0:St) (J:X->List (Nat×Value)->List Ent->Prop) (hit:ItG P w0 gf lb Sh enc Gx Pre Nx Sx s0 Fin FinX) (hS:Sat w0 w (C s0++Sh)) (hcl:Zc P gf=true)
   (hpl:∀x,(enc x).length=ps.size) (hjc:∀t,jc t= .ret\/∃id,jc t= .exit id)
   (yQ:∀l s x rest w,Pre s x rest->∀rest',(∀w,rest'.holds w->rest.holds w)->Sat w0 w (C s++(Sh++(.sem rest'::Gx x)))->Hc P (some l) n (Exit.then (fun a w'=>∃M es,J x M es/\Frd a n [] M/\Sat w0 w' (C s++(Sh++(.sem rest'::es)))) (fun _ _ _=>False)) assign [] (Kr ps.toList (enc x) L) w)
   (bk:∀l s x M es rest w,Pre s x rest->J x M es->∀rest',(∀w,rest'.holds w->rest.holds w)->Sat w0 w (C s++(Sh++(.sem rest'::es)))->Hc P (some l) n (rdQ w0 C D jc Sh (Nx s x) (Sx s x) rest') body [] M w)
   (y5:∀Dk s rest w',Fin s rest->Sat w0 w' (C s++(Sh++ [.sem rest,dfE Dk true]))->He n Q .normal (mrk Dk::ds) L w')
   (aI:∀Dk t rest w',FinX t rest->Sat w0 w' (D t++(Sh++ [.sem rest,dfE Dk true]))->He n Q (Zgg (jc t)) (mrk Dk::ds) L w')
   (hg:evL L g=some (.func (.func gf) #[] lb.toArray):=by exact rfl) (hpb:(ps.toList.all fun t=>Nat.blt t n)=true:=by exact rfl):Hc P none n Q (.rangeFunc g ps assign body) ds L w:=by
 intro a hF
 refine wpIn_rangeFunc ?_
 intro fn hfn
 obtain⟨rec,q9⟩:∃rec:LoopState->Option Code->Loop,rec=fun st pe=>{state:=st,pending:=pe,fn,tmps:=a.tmps,params:=ps,assign,body,defers:=w.heap.size}:=⟨_,rfl⟩
 obtain⟨W1,hW1⟩:∃W1,(w.alloc (.deferred (some []))).alloc (.loop (rec .ready none))=W1:=⟨_,rfl⟩
 obtain⟨l,hl⟩:∃l,w.heap.size+1=l:=⟨_,rfl⟩
 obtain⟨Dk,hDk⟩:∃Dk,w.heap.size=Dk:=⟨_,rfl⟩
 have hS1:Sat w0 W1 ((C s0++Sh)++ [dfE Dk true]++ [.sem (Frame.obj l (.loop (rec .ready none)))]):=by
   rw [<-hW1]
   refine(hS.alloc _ (e:=dfE Dk true) ?_ ?_).alloc _ (e:= .sem (Frame.obj l (.loop (rec .ready none)))) ?_ ?_
   · rw [<-hDk];exact heap_alloc_new w _
   · intro g hg;rw [<-hDk] at hg;exact hg
   · have:=heap_alloc_new (w.alloc (.deferred (some []))) (.loop (rec .ready none))
     rw [World.size_alloc,hl] at this;exact this
   · intro g hg;rw [World.size_alloc,hl];exact hg
 have eval:a.eval g= .func (.func gf) #[] lb.toArray:=hF.agr _ _ hg
 have df:∃fnn,P.funcs[gf]? =some fnn/\fnn.body.isSome=true/\(fnn.name== "runtime.NumGoroutine")=false:=by
   unfold Zc at hcl
   cases hf:P.funcs[gf]? with
   |none=>simp [hf] at hcl
   | some fnn=>
     simp only [hf,Bool.and_eq_true,Bool.not_eq_true'] at hcl
     exact⟨fnn,rfl,hcl.1,hcl.2⟩
 obtain⟨fnn,hf1,hf2,hf3⟩:=df
 have dk:fnn.body≠none:=by intro e;rw [e] at hf2;simp at hf2
 have di:fnn.name≠ "runtime.NumGoroutine" :=by simpa using hf3
 let C':St->Frame:=fun s=>Frame.bun (C s++ [.sem (Frame.obj l (.loop (rec .ready none))),dfE Dk true])
 let D':Tt->Frame:=fun t=>Frame.bun (D t++ [.sem (Frame.obj l (.loop (rec .done (some (jc t))))),dfE Dk true])
 have hS2:Sat w0 W1 (.sem (C' s0)::Sh):=by
   have h1:Sat w0 W1 (Sh++(C s0++ [.sem (Frame.obj l (.loop (rec .ready none))),dfE Dk true])):=hS1.perm (Yb fun f=>by simp only [List.map_append,List.map_cons,List.map_nil,List.sum_append,List.sum_cons,List.sum_nil];omega)
   have h2:=h1.bundle
   exact h2.perm List.perm_append_comm
 refine⟨l, [mrk Dk],W1,{target:= .fn (.func gf) lb.toArray,args:= #[.func (.yield l) #[] #[]]},W1,gf, #[.func (.yield l) #[] #[]]++lb.toArray,W1,?_,?_,?_,?_,fun h=>(by cases h),?_⟩
 · rw [<-hW1,q9,<-hl,<-hDk];exact run_enterLoop_outer _ _ _ _ _
 · simp only [resolve,eval]
   simp [go_sem]
 · intro f' hf';trivial
 · simp [invoke,go_sem,callFunc,hf1,dk,di]
 have eargs:(#[.func (.yield l) #[] #[]]++lb.toArray:Array Value)=(.func (.yield l) #[] #[]::lb).toArray:=by simp
 rw [eargs]
 refine Wh ((hit l C' D' W1 hS2 ?_).mono ?_)
 ·
   intro s x rest W qr hSW
   have h1:Sat w0 W (C s++(Sh++(Gx x++ [.sem rest,.sem (Frame.obj l (.loop (rec .ready none))),dfE Dk true]))):=by
     have:=Sat.unbun (l1:= []) hSW
     exact this.perm (Yb fun f=>by simp only [List.map_append,List.map_cons,List.map_nil,List.sum_append,List.sum_cons,List.sum_nil];omega)
   have hlr:W.heap[l]? =some (.loop (rec .ready none)):=h1.holds (.sem (Frame.obj l (.loop (rec .ready none)))) (by simp)
   have hy:=run_yield (P:=P) (args:=(enc x).toArray) hlr (by rw [q9];simp [hpl x])
   rw [q9] at hy
   refine⟨fn,_,assign,body,hy,roundIn_of_wpIn trivial ?_⟩
   clear hy
   let r1:Frame:=Frame.bun [.sem rest,.sem (Frame.obj l (.loop (rec .ready none))),dfE Dk true]
   have h2:Sat w0 W (C s++(Sh++(.sem r1::Gx x))):=by
     have h1b:Sat w0 W ((C s++(Sh++Gx x))++ [.sem r1]):=by
       have h1c:Sat w0 W ((C s++(Sh++Gx x))++ [.sem rest,.sem (Frame.obj l (.loop (rec .ready none))),dfE Dk true]):=by
         rw [List.append_assoc,List.append_assoc];exact h1
       exact h1c.bundle
     exact h1b.perm (Yb fun f=>by simp only [List.map_append,List.map_cons,List.map_nil,List.sum_append,List.sum_cons,List.sum_nil];omega)
   have hfr:Frd {tmps:=(ps.zip (enc x).toArray).foldl (fun t (p,v)=>t.setIfInBounds p v) a.tmps,defers:= []} n [] (Kr ps.toList (enc x) L):=by
     have:=Kq (a:=a) (n:=n) ps.toList (enc x) a.tmps (L:=L) ⟨hF.size,rfl,hF.get⟩ hpb
     have e:(ps.zip (enc x).toArray).foldl (fun t (p,v)=>t.setIfInBounds p v) a.tmps=(ps.toList.zip (enc x)).foldl (fun t (p:Nat×Value)=>t.setIfInBounds p.1 p.2) a.tmps:=by
       rw [<-Array.foldl_toList,Array.toList_zip]
     rw [e];exact this
   refine Go.wpIn_mono (yQ l s x rest W qr r1 (fun w h=>h.1 (.sem rest) (by simp)) h2 _ hfr) ?_
   intro e a1 Wa hp
   cases e<;>try exact hp.elim
   obtain⟨M,es,hJ,hFM,hSa⟩:=hp
   have h3:Sat w0 Wa ((C s++(Sh++([.sem rest]++es))++ [dfE Dk true])++ .sem (Frame.obj l (.loop (rec .ready none))):: []):=by
     have:=Sat.unbun (l1:=C s++Sh) (l3:=es) (by rw [List.append_assoc];exact hSa)
     exact this.perm (Yb fun f=>by simp only [List.map_append,List.map_cons,List.map_nil,List.sum_append,List.sum_cons,List.sum_nil];omega)
   have hlr:Wa.heap[l]? =some (.loop (rec .ready none)):=h3.get
   refine⟨_,run_beginRound hlr (by rw [q9]),?_⟩
   have h4:=h3.putObj (o':= .loop {rec .ready none with state:= .busy})
   let r2:Frame:=Frame.bun [.sem rest,.sem (Frame.obj l (.loop {rec .ready none with state:= .busy})),dfE Dk true]
   have h5:Sat w0 (Wa.putObj l (.loop {rec .ready none with state:= .busy})) (C s++(Sh++(.sem r2::es))):=by
     have h:Sat w0 (Wa.putObj l (.loop {rec .ready none with state:= .busy})) ((C s++(Sh++es))++ [.sem rest,.sem (Frame.obj l (.loop {rec .ready none with state:= .busy})),dfE Dk true]):=by
       exact h4.perm (Yb fun f=>by simp only [List.map_append,List.map_cons,List.map_nil,List.sum_append,List.sum_cons,List.sum_nil];omega)
     have hb:Sat w0 (Wa.putObj l (.loop {rec .ready none with state:= .busy})) ((C s++(Sh++es))++ [.sem r2]):=h.bundle
     exact hb.perm (Yb fun f=>by simp only [List.map_append,List.map_cons,List.map_nil,List.sum_append,List.sum_cons,List.sum_nil];omega)
   refine Go.wpIn_mono (bk l s x M es rest _ qr hJ r2 (fun w h=>h.1 (.sem rest) (by simp)) h5 _ hFM) ?_
   have fin:∀(jump:Option Code) (A:List Ent) (W3:World),Sat w0 W3 (A++(Sh++ [.sem r2]))->
       (Instr.endRound l jump).run P W3= .ok (.bool jump.isNone) (W3.putObj l (.loop (rec (if jump.isNone then .ready else .done) jump)))/\
       Sat w0 (W3.putObj l (.loop (rec (if jump.isNone then .ready else .done) jump))) (.sem (Frame.bun (A++ [.sem (Frame.obj l (.loop (rec (if jump.isNone then .ready else .done) jump))),dfE Dk true]))::(Sh++ [.sem rest])):=fun jump A W3 hA=>by
     have h6:Sat w0 W3 ((Sh++ [.sem rest]++(A++ [dfE Dk true]))++ .sem (Frame.obj l (.loop {rec .ready none with state:= .busy})):: []):=by
       have:=Sat.unbun (l1:=A++Sh) (l3:= []) (by rw [List.append_assoc];exact hA)
       exact this.perm (Yb fun f=>by simp only [List.map_append,List.map_cons,List.map_nil,List.sum_append,List.sum_cons,List.sum_nil];omega)
     have hlb:W3.heap[l]? =some (.loop {rec .ready none with state:= .busy}):=h6.get
     have hr:=run_endRound (P:=P) jump hlb
     have h7:=h6.putObj (o':= .loop (rec (if jump.isNone then .ready else .done) jump))
     refine⟨by rw [q9] at hr⊢;exact hr,?_⟩
     have h8:Sat w0 (W3.putObj l (.loop (rec (if jump.isNone then .ready else .done) jump))) ((Sh++ [.sem rest])++(A++ [.sem (Frame.obj l (.loop (rec (if jump.isNone then .ready else .done) jump))),dfE Dk true])):=by
       exact h7.perm (Yb fun f=>by simp only [List.map_append,List.map_cons,List.map_nil,List.sum_append,List.sum_cons,List.sum_nil];omega)
     exact h8.bundle.perm List.perm_append_comm
   intro e a3 W3 hp
   cases e with
   | normal=>
     obtain⟨s',hn,hA⟩:=hp
     obtain⟨hr,h6⟩:=fin none _ _ hA
     exact⟨_,_,hr,_,rfl,.inl ⟨rfl,s',hn,h6⟩⟩
   | ret=>
     obtain⟨t,hn,hj,hA⟩:=hp
     obtain⟨hr,h6⟩:=fin (some .ret) _ _ hA
     refine⟨_,_,hr,_,rfl,.inr ⟨rfl,t,hn,?_⟩⟩
     simp only [D',hj];exact h6
   | exit id=>
     obtain⟨t,hn,hj,hA⟩:=hp
     obtain⟨hr,h6⟩:=fin (some (.exit id)) _ _ hA
     refine⟨_,_,hr,_,rfl,.inr ⟨rfl,t,hn,?_⟩⟩
     simp only [D',hj];exact h6
   |goto t=>exact hp.elim
   |panic ch=>exact hp.elim
   |outgrown=>exact hp.elim
 ·
   have out:∀(st:LoopState) (pe:Option Code) (A:List Ent) (rest:Frame) (W2:World),st≠ .busy->Sat w0 W2 (.sem (Frame.bun (A++ [.sem (Frame.obj l (.loop (rec st pe))),dfE Dk true]))::(Sh++ [.sem rest]))->
       (Instr.endLoop l).run P W2= .ok pe (W2.putObj l (.loop {rec st pe with state:= .exhausted}))/\Sat w0 (W2.putObj l (.loop {rec st pe with state:= .exhausted})) (A++(Sh++ [.sem rest,dfE Dk true])):=fun st pe A rest W2 hst h=>by
     have h1:=Sat.unbun (l1:= []) h
     have h2:Sat w0 W2 ((A++(Sh++ [.sem rest,dfE Dk true]))++ .sem (Frame.obj l (.loop (rec st pe))):: []):=by
       exact h1.perm (Yb fun f=>by simp only [List.map_append,List.map_cons,List.map_nil,List.sum_append,List.sum_cons,List.sum_nil];omega)
     have hl:W2.heap[l]? =some (.loop (rec st pe)):=h2.get
     have h3:=h2.putObj (o':= .loop {rec st pe with state:= .exhausted})
     refine⟨?_,h3.sub (List.sublist_append_left _ _)⟩
     have:=run_endLoop (P:=P) hl (by rw [q9];exact hst)
     rw [q9] at this⊢;exact this
   rintro e W2 ⟨v,rfl,h⟩
   have hF':∀{L'},Frd a n ds L'->Frd {a with defers:= [mrk Dk]++a.defers} n (mrk Dk::ds) L':=fun h=>⟨h.size,by rw [<-h.defers];rfl,h.get⟩
   rcases h with⟨s,rest,qs,h⟩|⟨t,rest,qs,h⟩
   · obtain⟨h1,h2⟩:=out .ready none _ rest W2 (by simp) h
     exact⟨none,_,h1,y5 Dk s rest _ qs h2 _ (hF' hF)⟩
   · obtain⟨h1,h2⟩:=out .done (some (jc t)) _ rest W2 (by simp) h
     refine⟨some (jc t),_,h1,?_⟩
     have h3:=aI Dk t rest _ qs h2 _ (hF' hF)
     rcases hjc t with hj|⟨id,hj⟩
     · rw [hj] at h3⊢;exact wpIn_ret h3
     · rw [hj] at h3⊢;exact wpIn_exit h3
end
end Go.Proofs.Gw
namespace Go.Proofs.YtpnamgfdakfccaaGreat
open Go Go.RowKit Go.Proofs.Gw
variable {cnt ln:Of} {pt:Og}
theorem pl_29:ZB Om 29=true:=Oc
def Un(u:Int):Nat->List Int
  |0=> []
  |t+1=>Un u t++ [u-1-t]
def dwn(u x:Int):List Int:=Un u (u-1-x).toNat
theorem ZgB{u x:Int}(h:x<u):dwn u (x-1)=dwn u x++ [x]:=by
 unfold dwn
 rw [show(u-1-(x-1)).toNat=(u-1-x).toNat+1 by omega,Un,show u-1-((u-1-x).toNat:Int)=x by omega]
theorem ZeI(u:Int):dwn u (u-1)= []:=by
 unfold dwn;rw [show(u-1-(u-1)).toNat=0 by omega];rfl
def WP(ln:Of)(pt:Og)(cnt:Of)(l:List Int):List (List Int):=l.flatMap fun i=>List.replicate (cnt i).toNat (lst (ln i) (pt i))
theorem TQ(ln:Of)(pt:Og)(cnt:Of)(l:List Int)(x:Int):WP ln pt cnt (l++ [x])=WP ln pt cnt l++List.replicate (cnt x).toNat (lst (ln x) (pt x)):=by simp [WP]
theorem ZaA{ln cnt:Of}{pt:Og}{u:Int}(u0:0<=u)(hc:∀k,0<=k->k<u->0<=cnt k):∀t:Nat,(t:Int)<=u->((WP ln pt cnt (Un u t)).length:Int)=psum (fun _=>1) cnt u.toNat-psum (fun _=>1) cnt (u-t).toNat
 |0,_=>by simp [Un,WP]
 | t+1,ht=>by
   have h1:=ZaA (ln:=ln) (pt:=pt) u0 hc t Oa
   have h2:=hc (u-1-t) Oa Oa
   have h3:=YJ (fun _=>1) cnt (i:=u-1-t) Oa
   rw [Un,TQ,List.length_append,List.length_replicate]
   rw [show u-1-(t:Int)+1=u-t by omega] at h3
   rw [show u-((t+1:Nat):Int)=u-1-t by omega]
   push_cast
   rw [h1,h3,Int.toNat_of_nonneg h2];omega
theorem U3{u x c:Int}(hc:∀k,0<=k->k<u->0<=cnt k)(x0:0<=x)(x1:x<u)(c0:0<=c)(c1:c<cnt x):((WP ln pt cnt (dwn u x)++List.replicate c.toNat (lst (ln x) (pt x))).length:Int)<psum (fun _=>1) cnt u.toNat:=by
 have h1:=ZaA (ln:=ln) (pt:=pt) Oa hc (u-1-x).toNat Oa
 have h2:=YJ (fun _=>1) cnt x0
 have h3:=WZ (d:=cnt) (f:=fun _=>1) (i:=0) (n:=x.toNat) Oa fun k hk=>by have:=hc k Oa Oa;omega
 rw [List.length_append,List.length_replicate]
 unfold dwn
 push_cast
 rw [h1,show(u-((u-1-x).toNat:Int)).toNat=(x+1).toNat by omega,h2]
 simp only [psum] at h3
 omega
theorem ZjD{vV:Value}{u:Int}{pv:Int->Value}(w0:World)(hV:VAt w0 vV u pv ln pt cnt):
   Calls Om 226 [vV].toArray w0 fun e w=>∃v,e= .returned v/\∃g,v= .func (.func 282) #[] #[Or g]/\Sat w0 w [.blk g [vV]]:=by
 refine zenG Tryz.func226 Tryz.ntmps226 fun w hS=> ?_
 refine zsr<|zla (xbx (cs:= [_]) hS (hc:=Slh.cells hV.row.slh)) ?_;rintro _ w ⟨g1,rfl,hS⟩
 refine(zP)<|zlz<|(zV xmf)<|(zP)<|zx1<|Oj ?_
 exact⟨_,rfl,hS⟩
theorem ZjE{vV:Value}{u:Int}{pv:Int->Value}{pt:Og}{cnt:Of}{gq:Nat}{St:Type}(qc:St->List Int)(Inv:St->Prop)(s0:St)(hs0:qc s0= [])(hI0:Inv s0)(w0:World)(hsV:Slh vV u)(hrV:∀k,0<=k->k<u->Slh (pv k) (ln k)):ItC (St:=St) (X:=Int) (Tt:=Unit) Om w0 282 [Or gq] [.blk gq [vV],.own vV 2 97 u (Ze pv cnt),.sem (Frame.rows 3 u pv ln pt)] (fun x=> [.int Oi x,.agg #[pv x,.int Oi (cnt x)]]) (fun s x rest=>Inv s/\0<=x/\x<u/\qc s=dwn u x) (fun s x s1=>qc s1=qc s++ [x]/\Inv s1) (fun _ _ _=>False) (s0) (fun s rest=>Inv s/\qc s=dwn u (-1)) (fun _ _=>False):=by
 intro l C D w hS hY
 have hu:=hsV.n0;have hu1:=hsV.n1
 refine ZfZ Tryz.func282 Tryz.ntmps282 ?_
 refine hsq<|hrz ?_
 refine zlv (xlb 1 pl_29 hS) ?_
 refine zlv (xln ZQ hsV) ?_
 refine zlv (Zp (r:=u-1)) ?_
 refine zlv xas ?_
 refine zln<|zh<|htn<|hbk<|hlp (fun mm M w=>∃(s:St) (i:Int),mm=((i+1).toNat)/\(-1<=i)/\(i<u)/\(Inv s)/\(qc s=dwn u i)/\M= [(0,.func (.yield l) #[] #[]),(1,Or gq),(3,.int Oi i)]/\Sat w0 w [.sem (C s),.blk gq [vV],.own vV 2 97 u (Ze pv cnt),.sem (Frame.rows 3 u pv ln pt)]) ⟨s0,u-1,rfl,Oa,Oa,?_,?_,rfl,hS⟩ ?_
 ·
  exact hI0
 ·
  rw [hs0];exact(ZeI u).symm
 clear hS w
 rintro mm M w ⟨s,i,rfl,h0,h1,hI,hh,rfl,hS⟩
 refine hsq<|hsq<|hrz ?_
 refine zs2 ?_
 refine zln<|zh<|htn ?_
 refine YS ?_ ?_<;>intro hc
 ·
  refine hsk<|htn<|hsq<|hbk<|hsq<|hrg ?_
  iterate 2 refine hlv xmv ?_
  refine hlv (xlb 1 pl_29 hS) ?_
  refine hlv xmv ?_
  refine hlv (xix (kk:=2*i) ZQ hsV) ?_
  refine hlv (xlw (cs:= [(pv i),.int Oi (cnt i)]) ZZ (hS.rowN 2 rfl) (Zx (k:=2*i) (i:=i) pv cnt Oa)) ?_
  refine hly (hY s i _ w ⟨hI,Oa,Oa,hh⟩ (Sat.bundle (l1:= [_,_,_,_]) (l2:= []) hS)) ?_;rintro _ w (⟨rfl,sy1,qu,hS⟩|⟨rfl,ty1,xb,hS⟩)
  ·
   replace hS:=Sat.unbundle (l1:= [_,_,_,_]) (l3:= []) hS
   replace hS:=hS.n4
   refine hlv xnt ?_
   refine hln<|htn<|hcf<|hsk<|zbn<|htn<|hrz ?_
   refine zlv xmv ?_
   refine zlv (Zp (r:=i-1)) ?_
   refine zlv xas ?_
   refine zln<|zh<|hlq ⟨sy1,i-1,rfl,Oa,Oa,?_,?_,rfl,hS⟩
   ·
    exact qu.2
   ·
    rw [qu.1,hh];exact(ZgB h1).symm
  ·
   replace hS:=Sat.unbundle (l1:= [_,_,_,_]) (l3:= []) hS
   replace hS:=hS.n4
   refine hlv xnf ?_
   refine hln<|htn<|hct<|hrt<|zbr<|ztr<|ztr<|zbr<|zf0 ⟨_,rfl,?_⟩
   exact xb.elim
 refine hxt<|ztx<|ztx<|zbh<|XA ⟨_,rfl,?_⟩
 exact .inl ⟨s,_,⟨hI,by rw [hh,show i= -1 by omega]⟩,Sat.bundle (l1:= [_,_,_,_]) (l2:= []) hS⟩
end Go.Proofs.YtpnamgfdakfccaaGreat
namespace Go.Proofs.YtpnamgfdakfccaaGreat
open Go Go.RowKit Go.Proofs.Gw
theorem Zl0:Zc Om 226=true:=Oc
theorem ZlJ:Zc Om 282=true:=Oc
theorem pl_241:ZB Om 241=true:=Oc
structure BX where
  v:Value
  n:Int
  f:Of
theorem ZjC {vV:Value} {u:Int} {pv:Int->Value} {ln:Of} {pt:Og} {cnt:Of} {gq:Nat} {St:Type} (qc:St->List (List Int)) (Inv:St->Prop) (s0:St) (hs0:qc s0= []) (hI0:Inv s0) (w0:World) (hsV:Slh vV u) (hrV:∀k,0<=k->k<u->Slh (pv k) (ln k)) (hlc:∀k,0<=k->k<u->ln k<=1000000) (hcn:∀k,0<=k->k<u->0<=cnt k/\cnt k<=1000000000):ItG (St:=St) (X:=BX) (Tt:=Unit) Om w0 225 [Or gq] [.blk gq [vV],.own vV 2 97 u (Ze pv cnt),.sem (Frame.rows 3 u pv ln pt)] (fun x=> [x.v]) (fun x=> [.own x.v 1 3 x.n (ints x.f)]) (fun s x rest=>Inv s/\Slh x.v x.n/\((qc s).length:Int)<psum (fun _=>1) cnt u.toNat/\∃i,0<=i/\i<u/\x.n=ln i/\x.f=pt i) (fun s x s1=>qc s1=qc s++ [lst x.n x.f]/\Inv s1) (fun _ _ _=>False) (s0) (fun s rest=>Inv s/\qc s=WP ln pt cnt (dwn u (-1))) (fun _ _=>False):=by
 intro l C D w hS hY
 have hu:=hsV.n0;have hu1:=hsV.n1
 refine ZnW Tryz.func225 Tryz.ntmps225 ?_
 refine hsq<|hrz ?_
 refine zla (xbx (cs:= [_]) hS) ?_;rintro _ w ⟨g1,rfl,hS⟩
 replace hS:=hS.n5
 refine zln<|zh<|htn<|hsq<|hrz ?_
 refine zlv (xlb 1 pl_29 hS) ?_
 refine zlc (xc0 Zl0) (ZjD (u:=u) (pv:=pv) (ln:=ln) (pt:=pt) (cnt:=cnt) w (⟨(hS.rowN 2 rfl),fun k k0 k1=>hS.rowIn 3 rfl k0 k1,fun k k0 k1=>hS.roomIn 3 rfl k0 k1⟩:VAt _ vV u pv ln pt cnt)) ?_;rintro _ w ⟨g2,rfl,hS'⟩
 replace hS:Sat w0 w [.sem (C s0),.blk gq [vV],.own vV 2 97 u (Ze pv cnt),.sem (Frame.rows 3 u pv ln pt),.blk g1 [.func (.yield l) #[] #[]],.blk g2 [vV]]:=hS.comp hS';clear hS'
 refine zln<|zh<|htn<|hbk<| ?_
 refine hrf (St:=St×List Int) (X:=Int) (Tt:=Unit) (fun s=> [.sem (C s.1),.blk gq [vV],.blk g1 [.func (.yield l) #[] #[]]]) (fun t=> []) (fun _=> .ret) (s0, []) (fun x M es=>∃(g3:Nat),M= [(0,.func (.yield l) #[] #[]),(1,Or gq),(2,Or g1),(5,vV),(6,.func (.func 282) #[] #[Or g2]),(7,.int Oi x),(8,.agg #[(pv x),.int Oi (cnt x)]),(4,Or g3)]/\es= [.blk g3 [(pv x),.int Oi (cnt x)]]) (ZjE (gq:=g2) (fun s=>s.2) (fun s=>Inv s.1/\qc s.1=WP ln pt cnt s.2) (s0, []) rfl ⟨hI0,hs0⟩ w0 hsV hrV) (hS.pk [0,1,4,5,2,3]) ZlJ (fun _=>rfl) (fun _=> .inl rfl) ?_ ?_ ?_ ?_
 ·
  intro lq s x rest w qr qG hrr hS
  obtain⟨⟨hI1,hh1⟩,x0,x1,hs2⟩:=qr
  have hlx:=hlc x x0 x1;have hcx:=hcn x x0 x1
  replace hS:=hS.n7
  refine hrz ?_
  refine zla (xal (cs:= [_,_]) YW hS) ?_;rintro _ w ⟨g3,rfl,hS⟩
  replace hS:=hS.n8
  refine zle (xsw 7 ZZ hS (hd:=(Za (hrV x Oa Oa).one (Za rfl Zh)))) ?_;clear hS;rintro w hS
  replace hS:=hS.n8
  refine zln<|zh<|Zf0 ⟨g3,rfl,rfl⟩ hS
 ·
  rintro lq s x _ _ rest w qr ⟨g3,rfl,rfl⟩ qG hrr hS
  obtain⟨⟨hI1,hh1⟩,x0,x1,hs2⟩:=qr
  have hlx:=hlc x x0 x1;have hcx:=hcn x x0 x1
  replace hS:=hS.n8
  refine hbk<|hsq<|hrz ?_
  refine zlv (xfb 1 fd_97_1) ?_
  refine zlv (xlb 7 pl_3 hS) ?_
  refine zlv xmv ?_
  refine zln<|zh<|htn<|hbk<|hlp (fun mm M w=>∃(s3:St) (c:Int),mm=((cnt x-c).toNat)/\(0<=c)/\(c<=cnt x)/\(Inv s3)/\(qc s3=WP ln pt cnt s.2++List.replicate c.toNat (lst (ln x) (pt x)))/\M= [(2,Or g1),(4,Or g3),(10,.int Oi (cnt x)),(11,.int Oi c)]/\Sat w0 w [.sem (C s3),.blk gq [vV],.blk g1 [.func (.yield l) #[] #[]],.blk g2 [vV],.own vV 2 97 u (Ze pv cnt),.sem (Frame.rows 3 u pv ln pt),.sem qG,.blk g3 [(pv x),.int Oi (cnt x)]]) ⟨s.1,0,rfl,Oa,Oa,?_,?_,rfl,hS⟩ ?_
  ·
   exact hI1
  ·
   rw [hh1];simp
  clear hS w
  rintro mm M w ⟨s3,c,rfl,c0,c1,hI3,hh3,rfl,hS⟩
  refine hsq<|hrz ?_
  refine zlv Z9 ?_
  refine zln<|zh<|htn<|hsq ?_
  refine YS ?_ ?_<;>intro hc
  ·
   refine hsk<|htn<|hsq<|hbk<|hsq ?_
   refine hdr 6 mx_ hS ?_;clear hS;intro w hS
   refine hd2 0 1 ?_ ?_
   ·
    refine hov (xlb 2 pl_241 hS) ?_
    refine hd1 1 ?_
    refine hov (xfb 0 fd_97_0) ?_
    refine hd1 2 ?_
    refine hov (xlb 7 pl_22 hS) ?_
    refine hd1 3 ?_
    refine hoc (xc0 cl_66) (c_clone (n:=(ln x)) (f:=(pt x)) w (hS.rowIn (k:=x) 5 rfl Oa Oa) Oa) ?_;rintro vq1 w ⟨_,rfl,qb,hS'⟩
    replace hS:Sat w0 w [.sem (C s3),.blk gq [vV],.blk g1 [.func (.yield l) #[] #[]],.blk g2 [vV],.own vV 2 97 u (Ze pv cnt),.sem (Frame.rows 3 u pv ln pt),.sem qG,.blk g3 [(pv x),.int Oi (cnt x)],.own vq1 1 3 (ln x) (ints (pt x))]:=hS.comp hS';clear hS'
    refine hd1 4 ?_
    replace hS:=hS.pk [0,1,4,5,2,3,6,7,8]
    replace hS:=hS.n9
    replace hS:=hS.pk [0,1,2,3,8,4,5,6,7]
    replace hS:=hS.n9
    refine hoy (hY s3 ⟨vq1,ln x,pt x⟩ _ w ⟨hI3,qb,by rw [hh3,hs2];exact U3 (fun k k0 k1=>(hcn k k0 k1).1) x0 x1 c0 Oa,x,x0,x1,rfl,rfl⟩ (Sat.bundle (l1:= [_,_,_,_,_]) hS)) ?_;rintro _ w (⟨rfl,sy1,qu,hS⟩|⟨rfl,ty1,xb,hS⟩)
    ·
     replace hS:=Sat.unbundle (l1:= [_,_,_,_]) (l3:= []) hS
     replace hS:=hS.n8
     refine hd1 5 ?_
     refine hov xnt ?_
     refine hd0<|htn<|hcf<|hsk<|zbn<|htn<|hrz ?_
     refine zlv (Zg (r:=c+1)) ?_
     refine zlv xmv ?_
     refine zln<|zh<|hlq ⟨sy1,c+1,rfl,Oa,Oa,?_,?_,rfl,hS.pk [0,1,4,5,2,3,6,7]⟩
     ·
      exact qu.2
     ·
      rw [qu.1,hh3,show(c+1).toNat=c.toNat+1 by omega,List.replicate_succ',List.append_assoc]
    ·
     replace hS:=Sat.unbundle (l1:= [_,_,_,_]) (l3:= []) hS
     replace hS:=hS.n8
     refine hd1 5 ?_
     refine hov xnf ?_
     refine hd0<|htn<|hct<|hrt<|zbr<|ztr<|ztr<|zbr<|zbr<|ZfY () xb.elim rfl (hS.pk [5,2,3,6])
   ·
    refine hov (xfb 0 fd_97_0) ?_
    refine hd2 0 2 ?_ ?_
    ·
     refine hov (xlb 2 pl_241 hS) ?_
     refine hd1 2 ?_
     refine hov (xlb 7 pl_22 hS) ?_
     refine hd1 3 ?_
     refine hoc (xc0 cl_66) (c_clone (n:=(ln x)) (f:=(pt x)) w (hS.rowIn (k:=x) 5 rfl Oa Oa) Oa) ?_;rintro vq1 w ⟨_,rfl,qb,hS'⟩
     replace hS:Sat w0 w [.sem (C s3),.blk gq [vV],.blk g1 [.func (.yield l) #[] #[]],.blk g2 [vV],.own vV 2 97 u (Ze pv cnt),.sem (Frame.rows 3 u pv ln pt),.sem qG,.blk g3 [(pv x),.int Oi (cnt x)],.own vq1 1 3 (ln x) (ints (pt x))]:=hS.comp hS';clear hS'
     refine hd1 4 ?_
     replace hS:=hS.pk [0,1,4,5,2,3,6,7,8]
     replace hS:=hS.n9
     replace hS:=hS.pk [0,1,2,3,8,4,5,6,7]
     replace hS:=hS.n9
     refine hoy (hY s3 ⟨vq1,ln x,pt x⟩ _ w ⟨hI3,qb,by rw [hh3,hs2];exact U3 (fun k k0 k1=>(hcn k k0 k1).1) x0 x1 c0 Oa,x,x0,x1,rfl,rfl⟩ (Sat.bundle (l1:= [_,_,_,_,_]) hS)) ?_;rintro _ w (⟨rfl,sy1,qu,hS⟩|⟨rfl,ty1,xb,hS⟩)
     ·
      replace hS:=Sat.unbundle (l1:= [_,_,_,_]) (l3:= []) hS
      replace hS:=hS.n8
      refine hd1 5 ?_
      refine hov xnt ?_
      refine hd0<|htn<|hcf<|hsk<|zbn<|htn<|hrz ?_
      refine zlv (Zg (r:=c+1)) ?_
      refine zlv xmv ?_
      refine zln<|zh<|hlq ⟨sy1,c+1,rfl,Oa,Oa,?_,?_,rfl,hS.pk [0,1,4,5,2,3,6,7]⟩
      ·
       exact qu.2
      ·
       rw [qu.1,hh3,show(c+1).toNat=c.toNat+1 by omega,List.replicate_succ',List.append_assoc]
     ·
      replace hS:=Sat.unbundle (l1:= [_,_,_,_]) (l3:= []) hS
      replace hS:=hS.n8
      refine hd1 5 ?_
      refine hov xnf ?_
      refine hd0<|htn<|hct<|hrt<|zbr<|ztr<|ztr<|zbr<|zbr<|ZfY () xb.elim rfl (hS.pk [5,2,3,6])
    ·
     refine hov (xlb 7 pl_22 hS) ?_
     refine hd2 0 3 ?_ ?_
     ·
      refine hov (xlb 2 pl_241 hS) ?_
      refine hd1 3 ?_
      refine hoc (xc0 cl_66) (c_clone (n:=(ln x)) (f:=(pt x)) w (hS.rowIn (k:=x) 5 rfl Oa Oa) Oa) ?_;rintro vq1 w ⟨_,rfl,qb,hS'⟩
      replace hS:Sat w0 w [.sem (C s3),.blk gq [vV],.blk g1 [.func (.yield l) #[] #[]],.blk g2 [vV],.own vV 2 97 u (Ze pv cnt),.sem (Frame.rows 3 u pv ln pt),.sem qG,.blk g3 [(pv x),.int Oi (cnt x)],.own vq1 1 3 (ln x) (ints (pt x))]:=hS.comp hS';clear hS'
      refine hd1 4 ?_
      replace hS:=hS.pk [0,1,4,5,2,3,6,7,8]
      replace hS:=hS.n9
      replace hS:=hS.pk [0,1,2,3,8,4,5,6,7]
      replace hS:=hS.n9
      refine hoy (hY s3 ⟨vq1,ln x,pt x⟩ _ w ⟨hI3,qb,by rw [hh3,hs2];exact U3 (fun k k0 k1=>(hcn k k0 k1).1) x0 x1 c0 Oa,x,x0,x1,rfl,rfl⟩ (Sat.bundle (l1:= [_,_,_,_,_]) hS)) ?_;rintro _ w (⟨rfl,sy1,qu,hS⟩|⟨rfl,ty1,xb,hS⟩)
      ·
       replace hS:=Sat.unbundle (l1:= [_,_,_,_]) (l3:= []) hS
       replace hS:=hS.n8
       refine hd1 5 ?_
       refine hov xnt ?_
       refine hd0<|htn<|hcf<|hsk<|zbn<|htn<|hrz ?_
       refine zlv (Zg (r:=c+1)) ?_
       refine zlv xmv ?_
       refine zln<|zh<|hlq ⟨sy1,c+1,rfl,Oa,Oa,?_,?_,rfl,hS.pk [0,1,4,5,2,3,6,7]⟩
       ·
        exact qu.2
       ·
        rw [qu.1,hh3,show(c+1).toNat=c.toNat+1 by omega,List.replicate_succ',List.append_assoc]
      ·
       replace hS:=Sat.unbundle (l1:= [_,_,_,_]) (l3:= []) hS
       replace hS:=hS.n8
       refine hd1 5 ?_
       refine hov xnf ?_
       refine hd0<|htn<|hct<|hrt<|zbr<|ztr<|ztr<|zbr<|zbr<|ZfY () xb.elim rfl (hS.pk [5,2,3,6])
     ·
      refine hoc (xc0 cl_66) (c_clone (n:=(ln x)) (f:=(pt x)) w (hS.rowIn (k:=x) 5 rfl Oa Oa) Oa) ?_;rintro vq1 w ⟨_,rfl,qb,hS'⟩
      replace hS:Sat w0 w [.sem (C s3),.blk gq [vV],.blk g1 [.func (.yield l) #[] #[]],.blk g2 [vV],.own vV 2 97 u (Ze pv cnt),.sem (Frame.rows 3 u pv ln pt),.sem qG,.blk g3 [(pv x),.int Oi (cnt x)],.own vq1 1 3 (ln x) (ints (pt x))]:=hS.comp hS';clear hS'
      refine hd1 0 ?_
      refine hov (xlb 2 pl_241 hS) ?_
      refine hd1 4 ?_
      replace hS:=hS.pk [0,1,4,5,2,3,6,7,8]
      replace hS:=hS.n9
      replace hS:=hS.pk [0,1,2,3,8,4,5,6,7]
      replace hS:=hS.n9
      refine hoy (hY s3 ⟨vq1,ln x,pt x⟩ _ w ⟨hI3,qb,by rw [hh3,hs2];exact U3 (fun k k0 k1=>(hcn k k0 k1).1) x0 x1 c0 Oa,x,x0,x1,rfl,rfl⟩ (Sat.bundle (l1:= [_,_,_,_,_]) hS)) ?_;rintro _ w (⟨rfl,sy1,qu,hS⟩|⟨rfl,ty1,xb,hS⟩)
      ·
       replace hS:=Sat.unbundle (l1:= [_,_,_,_]) (l3:= []) hS
       replace hS:=hS.n8
       refine hd1 5 ?_
       refine hov xnt ?_
       refine hd0<|htn<|hcf<|hsk<|zbn<|htn<|hrz ?_
       refine zlv (Zg (r:=c+1)) ?_
       refine zlv xmv ?_
       refine zln<|zh<|hlq ⟨sy1,c+1,rfl,Oa,Oa,?_,?_,rfl,hS.pk [0,1,4,5,2,3,6,7]⟩
       ·
        exact qu.2
       ·
        rw [qu.1,hh3,show(c+1).toNat=c.toNat+1 by omega,List.replicate_succ',List.append_assoc]
      ·
       replace hS:=Sat.unbundle (l1:= [_,_,_,_]) (l3:= []) hS
       replace hS:=hS.n8
       refine hd1 5 ?_
       refine hov xnf ?_
       refine hd0<|htn<|hct<|hrt<|zbr<|ztr<|ztr<|zbr<|zbr<|ZfY () xb.elim rfl (hS.pk [5,2,3,6])
  refine hxt<|ztx<|ztx<|zbh<|zbn<|ZcB (s3,s.2++ [x]) ⟨rfl,hI3,by show qc s3=_;rw [hh3,TQ,show c.toNat=(cnt x).toNat by omega]⟩ (hS.pk [0,1,2,3,4,5,6])
 ·
  intro Dk s rest w qs hS
  replace hS:=hS.n8
  refine zbn<|ZnV 7 hS fun w hS=>XA ⟨_,rfl,?_⟩
  replace hS:=hS.pk [0,1,4,5,2,3,6,7]
  exact .inl ⟨s.1,_,⟨qs.1.1,by rw [qs.1.2,qs.2]⟩,Sat.bundle (l1:= [_,_,_,_]) hS⟩
 ·
  intro Dk t rest w qs hS
  replace hS:=hS.n5
  exact qs.elim
theorem Zhe{vV:Value}{u:Int}{pv:Int->Value}{ln:Of}{pt:Og}{cnt:Of}(w0:World)(hV:VAt w0 vV u pv ln pt cnt):
   Calls Om 151 [vV].toArray w0 fun e w=>∃v,e= .returned v/\∃g,v= .func (.func 225) #[] #[Or g]/\Sat w0 w [.blk g [vV]]:=by
 refine zenG Tryz.func151 Tryz.ntmps151 fun w hS=> ?_
 refine zsr<|zla (xbx (cs:= [_]) hS (hc:=Slh.cells hV.row.slh)) ?_;rintro _ w ⟨g1,rfl,hS⟩
 refine(zP)<|zlz<|(zV xmf)<|(zP)<|zx1<|Oj ?_
 exact⟨_,rfl,hS⟩
def tA(a m:List Int):List Int:=List.zipWith (fun x y=>x-min x y) a m
def tM(a m:List Int):List Int:=List.zipWith (fun x y=>y-min x y) a m
def WD(s:List Int×Us)(a:List Int):List Int×Us:=(tM a s.1,if(tA a s.1).any (fun x=>decide (0<x)) then s.2++ [(tA a s.1,1)] else s.2)
def V7(m0:List Int)(h:List (List Int)):List Int×Us:=h.foldl WD (m0, [])
theorem Rh(m0:List Int)(h:List (List Int))(a:List Int):V7 m0 (h++ [a])=WD (V7 m0 h) a:=by simp [V7]
theorem XN(F:Og)(n:Int)(f g:Of):List.zipWith F (lst n f) (lst n g)=lst n fun k=>F (f k) (g k):=by
 apply List.ext_getElem?
 intro k
 rw [List.getElem?_zipWith,lst_get,lst_get,lst_get]
 by_cases hk:(k:Int)<n
 · rw [if_pos hk,if_pos hk,if_pos hk]
 · rw [if_neg hk,if_neg hk,if_neg hk]
theorem V2{n:Int}{f:Of}:(lst n f).any (fun x=>decide (0<x))=true↔∃k,0<=k/\k<n/\0<f k:=by
 rw [List.any_eq_true]
 constructor
 · rintro⟨x,hx,h0⟩
   unfold lst at hx
   obtain⟨k,hk,rfl⟩:=List.mem_map.1 hx
   have:=List.mem_range.1 hk
   exact⟨(k:Int),Oa,Oa,by simpa using h0⟩
 · rintro⟨k,k0,k1,h⟩
   refine⟨f k,?_,by simpa using h⟩
   have:=lst_get n f k.toNat
   rw [Int.toNat_of_nonneg k0,if_pos k1] at this
   exact List.mem_of_getElem? this
def Ur(l:Us):List (List Int):=l.reverse.flatMap fun u=>List.replicate u.2.toNat u.1
theorem R2(u:Int):∀t:Nat,Un (u+1) (t+1)=u::Un u t
 |0=>by simp [Un]
 | t+1=>by
   rw [Un,R2 u t,Un,List.cons_append]
   congr 2
   congr 1
   push_cast;omega
theorem Ze1(ln:Of)(pt:Og)(cnt:Of){n:Int}(n0:0<=n):WP ln pt cnt (dwn n (-1))=Ur (plL n ln pt cnt):=by
 obtain⟨k,rfl⟩:=Int.eq_ofNat_of_zero_le n0
 have e:∀k:Nat,(Un (k:Int) k).map (fun i=>(lst (ln i) (pt i),cnt i))=(plL (k:Int) ln pt cnt).reverse:=by
   intro k
   induction k with
   |zero=>simp [Un,plL]
   |succ k ih=>rw [show((k+1:Nat):Int)=(k:Int)+1 by omega,R2,List.map_cons,ih,X5 Oa,List.reverse_append];rfl
 unfold WP Ur dwn
 rw [show((k:Int)-1-(-1)).toNat=k by omega,<-e k,List.flatMap_map]
structure TSt where
  h:List (List Int)
  M:Of
  vO:Value
  n:Int
  vv:Int->Value
  P:Og
  C:Of
def TInv(p:Prob)(m0:List Int)(s:TSt):Prop:=(lst p.m s.M,plL s.n (fun _=>p.m) s.P s.C)=V7 m0 s.h/\Slh s.vO s.n/\(∀k,0<=k->k<p.m->0<=s.M k/\s.M k<=2000000000)/\s.n<=s.h.length/\∀k,0<=k->k<s.n->s.C k=1
theorem TInv.yes{p:Prob}{m0:List Int}{s:TSt}{a a2 M2:Of}(hs:(lst p.m s.M,plL s.n (fun _=>p.m) s.P s.C)=V7 m0 s.h)(n0:0<=s.n)(ha:∀k,0<=k->k<p.m->a2 k=a k-min (a k) (s.M k))(hM:∀k,0<=k->k<p.m->M2 k=s.M k-min (a k) (s.M k))(hx:∃k,0<=k/\k<p.m/\0<a2 k){P2:Og}{C2:Of}(hP:∀k,0<=k->k<s.n->P2 k=s.P k)(hP2:P2 s.n=a2)(hC:∀k,0<=k->k<s.n->C2 k=s.C k)(hC2:C2 s.n=1):
   (lst p.m M2,plL (s.n+1) (fun _=>p.m) P2 C2)=V7 m0 (s.h++ [lst p.m a]):=by
 rw [Rh,<-hs]
 unfold WD tM tA
 dsimp only
 rw [XN,XN,Yh (f:=fun k=>a k-min (a k) (s.M k)) (g:=a2) fun k k0 k1=>(ha k k0 k1).symm,if_pos (V2.2 hx),Yh (f:=fun k=>s.M k-min (a k) (s.M k)) (g:=M2) fun k k0 k1=>(hM k k0 k1).symm]
 congr 1
 exact Tn (ln:=fun _=>p.m) n0 (fun k k0 k1=>⟨rfl,hC k k0 k1,hP k k0 k1⟩) rfl hC2 hP2
theorem TInv.no{p:Prob}{m0:List Int}{s:TSt}{a a2 M2:Of}(hs:(lst p.m s.M,plL s.n (fun _=>p.m) s.P s.C)=V7 m0 s.h)(ha:∀k,0<=k->k<p.m->a2 k=a k-min (a k) (s.M k))(hM:∀k,0<=k->k<p.m->M2 k=s.M k-min (a k) (s.M k))(hx:¬∃k,0<=k/\k<p.m/\0<a2 k):
   (lst p.m M2,plL s.n (fun _=>p.m) s.P s.C)=V7 m0 (s.h++ [lst p.m a]):=by
 rw [Rh,<-hs]
 unfold WD tM tA
 dsimp only
 rw [XN,XN,Yh (f:=fun k=>a k-min (a k) (s.M k)) (g:=a2) fun k k0 k1=>(ha k k0 k1).symm,if_neg (fun h=>hx (V2.1 h)),Yh (f:=fun k=>s.M k-min (a k) (s.M k)) (g:=M2) fun k k0 k1=>(hM k k0 k1).symm]
def TrimR(p:Prob)(u:Int)(ln:Of)(pt:Og)(cnt:Of)(out:Us)(e:Int):Prop:=
  (¬PlanOk p u ln pt cnt/\out= []/\e=1)\/(PlanOk p u ln pt cnt/\¬(∀j,0<=j->j<p.m->p.D j<=ZD u pt cnt j)/\out= []/\e=18)\/
  (PlanOk p u ln pt cnt/\(∀j,0<=j->j<p.m->p.D j<=ZD u pt cnt j)/\e=0/\∃N,NormR (plL u ln pt cnt) N/\NormR (V7 (lst p.m fun j=>ZD u pt cnt j-p.D j) (Ur N)).2 out)
theorem Zep{p:Prob}{u n2:Int}{ln cnt ln2 qg:Of}{pt pt2:Og}(h:PlanOk p u ln pt cnt)(hN:NormR (plL u ln pt cnt) (plL n2 ln2 pt2 qg))(hl2:∀k,0<=k->k<n2->0<=ln2 k):∀k,0<=k->k<n2->ln2 k=p.m/\∀j,0<=j->j<p.m->0<=pt2 k j/\pt2 k j<=2000:=by
 intro k k0 k1
 have hm:(lst (ln2 k) (pt2 k),qg k)∈plL n2 ln2 pt2 qg:=List.mem_iff_getElem?.2 ⟨k.toNat,by rw [plL_get,Int.toNat_of_nonneg k0,if_pos k1]⟩
 obtain⟨y,hy,e1⟩:=hN.keys _ hm
 obtain⟨i,hi⟩:=List.mem_iff_getElem?.1 hy
 rw [plL_get] at hi
 split at hi
 · rename_i hlt
   injection hi with hi
   obtain⟨_,_,hf⟩:=h.2.2 i Oa hlt
   have hm1:=h.1.m1
   rw [<-hi] at e1
   dsimp only at e1
   obtain⟨q1,q2⟩:=(Uh (by have:=hf.eq;omega) (hl2 k k0 k1)).1 e1
   refine⟨by have:=hf.eq;omega,fun j j0 j1=> ?_⟩
   rw [<-q2 j j0 (by have:=hf.eq;omega)]
   exact hf.all j j0 (by have:=hf.eq;omega)
 · cases hi
theorem Zeq{p:Prob}{u n2:Int}{ln cnt ln2 qg:Of}{pt pt2:Og}(u0:0<=u)(n0:0<=n2)(h:PlanOk p u ln pt cnt)(hN:NormR (plL u ln pt cnt) (plL n2 ln2 pt2 qg)):psum (fun _=>1) qg n2.toNat<=1000000:=by
 have h1:=hN.wsum fun _=>1
 rw [Z5 _ u0,Z5 _ n0] at h1
 rw [h1]
 have key:∀t:Nat,(t:Int)<=u->psum (fun _=>1) cnt t<=1000*t:=by
   intro t
   induction t with
   |zero=>intro _;simp [psum]
   |succ t ih=>intro ht;have:=ih Oa;have:=(h.2.2 t Oa Oa).2.1;simp only [psum];push_cast;omega
 have h2:=key u.toNat Oa
 have h3:=h.2.1
 omega
theorem TJ{p:Prob}(hp:p.Ok){k:Int}(k0:0<=k)(k1:k<p.m):0<=p.D k/\p.D k<=1000:=by
 have he:=hp.all k k0 k1
 unfold Prob.each at he;omega
theorem Zee{C:Of}{n:Int}(h:∀k,0<=k->k<n->C k=1):∀k,0<=k->k<n+1->snoc C n 1 k=1:=fun k k0 k1=>by
 by_cases e:k<n
 · rw [Zt e];exact h k k0 e
 · exact Zu e
theorem Zmn:Zc Om 152=true:=Oc
theorem ZmF{x:Int}(w0:World):
   Calls Om 152 [.int Oi x].toArray w0 fun e w=>∃v,e= .returned v/\v=B (0<x)/\Sat w0 w []:=by
 refine zenG Tryz.func152 Tryz.ntmps152 fun w hS=> ?_
 refine zsr<|(zP)<|zlz<|(Oo)<|zx1<|Oj ?_
 exact⟨Zm Oa,hS⟩
theorem Zjo{v:Value}{n:Int}{f:Of}(w0:World)(hR:Row w0 v 1 n (ints f)):
   Calls Om 147 [v,.func (.func 152) #[] #[]].toArray w0 fun e w=>∃v,e= .returned v/\∃r:Int,v= .int Oi r/\((r= -1/\∀k,0<=k->k<n->¬(0<f k))\/(0<=r/\r<n/\(0<f r)/\∀k,0<=k->k<r->¬(0<f k)))/\Sat w0 w []:=by
 have hn:=hR.slh.n0;have hn1:=hR.slh.n1
 refine zenG Tryz.func147 Tryz.ntmps147 fun w hS=> ?_
 refine zsr<|(zP)<|zx5<|(zP)<|(zV (xln Zb hR.slh))<|(zP)<|zx6<|zlp (fun mm M w=>∃(i:Int),mm=((n-i).toNat)/\(0<=i)/\(i<=n)/\(∀k,0<=k->k<i->¬(0<f k))/\M= [(0,v),(1,.func (.func 152) #[] #[]),(7,.int Oi n),(8,.int Oi i)]/\Sat w0 w []) ⟨0,rfl,Oa,Oa,?_,rfl,hS⟩ ?_
 ·
  intro k h0 h1;omega
 clear hS w
 rintro mm M w ⟨i,rfl,h0,h1,qa,rfl,hS⟩
 refine zsr<|(zP)<|zx7<|Zf ?_ ?_<;>intro hc
 ·
  refine zx3<|(On)<|zlz<|(Oo)<|(zV (xix (kk:=i) Zb hR.slh))<|(zV (xlr (u:= .int Oi (f i)) pl_3 (hR.below hS.below)))<|zlc (xc0 Zmn) (ZmF (x:=(f i)) w) ?_;rintro _ w ⟨rfl,hS'⟩
  replace hS:=hS.cmp hS';clear hS'
  refine zlt<|Zf ?_ ?_<;>intro hc
  ·
   refine zsr<|(On)<|zx2<|Oj ?_
   exact⟨i,rfl,.inr ⟨by omega,Oa,‹0<f i›,qa⟩,hS⟩
  refine zx4<|(zV (Zg (r:=i+1)))<|(zP)<|zln<|zlq ⟨i+1,rfl,Oa,Oa,?_,rfl,hS⟩
  ·
   intro k h0' h1';rcases Int.lt_or_eq_of_le (show k<=i by omega) with hk|hk;exact qa k h0' hk;rw [hk];assumption
 refine zx8<|(zP)<|zx1<|Oj ?_
 exact⟨-1,rfl,.inl ⟨rfl,fun k h0 h1=>qa k h0 Oa⟩,hS⟩
theorem Zjx{v:Value}{n:Int}{f:Of}(w0:World)(hR:Row w0 v 1 n (ints f)):
   Calls Om 90 [v,.func (.func 152) #[] #[]].toArray w0 fun e w=>∃v,e= .returned v/\v=B (∃k,0<=k/\k<n/\0<f k)/\Sat w0 w []:=by
 refine zenG Tryz.func90 Tryz.ntmps90 fun w hS=> ?_
 refine zsr<|(zP)<|zlz<|(On)<|zlc (xc0 WN) (Zjo (n:=n) (f:=f) w (hR.below hS.below)) ?_;rintro _ w ⟨r1,rfl,hr1,hS'⟩
 replace hS:=hS.cmp hS';clear hS'
 refine(On)<|zx1<|Oj ?_
 exact⟨Zm (by
  rcases hr1 with⟨h1,h2⟩|⟨h1,h2,h3,_⟩
  · exact⟨fun h=>Oa,fun⟨k,h4,h5,h6⟩=>absurd h6 (h2 k h4 h5)⟩
  · exact⟨fun _=>⟨_,h1,h2,h3⟩,fun _=>h1⟩),hS⟩
theorem Zj9:Zc Om 15=true:=Oc
theorem Zmo:Zc Om 151=true:=Oc
theorem Zl1:Zc Om 225=true:=Oc
theorem ZjW:ZM Om 29=some (Oh,1,24):=Oc
theorem Zg0{vV:Value}{u:Int}{pv:Int->Value}{ln:Of}{pt:Og}{cnt:Of}{vL vD:Value}{p:Prob}(w0:World)(hV:VAt w0 vV u pv ln pt cnt)(h:PAt w0 vL vD p):
   Calls Om 78 [.agg #[vL,vD,.int Oi p.stock,.int Oi p.kerf],vV].toArray w0 fun e w=>∃v,e= .returned v/\∃r n2 pv2 ln2 pt2 qg e,v= .tuple #[r,.int Oi e]/\TrimR p u ln pt cnt (plL n2 ln2 pt2 qg) e/\(∀k,0<=k->k<n2->1<=qg k/\qg k<=1000000000)/\n2<=1000000/\Slh r n2/\Sat w0 w [.own r 2 97 n2 (Ze pv2 qg),.sem (Frame.rows 3 n2 pv2 ln2 pt2)]:=by
 obtain⟨hm,hm1,hd,hd1,hs,hk⟩:=h.Oq
 have hu:=hV.row.slh.n0;have hu1:=hV.row.slh.n1
 refine ZiI Tryz.func78 Tryz.ntmps78 fun w hS=> ?_
 refine hsq<|hrz ?_
 refine zla (xbx (cs:= [_,_,_,_]) hS) ?_;rintro _ w ⟨g1,rfl,hS⟩
 refine(On)<|zln<|zh<|htn<|hsq<|hrz ?_
 refine(zV (xls 0 st_27 hS))<|(zP)<|zlc (xc0 ZdL) (U1 (u:=u) (pv:=pv) (ln:=ln) (pt:=pt) (cnt:=cnt) (p:=p) w (hV.below hS.below) (h.below hS.below)) ?_;rintro _ w ⟨qz,ql,qe,y9,rfl,qT,qx,hS'⟩
 replace hS:=(hS.comp hS').n2;clear hS'
 refine(Oo)<|zla (xal (cs:= [_]) Yj hS) ?_;rintro _ w ⟨g2,rfl,hS⟩
 refine zle (xsb 2 pl_22 hS (hv:=qx.one)) ?_;clear hS;rintro w hS
 refine(zP)<|zln<|zh<|htn<|hsq<|hsq<|hrz ?_
 refine(On)<|zln<|zh<|htn ?_
 refine YS ?_ ?_<;>intro hc
 ·
  refine hsq<|hrz ?_
  refine(Oo)<|zln<|zh<|htn<|hrt<|ztr<|ZkM<|zf2 ⟨_,rfl,?_⟩
  have hmd:¬PlanOk p u ln pt cnt/\y9=1:=by rcases qT with⟨g1,_,g3⟩|⟨_,_,_,g4⟩;exact⟨g1,g3⟩;omega
  exact⟨_,0,fun _=>undef,fun _=>0,fun _ _=>0,fun _=>0,_,rfl,.inl ⟨hmd.1,rfl,Oa⟩,fun k k0 k1=>Oa,Oa,slh_nil,((hS.sub (.cons _ (.cons _ (.cons _ .slnil)))).addnil 2 97 (Ze (fun _=>undef) (fun _=>0))).addrows 3 (fun _=>undef) (fun _=>0) (fun _ _=>0)⟩
 refine hsk<|htn<|hsq<|hsq<|hrz ?_
 refine zlv (xls 0 st_27 hS) ?_
 obtain⟨qJ,bB,zx⟩:PlanOk p u ln pt cnt/\ql=p.m/\qe=ZD u pt cnt:=by rcases qT with⟨_,_,g3⟩|⟨g1,g2,g3,_⟩;omega;exact⟨g1,g2,g3⟩
 have aO:=qJ.1.m1;have qX:=qJ.1.m2;have hpd:=qJ.1.d;have hu3:=qJ.2.1
 refine(zP)<|zlc (xc0 Zj9) (ZbX (u:=u) (pv:=pv) (ln:=ln) (pt:=pt) (cnt:=cnt) (p:=p) w (hV.below hS.below) (h.below hS.below)) ?_;rintro _ w ⟨rfl,hS'⟩
 replace hS:=hS.cmp hS';clear hS'
 refine(zP)<|zln<|zh<|htn ?_
 refine YS ?_ ?_<;>intro hc
 ·
  refine hsq<|hrz ?_
  refine(On)<|zln<|zh<|htn<|hrt<|ztr<|ZkM<|zf2 ⟨_,rfl,?_⟩
  exact⟨_,0,fun _=>undef,fun _=>0,fun _ _=>0,fun _=>0,_,rfl,.inr (.inl ⟨qJ,fun hh=>‹¬(_/\_)› ⟨qJ,hh⟩,rfl,rfl⟩),fun k k0 k1=>Oa,Oa,slh_nil,((hS.sub (.cons _ (.cons _ (.cons _ .slnil)))).addnil 2 97 (Ze (fun _=>undef) (fun _=>0))).addrows 3 (fun _=>undef) (fun _=>0) (fun _ _=>0)⟩
 refine hsk<|htn<|hsq<|hsq<|hrz ?_
 refine zlv (xlb 2 pl_22 hS) ?_
 have bX:∀j,0<=j->j<p.m->p.D j<=ZD u pt cnt j:=(Od ‹¬¬(_/\_)›).2
 refine(zV (xln Zb qx))<|(zP)<|zln<|zh<|htn<|hbk<|hlp (fun mm M w=>∃(fM:Of) (i:Int),mm=((ql-i).toNat)/\(0<=i)/\(i<=ql)/\(∀k,0<=k->k<p.m->fM k=if k<i then ZD u pt cnt k-p.D k else ZD u pt cnt k)/\M= [(1,vV),(2,Or g1),(4,Oh),(5,.int Oi 0),(6,Or g2),(27,.int Oi ql),(28,.int Oi i)]/\Sat w0 w [.blk g1 [vL,vD,.int Oi p.stock,.int Oi p.kerf],.own qz 1 3 ql (ints fM),.blk g2 [qz]]) ⟨qe,0,rfl,Oa,Oa,?_,rfl,hS⟩ ?_
 ·
  intro k k0 k1;rw [if_neg Oa,zx]
 clear hS w
 rintro mm M w ⟨fM,i,rfl,h0,h1,hf,rfl,hS⟩
 refine hsq<|hrz ?_
 refine(zP)<|zln<|zh<|htn<|hsq ?_
 refine YS ?_ ?_<;>intro hc
 ·
  refine hsk<|htn<|hsq<|hbk<|hsq<|hrz ?_
  refine zlv xmv ?_
  have hmi:=X7 qJ.2.2 hu (Int.le_refl _) (j:=i) h0 Oa
  have hdi:=TJ qJ.1 h0 (by omega:i<p.m)
  have hfi:=hf i h0 Oa
  rw [if_neg Oa] at hfi
  refine(zP)<|zln<|zh<|htn ?_
  refine hdst [0,1,2] [0,2] 11 mx_ hS ?_;clear hS;intro w hS
  refine(zDl 0 (fun w hS=>(xlb 1 pl_22 hS)))<|(zDw 1 xmv)<|(zDw 2 (xix (kk:=i) Zb qx))<|zdl 3 (fun w hS=>(xlr (u:= .int Oi (fM i)) pl_3 (hS.rowN 1 rfl))) ?_
  refine(zDw 4 (xfb 1 fd_27_1))<|(zDl 5 (fun w hS=>(xlb 0 pl_22 hS)))<|(zDw 6 xmv)<|(zDw 7 (xix (kk:=i) Zb h.D.slh))<|YB 8 (fun w hS=>(xlr (u:= .int Oi (p.D i)) pl_3 (h.D.below hS.below))) ?_
  have hbv:=h.iD i
  refine(zDw 9 (Zp (r:=fM i-p.D i)))<|(zDw 10 (xix (kk:=i) Zb qx))<|zde 11 (xso 1 pl_3 hS (ZA _ _ _)) ?_;clear hS;rintro w hS
  refine⟨⟨fun h=>absurd h (by decide),hS.pk [0,2]⟩,?_⟩
  refine zdd<|zh<|zbn<|htn<|hrz ?_
  refine(zV (Zg (r:=i+1)))<|(zP)<|zln<|zh<|hlq ⟨(upd fM i (fM i-p.D i)),i+1,rfl,Oa,Oa,?_,rfl,hS⟩
  ·
   intro k k0 k1;unfold upd;by_cases e:k=i
   · rw [if_pos e,if_pos Oa,e];omega
   · rw [if_neg e,hf k k0 k1];by_cases e2:k<i
     · rw [if_pos e2,if_pos Oa]
     · rw [if_neg e2,if_neg Oa]
 refine hxt<|ztx<|ztx<|zbh<|htn<|hsq<|hrz ?_
 refine zla (xal (cs:= [_]) ZjW hS) ?_;rintro _ w ⟨g3,rfl,hS⟩
 refine zln<|zh<|htn<|hsq<|hsq<|hrz ?_
 refine(zP)<|zlc (xc0 ZdK) (Zaz (u:=u) (pv:=pv) (ln:=ln) (pt:=pt) (cnt:=cnt) w (hV.below hS.below) Oa (fun k k0 k1=>by have h9:=(qJ.2.2 k k0 k1).2.2.eq;omega) (fun k k0 k1=>by have h9:=qJ.2.2 k k0 k1;exact⟨h9.1,h9.2.1⟩)) ?_;rintro xx w ⟨_,qD,xp,xY,x5,xt,rfl,xm,xo,yy,xU,xA,hS'⟩
 replace hS:=(hS.comp hS').n6;clear hS'
 have yi:=fun k (k0:0<=k) (k1:k<qD)=>hS.slhIn 5 rfl k0 k1
 have hfM:∀k,0<=k->k<p.m->fM k=ZD u pt cnt k-p.D k:=fun k k0 k1=>by rw [hf k k0 k1,if_pos Oa]
 have gG:=fun k k0 k1=>(yi k k0 k1).n0
 have qO:=Zep qJ xm gG
 have kS:=Zeq hu xo qJ xm
 refine zlc (xc0 Zmo) (Zhe (u:=qD) (pv:=xp) (ln:=xY) (pt:=x5) (cnt:=xt) w (⟨(hS.rowN 4 rfl),fun k k0 k1=>hS.rowIn 5 rfl k0 k1,fun k k0 k1=>hS.roomIn 5 rfl k0 k1⟩:VAt _ xx qD xp xY x5 xt)) ?_;rintro _ w ⟨g4,rfl,hS'⟩
 replace hS:=(hS.comp hS').n7;clear hS'
 refine zln<|zh<|htn<|hbk ?_
 replace hS:=hS.addnil 2 97 (Ze (fun _=>Oh) (fun _=>0))
 replace hS:=hS.addrows 3 (fun _=>Oh) (fun _=>p.m) (fun _ _=>0)
 refine ZnU (St:=TSt) (X:=BX) (Tt:=Unit) (fun s=> [.blk g1 [vL,vD,.int Oi p.stock,.int Oi p.kerf],.blk g2 [qz],.own qz 1 3 ql (ints s.M),.blk g3 [s.vO],.own s.vO 2 97 s.n (Ze s.vv s.C),.sem (Frame.rows 3 s.n s.vv (fun _=>p.m) s.P)]) (fun t=> []) (fun _=> .ret) (⟨[],fM,Oh,0,fun _=> Oh,fun _ _=>0,fun _=>0⟩:TSt) (fun x M es=>M= [(1,vV),(2,Or g1),(4,Oh),(5,.int Oi 0),(6,Or g2),(27,.int Oi ql),(28,.int Oi i),(29,B (i<ql)),(9,Or g3),(43,vV),(44,xx),(45,.func (.func 225) #[] #[Or g4]),(46,x.v),(10,x.v)]/\es= [.own x.v 1 3 x.n (ints x.f)]) (ZjC (gq:=g4) (fun s=>s.h) (TInv p (lst p.m fM)) (⟨[],fM,Oh,0,fun _=> Oh,fun _ _=>0,fun _=>0⟩:TSt) rfl ⟨rfl,slh_nil,fun k k0 k1=>by have h9:=hfM k k0 k1;have h8:=bX k k0 k1;have h7:=X7 qJ.2.2 hu (Int.le_refl _) k0 k1;have h6:=(TJ qJ.1 k0 k1).1;have h5:=qJ.2.1;show 0<=fM k/\fM k<=_;omega,by simp,fun k k0 k1=>by(have k1:k<0:=k1);omega⟩ w0 xA yi (fun k k0 k1=>by have:=(qO k k0 k1).1;omega) (fun k k0 k1=>by have:=xU k k0 k1;omega)) (hS.pk [0,2,1,3,7,8,6,4,5]) Zl1 (fun _=>rfl) (fun _=> .inl rfl) ?_ ?_ ?_ ?_
 ·
  intro lq s x rest w qr qG hrr hS
  refine hrz ?_
  refine(zP)<|zln<|zh<|Zf0 ⟨rfl,rfl⟩ hS
 ·
  rintro lq s x _ _ rest w qr ⟨rfl,rfl⟩ qG hrr hS
  obtain⟨hIv,hxv,xa,i,i0,i1,hxn,hxf⟩:=qr
  obtain⟨hIp,hlO,hMr,hnh,hC1⟩:=hIv
  have hrO:=fun k (k0:0<=k) (k1:k<s.n)=>hS.slhIn 5 rfl k0 k1
  obtain⟨hfn,hfr⟩:=qO i i0 i1
  rw [<-hxn] at hfn
  rw [<-hxf] at hfr
  have hsn:=hlO.n0
  refine hbk<|hsq<|hsq<|hrz ?_
  refine(zP)<|(zV (xln Zb hxv))<|(zP)<|zln<|zh<|htn<|hbk<|hlp (fun mm M w=>∃(fa:Of) (fm2:Of) (j:Int),mm=((x.n-j).toNat)/\(0<=j)/\(j<=x.n)/\(∀k,0<=k->k<p.m->fa k=if k<j then x.f k-min (x.f k) (s.M k) else x.f k)/\(∀k,0<=k->k<p.m->fm2 k=if k<j then s.M k-min (x.f k) (s.M k) else s.M k)/\M= [(4,Oh),(5,.int Oi 0),(6,Or g2),(9,Or g3),(10,x.v),(48,.int Oi x.n),(49,.int Oi j)]/\Sat w0 w [.blk g1 [vL,vD,.int Oi p.stock,.int Oi p.kerf],.blk g2 [qz],.own qz 1 3 ql (ints fm2),.blk g3 [s.vO],.own s.vO 2 97 s.n (Ze s.vv s.C),.sem (Frame.rows 3 s.n s.vv (fun _=>p.m) s.P),.blk g4 [xx],.own xx 2 97 qD (Ze xp xt),.sem (Frame.rows 3 qD xp xY x5),.sem qG,.own x.v 1 3 x.n (ints fa)]) ⟨x.f,s.M,0,rfl,Oa,Oa,?_,?_,rfl,hS⟩ ?_
  ·
   intro k k0 k1;rw [if_neg Oa]
  ·
   intro k k0 k1;rw [if_neg Oa]
  clear hS w
  rintro mm M w ⟨fa,fm2,j,rfl,j0,j1,hfa,aa,rfl,hS⟩
  refine hsq<|hrz ?_
  refine(zP)<|zln<|zh<|htn<|hsq ?_
  refine YS ?_ ?_<;>intro hc
  ·
   refine hsk<|htn<|hsq<|hbk<|hsq<|hrz ?_
   refine zlv xmv ?_
   have hxj:=hfr j j0 Oa
   have hMj:=hMr j j0 Oa
   have gP:=hfa j j0 Oa
   have gM:=aa j j0 Oa
   rw [if_neg Oa] at gP gM
   refine(zP)<|zln<|zh<|htn<|hsq ?_
   refine hdst [0,1,2,3,4,5,6,7,8,9,10] [0,1,2,3,4,5,6,7,8,9,10] 1000 mx_ hS ?_;clear hS;intro w hS
   refine(zDw 0 xmv)<|(zDw 1 xmv)<|(zDw 2 (xix (kk:=j) Zb hxv))<|(zDl 3 (fun w hS=>(xlr (u:= .int Oi (fa j)) pl_3 (hS.rowN 10 rfl))))<|(zDl 4 (fun w hS=>(xlb 1 pl_22 hS)))<|(zDw 5 xmv)<|(zDw 6 (xix (kk:=j) Zb qx))<|(zDl 7 (fun w hS=>(xlr (u:= .int Oi (fm2 j)) pl_3 (hS.rowN 2 rfl))))<|(zDw 8 (TU (r:=(min (fa j) (fm2 j)))))<|(zDw 9 xas)<|zdd<|zh<|htn<|hsq<|hrz ?_
   refine(On)<|(zV (xix (kk:=j) Zb hxv))<|(zV (xlr (u:= .int Oi (fa j)) pl_3 (hS.rowN 10 rfl)))<|(zP)<|(zV (Zp (r:=fa j-(min (fa j) (fm2 j)))))<|(zV (xix (kk:=j) Zb hxv))<|zle (xso 10 pl_3 hS (ZA _ _ _)) ?_;clear hS;rintro w hS
   refine zln<|zh<|htn<|hrz ?_
   refine(zV (xlb 1 pl_22 hS))<|(zP)<|(zV (xix (kk:=j) Zb qx))<|(zV (xlr (u:= .int Oi (fm2 j)) pl_3 (hS.rowN 2 rfl)))<|(zP)<|(zV (Zp (r:=fm2 j-(min (fa j) (fm2 j)))))<|(zV (xix (kk:=j) Zb qx))<|zle (xso 2 pl_3 hS (ZA _ _ _)) ?_;clear hS;rintro w hS
   refine zln<|zh<|zbn<|htn<|hrz ?_
   refine(zV (Zg (r:=j+1)))<|(zP)<|zln<|zh<|hlq ⟨(upd fa j (fa j-(min (fa j) (fm2 j)))),(upd fm2 j (fm2 j-(min (fa j) (fm2 j)))),j+1,rfl,Oa,Oa,?_,?_,rfl,hS⟩
   ·
    intro k k0 k1;unfold upd;by_cases e:k=j
    · rw [if_pos e,if_pos Oa,e];omega
    · rw [if_neg e,hfa k k0 k1];by_cases e2:k<j
      · rw [if_pos e2,if_pos Oa]
      · rw [if_neg e2,if_neg Oa]
   ·
    intro k k0 k1;unfold upd;by_cases e:k=j
    · rw [if_pos e,if_pos Oa,e];omega
    · rw [if_neg e,aa k k0 k1];by_cases e2:k<j
      · rw [if_pos e2,if_pos Oa]
      · rw [if_neg e2,if_neg Oa]
  refine hxt<|ztx<|ztx<|zbh<|htn<|hsq<|hrz ?_
  refine(zP)<|zlc (xc0 UH) (Zjx (n:=x.n) (f:=fa) w (hS.rowN 10 rfl)) ?_;rintro _ w ⟨rfl,hS'⟩
  replace hS:=hS.cmp hS';clear hS'
  refine zln<|zh<|htn ?_
  refine YS ?_ ?_<;>intro hc
  ·
   refine hrz ?_
   refine(zV (xlb 3 pl_29 hS))<|(zP)<|zlv (xany (v:= .agg #[x.v,.int Oi 1]) (hr:=by have hz:=hxv;revert hz;generalize x.v=z;rintro⟨_,_,_,_,rfl,_⟩;show _=_;kernel_rfl)) ?_
   refine zla (xli (n:=1) (len:=1) (pv:= [(0,.agg #[x.v,.int Oi 1])]) (cs:= [x.v,.int Oi 1]) (c:=Ze (fun _=>x.v) (fun _=>1)) ZQ YW hS (hf:=by have hz:=hxv;revert hz;generalize x.v=z;rintro⟨_,_,_,_,rfl,_⟩;show _=_;kernel_rfl)) ?_;rintro v1 w ⟨hS,hv1⟩
   refine zla (xap 4 (r:=s.n+1) ZQ YW hS (hS.rowN 11 rfl) (Xg _ _ _ _ _) (h1:=fun k _ _=>Xb (fun _=>hxv.one) k)) ?_;rintro v2 w ⟨hS,hv2⟩
   replace hS:=Sat.merge (l1:= [_,_,_,_,_]) (l2:= [_,_,_,_]) (l3:= [_]) hS Oa
   have xl:=fun k (k0:0<=k) (k1:k<s.n+1)=>hS.slhIn 5 rfl k0 k1
   refine zle (xsb 3 pl_29 hS (hv:=hv2.one)) ?_;clear hS;rintro w hS
   refine zln<|zh<|zbn ?_
   rw [hfn,RQ] at hS
   refine ZcB ⟨s.h++ [lst x.n x.f],fm2,v2,s.n+1,gsn s.vv s.n x.v,gsn s.P s.n fa,(snoc s.C s.n 1)⟩ ⟨rfl,(by rw [hfn];exact TInv.yes (a2:=fa) hIp hsn (fun k k0 k1=>(hfa k k0 k1).trans (if_pos Oa)) (fun k k0 k1=>(aa k k0 k1).trans (if_pos Oa)) (by obtain⟨k,k0,k1,k2⟩:=hc;exact⟨k,k0,Oa,k2⟩) (fun k k0 k1=>Zv k1) (ZF Oa) (fun k k0 k1=>Zt k1) (Zu Oa)),hv2,(fun k k0 k1=>by have h9:=hMr k k0 k1;have h8:=hfr k k0 k1;have h7:=aa k k0 k1;rw [if_pos Oa] at h7;show 0<=fm2 k/\fm2 k<=_;omega),by(show s.n+1<=((s.h++ [lst x.n x.f]).length:Int));rw [List.length_append];simp;omega,(Zee hC1)⟩ (hS.pk [0,1,2,3,4,5,6,7,8,9])
  refine hsk<|zbn<|ZcB ⟨s.h++ [lst x.n x.f],fm2,s.vO,s.n,s.vv,s.P,s.C⟩ ⟨rfl,(by rw [hfn];exact TInv.no (a2:=fa) hIp (fun k k0 k1=>(hfa k k0 k1).trans (if_pos Oa)) (fun k k0 k1=>(aa k k0 k1).trans (if_pos Oa)) (fun⟨k,k0,k1,k2⟩=>hc ⟨k,k0,Oa,k2⟩)),hlO,(fun k k0 k1=>by have h9:=hMr k k0 k1;have h8:=hfr k k0 k1;have h7:=aa k k0 k1;rw [if_pos Oa] at h7;show 0<=fm2 k/\fm2 k<=_;omega),by(show s.n<=((s.h++ [lst x.n x.f]).length:Int));rw [List.length_append];simp;omega,hC1⟩ (hS.pk [0,1,2,3,4,5,6,7,8,9])
 ·
  intro Dk s rest w qs hS
  obtain⟨⟨hIp,hlO,hMr,hnh,hC1⟩,hh⟩:=qs
  have hrO:=fun k (k0:0<=k) (k1:k<s.n)=>hS.slhIn 5 rfl k0 k1
  have hsn:=hlO.n0
  have jX:s.n<=1000000:=by
    have h9:=ZaA (ln:=xY) (pt:=x5) (u:=qD) (cnt:=xt) xo (fun k k0 k1=>by have:=xU k k0 k1;omega) (qD-1-(-1)).toNat Oa
    rw [hh] at hnh
    unfold dwn at hnh
    rw [show(qD-(qD-1-(-1)).toNat).toNat=0 by omega] at h9
    simp only [psum] at h9
    omega
  refine zbn<|htn<|hsq<|hrz ?_
  refine(zV (xlb 3 pl_29 hS))<|zlc (xc0 ZdK) (Zaz (u:=s.n) (pv:=s.vv) (ln:=(fun _=>p.m)) (pt:=s.P) (cnt:=s.C) w (⟨(hS.rowN 4 rfl),fun k k0 k1=>hS.rowIn 5 rfl k0 k1,fun k k0 k1=>hS.roomIn 5 rfl k0 k1⟩:VAt _ s.vO s.n s.vv (fun _=>p.m) s.P s.C) Oa (fun k k0 k1=>Oa) (fun k k0 k1=>by have h9:=hC1 k k0 k1;omega)) ?_;rintro kj w ⟨_,dS,ko,fL,jd,jl,rfl,eJ,jV,jU,eN,ek,hS'⟩
  replace hS:=(hS.comp hS').n13;clear hS'
  have jS:=fun k (k0:0<=k) (k1:k<dS)=>hS.slhIn 12 rfl k0 k1
  refine(On)<|zln<|zh<|htn<|hrt<|ZcC 10 hS fun w hS=>zf2 ⟨_,rfl,?_⟩
  have hmf:lst p.m fM=lst p.m (fun j=>ZD u pt cnt j-p.D j):=Yh fun k k0 k1=>hfM k k0 k1
  have hTR:NormR (V7 (lst p.m fun j=>ZD u pt cnt j-p.D j) (Ur (plL qD xY x5 xt))).2 (plL dS fL jd jl):=by
    rw [<-Ze1 _ _ _ xo,<-hh,<-hmf,<-hIp];exact eJ
  exact⟨_,_,_,_,_,_,0,rfl,.inr (.inr ⟨qJ,bX,rfl,_,xm,hTR⟩),fun k k0 k1=>by have:=eN k k0 k1;omega,Oa,ek,hS.pk [11,12]⟩
 ·
  intro Dk t rest w qs hS
  exact qs.elim
end Go.Proofs.YtpnamgfdakfccaaGreat
namespace Go.Proofs.Gw
open Go Go.RowKit
section
variable {P:Program} {L:List (Nat×Value)} {w w0:World} {o:Oper} {x y z:Operand} {T T':TypeId} {l:List Ent} {E:TypeId}
theorem UO{n:Int}{zv z0 z1:Value}{b:Nat}(ho:o.op= .call {callee:= .builtin .append,args:= #[x,y],argTypes:= #[T,T']})(ht:Zr P T=some (E,2))(hk:P.underlying T'=some (.int .i64))(he:ZM P E=some (zv,2,b))(hz:zv.cells= #[z0,z1])(hb0:1<=b)
   (hx:evL L x=some Oh) (hy:evL L y=some (.int Oi n)) (h1:1<=n) (hb:b*n<=140737488355328) (hS:Sat w0 w l):
   ∃u w',Runs P L w o (.value u) w'/\Sat w0 w' (l++ [.own u 2 E n (fun k=>if k%2=0 then z0 else z1)])/\Slh u n:=by
 obtain⟨hut,_⟩:=Zq ht
 obtain⟨i,hi,hzz,hsz,hby⟩:=Yn he
 have hle:n<=b*n:=by
   have:=Int.mul_le_mul_of_nonneg_right (show(1:Int)<=b by omega) (show 0<=n by omega)
   omega
 have hw:IntKind.i64.wrap n=n:=by rw [IntKind.wrap_i64];omega
 have h48:¬(281474976710656<n*(i.bytes:Int)):=by rw [hby,Int.mul_comm];omega
 have hn0:¬n<0:=Oa
 have hbn:((n.toNat*i.bytes:Nat):Int)=b*n:=by rw [Int.natCast_mul,hby,Int.toNat_of_nonneg Oa,Int.mul_comm]
 have yP:¬(281474976710656<Builtin.nextslicecap n.toNat 0*i.bytes):=by rw [nextslicecap_zero Oa];omega
 have h63:¬(9223372036854775807<(n.toNat:Int)):=Oa
 have hnz:¬n.toNat=0:=Oa
 have aQ:¬n.toNat*i.size=0:=by rw [hsz];omega
 have hr:∀ty,(Builtin.append_ #[T,T'] ty #[Oh,.int Oi n]).run P w= .ok (.slice (some ⟨w.heap.size,0,none⟩) n.toNat (grownCap w n.toNat 0 E)) (w.drew.alloc (.cells (Builtin.zeroCells zv.cells n.toNat++Builtin.zeroCells zv.cells (grownCap w n.toNat 0 E-n.toNat)) E)):=fun ty=>by
   simp [Builtin.append_,run_underlying hut,run_underlying hk,sizeOf,typeInfo,zeroValue,hi,hzz,asInt,asIntOf,hw,hn0,h48,hnz,yP,h63,Question.forced,newRow,grownCap,Builtin.firstCells,aQ]
   rw [if_neg Oa,if_neg Oa]
 have hge:=grownCap_ge w n.toNat 0 E
 have hmx:=grownCap_le_maxLen w n.toNat 0 E (by unfold maxLen;omega)
 have hE:(Ent.own (.slice (some ⟨w.heap.size,0,none⟩) n.toNat (grownCap w n.toNat 0 E)) 2 E n (fun k=>if k%2=0 then z0 else z1)).holds (w.drew.alloc (.cells (Builtin.zeroCells zv.cells n.toNat++Builtin.zeroCells zv.cells (grownCap w n.toNat 0 E-n.toNat)) E)):=by
   refine⟨by omega,Oa,.inr ⟨_,_,_,rfl,by have:=heap_alloc_new w.drew (.cells (Builtin.zeroCells zv.cells n.toNat++Builtin.zeroCells zv.cells (grownCap w n.toNat 0 E-n.toNat)) E);simpa using this,hge,hmx,?_,fun k hk=> ?_⟩⟩
   · simp [Builtin.zeroCells,hz];omega
   · have hk2:k<n.toNat*2:=Oa
     rw [Array.getElem?_append_left (by simp [Builtin.zeroCells,hz];omega)]
     rcases Nat.mod_two_eq_zero_or_one k with hm|hm
     · simp [Builtin.zeroCells,hz,hk2,hm];intro hh;omega
     · simp [Builtin.zeroCells,hz,hk2,hm];intro hh;omega
 refine⟨_,_,fun ρ h=> ?_,hS.draw.alloc _ hE (fun g hg=>by simp [Ent.has,Value.ownBlock] at hg;simp [hg]),hE.row.slh⟩
 simp [execOp,ho,resolve,invoke,builtin,h _ _ hx,h _ _ hy,hr]
end
theorem ZbV(p q:Int->Value)(c d:Of)(n:Int):cat (n*2) (Ze p c) (Ze q d)=Ze (cat n p q) (cat n c d):=by
 funext k
 unfold cat Ze
 by_cases h:k<n*2
 · have h2:k/2<n:=Oa
   simp only [if_pos h,if_pos h2]
 · have h2:¬k/2<n:=Oa
   have h3:(k-n*2)/2=k/2-n:=Oa
   have h4:(k-n*2)%2=k%2:=Oa
   simp only [if_neg h,if_neg h2,h3,h4]
end Go.Proofs.Gw
namespace Go.Proofs.YtpnamgfdakfccaaGreat
open Go Go.RowKit Go.Proofs.Gw
theorem Zgy:ZM Om 27=some (.agg #[Oh,Oh,.int Oi 0,.int Oi 0],4,64):=Oc
def Yu(p:Prob)(f:Of):Of:=fun k=>if 0<=k/\k<p.m then max 0 (p.D k-f k) else 0
theorem Zew{p:Prob}(hp:p.Ok){f:Of}(hf:∀k,0<=k->k<p.m->0<=f k):∀k,-9223372036854775808<=Yu p f k/\Yu p f k<=9223372036854775807:=fun k=>by
 unfold Yu
 by_cases h:0<=k/\k<p.m
 · rw [if_pos h];have:=TJ hp h.1 h.2;have:=hf k h.1 h.2;omega
 · rw [if_neg h];omega
structure NUt (w:World) (v:Value) (n:Int) (vv:Int->Value) (ln:Of) (pvs:Int->Int->Value) (cns:Og):Prop where
  row:Row w v 1 n vv
  p:∀i,0<=i->i<n->Row w (vv i) 2 (ln i) (Ze (pvs i) (cns i))
  one:∀i,0<=i->i<n->∀k,0<=k->k<ln i->(pvs i k).oneCell'=true
theorem ZaQ{pv:Int->Value}{cnt:Of}{n:Int}(h:∀k,0<=k->k<n->(pv k).oneCell'=true):∀k,0<=k->k<n*2->(Ze pv cnt k).oneCell'=true:=fun k k0 k1=>by
 unfold Ze
 split
 · exact h _ Oa Oa
 · rfl
theorem NUt.below{w w':World}{v:Value}{n:Int}{vv:Int->Value}{ln:Of}{pvs:Int->Int->Value}{cns:Og}(h:NUt w v n vv ln pvs cns)(hb:Below w.heap.size w w'):NUt w' v n vv ln pvs cns:=⟨h.row.below hb,fun i a b=>(h.p i a b).below hb,h.one⟩
def Zaw(ln:Of)(f:Int->Int->Value):Nat->Int->Value
  |0=>fun _=>undef
  |k+1=>cat (tot ln k) (Zaw ln f k) (f k)
theorem catG_next(ln:Of)(f:Int->Int->Value){i:Int}(h:0<=i):Zaw ln f (i+1).toNat=cat (tot ln i.toNat) (Zaw ln f i.toNat) (f i):=by
 rw [show(i+1).toNat=i.toNat+1 by omega,Zaw,Int.toNat_of_nonneg h]
theorem Zo4{w:World}{v a b:Value}{n m:Int}{pa pb:Int->Value}{ca cb:Of}(h:Row w v 1 2 (ZW a b))(ha:Row w a 2 n (Ze pa ca))(hb:Row w b 2 m (Ze pb cb))(ha1:∀k,0<=k->k<n->(pa k).oneCell'=true)(hb1:∀k,0<=k->k<m->(pb k).oneCell'=true):NUt w v 2 (ZW a b) (ZW n m) (ZW pa pb) (ZW ca cb):=
 ⟨h, fun i i0 i1=>by
   by_cases e:i=0
   · subst e;exact ha
   · obtain rfl:i=1:=Oa
     exact hb,fun i i0 i1=>by
   by_cases e:i=0
   · subst e;exact ha1
   · obtain rfl:i=1:=Oa
     exact hb1⟩
theorem Zhj{vL vD:Value}{p:Prob}{vA:Value}{f:Of}(w0:World)(h:PAt w0 vL vD p)(hok:p.Ok)(hA:Row w0 vA 1 p.m (ints f))(hfb:∀k,0<=k->k<p.m->0<=f k/\f k<=2000000000):
   Calls Om 80 [.agg #[vL,vD,.int Oi p.stock,.int Oi p.kerf],vA].toArray w0 fun e w=>∃v,e= .returned v/\∃vL2 vD2,v= .agg #[vL2,vD2,.int Oi p.stock,.int Oi p.kerf]/\Slh vL2 p.m/\Slh vD2 p.d/\Sat w0 w [.own vL2 1 3 p.m (ints p.L),.own vD2 1 3 p.d (ints (Yu p f))]:=by
 obtain⟨hm,hm1,hd,hd1,hs,hk⟩:=h.Oq
 have aO:=hok.m1;have qX:=hok.m2;have hpd:=hok.d
 refine zenG Tryz.func80 Tryz.ntmps80 fun w hS=> ?_
 refine zsr<|zla (xbx (cs:= [_,_,_,_]) hS) ?_;rintro _ w ⟨g1,rfl,hS⟩
 refine zla (xal (cs:= [_,_,_,_]) Zgy hS) ?_;rintro _ w ⟨g2,rfl,hS⟩
 refine zx7<|zdst [0,1] [1] 7 mx_ hS ?_;clear hS;intro w hS
 refine(zDw 0 (xfb 0 fd_27_0))<|zdl 1 (fun w hS=>(xlb 0 pl_22 hS)) ?_
 refine(zDw 3 (xfb 1 fd_27_1))<|zdl 4 (fun w hS=>(xlb 0 pl_22 hS)) ?_
 refine zdc 2 (xc0 cl_66) (c_clone (n:=p.m) (f:=p.L) w (h.L.below hS.below) Oa) ?_;rintro vq1 w ⟨_,rfl,qb,hS'⟩
 replace hS:=(hS.comp hS').n3;clear hS'
 refine⟨⟨fun _=>hS.pk [0,1],hS.pk [1]⟩,?_⟩
 refine(zDw 6 (xfb 0 fd_27_0))<|zdc 5 (xc0 cl_66) (c_clone (n:=p.d) (f:=p.D) w (h.D.below hS.below) Oa) ?_;rintro vq2 w ⟨_,rfl,qf,hS'⟩
 replace hS:=(hS.comp hS').n4;clear hS'
 refine⟨⟨fun _=>hS.pk [0,1],hS.pk [1]⟩,?_⟩
 refine zde 7 (xsb 0 pl_22 hS (hv:=qb.one)) ?_;clear hS;rintro w hS
 refine⟨⟨fun h=>absurd h (by decide),hS.pk [1]⟩,?_⟩
 refine(zDw 8 (xfb 1 fd_27_1))<|zde 9 (xsb 0 pl_22 hS (hv:=qf.one)) ?_;clear hS;rintro w hS
 refine⟨⟨fun h=>absurd h (by decide),hS.pk [1]⟩,?_⟩
 refine zdd<|ztn<|zsq<|zsr ?_
 refine(zP)<|(zV (xln Zb hA.slh))<|(zP)<|zx6<|zlp (fun mm M w=>∃(g:Of) (i:Int),mm=((p.m-i).toNat)/\(0<=i)/\(i<=p.m)/\(∀k,0<=k->k<p.m->g k=if k<i then max 0 (p.D k-f k) else p.D k)/\M= [(2,Or g1),(4,Or g2),(15,vA),(16,.int Oi p.m),(17,.int Oi i)]/\Sat w0 w [.blk g1 [vq1,vq2,.int Oi p.stock,.int Oi p.kerf],.blk g2 [Oh,Oh,.int Oi 0,.int Oi 0],.own vq1 1 3 p.m (ints p.L),.own vq2 1 3 p.d (ints g)]) ⟨p.D,0,rfl,Oa,Oa,?_,rfl,hS⟩ ?_
 ·
  intro k k0 k1;rw [if_neg Oa]
 clear hS w
 rintro mm M w ⟨g,i,rfl,h0,h1,hg,rfl,hS⟩
 refine zsr<|(zP)<|zx7<|Zf ?_ ?_<;>intro hc
 ·
  refine zx3<|(zP)<|(zV (xix (kk:=i) Zb hA.slh))<|zlv (xlr (u:= .int Oi (f i)) pl_3 (hA.below hS.below)) ?_
  have hdi:=TJ hok h0 (by omega:i<p.m)
  have hfi:=hfb i h0 Oa
  have hgi:=hg i h0 Oa
  rw [if_neg Oa] at hgi
  refine(On)<|zlt<|zdst [0,1,2,3] [0,1,2] 12 mx_ hS ?_;clear hS;intro w hS
  refine(zDw 0 (xfb 1 fd_27_1))<|(zDl 1 (fun w hS=>(xlb 0 pl_22 hS)))<|(zDw 2 xmv)<|(zDw 3 (xfb 1 fd_27_1))<|(zDl 4 (fun w hS=>(xlb 0 pl_22 hS)))<|(zDw 5 xmv)<|(zDw 6 (xix (kk:=i) Zb qf))<|zdl 7 (fun w hS=>(xlr (u:= .int Oi (g i)) pl_3 (hS.rowN 3 rfl))) ?_
  refine(zDw 8 xmv)<|(zDw 9 (Zp (r:=g i-(f i))))<|(zDw 10 (Ze8 (r:=(max 0 (g i-(f i))))))<|(zDw 11 (xix (kk:=i) Zb qf))<|zde 12 (xso 3 pl_3 hS (ZA _ _ _)) ?_;clear hS;rintro w hS
  refine⟨⟨fun h=>absurd h (by decide),hS.pk [0,1,2]⟩,?_⟩
  refine zdd<|zbn<|ztn<|zrg ?_
  refine(zV (Zg (r:=i+1)))<|(zP)<|zln<|zlq ⟨(upd g i (max 0 (g i-(f i)))),i+1,rfl,Oa,Oa,?_,rfl,hS⟩
  ·
   intro k k0 k1;unfold upd;by_cases e:k=i
   · rw [if_pos e,if_pos Oa,e];omega
   · rw [if_neg e,hg k k0 k1];by_cases e2:k<i
     · rw [if_pos e2,if_pos Oa]
     · rw [if_neg e2,if_neg Oa]
 refine zx8<|(zV (xls 0 st_27 hS))<|zle (xsw 1 st_27 hS (hd:=(Za qb.one (Za qf.one (Za rfl (Za rfl Zh)))))) ?_;clear hS;rintro w hS
 refine zx1<|zfc 1 st_27 hS ⟨_,rfl,?_⟩
 have hin:i=p.m:=Oa
 replace hS:=hS.recont 3 rfl (d:=ints (Yu p f)) (fun k k0 k1=>congrArg (Value.int .i64) (by rw [hg k k0 Oa,if_pos Oa];unfold Yu;rw [if_pos ⟨k0,Oa⟩]))
 exact⟨_,_,rfl,qb,qf,hS.pk [2,3]⟩
theorem Zmm:Zc Om 153=true:=Oc
theorem Tf:Zr Om 234=some (29,1):=Oc
theorem Zjt{n:Int}(w0:World)(h0:0<=n)(h1:n<=100000000):
   Calls Om 153 [Oh,.int Oi n].toArray w0 fun e w=>∃v,e= .returned v/\∃r,v=r/\Slh r 0/\Sat w0 w [.own r 2 97 0 (Ze (fun _=>Oh) (fun _=>0))]:=by
 refine zenG Tryz.func153 Tryz.ntmps153 fun w hS=> ?_
 refine zsr<|(zP)<|zx5<|(zP)<|(zV (xkf Z9))<|zlt<|zcf<|zsk<|ztn<|zsq<|zsr ?_
 refine(On)<|Ko rfl rfl rfl (Wt rfl ZQ rfl) ?_
 refine(zP)<|(zV (xln ZQ slh_nil))<|(zV (Zp (r:=0)))<|(zV (Zp (r:=n)))<|(zP)<|zlz<|(On)<|zlt<|Zf ?_ ?_<;>intro hc
 ·
  refine zrg<|(On)<|Ko rfl rfl rfl (Wt rfl ZQ rfl) ?_
  refine(zV (xany (v:=Oh)))<|(zP)<|Kp rfl rfl rfl (UO rfl ZQ Tryz.underlying3 YW rfl Oa rfl rfl Oa Oa hS) ?_;rintro v1 w ⟨hS,hv1⟩
  refine(zP)<|(zV (xln ZQ slh_nil))<|Ko rfl rfl rfl (VT rfl ZQ rfl rfl hv1) ?_
  replace hS:=hS.cut 0 rfl (Ze (fun _=>Oh) (fun _=>0))
  refine(zP)<|zlz<|(On)<|zx1<|Oj ?_
  exact⟨_,rfl,(ZdI hv1),hS⟩
 refine ZY<|(On)<|zx1<|Oj ?_
 exact⟨_,rfl,slh_nil,(hS.sub .slnil).addnil 2 97 (Ze (fun _=>Oh) (fun _=>0))⟩
theorem ZeZ{v:Value}{n:Int}{vv:Int->Value}{ln:Of}{pvs:Int->Int->Value}{cns:Og}(w0:World)(hM:NUt w0 v n vv ln pvs cns)(ht:∀k,0<=k->k<=n->tot ln k.toNat<=10000000):
   Calls Om 79 [v].toArray w0 fun e w=>∃v,e= .returned v/\∃r,v=r/\Slh r (tot ln n.toNat)/\Sat w0 w [.own r 2 97 (tot ln n.toNat) (Ze (Zaw ln pvs n.toNat) (Vd ln cns n.toNat))]:=by
 have hn:=hM.row.slh.n0;have hn1:=hM.row.slh.n1
 refine zenG Tryz.func79 Tryz.ntmps79 fun w hS=> ?_
 refine zsr<|(zP)<|zlz<|(zP)<|zx5<|(zP)<|(zV (xln Tf hM.row.slh))<|(zP)<|zx6<|zlp (fun mm M w=>∃(s:Int) (i:Int),mm=((n-i).toNat)/\(0<=i)/\(i<=n)/\(s=tot ln i.toNat)/\(0<=s)/\M= [(0,v),(2,Oh),(3,.int Oi s),(9,v),(10,.int Oi n),(11,.int Oi i)]/\Sat w0 w []) ⟨0,0,rfl,Oa,Oa,?_,Oa,rfl,hS⟩ ?_
 ·
  rfl
 clear hS w
 rintro mm M w ⟨s,i,rfl,h0,h1,hs,hs0,rfl,hS⟩
 refine zsr<|(zP)<|zx7<|Zf ?_ ?_<;>intro hc
 ·
  refine zx3<|(zV (xix (kk:=i) Tf hM.row.slh))<|zlv (xlr (u:=(vv i)) pl_29 (hM.row.below hS.below)) ?_
  have hl:=(hM.p i h0 Oa).slh.n0;have ht1:=ht (i+1) Oa Oa;rw [Xj ln h0] at ht1
  refine(zP)<|zlz<|(On)<|(zV (xln ZQ (hM.p i Oa Oa).slh))<|(zV (Zg (r:=s+(ln i))))<|(zP)<|zlz<|(zP)<|(zV (xkf Z9))<|zlt<|zcf<|zsk<|zbn<|ztn<|zrg ?_
  refine(zV (Zg (r:=i+1)))<|(zP)<|zln<|zlq ⟨s+(ln i),i+1,rfl,Oa,Oa,?_,Oa,rfl,hS⟩
  ·
   rw [Xj ln h0,hs]
 refine zx8<|zlv xmv ?_
 have hin:i=n:=Oa
 have ht2:=ht n hn (Int.le_refl _);rw [<-hin] at ht2
 refine zlc (xc0 Zmm) (Zjt (n:=s) w Oa Oa) ?_;rintro vq1 w ⟨_,rfl,qb,hS'⟩
 replace hS:=(hS.comp hS').n1;clear hS'
 refine(zP)<|zx5<|(zP)<|(zV (xln Tf hM.row.slh))<|(zP)<|zx6<|zlp (fun mm M w=>∃(m:Int) (gq:Int->Value) (gc:Of) (j:Int) (vb:Value),mm=((n-j).toNat)/\(0<=j)/\(j<=n)/\(m=tot ln j.toNat)/\(0<=m)/\(∀k,0<=k->k<m->gq k=Zaw ln pvs j.toNat k)/\(∀k,0<=k->k<m->gc k=Vd ln cns j.toNat k)/\(Slh vb m)/\M= [(2,Oh),(6,vb),(25,v),(26,.int Oi n),(27,.int Oi j)]/\Sat w0 w [.own vb 2 97 m (Ze gq gc)]) ⟨0,(fun _=>Oh),(fun _=>0),0,vq1,rfl,Oa,Oa,?_,Oa,?_,?_,?_,rfl,hS⟩ ?_
 ·
  rfl
 ·
  intro k k0 k1;omega
 ·
  intro k k0 k1;omega
 ·
  exact qb
 clear hS w
 rintro mm M w ⟨m,gq,gc,j,vb,rfl,h0,h1,hm,hm0,hg,hc9,hvb,rfl,hS⟩
 refine zsr<|(zP)<|zx7<|Zf ?_ ?_<;>intro hc
 ·
  refine zx3<|(zV (xix (kk:=j) Tf hM.row.slh))<|zlv (xlr (u:=(vv j)) pl_29 (hM.row.below hS.below)) ?_
  have hl:=(hM.p j h0 Oa).slh.n0;have ht1:=ht (j+1) Oa Oa;rw [Xj ln h0] at ht1
  refine(zP)<|zlt<|zrg<|(On)<|zla (xap 0 (r:=m+(ln j)) (f:=Ze (cat m gq (pvs j)) (cat m gc (cns j))) ZQ YW hS ((hM.p j Oa Oa).below hS.below) (by exact ZbV _ _ _ _ _) (h1:=(ZaQ (hM.one j Oa Oa)))) ?_;rintro v1 w ⟨hS,hv1⟩
  refine(zP)<|zx10<|(zV (Zg (r:=j+1)))<|(zP)<|zln<|zlq ⟨m+(ln j),(cat m gq (pvs j)),(cat m gc (cns j)),j+1,v1,rfl,Oa,Oa,?_,Oa,?_,?_,?_,rfl,hS⟩
  ·
   rw [Xj ln h0,hm]
  ·
   intro k k0 k1;rw [catG_next ln pvs h0,<-hm];unfold cat;by_cases e:k<m
   · rw [if_pos e,if_pos e];exact hg k k0 e
   · rw [if_neg e,if_neg e]
  ·
   intro k k0 k1;rw [catN_next ln cns h0,<-hm];unfold cat;by_cases e:k<m
   · rw [if_pos e,if_pos e];exact hc9 k k0 e
   · rw [if_neg e,if_neg e]
  ·
   exact hv1
 refine zx8<|(On)<|zx1<|Oj ?_
 obtain rfl:j=n:=Oa
 subst hm
 replace hS:=hS.recont 0 rfl (d:=Ze (Zaw ln pvs j.toNat) (Vd ln cns j.toNat)) (fun k k0 k1=>by unfold Ze;rw [hg _ Oa Oa,hc9 _ Oa Oa])
 exact⟨_,rfl,hvb,hS⟩
theorem Zl2:Zc Om 224=true:=Oc
theorem UY:Zs Om 56 0=some 0:=Oc
def Ze4(p:Prob)(u:Int)(ml:Of)(mf:Og)(s:So):Prop:=YZ s/\s.n=u/\u<=60/\(∀k,0<=k->k<u->Yd p (ml k) (mf k)/\(s.X k).tdiv s.den<=1000)/\∀j,0<=j->j<p.m->p.D j*s.den<=ZD u mf s.X j
theorem Zet{m u:Int}{X:Of}{mf:Og}(h:∀k,0<=k->k<u->(∀j,0<=j->j<m->0<=mf k j/\mf k j<=1000)/\0<=X k/\X k<=1073741824):∀{i:Int},0<=i->i<=u->∀{j:Int},0<=j->j<m->0<=ZD i mf X j/\ZD i mf X j<=1073741824000*i:=by
 intro i i0
 obtain⟨n,rfl⟩:=Int.eq_ofNat_of_zero_le i0
 induction n with
 |zero=>intro _ j _ _;exact⟨Int.le_refl _,by show(0:Int)<=_;omega⟩
 | succ n ih=>
   intro hi j j0 j1
   have h1:=ih Oa Oa j0 j1
   obtain⟨h2,h3,h4⟩:=h n Oa Oa
   have h5:=h2 j j0 j1
   have h6:=WI h5.1 h5.2 h3 h4
   have h7:=XG (pt:=mf) (cnt:=X) (i:=(n:Int)) (j:=j) Oa
   rw [show((n+1:Nat):Int)=(n:Int)+1 by omega,h7];omega
theorem U8{a d:Int}(h:0<=a)(hd:1<=d):0<=a.tmod d/\a.tmod d<d:=by
 rw [Int.tmod_eq_emod_of_nonneg h]
 exact⟨Int.emod_nonneg _ Oa,Int.emod_lt_of_pos _ Oa⟩
theorem VH{p:Prob}{n:Int}{f:Of}(h:Yd p n f):n=p.m/\∀j,0<=j->j<p.m->0<=f j/\f j<=1000:=by
 have he:=h.1.eq
 refine⟨he,fun j j0 j1=> ?_⟩
 have h1:=h.1.all j j0 j1
 have h2:=h.2 j j0 Oa
 have h3:=TJ h.1.ok j0 j1
 omega
theorem ZeW{vL vD:Value}{p:Prob}{vM:Value}{u:Int}{mv:Int->Value}{ml:Of}{mf:Og}{vX vY:Value}{s:So}(w0:World)(h:PAt w0 vL vD p)(hok:p.Ok)(hM:MAt w0 vM u mv ml mf)(hX:Row w0 vX 1 s.n (ints s.X))(hY:Row w0 vY 1 s.m (ints s.Y))(xZ:s.n<=1000):
   Calls Om 149 [.agg #[vL,vD,.int Oi p.stock,.int Oi p.kerf],.agg #[vM,vX,vY,.int Oi s.val,.int Oi s.den]].toArray w0 fun e w=>∃v,e= .returned v/\v=B (Ze4 p u ml mf s)/\Sat w0 w []:=by
 obtain⟨hm,hm1,hd,hd1,hs,hk⟩:=h.Oq
 have hu:=hM.row.slh.n0;have hu1:=hM.row.slh.n1;have hn:=hX.slh.n0;have hn1:=hX.slh.n1
 refine zenG Tryz.func149 Tryz.ntmps149 fun w hS=> ?_
 refine zsr<|zla (xbx (cs:= [_,_,_,_]) hS) ?_;rintro _ w ⟨g1,rfl,hS⟩
 refine zla (xbx (cs:= [_,_,_,_,_]) hS) ?_;rintro _ w ⟨g2,rfl,hS⟩
 refine(zP)<|zlz<|(zV (xfb 1 fd_56_1))<|(zV (xlp 1 (ds:= [vX,vY,.int Oi s.val,.int Oi s.den]) ZV hS))<|zla (xal (cs:= [_,_,_,_]) VX hS) ?_;rintro _ w ⟨g3,rfl,hS⟩
 refine zle (xsw 2 ZV hS (hd:=(Za hX.slh.one (Za hY.slh.one (Za rfl (Za rfl Zh)))))) ?_;clear hS;rintro w hS
 refine zx5<|(zV (xls 2 ZV hS))<|zlc (xc0 Zl2) (ZeP (s:=s) w (hX.below hS.below) (hY.below hS.below) Oa) ?_;rintro _ w ⟨cw,cu,kW,rfl,xI,hS'⟩
 replace hS:=hS.cmp hS';clear hS'
 refine(Oo)<|zla (xal (cs:= [_,_]) Zgx hS) ?_;rintro _ w ⟨g4,rfl,hS⟩
 refine zle (xsw 3 Td hS) ?_;clear hS;rintro w hS
 refine(zP)<|zlz<|(Oo)<|zlb 24 ?_ ?_<;>intro hc;rotate_left
 refine(zV (xfb 0 fd_54_0))<|(zV (xlb 2 pl_22 hS))<|(zV (xln Zb hX.slh))<|(zV (xfb 0 UY))<|(zV (xlb 1 ZK hS))<|(zV (xln Zk hM.row.slh))<|(Oo)<|zlb 33 ?_ ?_<;>intro hc;rotate_left
 refine(zV (xfb 0 fd_54_0))<|(zV (xlb 2 pl_22 hS))<|(zV (xln Zb hX.slh))<|(On)<|zlt<|Zf ?_ ?_<;>intro hc
 ·
  refine zsr<|(zP)<|zx14<|Oj ?_
  refine⟨Zi ?_,hS.nl⟩
  rintro⟨g1,g2,g3,g4,g5⟩
  first
  |(rcases xI with⟨q1,_⟩|⟨_,_,_,q4⟩;exact absurd g1 q1;omega)
  |omega
  |(have h9:=g4 k hk0 Oa;first|exact absurd h9.1 ‹_›|(have:=h9.2;omega))
  |(have h9:=g5 i hi0 Oa;have h8:=hf i hi0 Oa;rw [show k=u by omega] at h8;omega)
 refine ZY<|zlv (xfb 0 fd_27_0) ?_
 have hsd:YZ s:=by rcases xI with⟨_,_,_,q4⟩|⟨q1,_⟩;omega;exact q1
 obtain⟨⟨d1,d2⟩,⟨d3,d4⟩,d5⟩:=id hsd
 have aO:=hok.m1;have qX:=hok.m2;have hpd:=hok.d
 refine(zV (xlb 0 pl_22 hS))<|(zV (xln Zb h.L.slh))<|zla (xmk Zb ZG hS) ?_;rintro v1 w ⟨hS,hv1⟩
 refine(zP)<|zx5<|(zV (xfb 0 UY))<|(zV (xlb 1 ZK hS))<|(zV (xln Zk hM.row.slh))<|(zP)<|zx6<|zlp (fun mm M w=>∃(f:Of) (k:Int),mm=((u-k).toNat)/\(0<=k)/\(k<=u)/\(∀i,0<=i->i<k->Yd p (ml i) (mf i)/\(s.X i).tdiv s.den<=1000)/\(∀j,0<=j->j<p.m->f j=ZD k mf s.X j)/\M= [(2,Or g1),(5,Or g3),(8,v1),(44,vM),(45,.int Oi u),(46,.int Oi k)]/\Sat w0 w [.blk g1 [vL,vD,.int Oi p.stock,.int Oi p.kerf],.blk g2 [vM,vX,vY,.int Oi s.val,.int Oi s.den],.blk g3 [vX,vY,.int Oi s.val,.int Oi s.den],.blk g4 [.int Oi cw,.int Oi cu],.own v1 1 3 p.m (ints f)]) ⟨(fun _=>0),0,rfl,Oa,Oa,?_,?_,rfl,hS⟩ ?_
 ·
  intro i i0 i1;omega
 ·
  intro j _ _;rfl
 clear hS w
 rintro mm M w ⟨f,k,rfl,hk0,hk1,qa,hf,rfl,hS⟩
 refine zsr<|(zP)<|zx7<|Zf ?_ ?_<;>intro hc
 ·
  refine zx3<|(zP)<|(zV (xix (kk:=k) Zk hM.row.slh))<|zlv (xlr (u:=(mv k)) pl_22 (hM.row.below hS.below)) ?_
  have kV:=d5 k hk0 Oa
  have hqd:=Xk (a:=s.X k) (d:=s.den) (A:=1073741824) Oa Oa
  refine(On)<|zlt<|zsq<|zsq<|zdst [0,1,2,3,4] [0,1,2,3,4] 1000 mx_ hS ?_;clear hS;intro w hS
  refine(zDl 0 (fun w hS=>(xls 0 st_27 hS)))<|(zDw 1 xmv)<|zdc 2 (xc0 ZgP) (Kb (p:=p) w (h.below hS.below) ((hM.p k Oa Oa).below hS.below)) ?_;rintro _ w ⟨rfl,hS'⟩
  replace hS:=hS.cmp hS';clear hS'
  refine⟨⟨fun _=>hS,hS⟩,?_⟩
  refine(zDw 3 YE)<|(zDw 4 xmv)<|zdb 55 ?_ ?_<;>intro hc
  ·
   refine(zDo 5)<|(zDo 6)<|(zDo 7)<|(zDo 8)<|(zDo 9)<|(zDo 10)<|(zDo 11)<|(zDo 12)<|(zDo 13)<|(zDw 14 xpt)<|zdd<|ztn<|zct<|zsr ?_
   refine(zP)<|zlt<|zrt<|ztr<|zbr<|ztr<|ztr<|zbr<|ztr<|Oj ?_
   refine⟨Zi ?_,hS.nl⟩
   rintro⟨g1,g2,g3,g4,g5⟩
   first
   |(rcases xI with⟨q1,_⟩|⟨_,_,_,q4⟩;exact absurd g1 q1;omega)
   |omega
   |(have h9:=g4 k hk0 Oa;first|exact absurd h9.1 ‹_›|(have:=h9.2;omega))
   |(have h9:=g5 i hi0 Oa;have h8:=hf i hi0 Oa;rw [show k=u by omega] at h8;omega)
  refine(zDw 5 (xfb 0 fd_54_0))<|(zDl 6 (fun w hS=>(xlb 2 pl_22 hS)))<|(zDw 7 xmv)<|(zDw 8 (xix (kk:=k) Zb hX.slh))<|(zDl 9 (fun w hS=>(xlr (u:= .int Oi (s.X k)) pl_3 (hX.below hS.below))))<|(zDw 10 (xfb 3 fd_54_3))<|(zDl 11 (fun w hS=>(xlb 2 pl_3 hS)))<|(zDw 12 (UK (r:=(Int.tdiv (s.X k) s.den))))<|(zDw 13 Yx)<|(zDw 14 xpf)<|zdd<|ztn ?_
  refine Zf ?_ ?_<;>intro hc
  ·
   refine zsr<|(zP)<|zlt<|zrt<|ztr<|zbr<|ztr<|ztr<|zbr<|ztr<|Oj ?_
   refine⟨Zi ?_,hS.nl⟩
   rintro⟨g1,g2,g3,g4,g5⟩
   first
   |(rcases xI with⟨q1,_⟩|⟨_,_,_,q4⟩;exact absurd g1 q1;omega)
   |omega
   |(have h9:=g4 k hk0 Oa;first|exact absurd h9.1 ‹_›|(have:=h9.2;omega))
   |(have h9:=g5 i hi0 Oa;have h8:=hf i hi0 Oa;rw [show k=u by omega] at h8;omega)
  refine ZY<|zlv xmv ?_
  have hpk:Yd p (ml k) (mf k):=by first|assumption|exact Od ‹_›
  have hrk:=VH hpk
  have hXk:=d5 k hk0 Oa
  refine(zV (xln Zb (hM.p k Oa Oa).slh))<|(zP)<|zx6<|zlp (fun mm M w=>∃(f2:Of) (j:Int),mm=((ml k-j).toNat)/\(0<=j)/\(j<=ml k)/\(∀q,0<=q->q<p.m->f2 q=(if q<j then ZD (k+1) mf s.X q else ZD k mf s.X q))/\M= [(2,Or g1),(5,Or g3),(8,v1),(9,.int Oi k),(44,vM),(45,.int Oi u),(46,.int Oi k),(66,(mv k)),(67,.int Oi (ml k)),(68,.int Oi j)]/\Sat w0 w [.blk g1 [vL,vD,.int Oi p.stock,.int Oi p.kerf],.blk g2 [vM,vX,vY,.int Oi s.val,.int Oi s.den],.blk g3 [vX,vY,.int Oi s.val,.int Oi s.den],.blk g4 [.int Oi cw,.int Oi cu],.own v1 1 3 p.m (ints f2)]) ⟨f,0,rfl,Oa,Oa,?_,rfl,hS⟩ ?_
  ·
   intro q q0 q1;rw [if_neg Oa];exact hf q q0 q1
  clear hS w
  rintro mm M w ⟨f2,j,rfl,hj0,hj1,hf2,rfl,hS⟩
  refine zsr<|(zP)<|zx7<|Zf ?_ ?_<;>intro hc
  ·
   refine zx3<|(zP)<|(zV (xix (kk:=j) Zb (hM.p k Oa Oa).slh))<|zlv (xlr (u:= .int Oi ((mf k) j)) pl_3 ((hM.p k Oa Oa).below hS.below)) ?_
   have hrj:=hrk.2 j hj0 Oa
   have hxj:=WI hrj.1 hrj.2 hXk.1 hXk.2
   have hmr:=Zet (m:=p.m) (u:=k) (fun i i0 i1=>⟨(VH (qa i i0 i1).1).2,d5 i i0 Oa⟩) hk0 (Int.le_refl _) (j:=j) hj0 Oa
   have hfj:=hf2 j hj0 Oa
   rw [if_neg Oa] at hfj
   refine(On)<|zlt<|zdst [0,1,2,3,4] [0,1,2,3] 13 mx_ hS ?_;clear hS;intro w hS
   refine(zDw 0 xmv)<|(zDw 1 xmv)<|(zDw 2 (xix (kk:=j) Zb hv1))<|zdl 3 (fun w hS=>(xlr (u:= .int Oi (f2 j)) pl_3 (hS.rowN 4 rfl))) ?_
   refine(zDw 4 xmv)<|(zDw 5 (xfb 0 fd_54_0))<|(zDl 6 (fun w hS=>(xlb 2 pl_22 hS)))<|(zDw 7 xmv)<|(zDw 8 (xix (kk:=k) Zb hX.slh))<|(zDl 9 (fun w hS=>(xlr (u:= .int Oi (s.X k)) pl_3 (hX.below hS.below))))<|(zDw 10 (Yf (r:=(((mf k) j)*(s.X k))) (e:=rfl)))<|(zDw 11 (Zg (r:=f2 j+(((mf k) j)*(s.X k)))))<|(zDw 12 (xix (kk:=j) Zb hv1))<|zde 13 (xso 4 pl_3 hS (ZA _ _ _)) ?_;clear hS;rintro w hS
   refine⟨⟨fun h=>absurd h (by decide),hS.pk [0,1,2,3]⟩,?_⟩
   refine zdd<|zbn<|ztn<|zrg ?_
   refine(zV (Zg (r:=j+1)))<|(zP)<|zln<|zlq ⟨(upd f2 j (f2 j+(((mf k) j)*(s.X k)))),j+1,rfl,Oa,Oa,?_,rfl,hS⟩
   ·
    intro q q0 q1;unfold upd;by_cases e:q=j
    · rw [if_pos e,if_pos Oa,e,XG hk0];omega
    · rw [if_neg e,hf2 q q0 q1];by_cases e2:q<j
      · rw [if_pos e2,if_pos Oa]
      · rw [if_neg e2,if_neg Oa]
  refine zxt<|ztx<|ztx<|zbh<|zbn<|ztn<|zrg<|(zV (Zg (r:=k+1)))<|(zP)<|zln<|zlq ⟨f2,k+1,rfl,Oa,Oa,?_,?_,rfl,hS⟩
  ·
   intro i i0 i1;rcases Int.lt_or_eq_of_le (show i<=k by omega) with h9|h9
   · exact qa i i0 h9
   · rw [h9];exact⟨hpk,Oa⟩
  ·
   intro q q0 q1;rw [hf2 q q0 q1,if_pos Oa]
 refine zx18<|(zP)<|(zV (xln Zb hv1))<|(zP)<|zx6<|zlp (fun mm M w=>∃(i:Int),mm=((p.m-i).toNat)/\(0<=i)/\(i<=p.m)/\(∀j,0<=j->j<i->p.D j*s.den<=f j)/\M= [(2,Or g1),(5,Or g3),(88,v1),(89,.int Oi p.m),(90,.int Oi i)]/\Sat w0 w [.blk g1 [vL,vD,.int Oi p.stock,.int Oi p.kerf],.blk g2 [vM,vX,vY,.int Oi s.val,.int Oi s.den],.blk g3 [vX,vY,.int Oi s.val,.int Oi s.den],.blk g4 [.int Oi cw,.int Oi cu],.own v1 1 3 p.m (ints f)]) ⟨0,rfl,Oa,Oa,?_,rfl,hS⟩ ?_
 ·
  intro j j0 j1;omega
 clear hS w
 rintro mm M w ⟨i,rfl,hi0,hi1,hge,rfl,hS⟩
 refine zsr<|(zP)<|zx7<|Zf ?_ ?_<;>intro hc
 ·
  refine zx3<|(zP)<|(zV (xix (kk:=i) Zb hv1))<|zlv (xlr (u:= .int Oi (f i)) pl_3 (hS.rowN 4 rfl)) ?_
  have hdd:=TJ hok hi0 (by omega:i<p.m)
  have hdm:=WI hdd.1 hdd.2 (show 0<=s.den by omega) d2
  refine(On)<|zx7<|zdst [0,1,2,3,4] [0,1,2,3,4] 1000 mx_ hS ?_;clear hS;intro w hS
  refine(zDw 0 xmv)<|(zDw 1 (xfb 1 fd_27_1))<|(zDl 2 (fun w hS=>(xlb 0 pl_22 hS)))<|(zDw 3 xmv)<|(zDw 4 (xix (kk:=i) Zb h.D.slh))<|YB 5 (fun w hS=>(xlr (u:= .int Oi (p.D i)) pl_3 (h.D.below hS.below))) ?_
  have hbv:=h.iD i
  refine(zDw 6 (xfb 3 fd_54_3))<|(zDl 7 (fun w hS=>(xlb 2 pl_3 hS)))<|(zDw 8 (Yf (r:=((p.D i)*s.den)) (e:=rfl)))<|(zDw 9 Z9)<|zdd<|ztn ?_
  refine Zf ?_ ?_<;>intro hc
  ·
   refine zsr<|(zP)<|zx2<|Oj ?_
   refine⟨Zi ?_,hS.nl⟩
   rintro⟨g1,g2,g3,g4,g5⟩
   first
   |(rcases xI with⟨q1,_⟩|⟨_,_,_,q4⟩;exact absurd g1 q1;omega)
   |omega
   |(have h9:=g4 k hk0 Oa;first|exact absurd h9.1 ‹_›|(have:=h9.2;omega))
   |(have h9:=g5 i hi0 Oa;have h8:=hf i hi0 Oa;rw [show k=u by omega] at h8;omega)
  refine zx4<|(zV (Zg (r:=i+1)))<|(zP)<|zln<|zlq ⟨i+1,rfl,Oa,Oa,?_,rfl,hS⟩
  ·
   intro j j0 j1;rcases Int.lt_or_eq_of_le (show j<=i by omega) with h9|h9
   · exact hge j j0 h9
   · rw [h9];omega
 refine zx8<|(zP)<|zx1<|Oj ?_
 exact⟨YA ⟨hsd,Oa,Oa,fun k k0 k1=>qa k k0 Oa,fun j j0 j1=>by have h9:=hge j j0 Oa;have h8:=hf j j0 j1;rw [show k=u by omega] at h8;omega⟩,hS.nl⟩
 all_goals
  refine zOps ?_
  refine zlt<|zct<|zsr ?_
  refine zOps ?_
  refine zx14<|Oj ?_
  refine⟨Zi ?_,hS.nl⟩
  rintro⟨g1,g2,g3,g4,g5⟩
  first
  |(rcases xI with⟨q1,_⟩|⟨_,_,_,q4⟩;exact absurd g1 q1;omega)
  |omega
  |(have h9:=g4 k hk0 Oa;first|exact absurd h9.1 ‹_›|(have:=h9.2;omega))
  |(have h9:=g5 i hi0 Oa;have h8:=hf i hi0 Oa;rw [show k=u by omega] at h8;omega)
theorem Zmq:Zc Om 149=true:=Oc
theorem Zmp:Zc Om 150=true:=Oc
theorem Zga (s:So) (ml:Of) (mf:Og):∀n:Nat,∀k,0<=k->k<flN s n->∃q:Nat,q<n/\s.den<=s.X q/\flL s ml n k=ml q/\flG s mf n k=mf q/\flC s n k=(s.X q).tdiv s.den
 |0,k,k0,k1=>by simp [flN] at k1;omega
 | n + 1,k,k0,k1=>by
   simp only [flN,flL,flG,flC] at k1⊢
   by_cases h:s.den<=s.X n
   · rw [if_pos h] at k1⊢
     rw [if_pos h,if_pos h]
     by_cases e:k<flN s n
     · obtain⟨q,h1,h2,h3,h4,h5⟩:=Zga s ml mf n k k0 e
       exact⟨q,Oa,h2,by rw [Zv e];exact h3,by rw [Zv e];exact h4,by rw [Zt e];exact h5⟩
     · exact⟨n,Oa,h,ZF e,ZF e,Zu e⟩
   · rw [if_neg h] at k1⊢
     rw [if_neg h,if_neg h]
     obtain⟨q,h1,h2,h3,h4,h5⟩:=Zga s ml mf n k k0 k1
     exact⟨q,Oa,h2,h3,h4,h5⟩
def WholeR(p:Prob)(u:Int)(ml:Of)(mf:Og)(s:So)(n:Int)(ln:Of)(pt:Og)(cnt:Of)(e:Int):Prop:=
  (¬(p.Ok/\Ze4 p u ml mf s)/\n=0/\e=1)\/(p.Ok/\Ze4 p u ml mf s/\ZhQ p e/\e≠0/\n=0)\/
  (p.Ok/\Ze4 p u ml mf s/\ZhQ p 0/\e=0/\n=flN s u.toNat/\ln=flL s ml u.toNat/\pt=flG s mf u.toNat/\cnt=flC s u.toNat)
theorem WholeR.ok{p:Prob}{u n:Int}{ml ln cnt:Of}{mf pt:Og}{s:So}{e:Int}(h:WholeR p u ml mf s n ln pt cnt e)(he:e=0)(hu:0<=u):p.Ok/\Ze4 p u ml mf s/\psum (fun _=>1) p.D p.m.toNat<=1000/\n<=60/\PlanOk p n ln pt cnt/\0<=n:=by
 rcases h with⟨_,_,h⟩|⟨_,_,_,h,_⟩|⟨h1,h2,h3,_,h4,h5,h6,h7⟩
 · omega
 · exact absurd he h
 · have hr:=K9 s u.toNat
   have hu6:=h2.2.2.1
   refine⟨h1,h2,?_,Oa,⟨h1,Oa,fun k k0 k1=> ?_⟩,Oa⟩
   · rcases h3 with⟨h,_⟩|⟨_,_,h⟩|⟨_,h,_⟩
     · exact absurd h1 h
     · omega
     · exact h
   · rw [h4] at k1
     obtain⟨q,q1,q2,q3,q4,q5⟩:=Zga s ml mf u.toNat k k0 k1
     rw [h5,h6,h7,q3,q4,q5]
     obtain⟨g1,g2⟩:=h2.2.2.2.1 q Oa Oa
     have hd:=h2.1.1
     refine⟨?_,g2,g1.1⟩
     rw [Int.tdiv_eq_ediv_of_nonneg Oa]
     exact(Int.le_ediv_iff_mul_le Oa).2 Oa
theorem ZfQ{p:Prob}(hok:p.Ok){f:Of}(hf:∀k,0<=k->k<p.m->0<=f k):(⟨p.m,p.L,p.d,Yu p f,p.stock,p.kerf⟩:Prob).Ok:=by
 refine⟨hok.m1,hok.m2,hok.d,hok.s1,hok.s2,hok.k1,hok.k2,fun i i0 i1=> ?_⟩
 have he:=hok.all i i0 i1
 have h1:=TJ hok i0 i1
 have h2:=hf i i0 i1
 unfold Prob.each at he⊢
 have e:Yu p f i=max 0 (p.D i-f i):=if_pos ⟨i0,i1⟩
 show _/\_
 dsimp only
 rw [e]
 omega
theorem Ui{p:Prob}(hok:p.Ok){f:Of}(hf:∀k,0<=k->k<p.m->0<=f k):∀n:Nat,(n:Int)<=p.m->psum (fun _=>1) (Yu p f) n<=psum (fun _=>1) p.D n
 |0,_=>Int.le_refl _
 | n+1,hn=>by
   have h1:=Ui hok hf n Oa
   have h2:=hf n Oa Oa
   have h3:=TJ hok (k:=(n:Int)) Oa Oa
   have e:Yu p f n=max 0 (p.D n-f n):=if_pos ⟨by omega,Oa⟩
   simp only [psum,e]
   omega
theorem ZdR{vL vD:Value}{p:Prob}{vM:Value}{u:Int}{mv:Int->Value}{ml:Of}{mf:Og}{vX vY:Value}{s:So}(w0:World)(h:PAt w0 vL vD p)(hM:MAt w0 vM u mv ml mf)(hX:Row w0 vX 1 s.n (ints s.X))(hY:Row w0 vY 1 s.m (ints s.Y))(xZ:s.n<=1000):
   Calls Om 77 [.agg #[vL,vD,.int Oi p.stock,.int Oi p.kerf],.agg #[vM,vX,vY,.int Oi s.val,.int Oi s.den]].toArray w0 fun e w=>∃v,e= .returned v/\∃r n pv ln pt cnt e,v= .tuple #[r,.int Oi e]/\WholeR p u ml mf s n ln pt cnt e/\Slh r n/\Sat w0 w [.own r 2 97 n (Ze pv cnt),.sem (Frame.rows 3 n pv ln pt)]:=by
 obtain⟨hm,hm1,hd,hd1,hs,hk⟩:=h.Oq
 have hu:=hM.row.slh.n0;have hu1:=hM.row.slh.n1;have hn:=hX.slh.n0;have hn1:=hX.slh.n1
 refine zenG Tryz.func77 Tryz.ntmps77 fun w hS=> ?_
 refine zsr<|zla (xbx (cs:= [_,_,_,_]) hS) ?_;rintro _ w ⟨g1,rfl,hS⟩
 refine zla (xbx (cs:= [_,_,_,_,_]) hS) ?_;rintro _ w ⟨g2,rfl,hS⟩
 refine(On)<|zx5<|(zV (xls 0 st_27 hS))<|zlc (xc0 XJ) (Z8 (p:=p) w (h.below hS.below)) ?_;rintro _ w ⟨rfl,hS'⟩
 replace hS:=hS.cmp hS';clear hS'
 refine(On)<|zlb 12 ?_ ?_<;>intro hc
 ·
  iterate 4 refine zlo ?_
  refine(zP)<|zlt<|zct<|zsr ?_
  refine(On)<|zx14<|zf2 ⟨_,rfl,?_⟩
  exact⟨_,0,fun _=>undef,fun _=>0,fun _ _=>0,fun _=>0,1,rfl,.inl ⟨by first|exact fun hh=>absurd hh.1 ‹¬p.Ok›|exact fun hh=>absurd hh.2 ‹_›,rfl,rfl⟩,slh_nil,((hS.sub (.cons _ (.cons _ .slnil))).addnil 2 97 (Ze (fun _=>undef) (fun _=>0))).addrows 3 (fun _=>undef) (fun _=>0) (fun _ _=>0)⟩
 refine(zV (xls 0 st_27 hS))<|(zV (xls 1 X1 hS))<|zlc (xc0 Zmq) (ZeW (p:=p) (u:=u) (ml:=ml) (mf:=mf) (s:=s) w (h.below hS.below) Oe (hM.below hS.below) (hX.below hS.below) (hY.below hS.below) xZ) ?_;rintro _ w ⟨rfl,hS'⟩
 replace hS:=hS.cmp hS';clear hS'
 refine(On)<|zlt<|Zf ?_ ?_<;>intro hc
 ·
  refine zsr<|(On)<|zx14<|zf2 ⟨_,rfl,?_⟩
  exact⟨_,0,fun _=>undef,fun _=>0,fun _ _=>0,fun _=>0,1,rfl,.inl ⟨by first|exact fun hh=>absurd hh.1 ‹¬p.Ok›|exact fun hh=>absurd hh.2 ‹_›,rfl,rfl⟩,slh_nil,((hS.sub (.cons _ (.cons _ .slnil))).addnil 2 97 (Ze (fun _=>undef) (fun _=>0))).addrows 3 (fun _=>undef) (fun _=>0) (fun _ _=>0)⟩
 refine zsk<|ztn<|zsq<|zsr<|(zV (xls 0 st_27 hS))<|zlc (xc0 Zj1) (ZdW (p:=p) w (h.below hS.below)) ?_;rintro _ w ⟨dw,rfl,ae,hS'⟩
 replace hS:=hS.cmp hS';clear hS'
 have qY:p.Ok:=by first|assumption|exact Od ‹_›
 have xg:Ze4 p u ml mf s:=by first|assumption|exact Od ‹_›
 have xM:=qY
 refine(zP)<|zlz<|(On)<|zlt<|Zf ?_ ?_<;>intro hc
 ·
  refine zsr<|(Oo)<|zx14<|zf2 ⟨_,rfl,?_⟩
  exact⟨_,0,fun _=>undef,fun _=>0,fun _ _=>0,fun _=>0,_,rfl,.inr (.inl ⟨qY,xg,ae,Oa,rfl⟩),slh_nil,((hS.sub (.cons _ (.cons _ .slnil))).addnil 2 97 (Ze (fun _=>undef) (fun _=>0))).addrows 3 (fun _=>undef) (fun _=>0) (fun _ _=>0)⟩
 refine ZY<|zlv (xfb 0 UY) ?_
 have hml:=fun k k0 k1=>(show ml k<=100000 by have:=(VH (xg.2.2.2.1 k k0 k1).1).1;have:=qY.m2;omega)
 have hun:=xg.2.1
 refine(zV (xlb 1 ZK hS))<|(zV (xfb 1 fd_56_1))<|(zV (xlp 1 (ds:= [vX,vY,.int Oi s.val,.int Oi s.den]) ZV hS))<|zlc (xc0 Zmp) (ZeV (u:=u) (ml:=ml) (mf:=mf) (s:=s) w (hM.below hS.below) (hX.below hS.below) (hY.below hS.below) Oa (fun k k0 k1=>by have:=hml k k0 k1;omega)) ?_;rintro _ w ⟨jx,fp,j8,j9,ka,kc,kb,rfl,dh,cF,hS'⟩
 replace hS:=(hS.comp hS').n4;clear hS'
 have gK:=fun k (k0:0<=k) (k1:k<fp)=>hS.slhIn 3 rfl k0 k1
 refine zs5 ?_
 refine zlz<|(Oo)<|zx1<|zf2 ⟨_,rfl,?_⟩
 have hfl:=dh.resolve_left fun hh=>hh.1 ⟨xg.1,xg.2.1.symm⟩
 exact⟨_,_,_,_,_,_,0,rfl,.inr (.inr ⟨qY,xg,(by rw [show(0:Int)=dw by omega];exact ae),rfl,hfl.2.2.1,hfl.2.2.2.1,hfl.2.2.2.2.1,hfl.2.2.2.2.2.1⟩),cF,hS.pk [2,3]⟩
end Go.Proofs.YtpnamgfdakfccaaGreat
