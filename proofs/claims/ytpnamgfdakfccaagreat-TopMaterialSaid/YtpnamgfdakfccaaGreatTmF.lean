import Derived.Test.YtpnamgfdakfccaaGreatTmE
set_option linter.unusedVariables false
set_option linter.unusedSimpArgs false
set_option maxRecDepth 20000
set_option maxHeartbeats 4000000
namespace Go.Proofs.YtpnamgfdakfccaaGreat
open Go Go.RowKit Go.Proofs.Gw
theorem Rh:Zd Om 279=true:=Oc
theorem Ux:ZG Om 339=true:=Oc
theorem Zj6 {vL vD:Value} {p:Prob} (hp:p.Ok) {wi:Int} {St Tt:Type} (qc:St->List (Of)) (Inv:St->Prop) (Stp:Tt->Prop) (t0:Tt) {g2 g3 g5 g6:Nat} {vl:Value} (hvl:Slh vl (p.m+1)) {lq:Nat} {C:St->Gw.Frame} {D:Tt->Gw.Frame} (N:Nat):∀{F:Gw.Frame} {s:St} {ga gy gv:Nat} {va:Value} {a:Of} {i l need:Int} {pre post:List (Of)} (w0 w:World) (hS:Sat w0 w [.sem (C s),.blk g2 [vL,vD,.int Oi p.stock,.int Oi p.kerf],.blk g3 [.int Oi wi],.blk g5 [.int Oi p.m],.blk g6 [vl],.own vl 1 3 (p.m+1) (ints (Xz p)),.blk ga [va],.own va 1 3 p.m (ints a),.blk gy [.func (.yield lq) #[] #[]],.blk gv [.func (.func 279) #[] #[Or g6,Or g5,Or ga,Or gy,Or g3,Or g2,Or gv]],.sem F]) (h:PAt w0 vL vD p) (hva:Slh va p.m) (h0:0<=i) (h1:i<=p.m) (hx:Pfx p i a l) (hn:NeedP p a i need) (hI:Inv s) (hh:qc s=pre) (hM:MX p wi=pre++(exI p wi i a l++post)) (hY:∀(s:St) (x:BX) (rest:Gw.Frame) (w:World),(fun(s:St) (x:BX) (rest:Gw.Frame)=>Inv s/\Slh x.v x.n/\x.n=p.m/\∃r,MX p wi=qc s++x.f::r) s x rest->Sat w0 w (.sem (C s)::([.blk g2 [vL,vD,.int Oi p.stock,.int Oi p.kerf],.blk g3 [.int Oi wi],.blk g5 [.int Oi p.m],.blk g6 [vl],.own vl 1 3 (p.m+1) (ints (Xz p))]++((fun(x:BX)=> [.own x.v 1 3 x.n (ints x.f)]) x++ [.sem rest])))->Yld Om lq [x.v] w fun v w'=>(v= .bool true/\∃s',(fun(s:St) (x:BX) (s1:St)=>qc s1=qc s++ [x.f]/\Inv s1) s x s'/\Sat w0 w' (.sem (C s')::([.blk g2 [vL,vD,.int Oi p.stock,.int Oi p.kerf],.blk g3 [.int Oi wi],.blk g5 [.int Oi p.m],.blk g6 [vl],.own vl 1 3 (p.m+1) (ints (Xz p))]++ [.sem rest])))\/(v= .bool false/\∃t,Stp t/\Sat w0 w' (.sem (D t)::([.blk g2 [vL,vD,.int Oi p.stock,.int Oi p.kerf],.blk g3 [.int Oi wi],.blk g5 [.int Oi p.m],.blk g6 [vl],.own vl 1 3 (p.m+1) (ints (Xz p))]++ [.sem rest])))) (hN:(p.m-i).toNat<N),
   Calls Om 279 [.int Oi i,.int Oi l,.int Oi need,Or g6,Or g5,Or ga,Or gy,Or g3,Or g2,Or gv].toArray w fun e w=>∃v,e= .returned v/\∃(ok:Prop) (s2:St) (t2:Tt) (a2:Of),v=B ok/\(ok->a2=a/\Inv s2/\qc s2=pre++exI p wi i a l)/\(¬ok->Stp t2)/\Sat w0 w [.sem (Frame.cd ok (C s2) (D t2)),.blk g2 [vL,vD,.int Oi p.stock,.int Oi p.kerf],.blk g3 [.int Oi wi],.blk g5 [.int Oi p.m],.blk g6 [vl],.own vl 1 3 (p.m+1) (ints (Xz p)),.blk ga [va],.own va 1 3 p.m (ints a2),.blk gy [.func (.yield lq) #[] #[]],.blk gv [.func (.func 279) #[] #[Or g6,Or g5,Or ga,Or gy,Or g3,Or g2,Or gv]],.sem F]:=by
 induction N with
 |zero=>intros;omega
 | succ N ih=>
   intro F s ga gy gv va a i l need pre post w0 w hS h hva h0 h1 hx hn hI hh hM hY hN
   have hm:=h.L.slh.n0;have hm1:=h.L.slh.n1;have hdn:=h.D.slh.n0;have jB:=h.D.slh.n1;have hs:=h.is;have hk:=h.ik
   have hpm:=hp.m1;have xb:=hp.m2;have hpd:=hp.d;have hs1:=hp.s1;have hs2:=hp.s2;have hk1:=hp.k1;have hk2:=hp.k2
   have hlx:=Zlr hp hx h0 h1;have hl0:=hx.l0;have hLn:=Zbe hp h0;have hnt:=hn.top
   refine ZgQ Tryz.func279 Tryz.ntmps279 ?_
   refine hsq<|hrz ?_
   refine(zP)<|zln<|zh<|htn<|hsq<|hsq<|hrz ?_
   refine(zP)<|(zV (xlb 4 pl_22 hS))<|(zP)<|(zV (xix (kk:=i) Zb hvl))<|(zV (xlr (u:= .int Oi (Xz p i)) pl_3 (hS.rowN 5 rfl)))<|(zV (Zp (r:=l-(Xz p i))))<|(On)<|zln<|zh<|htn ?_
   refine Y0 ?_ ?_<;>intro hc
   ·
    refine hsq<|hrz ?_
    refine(zP)<|zln<|zh<|htn<|hrt<|ztr<|Oj ?_
    exact⟨True,s,t0,a,(ZQ trivial).symm,fun _=>⟨rfl,hI,by first|rw [ZdY hp h0 h1 hx hn Oa,hh,List.append_nil]|rw [Tg Oa ‹_›,hh,List.append_nil]⟩,fun hq=>absurd trivial hq,by rw [Y9 trivial];exact hS.pk [0,1,2,3,4,5,6,7,8,9,10]⟩
   refine hsk<|htn<|hsq<|hsq<|hrz ?_
   refine(zP)<|(zV (xlb 3 pl_3 hS))<|(zP)<|zln<|zh<|htn ?_
   refine Y0 ?_ ?_<;>intro hc
   ·
    refine hsq<|hrz ?_
    refine(zV (xlb 6 pl_22 hS))<|zlc (xc0 U2) (Zn5 (n:=p.m) (f:=a) w (hS.rowN 7 rfl)) ?_;rintro _ w ⟨rfl,hS'⟩
    replace hS:=hS.cmp hS';clear hS'
    refine(On)<|zlb 14 ?_ ?_<;>intro hc
    ·
     refine zln<|zh<|htn<|hsq ?_
     refine hdr 8 mx_ hS ?_;clear hS;intro w hS
     refine hd1 0 ?_
     refine hov xmv ?_
     refine hd1 1 ?_
     refine hov xmv ?_
     refine hd2 2 3 ?_ ?_
     ·
      refine hof ?_
      refine hd1 3 ?_
      refine hof ?_
      refine hd1 4 ?_
      refine hof ?_
      refine hd1 5 ?_
      refine hof ?_
      refine hd1 6 ?_
      refine hov xpt ?_
      refine hd1 7 ?_
      refine hov xas ?_
      refine hd0<|htn<|hrt<|ztr<|Oj ?_
      exact⟨True,s,t0,a,(ZQ trivial).symm,fun _=>⟨rfl,hI,by first|rw [ZdY hp h0 h1 hx hn Oa,hh,List.append_nil]|rw [Tg Oa ‹_›,hh,List.append_nil]⟩,fun hq=>absurd trivial hq,by rw [Y9 trivial];exact hS.pk [0,1,2,3,4,5,6,7,8,9,10]⟩
     ·
      refine hof ?_
      refine hd2 2 4 ?_ ?_
      ·
       refine hof ?_
       refine hd1 4 ?_
       refine hof ?_
       refine hd1 5 ?_
       refine hof ?_
       refine hd1 6 ?_
       refine hov xpt ?_
       refine hd1 7 ?_
       refine hov xas ?_
       refine hd0<|htn<|hrt<|ztr<|Oj ?_
       exact⟨True,s,t0,a,(ZQ trivial).symm,fun _=>⟨rfl,hI,by first|rw [ZdY hp h0 h1 hx hn Oa,hh,List.append_nil]|rw [Tg Oa ‹_›,hh,List.append_nil]⟩,fun hq=>absurd trivial hq,by rw [Y9 trivial];exact hS.pk [0,1,2,3,4,5,6,7,8,9,10]⟩
      ·
       refine hof ?_
       refine hd1 2 ?_
       refine hof ?_
       refine hd1 5 ?_
       refine hof ?_
       refine hd1 6 ?_
       refine hov xpt ?_
       refine hd1 7 ?_
       refine hov xas ?_
       refine hd0<|htn<|hrt<|ztr<|Oj ?_
       exact⟨True,s,t0,a,(ZQ trivial).symm,fun _=>⟨rfl,hI,by first|rw [ZdY hp h0 h1 hx hn Oa,hh,List.append_nil]|rw [Tg Oa ‹_›,hh,List.append_nil]⟩,fun hq=>absurd trivial hq,by rw [Y9 trivial];exact hS.pk [0,1,2,3,4,5,6,7,8,9,10]⟩
    refine zln<|zh<|htn<|hsq ?_
    refine hdr 8 mx_ hS ?_;clear hS;intro w hS
    refine hd1 0 ?_
    refine hov xmv ?_
    refine hd1 1 ?_
    refine hov xmv ?_
    refine hd2 2 3 ?_ ?_
    ·
     refine hov (xlb 8 pl_241 hS) ?_
     refine hd1 3 ?_
     refine hov (xlb 6 pl_22 hS) ?_
     refine hd1 4 ?_
     refine hoc (xc0 cl_66) (c_clone (n:=p.m) (f:=a) w (hS.rowN 7 rfl) Oa) ?_;rintro vq1 w ⟨_,rfl,qb,hS'⟩
     replace hS:=(hS.comp hS').n12;clear hS'
     refine hd1 5 ?_
     replace hS:=hS.pk [0,1,2,3,4,5,11,6,7,8,9,10]
     refine hoy (hY s ⟨vq1,p.m,a⟩ _ w ⟨hI,qb,rfl,post,by rw [hM,Wg Oa hn (by rw [LatI_end Oa] at*;omega) (Od ‹_›),hh];rfl⟩ (Sat.bundle (l1:= [_,_,_,_,_,_,_]) hS)) ?_;rintro _ w (⟨rfl,sy1,qw,hS⟩|⟨rfl,ty1,xh,hS⟩)
     ·
      replace hS:=Sat.unbundle (l1:= [_,_,_,_,_,_]) (l3:= []) hS
      refine hd1 6 ?_
      refine hov xpf ?_
      refine hd1 7 ?_
      refine hov xas ?_
      refine hd0<|htn<|hrt<|ztr<|Oj ?_
      exact⟨True,sy1,t0,a,(ZQ trivial).symm,fun _=>⟨rfl,qw.2,by rw [Wg Oa hn (by rw [LatI_end Oa] at*;omega) (Od ‹_›),qw.1,hh]⟩,fun hq=>absurd trivial hq,by rw [Y9 trivial];exact hS.pk [0,1,2,3,4,5,6,7,8,9,10]⟩
     ·
      replace hS:=Sat.unbundle (l1:= [_,_,_,_,_,_]) (l3:= []) hS
      refine hd1 6 ?_
      refine hov xpf ?_
      refine hd1 7 ?_
      refine hov xas ?_
      refine hd0<|htn<|hrt<|ztr<|Oj ?_
      exact⟨False,s,ty1,a,(ZA not_false).symm,fun hq=>hq.elim,fun _=>xh,by rw [WH not_false];exact hS.pk [0,1,2,3,4,5,6,7,8,9,10]⟩
    ·
     refine hov (xlb 6 pl_22 hS) ?_
     refine hd2 2 4 ?_ ?_
     ·
      refine hov (xlb 8 pl_241 hS) ?_
      refine hd1 4 ?_
      refine hoc (xc0 cl_66) (c_clone (n:=p.m) (f:=a) w (hS.rowN 7 rfl) Oa) ?_;rintro vq1 w ⟨_,rfl,qb,hS'⟩
      replace hS:=(hS.comp hS').n12;clear hS'
      refine hd1 5 ?_
      replace hS:=hS.pk [0,1,2,3,4,5,11,6,7,8,9,10]
      refine hoy (hY s ⟨vq1,p.m,a⟩ _ w ⟨hI,qb,rfl,post,by rw [hM,Wg Oa hn (by rw [LatI_end Oa] at*;omega) (Od ‹_›),hh];rfl⟩ (Sat.bundle (l1:= [_,_,_,_,_,_,_]) hS)) ?_;rintro _ w (⟨rfl,sy1,qw,hS⟩|⟨rfl,ty1,xh,hS⟩)
      ·
       replace hS:=Sat.unbundle (l1:= [_,_,_,_,_,_]) (l3:= []) hS
       refine hd1 6 ?_
       refine hov xpf ?_
       refine hd1 7 ?_
       refine hov xas ?_
       refine hd0<|htn<|hrt<|ztr<|Oj ?_
       exact⟨True,sy1,t0,a,(ZQ trivial).symm,fun _=>⟨rfl,qw.2,by rw [Wg Oa hn (by rw [LatI_end Oa] at*;omega) (Od ‹_›),qw.1,hh]⟩,fun hq=>absurd trivial hq,by rw [Y9 trivial];exact hS.pk [0,1,2,3,4,5,6,7,8,9,10]⟩
      ·
       replace hS:=Sat.unbundle (l1:= [_,_,_,_,_,_]) (l3:= []) hS
       refine hd1 6 ?_
       refine hov xpf ?_
       refine hd1 7 ?_
       refine hov xas ?_
       refine hd0<|htn<|hrt<|ztr<|Oj ?_
       exact⟨False,s,ty1,a,(ZA not_false).symm,fun hq=>hq.elim,fun _=>xh,by rw [WH not_false];exact hS.pk [0,1,2,3,4,5,6,7,8,9,10]⟩
     ·
      refine hoc (xc0 cl_66) (c_clone (n:=p.m) (f:=a) w (hS.rowN 7 rfl) Oa) ?_;rintro vq1 w ⟨_,rfl,qb,hS'⟩
      replace hS:=(hS.comp hS').n12;clear hS'
      refine hd1 2 ?_
      refine hov (xlb 8 pl_241 hS) ?_
      refine hd1 5 ?_
      replace hS:=hS.pk [0,1,2,3,4,5,11,6,7,8,9,10]
      refine hoy (hY s ⟨vq1,p.m,a⟩ _ w ⟨hI,qb,rfl,post,by rw [hM,Wg Oa hn (by rw [LatI_end Oa] at*;omega) (Od ‹_›),hh];rfl⟩ (Sat.bundle (l1:= [_,_,_,_,_,_,_]) hS)) ?_;rintro _ w (⟨rfl,sy1,qw,hS⟩|⟨rfl,ty1,xh,hS⟩)
      ·
       replace hS:=Sat.unbundle (l1:= [_,_,_,_,_,_]) (l3:= []) hS
       refine hd1 6 ?_
       refine hov xpf ?_
       refine hd1 7 ?_
       refine hov xas ?_
       refine hd0<|htn<|hrt<|ztr<|Oj ?_
       exact⟨True,sy1,t0,a,(ZQ trivial).symm,fun _=>⟨rfl,qw.2,by rw [Wg Oa hn (by rw [LatI_end Oa] at*;omega) (Od ‹_›),qw.1,hh]⟩,fun hq=>absurd trivial hq,by rw [Y9 trivial];exact hS.pk [0,1,2,3,4,5,6,7,8,9,10]⟩
      ·
       replace hS:=Sat.unbundle (l1:= [_,_,_,_,_,_]) (l3:= []) hS
       refine hd1 6 ?_
       refine hov xpf ?_
       refine hd1 7 ?_
       refine hov xas ?_
       refine hd0<|htn<|hrt<|ztr<|Oj ?_
       exact⟨False,s,ty1,a,(ZA not_false).symm,fun hq=>hq.elim,fun _=>xh,by rw [WH not_false];exact hS.pk [0,1,2,3,4,5,6,7,8,9,10]⟩
   refine hsk<|htn<|hsq<|hrz ?_
   refine(zP)<|zln<|zh<|htn<|hsq<|hsq<|hrz ?_
   refine(zP)<|(zV (xlb 2 pl_3 hS))<|(zP)<|zln<|zh<|htn ?_
   refine Y0 ?_ ?_<;>intro hc
   ·
    refine hrz ?_
    refine(zP)<|zln<|zh<|htn<|hsq<|hsq ?_
    refine hdst [0,1,2,3,4,5,6,7,8,9,10] [0,1,2,3,4,5,6,7,8,9,10] 1000 mx_ hS ?_;clear hS;intro w hS
    refine(zDw 0 (xfb 1 fd_27_1))<|(zDl 1 (fun w hS=>(xlb 1 pl_22 hS)))<|(zDw 2 xmv)<|(zDw 3 (xix (kk:=i) Zb h.D.slh))<|YF 4 (fun w hS=>(xlr (u:= .int Oi (p.D i)) pl_3 (h.D.below hS.below))) ?_
    have hbv:=h.iD i
    have hei:=hp.all i h0 Oa;unfold Prob.each at hei
    have hqd:=YD (a:=l) (b:=p.L i+p.kerf) Oa Oa
    have hml:min (p.D i) (Int.tdiv l (p.L i+p.kerf))=most p i l:=rfl
    refine(zDw 5 xmv)<|(zDl 6 (fun w hS=>(xls 1 st_27 hS)))<|(zDw 7 xmv)<|zdc 8 (xc0 XO) (XR (p:=p) (i:=i) w (h.below hS.below) hp Oa Oa) ?_;rintro _ w ⟨rfl,hS'⟩
    replace hS:=hS.cmp hS';clear hS'
    refine⟨⟨fun _=>hS,hS⟩,?_⟩
    refine(zDw 9 (Uk (r:=(Int.tdiv l (p.L i+p.kerf)))))<|(zDw 10 (Rr (r:=(min (p.D i) (Int.tdiv l (p.L i+p.kerf))))))<|(zDw 11 xas)<|zdd<|zh<|htn<|hbk ?_
    have hlw:least wi i=1:=by unfold least;first|rw [if_pos Oa]|rw [if_neg Oa]
    rw [<-VJ (show a i=0 from hx.zero i Oa)] at hS
    refine hlp (fun mm M w=>∃(s2:St) (z:Int) (k:Int),mm=((k+1-least wi i).toNat)/\(least wi i-1<=k\/k=most p i l)/\(k<=most p i l)/\(Inv s2)/\(MX p wi=qc s2++(dn (kid p wi i a l) (least wi i) (k+1-least wi i).toNat++post))/\M= [(0,.int Oi i),(1,.int Oi l),(2,.int Oi need),(5,Or ga),(8,Or g2),(9,Or gv),(15,.int Oi 1),(16,.int Oi k)]/\Sat w0 w [.sem (C s2),.blk g2 [vL,vD,.int Oi p.stock,.int Oi p.kerf],.blk g3 [.int Oi wi],.blk g5 [.int Oi p.m],.blk g6 [vl],.own vl 1 3 (p.m+1) (ints (Xz p)),.blk ga [va],.own va 1 3 p.m (ints (upd a i z)),.blk gy [.func (.yield lq) #[] #[]],.blk gv [.func (.func 279) #[] #[Or g6,Or g5,Or ga,Or gy,Or g3,Or g2,Or gv]],.sem F]) ⟨s,0,(min (p.D i) (Int.tdiv l (p.L i+p.kerf))),rfl,Oa,Oa,?_,?_,rfl,hS⟩ ?_
    ·
     exact hI
    ·
     rw [hM,Wj h0 Oa,hh];rfl
    clear hS w
    rintro mm M w ⟨s2,z,k,rfl,k0,k1,hI2,hM2,rfl,hS⟩
    refine hsq<|hsq<|hrz ?_
    refine(Oo)<|zln<|zh<|htn ?_
    refine Y0 ?_ ?_<;>intro hc
    ·
     refine hsk<|htn<|hsq<|hbk<|hsq<|hrz ?_
     refine(On)<|zln<|zh<|htn<|hsq<|hsq<|hrz ?_
     refine(zP)<|(zV (xfb 1 fd_27_1))<|(zV (xlb 1 pl_22 hS))<|(zP)<|(zV (xix (kk:=i) Zb h.D.slh))<|zlv (xlr (u:= .int Oi (p.D i)) pl_3 (h.D.below hS.below)) ?_
     have hbv:=h.iD i
     refine(zP)<|zln<|zh<|htn ?_
     refine Y0 ?_ ?_<;>intro hc
     ·
      refine hrz ?_
      refine(zP)<|(zV (xls 1 st_27 hS))<|(zP)<|zlc (xc0 XO) (XR (p:=p) (i:=i) w (h.below hS.below) hp Oa Oa) ?_;rintro _ w ⟨rfl,hS'⟩
      replace hS:=hS.cmp hS';clear hS'
      refine(zV (Rr (r:=(min need (p.L i+p.kerf)))))<|(zP)<|zln<|zh<|htn<|hsq<|hrz ?_
      refine(zV (xlb 6 pl_22 hS))<|(On)<|(zV (xix (kk:=i) Zb hva))<|zle (xso 7 pl_3 hS (XA a i z k)) ?_;clear hS;rintro w hS
      refine zln<|zh<|htn<|hsq ?_
      refine hdst [1,2,3,4,6,8,9,5] [1,2,3,4,6,8,9,5] 1000 mx_ hS ?_;clear hS;intro w hS
      refine(zDl 0 (fun w hS=>(xlb 6 Ux hS)))<|(zDw 1 xmv)<|(zDw 2 (Zh (r:=i+1)))<|(zDw 3 xmv)<|(zDw 4 xmv)<|YF 5 (fun w hS=>(xls 0 st_27 hS)) ?_
      have hmm:=XK hp h0 Oa hx.l0 (k:=k) Oa Oa
      refine(zDw 6 xmv)<|(zDw 10 xmv)<|zdc 7 (xc0 XO) (XR (p:=p) (i:=i) w (h.below hS.below) hp Oa Oa) ?_;rintro _ w ⟨rfl,hS'⟩
      replace hS:=hS.cmp hS';clear hS'
      refine⟨⟨fun _=>hS.pk [1,2,3,4,6,8,9,5],hS.pk [1,2,3,4,6,8,9,5]⟩,?_⟩
      refine(zDw 8 (Yi (r:=(k*(p.L i+p.kerf))) (e:=rfl)))<|(zDw 9 (Zp (r:=l-(k*(p.L i+p.kerf)))))<|zdc 11 (xcc (vs:= [_,_,_]) Rh) (ih (s:=s2) (i:=i+1) (a:=upd a i k) (l:=l-k*(p.L i+p.kerf)) (need:=(min need (p.L i+p.kerf))) (pre:=qc s2) (post:=dn (kid p wi i a l) (least wi i) (k-least wi i).toNat++post) w0 w (Sat.bundle (l1:= [_,_,_,_,_,_,_,_,_,_]) (hS.pk [0,1,2,3,4,5,6,7,8,9,10])) h hva Oa Oa (hx.step hp h0 Oa Oa Oa) (hn.yes h0 Oa) hI2 rfl (by rw [hM2,U1 (k:=k) _ Oa,List.append_assoc];rfl) hY Oa) ?_;rintro _ w ⟨qU,sz1,tz1,zk,rfl,yL,yV,hS⟩
      replace hS:=Sat.unbundle (l1:= [_,_,_,_,_,_,_,_,_,_]) (l3:= []) hS
      refine⟨⟨fun _=>hS.pk [1,2,3,4,6,8,9,5],hS.pk [1,2,3,4,6,8,9,5]⟩,?_⟩
      refine(zDw 12 YI)<|zdd<|zh<|htn ?_
      refine Y0 ?_ ?_<;>intro hc
      ·
       refine hsq<|hrz ?_
       refine(zP)<|zln<|zh<|htn<|hrt<|zbr<|ztr<|ztr<|zbr<|ztr<|Oj ?_
       have yr:=Od (fun hh9=>hh9 ‹¬qU›)
       exact⟨False,s,tz1,zk,(ZA not_false).symm,fun hq=>hq.elim,fun _=>yV yr,by rw [WH not_false];rw [WH yr] at hS;exact hS.pk [0,1,2,3,4,5,6,7,8,9,10]⟩
      refine hsk<|zbn<|htn<|hrz ?_
      refine zlv xmv ?_
      obtain⟨rfl,xm,zE⟩:=yL (Od ‹¬¬qU›)
      rw [Y9 (Od ‹¬¬qU›)] at hS
      refine(zV (Zp (r:=k-1)))<|(zP)<|zln<|zh<|hlq ⟨sz1,k,k-1,rfl,Oa,Oa,?_,?_,rfl,hS⟩
      ·
       exact xm
      ·
       rw [zE,hM2,U1 (k:=k) _ Oa,show k-1+1-least wi i=k-least wi i by omega,List.append_assoc,List.append_assoc];rfl
     refine hsk<|htn<|hsq<|hrz ?_
     refine(zV (xlb 6 pl_22 hS))<|(On)<|(zV (xix (kk:=i) Zb hva))<|zle (xso 7 pl_3 hS (XA a i z k)) ?_;clear hS;rintro w hS
     refine zln<|zh<|htn<|hsq ?_
     refine hdst [1,2,3,4,6,8,9,5] [1,2,3,4,6,8,9,5] 1000 mx_ hS ?_;clear hS;intro w hS
     refine(zDl 0 (fun w hS=>(xlb 6 Ux hS)))<|(zDw 1 xmv)<|(zDw 2 (Zh (r:=i+1)))<|(zDw 3 xmv)<|(zDw 4 xmv)<|YF 5 (fun w hS=>(xls 0 st_27 hS)) ?_
     have hmm:=XK hp h0 Oa hx.l0 (k:=k) Oa Oa
     refine(zDw 6 xmv)<|(zDw 10 xmv)<|zdc 7 (xc0 XO) (XR (p:=p) (i:=i) w (h.below hS.below) hp Oa Oa) ?_;rintro _ w ⟨rfl,hS'⟩
     replace hS:=hS.cmp hS';clear hS'
     refine⟨⟨fun _=>hS.pk [1,2,3,4,6,8,9,5],hS.pk [1,2,3,4,6,8,9,5]⟩,?_⟩
     refine(zDw 8 (Yi (r:=(k*(p.L i+p.kerf))) (e:=rfl)))<|(zDw 9 (Zp (r:=l-(k*(p.L i+p.kerf)))))<|zdc 11 (xcc (vs:= [_,_,_]) Rh) (ih (s:=s2) (i:=i+1) (a:=upd a i k) (l:=l-k*(p.L i+p.kerf)) (need:=need) (pre:=qc s2) (post:=dn (kid p wi i a l) (least wi i) (k-least wi i).toNat++post) w0 w (Sat.bundle (l1:= [_,_,_,_,_,_,_,_,_,_]) (hS.pk [0,1,2,3,4,5,6,7,8,9,10])) h hva Oa Oa (hx.step hp h0 Oa Oa Oa) (hn.no h0 Oa) hI2 rfl (by rw [hM2,U1 (k:=k) _ Oa,List.append_assoc];rfl) hY Oa) ?_;rintro _ w ⟨qU,sz1,tz1,zk,rfl,yL,yV,hS⟩
     replace hS:=Sat.unbundle (l1:= [_,_,_,_,_,_,_,_,_,_]) (l3:= []) hS
     refine⟨⟨fun _=>hS.pk [1,2,3,4,6,8,9,5],hS.pk [1,2,3,4,6,8,9,5]⟩,?_⟩
     refine(zDw 12 YI)<|zdd<|zh<|htn ?_
     refine Y0 ?_ ?_<;>intro hc
     ·
      refine hsq<|hrz ?_
      refine(zP)<|zln<|zh<|htn<|hrt<|zbr<|ztr<|ztr<|zbr<|ztr<|Oj ?_
      have yr:=Od (fun hh9=>hh9 ‹¬qU›)
      exact⟨False,s,tz1,zk,(ZA not_false).symm,fun hq=>hq.elim,fun _=>yV yr,by rw [WH not_false];rw [WH yr] at hS;exact hS.pk [0,1,2,3,4,5,6,7,8,9,10]⟩
     refine hsk<|zbn<|htn<|hrz ?_
     refine zlv xmv ?_
     obtain⟨rfl,xm,zE⟩:=yL (Od ‹¬¬qU›)
     rw [Y9 (Od ‹¬¬qU›)] at hS
     refine(zV (Zp (r:=k-1)))<|(zP)<|zln<|zh<|hlq ⟨sz1,k,k-1,rfl,Oa,Oa,?_,?_,rfl,hS⟩
     ·
      exact xm
     ·
      rw [zE,hM2,U1 (k:=k) _ Oa,show k-1+1-least wi i=k-least wi i by omega,List.append_assoc,List.append_assoc];rfl
    refine hxt<|ztx<|ztx<|zbh<|htn<|hsq<|hrz ?_
    refine(zV (xlb 6 pl_22 hS))<|(zP)<|(zV (xix (kk:=i) Zb hva))<|zle (xso 7 pl_3 hS (XA a i z 0)) ?_;clear hS;rintro w hS
    refine zln<|zh<|htn<|hsq<|hrz ?_
    refine(zP)<|zln<|zh<|htn<|hrt<|Oj ?_
    rw [VJ (show a i=0 from hx.zero i Oa)] at hS
    have hk9:k+1-least wi i=0:=Oa
    rw [show(k+1-least wi i).toNat=0 by omega] at hM2
    exact⟨True,s2,t0,a,(ZQ trivial).symm,fun _=>⟨rfl,hI2,List.append_cancel_right (by rw [<-hM2,hM,List.append_assoc];rfl)⟩,fun hq=>absurd trivial hq,by rw [Y9 trivial];exact hS.pk [0,1,2,3,4,5,6,7,8,9,10]⟩
   refine hsk<|htn<|hsq<|hsq ?_
   refine hdst [0,1,2,3,4,5,6,7,8,9,10] [0,1,2,3,4,5,6,7,8,9,10] 1000 mx_ hS ?_;clear hS;intro w hS
   refine(zDw 0 (xfb 1 fd_27_1))<|(zDl 1 (fun w hS=>(xlb 1 pl_22 hS)))<|(zDw 2 xmv)<|(zDw 3 (xix (kk:=i) Zb h.D.slh))<|YF 4 (fun w hS=>(xlr (u:= .int Oi (p.D i)) pl_3 (h.D.below hS.below))) ?_
   have hbv:=h.iD i
   have hei:=hp.all i h0 Oa;unfold Prob.each at hei
   have hqd:=YD (a:=l) (b:=p.L i+p.kerf) Oa Oa
   have hml:min (p.D i) (Int.tdiv l (p.L i+p.kerf))=most p i l:=rfl
   refine(zDw 5 xmv)<|(zDl 6 (fun w hS=>(xls 1 st_27 hS)))<|(zDw 7 xmv)<|zdc 8 (xc0 XO) (XR (p:=p) (i:=i) w (h.below hS.below) hp Oa Oa) ?_;rintro _ w ⟨rfl,hS'⟩
   replace hS:=hS.cmp hS';clear hS'
   refine⟨⟨fun _=>hS,hS⟩,?_⟩
   refine(zDw 9 (Uk (r:=(Int.tdiv l (p.L i+p.kerf)))))<|(zDw 10 (Rr (r:=(min (p.D i) (Int.tdiv l (p.L i+p.kerf))))))<|(zDw 11 xas)<|zdd<|zh<|htn<|hbk ?_
   have hlw:least wi i=0:=by unfold least;first|rw [if_pos Oa]|rw [if_neg Oa]
   rw [<-VJ (show a i=0 from hx.zero i Oa)] at hS
   refine hlp (fun mm M w=>∃(s2:St) (z:Int) (k:Int),mm=((k+1-least wi i).toNat)/\(least wi i-1<=k\/k=most p i l)/\(k<=most p i l)/\(Inv s2)/\(MX p wi=qc s2++(dn (kid p wi i a l) (least wi i) (k+1-least wi i).toNat++post))/\M= [(0,.int Oi i),(1,.int Oi l),(2,.int Oi need),(5,Or ga),(8,Or g2),(9,Or gv),(15,.int Oi 0),(16,.int Oi k)]/\Sat w0 w [.sem (C s2),.blk g2 [vL,vD,.int Oi p.stock,.int Oi p.kerf],.blk g3 [.int Oi wi],.blk g5 [.int Oi p.m],.blk g6 [vl],.own vl 1 3 (p.m+1) (ints (Xz p)),.blk ga [va],.own va 1 3 p.m (ints (upd a i z)),.blk gy [.func (.yield lq) #[] #[]],.blk gv [.func (.func 279) #[] #[Or g6,Or g5,Or ga,Or gy,Or g3,Or g2,Or gv]],.sem F]) ⟨s,0,(min (p.D i) (Int.tdiv l (p.L i+p.kerf))),rfl,Oa,Oa,?_,?_,rfl,hS⟩ ?_
   ·
    exact hI
   ·
    rw [hM,Wj h0 Oa,hh];rfl
   clear hS w
   rintro mm M w ⟨s2,z,k,rfl,k0,k1,hI2,hM2,rfl,hS⟩
   refine hsq<|hsq<|hrz ?_
   refine(Oo)<|zln<|zh<|htn ?_
   refine Y0 ?_ ?_<;>intro hc
   ·
    refine hsk<|htn<|hsq<|hbk<|hsq<|hrz ?_
    refine(On)<|zln<|zh<|htn<|hsq<|hsq<|hrz ?_
    refine(zP)<|(zV (xfb 1 fd_27_1))<|(zV (xlb 1 pl_22 hS))<|(zP)<|(zV (xix (kk:=i) Zb h.D.slh))<|zlv (xlr (u:= .int Oi (p.D i)) pl_3 (h.D.below hS.below)) ?_
    have hbv:=h.iD i
    refine(zP)<|zln<|zh<|htn ?_
    refine Y0 ?_ ?_<;>intro hc
    ·
     refine hrz ?_
     refine(zP)<|(zV (xls 1 st_27 hS))<|(zP)<|zlc (xc0 XO) (XR (p:=p) (i:=i) w (h.below hS.below) hp Oa Oa) ?_;rintro _ w ⟨rfl,hS'⟩
     replace hS:=hS.cmp hS';clear hS'
     refine(zV (Rr (r:=(min need (p.L i+p.kerf)))))<|(zP)<|zln<|zh<|htn<|hsq<|hrz ?_
     refine(zV (xlb 6 pl_22 hS))<|(On)<|(zV (xix (kk:=i) Zb hva))<|zle (xso 7 pl_3 hS (XA a i z k)) ?_;clear hS;rintro w hS
     refine zln<|zh<|htn<|hsq ?_
     refine hdst [1,2,3,4,6,8,9,5] [1,2,3,4,6,8,9,5] 1000 mx_ hS ?_;clear hS;intro w hS
     refine(zDl 0 (fun w hS=>(xlb 6 Ux hS)))<|(zDw 1 xmv)<|(zDw 2 (Zh (r:=i+1)))<|(zDw 3 xmv)<|(zDw 4 xmv)<|YF 5 (fun w hS=>(xls 0 st_27 hS)) ?_
     have hmm:=XK hp h0 Oa hx.l0 (k:=k) Oa Oa
     refine(zDw 6 xmv)<|(zDw 10 xmv)<|zdc 7 (xc0 XO) (XR (p:=p) (i:=i) w (h.below hS.below) hp Oa Oa) ?_;rintro _ w ⟨rfl,hS'⟩
     replace hS:=hS.cmp hS';clear hS'
     refine⟨⟨fun _=>hS.pk [1,2,3,4,6,8,9,5],hS.pk [1,2,3,4,6,8,9,5]⟩,?_⟩
     refine(zDw 8 (Yi (r:=(k*(p.L i+p.kerf))) (e:=rfl)))<|(zDw 9 (Zp (r:=l-(k*(p.L i+p.kerf)))))<|zdc 11 (xcc (vs:= [_,_,_]) Rh) (ih (s:=s2) (i:=i+1) (a:=upd a i k) (l:=l-k*(p.L i+p.kerf)) (need:=(min need (p.L i+p.kerf))) (pre:=qc s2) (post:=dn (kid p wi i a l) (least wi i) (k-least wi i).toNat++post) w0 w (Sat.bundle (l1:= [_,_,_,_,_,_,_,_,_,_]) (hS.pk [0,1,2,3,4,5,6,7,8,9,10])) h hva Oa Oa (hx.step hp h0 Oa Oa Oa) (hn.yes h0 Oa) hI2 rfl (by rw [hM2,U1 (k:=k) _ Oa,List.append_assoc];rfl) hY Oa) ?_;rintro _ w ⟨qU,sz1,tz1,zk,rfl,yL,yV,hS⟩
     replace hS:=Sat.unbundle (l1:= [_,_,_,_,_,_,_,_,_,_]) (l3:= []) hS
     refine⟨⟨fun _=>hS.pk [1,2,3,4,6,8,9,5],hS.pk [1,2,3,4,6,8,9,5]⟩,?_⟩
     refine(zDw 12 YI)<|zdd<|zh<|htn ?_
     refine Y0 ?_ ?_<;>intro hc
     ·
      refine hsq<|hrz ?_
      refine(zP)<|zln<|zh<|htn<|hrt<|zbr<|ztr<|ztr<|zbr<|ztr<|Oj ?_
      have yr:=Od (fun hh9=>hh9 ‹¬qU›)
      exact⟨False,s,tz1,zk,(ZA not_false).symm,fun hq=>hq.elim,fun _=>yV yr,by rw [WH not_false];rw [WH yr] at hS;exact hS.pk [0,1,2,3,4,5,6,7,8,9,10]⟩
     refine hsk<|zbn<|htn<|hrz ?_
     refine zlv xmv ?_
     obtain⟨rfl,xm,zE⟩:=yL (Od ‹¬¬qU›)
     rw [Y9 (Od ‹¬¬qU›)] at hS
     refine(zV (Zp (r:=k-1)))<|(zP)<|zln<|zh<|hlq ⟨sz1,k,k-1,rfl,Oa,Oa,?_,?_,rfl,hS⟩
     ·
      exact xm
     ·
      rw [zE,hM2,U1 (k:=k) _ Oa,show k-1+1-least wi i=k-least wi i by omega,List.append_assoc,List.append_assoc];rfl
    refine hsk<|htn<|hsq<|hrz ?_
    refine(zV (xlb 6 pl_22 hS))<|(On)<|(zV (xix (kk:=i) Zb hva))<|zle (xso 7 pl_3 hS (XA a i z k)) ?_;clear hS;rintro w hS
    refine zln<|zh<|htn<|hsq ?_
    refine hdst [1,2,3,4,6,8,9,5] [1,2,3,4,6,8,9,5] 1000 mx_ hS ?_;clear hS;intro w hS
    refine(zDl 0 (fun w hS=>(xlb 6 Ux hS)))<|(zDw 1 xmv)<|(zDw 2 (Zh (r:=i+1)))<|(zDw 3 xmv)<|(zDw 4 xmv)<|YF 5 (fun w hS=>(xls 0 st_27 hS)) ?_
    have hmm:=XK hp h0 Oa hx.l0 (k:=k) Oa Oa
    refine(zDw 6 xmv)<|(zDw 10 xmv)<|zdc 7 (xc0 XO) (XR (p:=p) (i:=i) w (h.below hS.below) hp Oa Oa) ?_;rintro _ w ⟨rfl,hS'⟩
    replace hS:=hS.cmp hS';clear hS'
    refine⟨⟨fun _=>hS.pk [1,2,3,4,6,8,9,5],hS.pk [1,2,3,4,6,8,9,5]⟩,?_⟩
    refine(zDw 8 (Yi (r:=(k*(p.L i+p.kerf))) (e:=rfl)))<|(zDw 9 (Zp (r:=l-(k*(p.L i+p.kerf)))))<|zdc 11 (xcc (vs:= [_,_,_]) Rh) (ih (s:=s2) (i:=i+1) (a:=upd a i k) (l:=l-k*(p.L i+p.kerf)) (need:=need) (pre:=qc s2) (post:=dn (kid p wi i a l) (least wi i) (k-least wi i).toNat++post) w0 w (Sat.bundle (l1:= [_,_,_,_,_,_,_,_,_,_]) (hS.pk [0,1,2,3,4,5,6,7,8,9,10])) h hva Oa Oa (hx.step hp h0 Oa Oa Oa) (hn.no h0 Oa) hI2 rfl (by rw [hM2,U1 (k:=k) _ Oa,List.append_assoc];rfl) hY Oa) ?_;rintro _ w ⟨qU,sz1,tz1,zk,rfl,yL,yV,hS⟩
    replace hS:=Sat.unbundle (l1:= [_,_,_,_,_,_,_,_,_,_]) (l3:= []) hS
    refine⟨⟨fun _=>hS.pk [1,2,3,4,6,8,9,5],hS.pk [1,2,3,4,6,8,9,5]⟩,?_⟩
    refine(zDw 12 YI)<|zdd<|zh<|htn ?_
    refine Y0 ?_ ?_<;>intro hc
    ·
     refine hsq<|hrz ?_
     refine(zP)<|zln<|zh<|htn<|hrt<|zbr<|ztr<|ztr<|zbr<|ztr<|Oj ?_
     have yr:=Od (fun hh9=>hh9 ‹¬qU›)
     exact⟨False,s,tz1,zk,(ZA not_false).symm,fun hq=>hq.elim,fun _=>yV yr,by rw [WH not_false];rw [WH yr] at hS;exact hS.pk [0,1,2,3,4,5,6,7,8,9,10]⟩
    refine hsk<|zbn<|htn<|hrz ?_
    refine zlv xmv ?_
    obtain⟨rfl,xm,zE⟩:=yL (Od ‹¬¬qU›)
    rw [Y9 (Od ‹¬¬qU›)] at hS
    refine(zV (Zp (r:=k-1)))<|(zP)<|zln<|zh<|hlq ⟨sz1,k,k-1,rfl,Oa,Oa,?_,?_,rfl,hS⟩
    ·
     exact xm
    ·
     rw [zE,hM2,U1 (k:=k) _ Oa,show k-1+1-least wi i=k-least wi i by omega,List.append_assoc,List.append_assoc];rfl
   refine hxt<|ztx<|ztx<|zbh<|htn<|hsq<|hrz ?_
   refine(zV (xlb 6 pl_22 hS))<|(zP)<|(zV (xix (kk:=i) Zb hva))<|zle (xso 7 pl_3 hS (XA a i z 0)) ?_;clear hS;rintro w hS
   refine zln<|zh<|htn<|hsq<|hrz ?_
   refine(zP)<|zln<|zh<|htn<|hrt<|Oj ?_
   rw [VJ (show a i=0 from hx.zero i Oa)] at hS
   have hk9:k+1-least wi i=0:=Oa
   rw [show(k+1-least wi i).toNat=0 by omega] at hM2
   exact⟨True,s2,t0,a,(ZQ trivial).symm,fun _=>⟨rfl,hI2,List.append_cancel_right (by rw [<-hM2,hM,List.append_assoc];rfl)⟩,fun hq=>absurd trivial hq,by rw [Y9 trivial];exact hS.pk [0,1,2,3,4,5,6,7,8,9,10]⟩
theorem Zmh:ZN Om 339=some (.nilFunc,1,8):=Oc
theorem ZnN{vL vD:Value}{p:Prob}{wi:Int}{St Tt:Type}(qc:St->List (Of))(Inv:St->Prop)(Stp:Tt->Prop)(t0:Tt)(s0:St)(hs0:qc s0= [])(hI0:Inv s0){g2 g3 g5 g6:Nat}{vl:Value}(w0:World)(hvl:Slh vl (p.m+1))(hp:p.Ok)(h:PAt w0 vL vD p):ItG (St:=St) (X:=BX) (Tt:=Tt) Om w0 278 [Or g5,Or g6,Or g3,Or g2] [.blk g2 [vL,vD,.int Oi p.stock,.int Oi p.kerf],.blk g3 [.int Oi wi],.blk g5 [.int Oi p.m],.blk g6 [vl],.own vl 1 3 (p.m+1) (ints (Xz p))] (fun x=> [x.v]) (fun x=> [.own x.v 1 3 x.n (ints x.f)]) (fun(s:St) (x:BX) (rest:Gw.Frame)=>Inv s/\Slh x.v x.n/\x.n=p.m/\∃r,MX p wi=qc s++x.f::r) (fun(s:St) (x:BX) (s1:St)=>qc s1=qc s++ [x.f]/\Inv s1) (fun _ _ t=>Stp t) (s0) (fun s rest=>Inv s/\qc s=MX p wi) (fun t _=>Stp t):=by
 intro l C D w hS hY
 have hm:=h.L.slh.n0;have hm1:=h.L.slh.n1;have hdn:=h.D.slh.n0;have jB:=h.D.slh.n1;have hs:=h.is;have hk:=h.ik
 have hpm:=hp.m1;have xb:=hp.m2;have hpd:=hp.d;have hs1:=hp.s1;have hs2:=hp.s2;have hk1:=hp.k1;have hk2:=hp.k2
 refine ZgQ Tryz.func278 Tryz.ntmps278 ?_
 refine hsq<|hrz ?_
 refine zla (xbx (cs:= [_]) hS) ?_;rintro _ w ⟨g7,rfl,hS⟩
 replace hS:=hS.n7
 refine zln<|zh<|htn<|hsq<|hrz ?_
 refine zlv (xlb 3 pl_3 hS) ?_
 refine zla (xmk Zb ZJ hS) ?_;rintro v1 w ⟨hS,hv1⟩
 replace hS:=hS.n8
 refine zla (xal (cs:= [_]) Yl hS) ?_;rintro _ w ⟨g8,rfl,hS⟩
 replace hS:=hS.n9
 refine zle (xsb 8 pl_22 hS (hv:=hv1.one)) ?_;clear hS;rintro w hS
 replace hS:=hS.n9
 refine zln<|zh<|htn<|hsq<|hrz ?_
 refine zla (xal (cs:= [_]) Zmh hS) ?_;rintro _ w ⟨g9,rfl,hS⟩
 replace hS:=hS.n10
 refine zln<|zh<|htn<|hsq<|hrz ?_
 refine zlv xmf ?_
 refine zle (xsb 9 Ux hS) ?_;clear hS;rintro w hS
 replace hS:=hS.n10
 refine zln<|zh<|htn<|hrz ?_
 refine zlv (xlb 9 Ux hS) ?_
 refine zlv (xfb 2 fd_27_2) ?_
 refine zlv (xlb 1 pl_3 hS) ?_
 refine zlv (xfb 3 fd_27_3) ?_
 refine zlv (xlb 1 pl_3 hS) ?_
 refine zlv (Zh (r:=p.stock+p.kerf)) ?_
 refine zlv (xfb 2 fd_27_2) ?_
 refine zlv (xlb 1 pl_3 hS) ?_
 refine zlv (xfb 3 fd_27_3) ?_
 refine zlv (xlb 1 pl_3 hS) ?_
 refine zlv (Zh (r:=p.stock+p.kerf)) ?_
 refine zlv (Zh (r:=p.stock+p.kerf+1)) ?_
 refine zlc (xcc (vs:= [_,_,_]) Rh) (Zj6 hp qc Inv Stp t0 hvl _ (s:=s0) (i:=0) (a:=fun _=>0) (l:=p.stock+p.kerf) (need:=p.stock+p.kerf+1) (pre:= []) (post:= []) w0 w (Sat.bundle (l1:= [_,_,_,_,_,_,_,_,_,_]) (l2:= []) (hS.pk [0,1,2,3,4,5,8,7,6,9])) h hv1 Oa Oa (Pfx.start hp) (NeedP.start p) hI0 hs0 (by rw [List.nil_append,List.append_nil];rfl) hY (Nat.lt_succ_self _)) ?_;rintro _ w ⟨qU,sz1,tz1,zk,rfl,yL,yV,hS⟩
 replace hS:=Sat.unbundle (l1:= [_,_,_,_,_,_,_,_,_,_]) (l3:= []) hS
 replace hS:=hS.n10
 refine zln<|zh<|XD ⟨_,rfl,?_⟩
 by_cases hok:qU
 · obtain⟨_,hi,hh⟩:=yL hok
   rw [Y9 hok] at hS
   exact .inl ⟨sz1,_,⟨hi,by rw [hh,List.nil_append];rfl⟩,Sat.bundle (l1:= [_,_,_,_,_,_]) hS⟩
 · rw [WH hok] at hS
   exact .inr ⟨tz1,_,yV hok,Sat.bundle (l1:= [_,_,_,_,_,_]) hS⟩
theorem ZmZ:Zd Om 222=true:=Oc
theorem ZmH:Zd Om 278=true:=Oc
theorem ZoY:ZN Om 35=some (.int Oi 0,1,8):=Oc
structure WSt where
  v:Value
  n:Int
  vv:Int->Value
  f:Og
  l:List (Of)
def Zqe(p:Prob)(s:WSt):Prop:=Slh s.v s.n/\Ls p.m s.n s.f s.l/\s.n<=300
def Zoo(p:Prob)(wi u:Int)(f:Og)(e:Int):Prop:=(300<(MX p wi).length/\e=9/\u=0)\/((MX p wi).length<=300/\e=0/\Ls p.m u f (MX p wi))
theorem Zh9{vL vD:Value}{p:Prob}{wi:Int}(w0:World)(h:PAt w0 vL vD p)(hp:p.Ok):
   Calls Om 143 [.agg #[vL,vD,.int Oi p.stock,.int Oi p.kerf],.int Oi wi].toArray w0 fun e w=>∃v,e= .returned v/\∃r u vv f e,v= .tuple #[r,.int Oi e]/\Zoo p wi u f e/\Slh r u/\Sat w0 w [.own r 1 22 u vv,.sem (Frame.rows 3 u vv (fun _=>p.m) f)]:=by
 obtain⟨hm,hm1,hd,hd1,hs,hk⟩:=h.Oq
 have hpm:=hp.m1;have xb:=hp.m2;have hpd:=hp.d;have hs1:=hp.s1;have hs2:=hp.s2;have hk1:=hp.k1;have hk2:=hp.k2
 refine ZjE Tryz.func143 Tryz.ntmps143 fun w hS=> ?_
 refine hsq<|hrz ?_
 refine zla (xbx (cs:= [_,_,_,_]) hS) ?_;rintro _ w ⟨g1,rfl,hS⟩
 refine zla (xal (cs:= [_]) Zhn hS) ?_;rintro _ w ⟨g2,rfl,hS⟩
 refine zla (xal (cs:= [_]) ZoY hS) ?_;rintro _ w ⟨g3,rfl,hS⟩
 refine zln<|zh<|htn<|hsq<|hrz ?_
 refine zla (xal (cs:= [_]) Zhn hS) ?_;rintro _ w ⟨g4,rfl,hS⟩
 refine zln<|zh<|htn<|hsq<|hsq<|hrz ?_
 refine(zV (xls 0 st_27 hS))<|(zP)<|zlc (xc0 ZmZ) (ZfC (p:=p) (wi:=wi) w (h.below hS.below) hp) ?_;rintro _ w ⟨g5,g6,g7,g8,vl1,rfl,gG,hS'⟩
 replace hS:=(hS.comp hS').n9;clear hS'
 refine zln<|zh<|htn<|hbk ?_
 replace hS:=hS.addnil 1 22 (fun _=>Oh)
 replace hS:=hS.addrows 3 (fun _=>Oh) (fun _=>p.m) (fun _ _=>0)
 refine ZoN (St:=WSt) (X:=BX) (Tt:=Unit) (fun s=> [.blk g1 [vL,vD,.int Oi p.stock,.int Oi p.kerf],.blk g2 [Oh],.blk g3 [.int Oi 0],.blk g4 [s.v],.own s.v 1 22 s.n s.vv,.sem (Frame.rows 3 s.n s.vv (fun _=>p.m) s.f)]) (fun t=> [.blk g2 [Oh],.blk g3 [.int Oi 9]]) (fun _=> .ret) (⟨Oh,0,fun _=> Oh,fun _ _=>0, []⟩:WSt) (fun x M es=>M= [(0,.agg #[vL,vD,.int Oi p.stock,.int Oi p.kerf]),(1,.int Oi wi),(2,Or g1),(4,Or g2),(5,Or g3),(6,Or g4),(8,.agg #[vL,vD,.int Oi p.stock,.int Oi p.kerf]),(9,.int Oi wi),(10,.func (.func 278) #[] #[Or g7,Or g8,Or g6,Or g5]),(11,x.v),(7,x.v)]/\es= [.own x.v 1 3 x.n (ints x.f)]) (ZnN (wi:=wi) (fun s=>s.l) (Zqe p) (fun(_:Unit)=>300<(MX p wi).length) () (⟨Oh,0,fun _=> Oh,fun _ _=>0, []⟩:WSt) rfl ⟨slh_nil,Ls.nil,by show(0:Int)<=300;omega⟩ w0 gG hp h) (hS.pk [0,1,2,3,9,10,4,5,6,7,8]) ZmH (fun _=>rfl) (fun _=> .inl rfl) ?_ ?_ ?_ ?_
 ·
  intro lq s x rest w qs qK hrr hS
  refine hrz ?_
  refine(zP)<|zln<|zh<|ZgR ⟨rfl,rfl⟩ hS
 ·
  rintro lq s x _ _ rest w qs ⟨rfl,rfl⟩ qK hrr hS
  obtain⟨⟨hlO,hls,hn3⟩,hxv,hxn,r9,hM9⟩:=qs
  have hrO:=fun k (k0:0<=k) (k1:k<s.n)=>hS.slhIn 5 rfl k0 k1
  have hsn:=hlO.n0
  have xg:=hls.1
  refine hbk<|hsq<|hsq<|hrz ?_
  refine(zV (xlb 3 ZM hS))<|(zV (xln Zk hlO))<|(zP)<|zln<|zh<|htn ?_
  refine Y0 ?_ ?_<;>intro hc
  ·
   refine hsq<|hrz ?_
   refine zle (xsb 1 ZM hS) ?_;clear hS;rintro w hS
   refine zle (xsb 2 pl_35 hS) ?_;clear hS;rintro w hS
   refine zln<|zh<|htn<|hrt<|ztr<|zbr<|ZgP () (by show 300<(MX p wi).length;rw [hM9,List.length_append,List.length_cons];omega) rfl (hS.pk [1,2,6,7,8,9,10,11])
  refine hsk<|htn<|hrz ?_
  refine(zV (xlb 3 ZM hS))<|(zP)<|zla (xli (n:=1) (len:=1) (pv:= [(0,x.v)]) (cs:= [x.v]) (c:=(fun _=>x.v)) Zk Yl hS (hf:=by have hz:=hxv;revert hz;generalize x.v=z;rintro⟨_,_,_,_,rfl,_⟩;show _=_;kernel_rfl)) ?_;rintro v1 w ⟨hS,hv1⟩
  refine zla (xap 4 (r:=s.n+1) Zk Yl hS (hS.rowN 13 rfl) (WE _ _ _) (h1:=fun _ _ _=>hxv.one)) ?_;rintro v2 w ⟨hS,hv2⟩
  replace hS:=Sat.merge (l1:= [_,_,_,_,_]) (l2:= [_,_,_,_,_,_]) (l3:= [_]) hS Oa
  have xp:=fun k (k0:0<=k) (k1:k<s.n+1)=>hS.slhIn 5 rfl k0 k1
  refine zle (xsb 3 ZM hS (hv:=hv2.one)) ?_;clear hS;rintro w hS
  refine zln<|zh<|zbn ?_
  replace hS:=hS.rerows (vv':=(gsn s.vv s.n x.v)) (ln':=fun _=>p.m) (f':=(gsn s.f s.n x.f)) 5 rfl (fun k k0 k1=>⟨rfl,by unfold gsn;split<;>(try dsimp only)<;>omega,fun _ _ _=>rfl⟩)
  refine Zdg ⟨v2,s.n+1,gsn s.vv s.n x.v,gsn s.f s.n x.f,s.l++ [x.f]⟩ ⟨rfl,hv2,hls.snoc fun _ _ _=>rfl,by show s.n+1<=300;omega⟩ (hS.pk [0,1,2,3,4,5,6,7,8,9,10,11])
 ·
  intro Dk s rest w qt hS
  obtain⟨⟨hlO,hls,hn3⟩,hh9⟩:=qt
  have hrO:=fun k (k0:0<=k) (k1:k<s.n)=>hS.slhIn 5 rfl k0 k1
  have hsn:=hlO.n0
  have xg:=hls.1
  refine zbn<|htn<|hsq<|hrz ?_
  refine(zV (xlb 3 ZM hS))<|zle (xsb 1 ZM hS (hv:=hlO.one)) ?_;clear hS;rintro w hS
  refine zle (xsb 2 pl_35 hS) ?_;clear hS;rintro w hS
  refine zln<|zh<|htn<|hrt<|Zdh 12 hS fun w hS=>Zos ZM pl_35 (hS.cellN 1 rfl rfl) (hS.cellN 2 rfl rfl) ⟨_,rfl,?_⟩
  exact⟨_,_,_,_,0,rfl,.inr ⟨by rw [<-hh9];omega,rfl,by rw [<-hh9];exact hls⟩,hlO,hS.pk [4,5]⟩
 ·
  intro Dk t rest w qt hS
  show Ge _ _ _ .ret _ _
  refine zbr<|ztr<|Zdh 8 hS fun w hS=>Zos ZM pl_35 (hS.cellN 0 rfl rfl) (hS.cellN 1 rfl rfl) ⟨_,rfl,?_⟩
  exact⟨_,0,_,_,_,rfl,.inl ⟨qt,rfl,rfl⟩,slh_nil,((hS.sub (.cons _ (.cons _ (.cons _ (.cons _ (.cons _ (.cons _ (.cons _ (.cons _ (.cons _ .slnil)))))))))).addnil 1 22 (fun _=>Oh)).addrows 3 (fun _=>Oh) (fun _=>p.m) (fun _ _=>0)⟩
theorem Znq:Zd Om 143=true:=Oc
theorem Zke{vL vD:Value}{p:Prob}{wi:Int}(w0:World)(h:PAt w0 vL vD p):
   Calls Om 71 [.agg #[vL,vD,.int Oi p.stock,.int Oi p.kerf],.int Oi wi].toArray w0 fun e w=>∃v,e= .returned v/\∃r u vv f e,v= .tuple #[r,.int Oi e]/\ZpL p wi u f e/\Slh r u/\Sat w0 w [.own r 1 22 u vv,.sem (Frame.rows 3 u vv (fun _=>p.m) f)]:=by
 obtain⟨hm,hm1,hd,hd1,hs,hk⟩:=h.Oq
 refine zenG Tryz.func71 Tryz.ntmps71 fun w hS=> ?_
 refine zsr<|zla (xbx (cs:= [_,_,_,_]) hS) ?_;rintro _ w ⟨g1,rfl,hS⟩
 refine(On)<|zlt<|zsq<|zbk<|zsr<|(zV (xls 0 st_27 hS))<|zlc (xc0 XP) (Ya (p:=p) w (h.below hS.below)) ?_;rintro _ w ⟨rfl,hS'⟩
 replace hS:=hS.cmp hS';clear hS'
 refine(On)<|zlt<|Zf ?_ ?_<;>intro hc
 ·
  refine zsr<|(On)<|zlt<|zrt<|zbr<|ztr<|zf2 ⟨_,rfl,?_⟩
  exact⟨_,0,_,_,_,rfl,.inl ⟨‹¬p.Ok›,rfl,rfl⟩,slh_nil,((hS.sub (.cons _ .slnil)).addnil 1 22 (fun _=>Oh)).addrows 3 (fun _=>Oh) (fun _=>p.m) (fun _ _=>0)⟩
 refine zsr<|zs2 ?_
 have hp:p.Ok:=by first|assumption|exact Od ‹_›
 have hpm:=hp.m1;have xb:=hp.m2;have hpd:=hp.d;have hs1:=hp.s1;have hs2:=hp.s2;have hk1:=hp.k1;have hk2:=hp.k2
 refine(zP)<|zlb 13 ?_ ?_<;>intro hc
 ·
  iterate 5 refine zlo ?_
  refine(On)<|zlt<|zct<|zsr ?_
  refine(On)<|zlt<|zrt<|zbr<|ztr<|zf2 ⟨_,rfl,?_⟩
  exact⟨_,0,_,_,_,rfl,.inr (.inl ⟨hp,Oa,rfl,rfl⟩),slh_nil,((hS.sub (.cons _ .slnil)).addnil 1 22 (fun _=>Oh)).addrows 3 (fun _=>Oh) (fun _=>p.m) (fun _ _=>0)⟩
 refine(zP)<|(zV (xfb 0 fd_27_0))<|(zV (xlb 0 pl_22 hS))<|(zV (xln Zb h.L.slh))<|(Oo)<|zlt<|Zf ?_ ?_<;>intro hc
 ·
  refine zsr<|(On)<|zlt<|zrt<|zbr<|ztr<|zf2 ⟨_,rfl,?_⟩
  exact⟨_,0,_,_,_,rfl,.inr (.inl ⟨hp,Oa,rfl,rfl⟩),slh_nil,((hS.sub (.cons _ .slnil)).addnil 1 22 (fun _=>Oh)).addrows 3 (fun _=>Oh) (fun _=>p.m) (fun _ _=>0)⟩
 refine zsk<|zbn<|ztn<|zsr<|(zV (xls 0 st_27 hS))<|(zP)<|zlc (xc0 Znq) (Zh9 (p:=p) (wi:=wi) w (h.below hS.below) hp) ?_;rintro _ w ⟨cU,ux1,ah,fx1,ex1,rfl,zo,ai,hS'⟩
 replace hS:=(hS.comp hS').n3;clear hS'
 have eV:∀k,0<=k->k<ux1->Slh (ah k) p.m:=fun k k0 k1=>hS.slhIn 2 rfl k0 k1
 refine zs4 ?_
 refine zx1<|zf2 ⟨_,rfl,?_⟩
 exact⟨_,_,_,_,_,rfl,(by rcases zo with⟨h8,h9⟩|⟨h8,h9,h7⟩;exact .inr (.inr (.inl ⟨hp,Oa,h8,h9⟩));exact .inr (.inr (.inr ⟨hp,Oa,h8,h9,h7⟩))),ai,hS.pk [1,2]⟩
end Go.Proofs.YtpnamgfdakfccaaGreat
namespace Go.Proofs.Gw
open Go Go.RowKit
variable {i j k:Int}
def pr2{α:Type}(x y:α):Int->α:=fun j=>if j=0 then x else y
def ZS(vv:Int->Value)(s k b:Int):Int->Value:=fun j=>if j%5=0 then vv (2*(j/5)) else if j%5=1 then vv (2*(j/5)+1) else if j%5=2 then .int Oi s else if j%5=3 then .int Oi k else .int Oi b
theorem ZjK(vv:Int->Value)(s k b:Int)(h:j=5*i):ZS vv s k b j=vv (2*i):=by
 unfold ZS;rw [if_pos Oa,show j/5=i by omega]
theorem ZjJ(vv:Int->Value)(s k b:Int)(h:j=5*i+1):ZS vv s k b j=vv (2*i+1):=by
 unfold ZS;rw [if_neg Oa,if_pos Oa,show j/5=i by omega]
theorem ZjI(vv:Int->Value)(s k b:Int)(h:j=5*i+2):ZS vv s k b j= .int Oi s:=by
 unfold ZS;rw [if_neg Oa,if_neg Oa,if_pos Oa]
theorem ZjH(vv:Int->Value)(s k b:Int)(h:j=5*i+3):ZS vv s k b j= .int Oi k:=by
 unfold ZS;rw [if_neg Oa,if_neg Oa,if_neg Oa,if_pos Oa]
theorem ZjG(vv:Int->Value)(s k b:Int)(h:j=5*i+4):ZS vv s k b j= .int Oi b:=by
 unfold ZS;rw [if_neg Oa,if_neg Oa,if_neg Oa,if_neg Oa]
theorem Kl(vv:Int->Value)(s k b:Int){q:Int}(h:q=5*i):∀(j:Nat) u, [vv (2*i),vv (2*i+1),Value.int Oi s,.int Oi k,.int Oi b][j]? =some u->ZS vv s k b (q+j)=u:=fun j u hu=>by
 rcases j with _|_|_|_|_|j
 · cases hu;exact ZjK vv s k b Oa
 · cases hu;exact ZjJ vv s k b Oa
 · cases hu;exact ZjI vv s k b (i:=i) Oa
 · cases hu;exact ZjH vv s k b (i:=i) Oa
 · cases hu;exact ZjG vv s k b (i:=i) Oa
 · simp at hu
theorem Zdi{vv:Int->Value}{s b:Int}(h:∀i,(vv i).oneCell'=true)(j:Int):(ZS vv s k b j).oneCell'=true:=by
 unfold ZS
 split
 · exact h _
 · split
   · exact h _
   · split
     · rfl
     · split<;>rfl
theorem Zje{x y:Value}(hx:x.oneCell'=true)(hy:y.oneCell'=true)(i:Int):(pr2 x y i).oneCell'=true:=by
 unfold pr2;split
 · exact hx
 · exact hy
theorem ZdC(vv:Int->Value)(s k b n:Int)(x y:Value):cat (n*5) (ZS vv s k b) (ZS (pr2 x y) s k b)=ZS (gsn (gsn vv (2*n) x) (2*n+1) y) s k b:=by
 funext j
 unfold cat ZS gsn pr2
 by_cases h:j<n*5
 · simp only [if_pos h]
   have h1:2*(j/5)<2*n:=Oa
   have h2:2*(j/5)+1<2*n:=Oa
   have h3:2*(j/5)<2*n+1:=Oa
   have h4:2*(j/5)+1<2*n+1:=Oa
   simp only [if_pos h1,if_pos h2,if_pos h3,if_pos h4]
 · simp only [if_neg h]
   have e1:(j-n*5)%5=j%5:=Oa
   have e2:(j-n*5)/5=j/5-n:=Oa
   rw [e1,e2]
   have h1:¬2*(j/5)<2*n:=Oa
   have h2:¬2*(j/5)+1<2*n+1:=Oa
   have h3:¬2*(j/5-n)+1=0:=Oa
   simp only [if_neg h1,if_neg h2,if_neg h3]
   by_cases h5:2*(j/5)<2*n+1
   · have h6:2*(j/5-n)=0:=Oa
     simp only [if_pos h5,if_pos h6]
   · have h6:¬2*(j/5-n)=0:=Oa
     simp only [if_neg h5,if_neg h6]
theorem Sat.rowsn{w w0:World}{l:List Ent}{E:TypeId}{n m:Int}{vv:Int->Value}{ln:Of}{f:Og}(i:Nat)(h:Sat w0 w l)(hi:l[i]? =some (.sem (Frame.rows E n vv ln f)))(e:n=m):Sat w0 w (l.set i (.sem (Frame.rows E m vv ln f))):=by
 subst e
 rw [Yx hi,<-Z3 hi];exact h
def gfn(p:Prob)(X:List (Of)):Og:=fun k=>if k%2=0 then p.L else fun j=>p.D j-Yy X (k/2) j
theorem ZoR(p:Prob)(X:List (Of))(h:k=2*i):gfn p X k=p.L:=by unfold gfn;rw [if_pos Oa]
theorem ZlI(p:Prob)(X:List (Of))(h:k=2*i+1):gfn p X k=fun j=>p.D j-Yy X i j:=by unfold gfn;rw [if_neg Oa,show k/2=i by omega]
theorem Zff{p:Prob}(hd:p.d=p.m){X:List (Of)}{x:Of}(i0:0<=i)(hx:∀j,0<=j->j<p.m->x j=Yy X i j)(vv:Int->Value):∀k,0<=k->k<2*i+2->vv k=vv k/\gsn (gsn (fun _=>p.m) (2*i) p.m) (2*i+1) p.d k=(fun _=>p.m) k/\
   ∀j,0<=j->j<gsn (gsn (fun _=>p.m) (2*i) p.m) (2*i+1) p.d k->gsn (gsn (gfn p X) (2*i) p.L) (2*i+1) (fun j=>p.D j-x j) k j=gfn p X k j:=fun k k0 k1=>by
 refine⟨rfl,by unfold gsn;split<;>(try split)<;>first|rfl|exact hd,fun j j0 j1=> ?_⟩
 have hl:gsn (gsn (fun _=>p.m) (2*i) p.m) (2*i+1) p.d k=p.m:=by unfold gsn;split<;>(try split)<;>first|rfl|exact hd
 rw [hl] at j1
 by_cases e1:k<2*i
 · rw [Zq Oa,Zq e1]
 · by_cases e2:k<2*i+1
   · rw [Zq e2,ZB e1,ZoR p X (i:=i) Oa]
   · rw [ZB e2,ZlI p X (i:=i) Oa]
     show p.D j-x j=p.D j-Yy X i j
     rw [hx j j0 j1]
end Go.Proofs.Gw
namespace Go.Proofs.YtpnamgfdakfccaaGreat
open Go Go.RowKit Go.Proofs.Gw
variable {b wi:Int}
theorem Zew:Zd Om 28=true:=Oc
theorem fd_39_0:Zv Om 39 0=some 0:=Oc
theorem fd_39_1:Zv Om 39 1=some 4:=Oc
theorem Yu:Zx Om 39=some 5:=Oc
def Z5(p:Prob)(b:Int):Prop:=p.Ok/\0<=b/\b<=1000
def ZO(p:Prob)(b wi:Int):Prop:=Z5 p b/\1<=b/\(0<=wi/\wi<p.m)/\p.D wi≠0/\(MX p wi).length<=300
noncomputable def Zl(p:Prob)(b wi:Int):Int:= @ite _ (ZO p b wi) (Classical.propDecidable _) ((MX p wi).length:Int) 0
theorem YK{p:Prob}(h:ZO p b wi):Zl p b wi=(MX p wi).length:=if_pos h
theorem Vd{p:Prob}(h:¬ZO p b wi):Zl p b wi=0:=if_neg h
theorem Zgo{p:Prob}(hp:p.Ok){u:Int}{f:Og}(h:Ls p.m u f (MX p wi)){i:Int}(i0:0<=i)(i1:i<u):∀k,0<=k->k<p.m->0<=f i k/\f i k<=p.D k:=fun k k0 k1=>by
 rw [h.2 i i0 i1 k k0 k1]
 exact(ZiI hp (ZbP i0 (by have:=h.1;omega))).1.rng k k0 k1
def WJ(p:Prob)(b n:Int)(l:Of):Prop:=Z5 p b/\2<=n/\Chk p (n-1) (fun k=>l (k+1)) (l 0)=0/\b<Yt p (n-1) (fun k=>l (k+1)) (l 0)
theorem Za2{vL vD:Value}{p:Prob}(w0:World)(h:PAt w0 vL vD p):
   Calls Om 28 [.agg #[vL,vD,.int Oi p.stock,.int Oi p.kerf,.int Oi b]].toArray w0 fun e w=>∃v,e= .returned v/\v=B (Z5 p b)/\Sat w0 w []:=by
 obtain⟨hm,hm1,hd,hd1,hs,hk⟩:=h.Oq
 refine zenG Tryz.func28 Tryz.ntmps28 fun w hS=> ?_
 refine zsr<|zla (xbx (cs:= [_,_,_,_,_]) hS) ?_;rintro _ w ⟨g1,rfl,hS⟩
 refine(zP)<|zlz<|(zV (xfb 0 fd_39_0))<|(zV (xlp 0 (ds:= [vL,vD,.int Oi p.stock,.int Oi p.kerf]) st_27 hS))<|zlc (xc0 XP) (Ya (p:=p) w (h.below hS.below)) ?_;rintro _ w ⟨rfl,hS'⟩
 replace hS:=hS.cmp hS';clear hS'
 refine(zP)<|zlb 6 ?_ ?_<;>intro hc
 ·
  refine(zV (xfb 4 fd_39_1))<|(zV (xlb 0 pl_3 hS))<|(Oo)<|zlb 11 ?_ ?_<;>intro hc
  ·
   refine(zV (xfb 4 fd_39_1))<|(zV (xlb 0 pl_3 hS))<|(Oo)<|zx1<|Oj ?_
   exact⟨Zm ⟨fun hh=>⟨by first|assumption|exact Od ‹_›,Oa,hh⟩,fun hh=>hh.2.2⟩,hS.nl⟩
  iterate 3 refine zlo ?_
  refine(On)<|zx1<|Oj ?_
  exact⟨Zj (by rintro⟨h1,h2,h3⟩;first|omega|exact absurd h1 ‹¬p.Ok›),hS.nl⟩
 iterate 3 refine zlo ?_
 refine zs2 ?_
 iterate 3 refine zlo ?_
 refine(On)<|zx1<|Oj ?_
 exact⟨Zj (by rintro⟨h1,h2,h3⟩;first|omega|exact absurd h1 ‹¬p.Ok›),hS.nl⟩
theorem ZnP{vL vD:Value}{p:Prob}{vl:Value}{nl:Int}{l:Of}(w0:World)(h:PAt w0 vL vD p)(hl:IAt w0 vl nl l)(hrm:Gw.W0 vl):
   Calls Om 31 [.agg #[vL,vD,.int Oi p.stock,.int Oi p.kerf,.int Oi b],vl].toArray w0 fun e w=>∃v,e= .returned v/\v=B (WJ p b nl l)/\Sat w0 w []:=by
 obtain⟨hm,hm1,hd,hd1,hs,hk⟩:=h.Oq
 have hl0:=hl.n0;have hl1:=hl.n1;have hrm:=hrm
 refine zenG Tryz.func31 Tryz.ntmps31 fun w hS=> ?_
 refine zsr<|zla (xbx (cs:= [_,_,_,_,_]) hS) ?_;rintro _ w ⟨g1,rfl,hS⟩
 refine(zP)<|zx5<|(zV (xls 0 Yu hS))<|zlc (xc0 Zew) (Za2 (p:=p) (b:=b) w (h.below hS.below)) ?_;rintro _ w ⟨rfl,hS'⟩
 replace hS:=hS.cmp hS';clear hS'
 refine(On)<|zlb 10 ?_ ?_<;>intro hc
 ·
  iterate 3 refine zlo ?_
  refine(zP)<|zlt<|zct<|zsr ?_
  refine(zP)<|zx14<|Oj ?_
  exact⟨Zj (by rintro⟨h1,h2,h3,h4⟩;first|omega|exact absurd h1 ‹¬Z5 p b›),hS.nl⟩
 refine(zP)<|(zV (xln Zb hl.row.slh))<|(On)<|zlt<|Zf ?_ ?_<;>intro hc
 ·
  refine zsr<|(zP)<|zx14<|Oj ?_
  exact⟨Zj (by rintro⟨h1,h2,h3,h4⟩;first|omega|exact absurd h1 ‹¬Z5 p b›),hS.nl⟩
 refine zsk<|ztn<|zsq<|zdst [0] [0] 1000 mx_ hS ?_;clear hS;intro w hS
 refine(zDw 0 (xfb 0 fd_39_0))<|(zDl 1 (fun w hS=>(xlp 0 (ds:= [vL,vD,.int Oi p.stock,.int Oi p.kerf]) st_27 hS)))<|(zDw 2 xmv)<|Zld 3 rfl rfl rfl rfl (by kernel_rfl) rfl (fun w=>(YS (q:=1) rfl Zb rfl rfl rfl hl.row.slh rfl Oa Oa)) ?_
 refine(zDw 4 xmv)<|(zDw 5 (xix (kk:=0) Zb hl.row.slh))<|YF 6 (fun w hS=>(xlr (u:= .int Oi (l 0)) pl_3 (hl.row.below hS.below))) ?_
 have hbv:=hl.i 0
 refine zDrv 7 (xany (v:= .agg #[(Xv vl 1),.int Oi (l 0)]) (hr:=by have hz:=(YV (q:=1) hl.row.slh hrm Oa).slh;revert hz;generalize (Xv vl 1)=z;rintro⟨_,_,_,_,rfl,_⟩;show _=_;kernel_rfl)) ?_
 refine zdc 8 (xc0 ZhP) (Za5 (p:=p) w (h.below hS.below) (show Row _ _ 1 (nl-1) (ints (fun z9=>l (z9+1))) from Suf.row (c:=ints l) (YV (q:=1) hl.row.slh hrm Oa) Oa (hl.row.below hS.below)) Oa) ?_;rintro _ w ⟨rfl,hS'⟩
 replace hS:=hS.cmp hS';clear hS'
 refine⟨⟨fun _=>hS,hS⟩,?_⟩
 refine(zDw 9 xmv)<|(zDw 10 xex)<|(zDw 11 xex)<|(zDw 12 xas)<|(zDw 13 xas)<|zdd<|ztn<|zsr ?_
 refine(Oo)<|zlb 29 ?_ ?_<;>intro hc
 ·
  refine(zP)<|(zV (xfb 4 fd_39_1))<|(zV (xlb 0 pl_3 hS))<|(Oo)<|zx1<|Oj ?_
  exact⟨Zm ⟨fun hh=>⟨Od ‹_›,Oa,Oa,hh⟩,fun hh=>hh.2.2.2⟩,hS.nl⟩
 iterate 4 refine zlo ?_
 refine(On)<|zx1<|Oj ?_
 exact⟨Zj (by rintro⟨h1,h2,h3,h4⟩;first|omega|exact absurd h1 ‹¬Z5 p b›),hS.nl⟩
end Go.Proofs.YtpnamgfdakfccaaGreat
namespace Go.Proofs.YtpnamgfdakfccaaGreat
open Go Go.RowKit Go.Proofs.Gw
theorem Zeo:ZN Om 39=some (.agg #[Oh,Oh,.int Oi 0,.int Oi 0,.int Oi 0],5,72):=Oc
theorem ZnO{vL vD:Value}{p:Prob}{b:Int}{vA:Value}{n:Int}{x:Of}(w0:World)(h:PAt w0 vL vD p)(hp:p.Ok)(hb:0<=b/\b<=1000)(hA:Row w0 vA 1 n (ints x))(hnm:n=p.m)(hx:∀k,0<=k->k<p.m->0<=x k/\x k<=p.D k):
   Calls Om 72 [.agg #[vL,vD,.int Oi p.stock,.int Oi p.kerf,.int Oi b],vA].toArray w0 fun e w=>∃v,e= .returned v/\∃r1 r2,v= .agg #[r1,r2,.int Oi p.stock,.int Oi p.kerf,.int Oi (b-1)]/\Slh r1 p.m/\Slh r2 p.d/\Sat w0 w [.own r1 1 3 p.m (ints p.L),.own r2 1 3 p.d (ints fun k=>p.D k-x k)]:=by
 subst hnm
 obtain⟨hm,hm1,hd,hd1,hs,hk⟩:=h.Oq
 have hpm:=hp.m1;have xb:=hp.m2;have hpd:=hp.d;have hs1:=hp.s1;have hs2:=hp.s2;have hk1:=hp.k1;have hk2:=hp.k2
 refine zenG Tryz.func72 Tryz.ntmps72 fun w hS=> ?_
 refine zsr<|zla (xbx (cs:= [_,_,_,_,_]) hS) ?_;rintro _ w ⟨g1,rfl,hS⟩
 refine zla (xal (cs:= [_,_,_,_,_]) Zeo hS) ?_;rintro _ w ⟨g2,rfl,hS⟩
 refine zlz<|(zV (xfb 0 fd_39_0))<|(zV (xlp 0 (ds:= [vL,vD,.int Oi p.stock,.int Oi p.kerf]) st_27 hS))<|zla (xal (cs:= [_,_,_,_]) Zhp hS) ?_;rintro _ w ⟨g3,rfl,hS⟩
 refine zle (xsw 2 st_27 hS (hd:=(Za h.L.slh.one (Za h.D.slh.one (Za rfl (Za rfl Zi)))))) ?_;clear hS;rintro w hS
 refine zx7<|zdst [0,1,2] [0,1,2] 1000 mx_ hS ?_;clear hS;intro w hS
 refine(zDw 0 (xfb 0 fd_27_0))<|(zDl 1 (fun w hS=>(xlb 2 pl_22 hS)))<|(zDw 2 (xln Zb h.L.slh))<|(zDw 4 (xfb 1 fd_27_1))<|(zDl 5 (fun w hS=>(xlb 2 pl_22 hS)))<|(zDw 6 (xln Zb h.D.slh))<|U4 (r:= [3,7]) ((Xt ?_ (Xt ?_ U3)))
 ·
  refine zka (xmk Zb ZJ hS) ?_;rintro v1 w ⟨hS,hv1⟩
  refine⟨⟨fun _=>hS.pk [0,1,2],hS.pk [0,1,2]⟩,?_⟩
  refine(zDw 8 xas)<|zda 7 (xmk Zb ZJ hS) ?_;rintro v2 w ⟨hS,hv2⟩
  refine⟨⟨fun _=>hS.pk [0,1,2],hS.pk [0,1,2]⟩,?_⟩
  refine(zDw 9 xas)<|zdd<|ztn<|zsr ?_
  refine(zP)<|(zV (xfb 0 fd_27_0))<|(zV (xlb 2 pl_22 hS))<|KQ rfl rfl rfl (V9 3 rfl Zb rfl rfl hS rfl (h.L.below hS.below) (fun _ _ _=>rfl)) ?_;rintro _ w ⟨rfl,hS⟩
  refine zlz<|(zP)<|(zV (xfb 1 fd_27_1))<|(zV (xlb 2 pl_22 hS))<|KQ rfl rfl rfl (V9 4 rfl Zb rfl rfl hS rfl (h.D.below hS.below) (fun _ _ _=>rfl)) ?_;rintro _ w ⟨rfl,hS⟩
  refine zx5<|(zP)<|(zV (xln Zb hA.slh))<|(zP)<|zx6<|zlp (fun mm M w=>∃(fd:Of) (i:Int),mm=((p.m-i).toNat)/\(0<=i)/\(i<=p.m)/\(∀k,0<=k->k<p.m->fd k=if k<i then p.D k-x k else p.D k)/\M= [(2,Or g1),(4,Or g2),(5,Or g3),(6,v1),(7,v2),(28,vA),(29,.int Oi p.m),(30,.int Oi i)]/\Sat w0 w [.blk g1 [vL,vD,.int Oi p.stock,.int Oi p.kerf,.int Oi b],.blk g2 [Oh,Oh,.int Oi 0,.int Oi 0,.int Oi 0],.blk g3 [vL,vD,.int Oi p.stock,.int Oi p.kerf],.own v1 1 3 p.m (ints p.L),.own v2 1 3 p.d (ints fd)]) ⟨p.D,0,rfl,Oa,Oa,?_,rfl,hS⟩ ?_
  ·
   intro k k0 k1;rw [if_neg Oa]
  clear hS w
  rintro mm M w ⟨fd,i,rfl,h0,h1,hfd,rfl,hS⟩
  refine zsr<|(zP)<|zx7<|Zf ?_ ?_<;>intro hc
  ·
   refine zx3<|(zP)<|(zV (xix (kk:=i) Zb hA.slh))<|zlv (xlr (u:= .int Oi (x i)) pl_3 (hA.below hS.below)) ?_
   have hxi:=hx i h0 Oa;have hei:=hp.all i h0 Oa;unfold Prob.each at hei;have hfi:=hfd i h0 Oa;rw [if_neg Oa] at hfi
   refine(On)<|zlt<|zrg<|(On)<|(zV (xix (kk:=i) Zb hv2))<|(zV (xlr (u:= .int Oi (fd i)) pl_3 (hS.rowN 4 rfl)))<|(zP)<|(zV (Zp (r:=fd i-(x i))))<|(zV (xix (kk:=i) Zb hv2))<|zle (xso 4 pl_3 hS (ZD _ _ _)) ?_;clear hS;rintro w hS
   refine zx10<|(zV (Zh (r:=i+1)))<|(zP)<|zln<|zlq ⟨(upd fd i (fd i-(x i))),i+1,rfl,Oa,Oa,?_,rfl,hS⟩
   ·
    intro k k0 k1;unfold upd;by_cases e:k=i
    · rw [if_pos e,if_pos Oa,e];omega
    · rw [if_neg e,hfd k k0 k1];by_cases e2:k<i
      · rw [if_pos e2,if_pos Oa]
      · rw [if_neg e2,if_neg Oa]
  refine zx8<|(On)<|(zV (xfb 0 fd_27_0))<|zle (xsb 2 pl_22 hS (hv:=hv1.one)) ?_;clear hS;rintro w hS
  refine(zV (xfb 1 fd_27_1))<|zle (xsb 2 pl_22 hS (hv:=hv2.one)) ?_;clear hS;rintro w hS
  refine zlz<|(zV (xls 2 st_27 hS))<|(zV (xfb 4 fd_39_1))<|(zV (xlb 0 pl_3 hS))<|(zV (Zp (r:=b-1)))<|zlv (xany (v:= .agg #[v1,v2,.int Oi p.stock,.int Oi p.kerf,.int Oi (b-1)]) (hr:=by obtain⟨_,_,_,_,rfl,_⟩:=hv1;obtain⟨_,_,_,_,rfl,_⟩:=hv2;kernel_rfl)) ?_
  refine zle (xsw 1 Yu hS (hd:=(Za hv1.one (Za hv2.one (Za rfl (Za rfl (Za rfl Zi))))))) ?_;clear hS;rintro w hS
  refine zx1<|zfc 1 Yu hS ⟨_,rfl,?_⟩
  replace hS:=hS.recont 4 rfl (d:=ints fun k=>p.D k-x k) (fun k k0 k1=>by unfold ints;rw [hfd k k0 Oa,if_pos Oa])
  exact⟨_,_,rfl,hv1,hv2,hS.pk [3,4]⟩
 refine zka (xmk Zb ZJ hS) ?_;rintro v1 w ⟨hS,hv1⟩
 refine⟨⟨fun _=>hS.pk [0,1,2],hS.pk [0,1,2]⟩,?_⟩
 refine zda 3 (xmk Zb ZJ hS) ?_;rintro v2 w ⟨hS,hv2⟩
 refine⟨⟨fun _=>hS.pk [0,1,2],hS.pk [0,1,2]⟩,?_⟩
 refine(zDw 8 xas)<|(zDw 9 xas)<|zdd<|ztn<|zsr ?_
 refine(zP)<|(zV (xfb 0 fd_27_0))<|(zV (xlb 2 pl_22 hS))<|KQ rfl rfl rfl (V9 4 rfl Zb rfl rfl hS rfl (h.L.below hS.below) (fun _ _ _=>rfl)) ?_;rintro _ w ⟨rfl,hS⟩
 refine zlz<|(zP)<|(zV (xfb 1 fd_27_1))<|(zV (xlb 2 pl_22 hS))<|KQ rfl rfl rfl (V9 3 rfl Zb rfl rfl hS rfl (h.D.below hS.below) (fun _ _ _=>rfl)) ?_;rintro _ w ⟨rfl,hS⟩
 refine zx5<|(zP)<|(zV (xln Zb hA.slh))<|(zP)<|zx6<|zlp (fun mm M w=>∃(fd:Of) (i:Int),mm=((p.m-i).toNat)/\(0<=i)/\(i<=p.m)/\(∀k,0<=k->k<p.m->fd k=if k<i then p.D k-x k else p.D k)/\M= [(2,Or g1),(4,Or g2),(5,Or g3),(6,v2),(7,v1),(28,vA),(29,.int Oi p.m),(30,.int Oi i)]/\Sat w0 w [.blk g1 [vL,vD,.int Oi p.stock,.int Oi p.kerf,.int Oi b],.blk g2 [Oh,Oh,.int Oi 0,.int Oi 0,.int Oi 0],.blk g3 [vL,vD,.int Oi p.stock,.int Oi p.kerf],.own v1 1 3 p.d (ints fd),.own v2 1 3 p.m (ints p.L)]) ⟨p.D,0,rfl,Oa,Oa,?_,rfl,hS⟩ ?_
 ·
  intro k k0 k1;rw [if_neg Oa]
 clear hS w
 rintro mm M w ⟨fd,i,rfl,h0,h1,hfd,rfl,hS⟩
 refine zsr<|(zP)<|zx7<|Zf ?_ ?_<;>intro hc
 ·
  refine zx3<|(zP)<|(zV (xix (kk:=i) Zb hA.slh))<|zlv (xlr (u:= .int Oi (x i)) pl_3 (hA.below hS.below)) ?_
  have hxi:=hx i h0 Oa;have hei:=hp.all i h0 Oa;unfold Prob.each at hei;have hfi:=hfd i h0 Oa;rw [if_neg Oa] at hfi
  refine(On)<|zlt<|zrg<|(On)<|(zV (xix (kk:=i) Zb hv1))<|(zV (xlr (u:= .int Oi (fd i)) pl_3 (hS.rowN 3 rfl)))<|(zP)<|(zV (Zp (r:=fd i-(x i))))<|(zV (xix (kk:=i) Zb hv1))<|zle (xso 3 pl_3 hS (ZD _ _ _)) ?_;clear hS;rintro w hS
  refine zx10<|(zV (Zh (r:=i+1)))<|(zP)<|zln<|zlq ⟨(upd fd i (fd i-(x i))),i+1,rfl,Oa,Oa,?_,rfl,hS⟩
  ·
   intro k k0 k1;unfold upd;by_cases e:k=i
   · rw [if_pos e,if_pos Oa,e];omega
   · rw [if_neg e,hfd k k0 k1];by_cases e2:k<i
     · rw [if_pos e2,if_pos Oa]
     · rw [if_neg e2,if_neg Oa]
 refine zx8<|(On)<|(zV (xfb 0 fd_27_0))<|zle (xsb 2 pl_22 hS (hv:=hv2.one)) ?_;clear hS;rintro w hS
 refine(zV (xfb 1 fd_27_1))<|zle (xsb 2 pl_22 hS (hv:=hv1.one)) ?_;clear hS;rintro w hS
 refine zlz<|(zV (xls 2 st_27 hS))<|(zV (xfb 4 fd_39_1))<|(zV (xlb 0 pl_3 hS))<|(zV (Zp (r:=b-1)))<|zlv (xany (v:= .agg #[v2,v1,.int Oi p.stock,.int Oi p.kerf,.int Oi (b-1)]) (hr:=by obtain⟨_,_,_,_,rfl,_⟩:=hv2;obtain⟨_,_,_,_,rfl,_⟩:=hv1;kernel_rfl)) ?_
 refine zle (xsw 1 Yu hS (hd:=(Za hv2.one (Za hv1.one (Za rfl (Za rfl (Za rfl Zi))))))) ?_;clear hS;rintro w hS
 refine zx1<|zfc 1 Yu hS ⟨_,rfl,?_⟩
 replace hS:=hS.recont 3 rfl (d:=ints fun k=>p.D k-x k) (fun k k0 k1=>by unfold ints;rw [hfd k k0 Oa,if_pos Oa])
 exact⟨_,_,rfl,hv2,hv1,hS.pk [4,3]⟩
theorem Zpe:Zd Om 71=true:=Oc
theorem Zpd:Zd Om 72=true:=Oc
theorem Wt:Zu Om 143=some (39,5):=Oc
theorem ZeB{vL vD:Value}{p:Prob}{b:Int}{wi:Int}(w0:World)(h:PAt w0 vL vD p):
   Calls Om 30 [.agg #[vL,vD,.int Oi p.stock,.int Oi p.kerf,.int Oi b],.int Oi wi].toArray w0 fun e w=>∃v,e= .returned v/\∃r vv,v= .tuple #[r,B (ZO p b wi)]/\Slh r (Zl p b wi)/\Sat w0 w [.own r 5 39 (Zl p b wi) (ZS vv p.stock p.kerf (b-1)),.sem (Frame.rows 3 (2*Zl p b wi) vv (fun _=>p.m) (gfn p (MX p wi)))]:=by
 obtain⟨hm,hm1,hd,hd1,hs,hk⟩:=h.Oq
 refine zenG Tryz.func30 Tryz.ntmps30 fun w hS=> ?_
 refine zsr<|zla (xbx (cs:= [_,_,_,_,_]) hS) ?_;rintro _ w ⟨g1,rfl,hS⟩
 refine(On)<|zx5<|(zV (xls 0 Yu hS))<|zlc (xc0 Zew) (Za2 (p:=p) (b:=b) w (h.below hS.below)) ?_;rintro _ w ⟨rfl,hS'⟩
 replace hS:=hS.cmp hS';clear hS'
 refine(On)<|zlb 14 ?_ ?_<;>intro hc;rotate_left
 refine(zV (xfb 4 fd_39_1))<|zlv (xlb 0 pl_3 hS) ?_
 have hpo:Z5 p b:=by first|assumption|exact Od ‹_›
 have hp:=hpo.1;have hpb:=hpo.2
 have hpm:=hp.m1;have xb:=hp.m2;have hpd:=hp.d;have hs1:=hp.s1;have hs2:=hp.s2;have hk1:=hp.k1;have hk2:=hp.k2
 refine(Oo)<|zlb 19 ?_ ?_<;>intro hc;rotate_left
 refine zs4 ?_
 refine zlb 23 ?_ ?_<;>intro hc;rotate_left
 refine(zP)<|(zV (xfb 0 fd_39_0))<|(zV (xfb 0 fd_27_0))<|(zV (xlb 0 pl_22 hS))<|(zV (xln Zb h.L.slh))<|(Oo)<|zlb 31 ?_ ?_<;>intro hc;rotate_left
 refine(zV (xfb 0 fd_39_0))<|(zV (xfb 1 fd_27_1))<|(zV (xlb 0 pl_22 hS))<|(zP)<|(zV (xix (kk:=wi) Zb h.D.slh))<|zlv (xlr (u:= .int Oi (p.D wi)) pl_3 (h.D.below hS.below)) ?_
 have hbv:=h.iD wi
 refine(On)<|zlt<|Zf ?_ ?_<;>intro hc
 ·
  refine zsr<|(On)<|zx14<|zf2 ⟨_,rfl,?_⟩
  have hno:¬ZO p b wi:=by
    rintro⟨⟨q1,q2,q3⟩,q4,⟨q5,q6⟩,q7,q8⟩
    first|omega|exact absurd (show Z5 p b from⟨q1,q2,q3⟩) ‹¬Z5 p b›|(rcases zo with⟨g1,_⟩|⟨_,g1,_⟩|⟨_,_,g1,_⟩|⟨_,_,_,g1,_⟩;exact absurd q1 g1;exact absurd ⟨q5,q6⟩ g1;omega;omega)
  rw [Vd hno]
  exact⟨_,(fun _=>Oh),by rw [ZA hno],slh_nil,((hS.sub (.cons _ .slnil)).addnil 5 39 (ZS (fun _=>Oh) p.stock p.kerf (b-1))).addrows 3 (fun _=>Oh) (fun _=>p.m) (gfn p (MX p wi))⟩
 refine ZV<|(zV (xfb 0 fd_39_0))<|(zV (xlp 0 (ds:= [vL,vD,.int Oi p.stock,.int Oi p.kerf]) st_27 hS))<|(zP)<|zlc (xc0 Zpe) (Zke (p:=p) (wi:=wi) w (h.below hS.below)) ?_;rintro _ w ⟨cU,ux1,ah,fx1,ex1,rfl,zo,ai,hS'⟩
 replace hS:=(hS.comp hS').n3;clear hS'
 have eV:∀k,0<=k->k<ux1->Slh (ah k) p.m:=fun k k0 k1=>hS.slhIn 2 rfl k0 k1
 refine zs5 ?_
 refine zx5<|(On)<|zlt<|Zf ?_ ?_<;>intro hc
 ·
  refine zsr<|(On)<|zx14<|zf2 ⟨_,rfl,?_⟩
  have hno:¬ZO p b wi:=by
    rintro⟨⟨q1,q2,q3⟩,q4,⟨q5,q6⟩,q7,q8⟩
    first|omega|exact absurd (show Z5 p b from⟨q1,q2,q3⟩) ‹¬Z5 p b›|(rcases zo with⟨g1,_⟩|⟨_,g1,_⟩|⟨_,_,g1,_⟩|⟨_,_,_,g1,_⟩;exact absurd q1 g1;exact absurd ⟨q5,q6⟩ g1;omega;omega)
  rw [Vd hno]
  exact⟨_,(fun _=>Oh),by rw [ZA hno],slh_nil,((hS.sub (.cons _ (.cons _ (.cons _ .slnil)))).addnil 5 39 (ZS (fun _=>Oh) p.stock p.kerf (b-1))).addrows 3 (fun _=>Oh) (fun _=>p.m) (gfn p (MX p wi))⟩
 refine ZV<|(zP)<|zx5<|(zP)<|(zV (xln Zk ai))<|zlv xmv ?_
 have xV:Ls p.m ux1 fx1 (MX p wi)/\(MX p wi).length<=300:=by rcases zo with⟨_,g1,_⟩|⟨_,_,g1,_⟩|⟨_,_,_,g1,_⟩|⟨_,_,g2,_,g1⟩;omega;omega;omega;exact⟨g1,g2⟩
 have jh:=xV.2
 replace xV:=xV.1
 have hun:=ai.n0;have hul:=xV.1
 refine zx6 ?_
 replace hS:=(hS.addnil 5 39 (ZS (fun _=>Oh) p.stock p.kerf (b-1))).addrows 3 (fun _=>Oh) (fun _=>p.m) (gfn p (MX p wi))
 replace hS:=hS.rowsn 4 rfl (show(0:Int)=2*0 from rfl)
 refine zlp (fun mm M w=>∃(i:Int) (vv:Int->Value) (wG:Value),mm=((ux1-i).toNat)/\(0<=i)/\(i<=ux1)/\(Slh wG i)/\M= [(2,Or g1),(4,Oh),(5,.bool false),(8,wG),(49,cU),(50,.int Oi ux1),(51,.int Oi i)]/\Sat w0 w [.blk g1 [vL,vD,.int Oi p.stock,.int Oi p.kerf,.int Oi b],.own cU 1 22 ux1 ah,.sem (Frame.rows 3 ux1 ah (fun _=>p.m) fx1),.own wG 5 39 i (ZS vv p.stock p.kerf (b-1)),.sem (Frame.rows 3 (2*i) vv (fun _=>p.m) (gfn p (MX p wi)))]) ⟨0,(fun _=>Oh),Oh,rfl,Oa,Oa,?_,rfl,hS⟩ ?_
 ·
  exact slh_nil
 clear hS w
 rintro mm M w ⟨i,vv,wG,rfl,h0,h1,hwG,rfl,hS⟩
 have hrG:∀k,0<=k->k<2*i->Slh (vv k) p.m:=fun k k0 k1=>hS.slhIn 4 rfl k0 k1
 refine zsr<|(zP)<|zx7<|Zf ?_ ?_<;>intro hc
 ·
  refine zx3<|(zV (xix (kk:=i) Zk ai))<|(zV (xlr (u:=(ah i)) pl_22 (hS.rowN 1 rfl)))<|(zP)<|zlt<|zrg<|(zP)<|(zV (xls 0 Yu hS))<|(zP)<|zlc (xc0 Zpd) (ZnO (p:=p) (b:=b) (x:=(fx1 i)) w (h.below hS.below) hp hpb (show Row _ _ 1 p.m _ from(hS.rowIn (k:=i) 2 rfl Oa Oa)) rfl (Zgo hp xV h0 Oa)) ?_;rintro _ w ⟨ax,ay,rfl,cw,cx,hS'⟩
  replace hS:=(hS.comp hS').n7;clear hS'
  refine zla (xli (n:=1) (len:=1) (pv:= [(0,.agg #[ax,ay,.int Oi p.stock,.int Oi p.kerf,.int Oi (b-1)])]) (cs:= [ax,ay,.int Oi p.stock,.int Oi p.kerf,.int Oi (b-1)]) (c:=ZS (pr2 ax ay) p.stock p.kerf (b-1)) Wt Zeo hS (hf:=by obtain⟨_,_,_,_,rfl,_⟩:=cw;obtain⟨_,_,_,_,rfl,_⟩:=cx;kernel_rfl)) ?_;rintro v1 w ⟨hS,hv1⟩
  refine zla (xap 3 (r:=i+1) Wt Zeo hS (hS.rowN 7 rfl) (ZdC _ _ _ _ _ _ _) (h1:=fun k _ _=>Zdi (Zje cw.one cx.one) k)) ?_;rintro v2 w ⟨hS,hv2⟩
  replace hS:=Sat.merge (l1:= [_,_,_,_]) (l2:= []) (l3:= [_,_]) hS Oa
  replace hS:=hS.rowsn 4 rfl (show _=2*i+1 by omega)
  have xp:=fun k (k0:0<=k) (k1:k<2*i+1)=>hS.slhIn 4 rfl k0 k1
  replace hS:=Sat.merge (l1:= [_,_,_,_]) (l2:= []) (l3:= [_]) hS Oa
  replace hS:=hS.rowsn 4 rfl (show _=2*i+2 by omega)
  have za:=fun k (k0:0<=k) (k1:k<2*i+2)=>hS.slhIn 4 rfl k0 k1
  replace hS:=hS.rerows (vv':=(gsn (gsn vv (2*i) ax) (2*i+1) ay)) (ln':=fun _=>p.m) (f':=(gfn p (MX p wi))) 4 rfl (Zff hpd h0 (xV.2 i h0 Oa) _)
  replace hS:=hS.rowsn 4 rfl (show 2*i+2=2*(i+1) by omega)
  refine(zP)<|zx10<|(zV (Zh (r:=i+1)))<|zlv xmv ?_
  have xV:Ls p.m ux1 fx1 (MX p wi)/\(MX p wi).length<=300:=by rcases zo with⟨_,g1,_⟩|⟨_,_,g1,_⟩|⟨_,_,_,g1,_⟩|⟨_,_,g2,_,g1⟩;omega;omega;omega;exact⟨g1,g2⟩
  have jh:=xV.2
  replace xV:=xV.1
  have hun:=ai.n0;have hul:=xV.1
  refine zln<|zlq ⟨i+1,(gsn (gsn vv (2*i) ax) (2*i+1) ay),v2,rfl,Oa,Oa,?_,rfl,hS.pk [0,1,2,3,4]⟩
  ·
   exact hv2
 refine zx8<|(Oo)<|zx1<|zf2 ⟨_,rfl,?_⟩
 have hi9:i=((MX p wi).length:Int):=by have:=xV.1;omega
 have eG:ZO p b wi:=⟨hpo,Oa,Oa,Oa,by have:=xV.1;omega⟩
 rw [YK eG]
 subst hi9
 exact⟨_,_,by rw [ZQ eG],hwG,hS.pk [3,4]⟩
 all_goals
  refine zOps ?_
  refine zlt<|zct<|zsr ?_
  refine zOps ?_
  refine zx14<|zf2 ⟨_,rfl,?_⟩
  have hno:¬ZO p b wi:=by
    rintro⟨⟨q1,q2,q3⟩,q4,⟨q5,q6⟩,q7,q8⟩
    first|omega|exact absurd (show Z5 p b from⟨q1,q2,q3⟩) ‹¬Z5 p b›|(rcases zo with⟨g1,_⟩|⟨_,g1,_⟩|⟨_,_,g1,_⟩|⟨_,_,_,g1,_⟩;exact absurd q1 g1;exact absurd ⟨q5,q6⟩ g1;omega;omega)
  rw [Vd hno]
  exact⟨_,(fun _=>Oh),by rw [ZA hno],slh_nil,((hS.sub (.cons _ .slnil)).addnil 5 39 (ZS (fun _=>Oh) p.stock p.kerf (b-1))).addrows 3 (fun _=>Oh) (fun _=>p.m) (gfn p (MX p wi))⟩
end Go.Proofs.YtpnamgfdakfccaaGreat
namespace Go.Proofs.Gw
open Go Go.RowKit
variable {i:Int} {w:World}
inductive Tr where
  |nil
  |mk (s:Int) (vK:Value) (n:Int) (kid:Int->Tr) (vL:Value) (nl:Int) (l:Of)
def Tr.s:Tr->Int| .nil=>0| .mk s _ _ _ _ _ _=>s
def Tr.vK:Tr->Value| .nil=> Oh| .mk _ v _ _ _ _ _=>v
def Tr.n:Tr->Int| .nil=>0| .mk _ _ n _ _ _ _=>n
def Tr.kid:Tr->Int->Tr| .nil=>fun _=> .nil| .mk _ _ _ k _ _ _=>k
def Tr.vL:Tr->Value| .nil=> Oh| .mk _ _ _ _ v _ _=>v
def Tr.nl:Tr->Int| .nil=>0| .mk _ _ _ _ _ n _=>n
def Tr.l:Tr->Int->Int| .nil=>fun _=>0| .mk _ _ _ _ _ _ l=>l
theorem Tr.ind{P:Tr->Prop}(h:∀t,(∀i,0<=i->i<t.n->P (t.kid i))->P t):∀t,P t
 | .nil=>h .nil fun i i0 i1=>by have i1':i<0:=i1;omega
 | .mk s vK n kid vL nl l=>h (.mk s vK n kid vL nl l) fun i _ _=>Tr.ind h (kid i)
def X4(S:Of)(K L:Int->Value):Int->Value:=fun j=>if j%3=0 then .int Oi (S (j/3)) else if j%3=1 then K (j/3) else L (j/3)
abbrev YL(kid:Int->Tr):Int->Value:=X4 (fun i=>(kid i).s) (fun i=>(kid i).vK) (fun i=>(kid i).vL)
theorem ZeS(S:Of)(K L:Int->Value){q:Int}(h:q=3*i):∀(j:Nat) u, [Value.int Oi (S i),K i,L i][j]? =some u->X4 S K L (q+j)=u:=fun j u hu=>by
 rcases j with _|_|_|j
 · cases hu;unfold X4;rw [if_pos Oa];congr 2;omega
 · cases hu;unfold X4;rw [if_neg Oa,if_pos Oa];congr 1;omega
 · cases hu;unfold X4;rw [if_neg Oa,if_neg Oa];congr 1;omega
 · simp at hu
theorem Vg(kid:Int->Tr){q:Int}(h:q=3*i):∀(j:Nat) u, [Value.int Oi (kid i).s,(kid i).vK,(kid i).vL][j]? =some u->YL kid (q+j)=u:=ZeS (fun i=>(kid i).s) (fun i=>(kid i).vK) (fun i=>(kid i).vL) h
theorem ZcY{S:Of}{K L:Int->Value}(hK:∀i,(K i).oneCell'=true)(hL:∀i,(L i).oneCell'=true)(j:Int):(X4 S K L j).oneCell'=true:=by
 unfold X4
 split
 · rfl
 · split
   · exact hK _
   · exact hL _
theorem ZdB(kid:Int->Tr)(n:Int)(t:Tr):cat (n*3) (YL kid) (X4 (fun _=>t.s) (fun _=>t.vK) (fun _=>t.vL))=YL (gsn kid n t):=by
 funext j
 unfold cat YL X4 gsn
 by_cases h:j<n*3
 · have h1:j/3<n:=Oa
   simp only [if_pos h,if_pos h1]
 · have h1:¬j/3<n:=Oa
   have e:(j-n*3)%3=j%3:=Oa
   simp only [if_neg h,if_neg h1,e]
def KAt(w:World):Tr->Prop
  | .nil=>True
  | .mk s vK n kid vL nl l=>(Row w vK 3 n (YL kid)/\56*n<=140737488351232)/\∀i,0<=i->i<n->KAt w (kid i)
def LvAt(w:World):Tr->Prop
  | .nil=>True
  | .mk s vK n kid vL nl l=>(IAt w vL nl l/\W0 vL/\(-9223372036854775808<=s/\s<=9223372036854775807))/\∀i,0<=i->i<n->LvAt w (kid i)
theorem KAt.row{t:Tr}(h:KAt w t):Row w t.vK 3 t.n (YL t.kid):=by
 cases t with
 |nil=>exact Td _ _ _
 |mk=>exact h.1.1
theorem KAt.sub{t:Tr}(h:KAt w t)(i0:0<=i)(i1:i<t.n):KAt w (t.kid i):=by
 cases t with
 |nil=>exact trivial
 |mk=>exact h.2 i i0 i1
theorem LvAt.leaf{t:Tr}(h:LvAt w t):IAt w t.vL t.nl t.l:=by
 cases t with
 |nil=>exact⟨Td _ _ _,fun k=>by show _<=(0:Int)/\(0:Int)<=_;omega⟩
 |mk=>exact h.1.1
theorem LvAt.room{t:Tr}(h:LvAt w t):W0 t.vL:=by
 cases t with
 |nil=>intro a len cap e;cases e;exact Nat.le_refl _
 |mk=>exact h.1.2.1
theorem LvAt.sub{t:Tr}(h:LvAt w t)(i0:0<=i)(i1:i<t.n):LvAt w (t.kid i):=by
 cases t with
 |nil=>exact trivial
 |mk=>exact h.2 i i0 i1
theorem KAt.below{w w':World}(hb:Below w.heap.size w w'):∀{t:Tr},KAt w t->KAt w' t
 | .nil,_=>trivial
 | .mk s vK n kid vL nl l,h=>⟨⟨h.1.1.below hb,h.1.2⟩,fun i i0 i1=>KAt.below hb (h.2 i i0 i1)⟩
theorem LvAt.below{w w':World}(hb:Below w.heap.size w w'):∀{t:Tr},LvAt w t->LvAt w' t
 | .nil,_=>trivial
 | .mk s vK n kid vL nl l,h=>⟨⟨h.1.1.below hb,h.1.2.1,h.1.2.2⟩,fun i i0 i1=>LvAt.below hb (h.2 i i0 i1)⟩
def Uo(f:Of):Nat->Int
  |0=>1
  |k+1=>IntKind.i64.wrap (Uo f k+f k)
def VB(f:Of):Nat->Int
  |0=>0
  |k+1=>max (VB f k) (f k)
theorem RM(f:Of)(h:0<=i):Uo f (i+1).toNat=IntKind.i64.wrap (Uo f i.toNat+f i):=by
 rw [show(i+1).toNat=i.toNat+1 by omega]
 simp only [Uo]
 rw [show((i.toNat:Nat):Int)=i by omega]
theorem R9(f:Of)(h:0<=i):VB f (i+1).toNat=max (VB f i.toNat) (f i):=by
 rw [show(i+1).toNat=i.toNat+1 by omega]
 simp only [VB]
 rw [show((i.toNat:Nat):Int)=i by omega]
theorem TB{f g:Of}:∀{k:Nat},(∀i,0<=i->i<(k:Int)->f i=g i)->Uo f k=Uo g k
 |0,_=>rfl
 |k+1,h=>by simp only [Uo];rw [TB (k:=k) fun i a b=>h i a Oa,h k Oa Oa]
theorem TU{f g:Of}:∀{k:Nat},(∀i,0<=i->i<(k:Int)->f i=g i)->VB f k=VB g k
 |0,_=>rfl
 |k+1,h=>by simp only [VB];rw [TU (k:=k) fun i a b=>h i a Oa,h k Oa Oa]
def Tr.nodes:Tr->Int| .nil=>1| .mk _ _ n kid _ _ _=>Uo (fun i=>(kid i).nodes) n.toNat
def Tr.depth:Tr->Int| .nil=>IntKind.i64.wrap (0+1)| .mk _ _ n kid _ _ _=>IntKind.i64.wrap (VB (fun i=>(kid i).depth) n.toNat+1)
theorem Tr.nodes_eq(t:Tr):t.nodes=Uo (fun i=>(t.kid i).nodes) t.n.toNat:=by cases t<;>rfl
theorem Tr.depth_eq(t:Tr):t.depth=IntKind.i64.wrap (VB (fun i=>(t.kid i).depth) t.n.toNat+1):=by cases t<;>rfl
theorem ZkM{P:Program}{L:List (Nat×Value)}{w:World}{o:Oper}{x y:Operand}{T T':TypeId}{m n:Int}(ho:o.op= .binOp .add T x y T':=by exact rfl)(hx:evL L x=some (.int Oi m):=by exact rfl)(hy:evL L y=some (.int Oi n):=by exact rfl):Runs P L w o (.value (.int Oi (IntKind.i64.wrap (m+n)))) w:=fun ρ h=>by
 simp [execOp,ho,h _ _ hx,h _ _ hy,go_sem,Op.intArith]
def ZP(x:Int):Prop:= -1073741824<=x/\x<=1073741824
def OkN(t:Tr):Prop:=ZP t.s/\t.n<=100/\t.nl<=40/\(t.n=0\/t.nl=0)/\(t.n=0->t.s=0)/\∀k,0<=k->k<t.nl->ZP (t.l k)
def Tr.ok:Tr->Prop| .nil=>OkN .nil| .mk s vK n kid vL nl l=>OkN (.mk s vK n kid vL nl l)/\∀i,0<=i->i<n->(kid i).ok
theorem Tr.ok_iff(t:Tr):t.ok↔OkN t/\∀i,0<=i->i<t.n->(t.kid i).ok:=by
 cases t with
 |nil=>exact⟨fun h=>⟨h,fun i i0 i1=>by have i1':i<0:=i1;omega⟩,fun h=>h.1⟩
 |mk=>rfl
def YM(t:Tr):Prop:=t.ok/\t.nodes<=2000/\t.depth<=40
def Frame.all(n:Int)(F:Int->Frame):Frame where
  holds w:=(∀i,0<=i->i<n->(F i).holds w)/\∀i j,0<=i->i<n->0<=j->j<n->i≠j->∀g,(F i).has g->¬(F j).has g
  has g:=∃i,0<=i/\i<n/\(F i).has g
  keep h hk:=⟨fun i i0 i1=>(F i).keep (h.1 i i0 i1) fun g hg=>hk g ⟨i,i0,i1,hg⟩,h.2⟩
  lt h hg:=by obtain⟨i,i0,i1,hg⟩:=hg;exact(F i).lt (h.1 i i0 i1) hg
def Tr.frame(E:TypeId):Tr->Frame| .nil=>Frame.bun []| .mk s vK n kid vL nl l=>Frame.bun [.own vK 3 E n (YL kid),.sem (Frame.all n fun i=>(kid i).frame E)]
theorem Sat.addall{w0:World}{l:List Ent}(h:Sat w0 w l)(F:Int->Frame):Sat w0 w (l++ [.sem (Frame.all 0 F)]):=by
 refine h.comp (m:= [.sem (Frame.all 0 F)]) ⟨Below.refl _ _,?_,?_,List.pairwise_singleton _ _⟩
 · intro e he;obtain rfl:=List.mem_singleton.1 he;exact⟨fun i i0 i1=>Oa,fun i j i0 i1=>Oa⟩
 · intro e he g hg;obtain rfl:=List.mem_singleton.1 he;obtain⟨i,i0,i1,_⟩:=hg;omega
theorem Sat.allsnoc {w0:World} {l1 l2 l3:List Ent} {n:Int} {F:Int->Frame} {G:Frame} (h:Sat w0 w (l1++ .sem (Frame.all n F)::(l2++ .sem G::l3))) (hn:0<=n) {H:Int->Frame} (hH:∀i,0<=i->i<n->H i=F i) (hG:H n=G):Sat w0 w (l1++ .sem (Frame.all (n+1) H)::(l2++l3)):=by
 have hs:=List.pairwise_append.1 h.sep
 have hs2:=List.pairwise_cons.1 hs.2.1
 have hs3:=List.pairwise_append.1 hs2.2
 have hs4:=List.pairwise_cons.1 hs3.2.1
 have hF:=h.holds (.sem (Frame.all n F)) (by simp)
 have hg:=h.holds (.sem G) (by simp)
 have hAG:∀k,(∃i,0<=i/\i<n/\(F i).has k)->¬G.has k:=fun k hk hk'=>hs2.1 (.sem G) (by simp) k hk hk'
 have hH1:∀i,0<=i->i<n+1->H i=F i/\i<n\/H i=G/\i=n:=fun i i0 i1=>by
   by_cases e:i<n
   · exact .inl ⟨hH i i0 e,e⟩
   · obtain rfl:i=n:=Oa
     exact .inr ⟨hG,rfl⟩
 have dF:∀k,(Frame.all (n+1) H).has k->(Frame.all n F).has k\/G.has k:=fun k ⟨i,i0,i1,hk⟩=>by
   rcases hH1 i i0 i1 with⟨e,e1⟩|⟨e,e1⟩
   · rw [e] at hk;exact .inl ⟨i,i0,e1,hk⟩
   · rw [e] at hk;exact .inr hk
 refine⟨h.below,fun e he=> ?_,fun e he g hg'=> ?_,List.pairwise_append.2 ⟨hs.1,List.pairwise_cons.2 ⟨fun e he g hg' hg2=> ?_,List.pairwise_append.2 ⟨hs3.1,hs4.2,fun d hd e he=>hs3.2.2 d hd e (by simp [he])⟩⟩,fun d hd e he=> ?_⟩⟩
 · rcases List.mem_append.1 he with he|he
   · exact h.holds e (by simp [he])
   · rcases List.mem_cons.1 he with rfl|he
     · refine⟨fun i i0 i1=> ?_,fun i j i0 i1 j0 j1 hij k hk hk'=> ?_⟩
       · rcases hH1 i i0 i1 with⟨e,e1⟩|⟨e,e1⟩
         · rw [e];exact hF.1 i i0 e1
         · rw [e];exact hg
       · rcases hH1 i i0 i1 with⟨e,e1⟩|⟨e,e1⟩<;>rcases hH1 j j0 j1 with⟨d,d1⟩|⟨d,d1⟩<;>rw [e] at hk<;>rw [d] at hk'
         · exact hF.2 i j i0 e1 j0 d1 hij k hk hk'
         · exact hAG k ⟨i,i0,e1,hk⟩ hk'
         · exact hAG k ⟨j,j0,d1,hk'⟩ hk
         · omega
     · rcases List.mem_append.1 he with he|he
       · exact h.holds e (by simp [he])
       · exact h.holds e (by simp [he])
 · rcases List.mem_append.1 he with he|he
   · exact h.new e (by simp [he]) g hg'
   · rcases List.mem_cons.1 he with rfl|he
     · rcases dF g hg' with hg'|hg'
       · exact h.new (.sem (Frame.all n F)) (by simp) g hg'
       · exact h.new (.sem G) (by simp) g hg'
     · rcases List.mem_append.1 he with he|he
       · exact h.new e (by simp [he]) g hg'
       · exact h.new e (by simp [he]) g hg'
 · rcases dF g hg' with hg'|hg'
   · rcases List.mem_append.1 he with he|he
     · exact hs2.1 e (by simp [he]) g hg' hg2
     · exact hs2.1 e (by simp [he]) g hg' hg2
   · rcases List.mem_append.1 he with he|he
     · exact hs3.2.2 e he (.sem G) (by simp) g hg2 hg'
     · exact hs4.1 e he g hg' hg2
 · intro g hg1 hg2
   rcases List.mem_cons.1 he with rfl|he
   · rcases dF g hg2 with hg2|hg2
     · exact hs.2.2 d hd (.sem (Frame.all n F)) (by simp) g hg1 hg2
     · exact hs.2.2 d hd (.sem G) (by simp) g hg1 hg2
   · rcases List.mem_append.1 he with he|he
     · exact hs.2.2 d hd e (by simp [he]) g hg1 hg2
     · exact hs.2.2 d hd e (by simp [he]) g hg1 hg2
end Go.Proofs.Gw
namespace Go.Proofs.YtpnamgfdakfccaaGreat
open Go Go.RowKit Go.Proofs.Gw
theorem ZhN:Zd Om 140=true:=Oc
theorem ZhM:Zd Om 141=true:=Oc
theorem WV:ZN Om 32=some (.agg #[.int Oi 0,Oh,Oh],3,56):=Oc
theorem fd_32_1:Zv Om 32 1=some 1:=Oc
theorem WG:ZG Om 30=true:=Oc
theorem Xw:Zu Om 30=some (32,3):=Oc
theorem st_32:Zx Om 32=some 3:=Oc
theorem Zkh:∀(t:Tr) (w0:World) (hK:KAt w0 t) (hV:LvAt w0 t),
   Calls Om 140 [.agg #[.int Oi t.s,t.vK,t.vL]].toArray w0 fun e w=>∃v,e= .returned v/\v= .int Oi t.nodes/\Sat w0 w []:=by
 refine Tr.ind fun t ih=> ?_
 intro w0 hK hV
 have hn:=hK.row.slh.n0;have hn1:=hK.row.slh.n1
 refine zenG Tryz.func140 Tryz.ntmps140 fun w hS=> ?_
 refine zsr<|zla (xbx (cs:= [_,_,_]) hS) ?_;rintro _ w ⟨g1,rfl,hS⟩
 refine(zP)<|zlz<|(zP)<|zx5<|(zV (xfb 1 fd_32_1))<|(zV (xlb 0 WG hS))<|(zV (xln Xw (hK).row.slh))<|(zP)<|zx6<|zlp (fun mm M w=>∃(s:Int) (i:Int),mm=((t.n-i).toNat)/\(0<=i)/\(i<=t.n)/\(s=Uo (fun i=>(t.kid i).nodes) i.toNat)/\M= [(2,.int Oi 0),(3,.int Oi s),(7,t.vK),(8,.int Oi t.n),(9,.int Oi i)]/\Sat w0 w [.blk g1 [.int Oi t.s,t.vK,t.vL]]) ⟨1,0,rfl,Oa,Oa,?_,rfl,hS⟩ ?_
 ·
  rfl
 clear hS w
 rintro mm M w ⟨s,i,rfl,h0,h1,hs9,rfl,hS⟩
 refine zsr<|(zP)<|zx7<|Zf ?_ ?_<;>intro hc
 ·
  refine zx3<|(zV (xix (kk:=3*i) Xw (hK).row.slh))<|(zV (xlw (cs:= [.int Oi ((t.kid i).s),(t.kid i).vK,(t.kid i).vL]) st_32 ((hK).row.below hS.below) (Vg (q:=3*i) (i:=i) _ Oa)))<|zla (xal (cs:= [_,_,_]) WV hS) ?_;rintro _ w ⟨g2,rfl,hS⟩
  refine zle (xsw 1 st_32 hS (hd:=(Za rfl (Za ((hK).sub (i:=i) Oa Oa).row.slh.one (Za ((hV).sub (i:=i) Oa Oa).leaf.row.slh.one Zi))))) ?_;clear hS;rintro w hS
  refine zlt<|zrg<|(zP)<|(zV (xls 1 st_32 hS))<|zlc (xc0 ZhN) (ih i Oa Oa w (KAt.below hS.below ((hK).sub (i:=i) Oa Oa)) (LvAt.below hS.below ((hV).sub (i:=i) Oa Oa))) ?_;rintro _ w ⟨rfl,hS'⟩
  replace hS:=hS.cmp hS';clear hS'
  refine(zV ZkM)<|(zP)<|zx10<|(zV (Zh (r:=i+1)))<|(zP)<|zln<|zlq ⟨(IntKind.i64.wrap (s+((t.kid i).nodes))),i+1,rfl,Oa,Oa,?_,rfl,hS.pk [0]⟩
  ·
   rw [RM _ h0,<-hs9]
 refine zx8<|(On)<|zx1<|Oj ?_
 obtain rfl:i=t.n:=Oa
 exact⟨by rw [t.nodes_eq,<-hs9],hS.nl⟩
theorem Zks:∀(t:Tr) (w0:World) (hK:KAt w0 t) (hV:LvAt w0 t),
   Calls Om 141 [.agg #[.int Oi t.s,t.vK,t.vL]].toArray w0 fun e w=>∃v,e= .returned v/\v= .int Oi t.depth/\Sat w0 w []:=by
 refine Tr.ind fun t ih=> ?_
 intro w0 hK hV
 have hn:=hK.row.slh.n0;have hn1:=hK.row.slh.n1
 refine zenG Tryz.func141 Tryz.ntmps141 fun w hS=> ?_
 refine zsr<|zla (xbx (cs:= [_,_,_]) hS) ?_;rintro _ w ⟨g1,rfl,hS⟩
 refine(zP)<|zlz<|(zP)<|zx5<|(zV (xfb 1 fd_32_1))<|(zV (xlb 0 WG hS))<|(zV (xln Xw (hK).row.slh))<|(zP)<|zx6<|zlp (fun mm M w=>∃(s:Int) (i:Int),mm=((t.n-i).toNat)/\(0<=i)/\(i<=t.n)/\(s=VB (fun i=>(t.kid i).depth) i.toNat)/\M= [(2,.int Oi 0),(3,.int Oi s),(7,t.vK),(8,.int Oi t.n),(9,.int Oi i)]/\Sat w0 w [.blk g1 [.int Oi t.s,t.vK,t.vL]]) ⟨0,0,rfl,Oa,Oa,?_,rfl,hS⟩ ?_
 ·
  rfl
 clear hS w
 rintro mm M w ⟨s,i,rfl,h0,h1,hs9,rfl,hS⟩
 refine zsr<|(zP)<|zx7<|Zf ?_ ?_<;>intro hc
 ·
  refine zx3<|(zV (xix (kk:=3*i) Xw (hK).row.slh))<|(zV (xlw (cs:= [.int Oi ((t.kid i).s),(t.kid i).vK,(t.kid i).vL]) st_32 ((hK).row.below hS.below) (Vg (q:=3*i) (i:=i) _ Oa)))<|zla (xal (cs:= [_,_,_]) WV hS) ?_;rintro _ w ⟨g2,rfl,hS⟩
  refine zle (xsw 1 st_32 hS (hd:=(Za rfl (Za ((hK).sub (i:=i) Oa Oa).row.slh.one (Za ((hV).sub (i:=i) Oa Oa).leaf.row.slh.one Zi))))) ?_;clear hS;rintro w hS
  refine zlt<|zrg<|(zP)<|(zV (xls 1 st_32 hS))<|zlc (xc0 ZhM) (ih i Oa Oa w (KAt.below hS.below ((hK).sub (i:=i) Oa Oa)) (LvAt.below hS.below ((hV).sub (i:=i) Oa Oa))) ?_;rintro _ w ⟨rfl,hS'⟩
  replace hS:=hS.cmp hS';clear hS'
  refine(zV (ZfS (r:=(max s ((t.kid i).depth)))))<|(zP)<|zx10<|(zV (Zh (r:=i+1)))<|(zP)<|zln<|zlq ⟨(max s ((t.kid i).depth)),i+1,rfl,Oa,Oa,?_,rfl,hS.pk [0]⟩
  ·
   rw [R9 _ h0,<-hs9]
 refine zx8<|(zP)<|(zV ZkM)<|(zP)<|zx1<|Oj ?_
 obtain rfl:i=t.n:=Oa
 exact⟨by rw [t.depth_eq,<-hs9],hS.nl⟩
theorem ZhD:Zd Om 274=true:=Oc
theorem ZmJ:Zd Om 275=true:=Oc
theorem fd_32_0:Zv Om 32 0=some 0:=Oc
theorem fd_32_2:Zv Om 32 2=some 2:=Oc
theorem KC{x:Int}(w0:World):
   Calls Om 274 [.int Oi x].toArray w0 fun e w=>∃v,e= .returned v/\v=B (ZP x)/\Sat w0 w []:=by
 refine zenG Tryz.func274 Tryz.ntmps274 fun w hS=> ?_
 refine zsr<|(zP)<|zlz<|(Oo)<|zlb 5 ?_ ?_<;>intro hc
 ·
  refine zs4 ?_
  refine zx1<|Oj ?_
  exact⟨Zm (by unfold ZP;omega),hS⟩
 refine(zO)<|(zO)<|(On)<|zx1<|Oj ?_
 exact⟨Zj (by unfold ZP;omega),hS⟩
theorem ZnJ{x:Int}(w0:World):
   Calls Om 275 [.int Oi x].toArray w0 fun e w=>∃v,e= .returned v/\v=B (¬ZP x)/\Sat w0 w []:=by
 refine zenG Tryz.func275 Tryz.ntmps275 fun w hS=> ?_
 refine zsr<|(zP)<|zlz<|(zP)<|zlc (xc0 ZhD) (KC (x:=x) w) ?_;rintro _ w ⟨rfl,hS'⟩
 replace hS:=hS.cmp hS';clear hS'
 refine(On)<|zx1<|Oj ?_
 exact⟨rfl,hS⟩
theorem ZnQ{v:Value}{n:Int}{f:Of}(w0:World)(hR:Row w0 v 1 n (ints f)):
   Calls Om 147 [v,.func (.func 275) #[] #[]].toArray w0 fun e w=>∃v,e= .returned v/\∃r:Int,v= .int Oi r/\((r= -1/\∀k,0<=k->k<n->¬(¬ZP (f k)))\/(0<=r/\r<n/\(¬ZP (f r))))/\Sat w0 w []:=by
 have hn:=hR.slh.n0;have hn1:=hR.slh.n1
 refine zenG Tryz.func147 Tryz.ntmps147 fun w hS=> ?_
 refine zsr<|(zP)<|zx5<|(zP)<|(zV (xln Zb hR.slh))<|(zP)<|zx6<|zlp (fun mm M w=>∃(i:Int),mm=((n-i).toNat)/\(0<=i)/\(i<=n)/\(∀k,0<=k->k<i->¬(¬ZP (f k)))/\M= [(0,v),(1,.func (.func 275) #[] #[]),(7,.int Oi n),(8,.int Oi i)]/\Sat w0 w []) ⟨0,rfl,Oa,Oa,?_,rfl,hS⟩ ?_
 ·
  intro k h0 h1;omega
 clear hS w
 rintro mm M w ⟨i,rfl,h0,h1,qa,rfl,hS⟩
 refine zsr<|(zP)<|zx7<|Zf ?_ ?_<;>intro hc
 ·
  refine zx3<|(On)<|zlz<|(Oo)<|(zV (xix (kk:=i) Zb hR.slh))<|(zV (xlr (u:= .int Oi (f i)) pl_3 (hR.below hS.below)))<|zlc (xc0 ZmJ) (ZnJ (x:=(f i)) w) ?_;rintro _ w ⟨rfl,hS'⟩
  replace hS:=hS.cmp hS';clear hS'
  refine zlt<|Zf ?_ ?_<;>intro hc
  ·
   refine zsr<|(On)<|zx2<|Oj ?_
   exact⟨i,rfl,.inr ⟨by omega,Oa,‹¬ZP (f i)›⟩,hS⟩
  refine zx4<|(zV (Zh (r:=i+1)))<|(zP)<|zln<|zlq ⟨i+1,rfl,Oa,Oa,?_,rfl,hS⟩
  ·
   intro k h0' h1';rcases Int.lt_or_eq_of_le (show k<=i by omega) with hk|hk;exact qa k h0' hk;rw [hk];assumption
 refine zx8<|(zP)<|zx1<|Oj ?_
 exact⟨-1,rfl,.inl ⟨rfl,fun k h0 h1=>qa k h0 Oa⟩,hS⟩
theorem Zn3{v:Value}{n:Int}{f:Of}(w0:World)(hR:Row w0 v 1 n (ints f)):
   Calls Om 90 [v,.func (.func 275) #[] #[]].toArray w0 fun e w=>∃v,e= .returned v/\v=B (∃k,0<=k/\k<n/\¬ZP (f k))/\Sat w0 w []:=by
 refine zenG Tryz.func90 Tryz.ntmps90 fun w hS=> ?_
 refine zsr<|(zP)<|zlz<|(On)<|zlc (xc0 WX) (ZnQ (n:=n) (f:=f) w (hR.below hS.below)) ?_;rintro _ w ⟨r1,rfl,hr1,hS'⟩
 replace hS:=hS.cmp hS';clear hS'
 refine(On)<|zx1<|Oj ?_
 exact⟨Zm (by
  rcases hr1 with⟨h1,h2⟩|⟨h1,h2,h3⟩
  · exact⟨fun h=>Oa,fun⟨k,h4,h5,h6⟩=>absurd h6 (h2 k h4 h5)⟩
  · exact⟨fun _=>⟨_,h1,h2,h3⟩,fun _=>h1⟩),hS⟩
theorem ZnI{t:Tr}(w0:World)(hK:KAt w0 t)(hV:LvAt w0 t):
   Calls Om 219 [.agg #[.int Oi t.s,t.vK,t.vL]].toArray w0 fun e w=>∃v,e= .returned v/\v=B (OkN t)/\Sat w0 w []:=by
 have hn:=hK.row.slh.n0;have hn1:=hK.row.slh.n1;have hln:=hV.leaf.row.slh.n0;have bP:=hV.leaf.row.slh.n1
 refine zenG Tryz.func219 Tryz.ntmps219 fun w hS=> ?_
 refine zsr<|zla (xbx (cs:= [_,_,_]) hS) ?_;rintro _ w ⟨g1,rfl,hS⟩
 refine(zP)<|zx5<|(zV (xfb 1 fd_32_1))<|(zV (xlb 0 WG hS))<|(zV (xln Xw (hK).row.slh))<|(zP)<|zlt<|Zf ?_ ?_<;>intro hc
 ·
  refine zsr<|(zV (xfb 2 fd_32_2))<|(zV (xlb 0 pl_22 hS))<|(zV (xln Zb (hV).leaf.row.slh))<|(On)<|zlb 11 ?_ ?_<;>intro hc
  ·
   refine(zV (xfb 1 fd_32_1))<|(zV (xlb 0 WG hS))<|(zV (xln Xw (hK).row.slh))<|(Oo)<|zlb 17 ?_ ?_<;>intro hc
   ·
    refine(zV (xfb 0 fd_32_0))<|(zV (xlb 0 pl_3 hS))<|zlc (xc0 ZhD) (KC (x:=t.s) w) ?_;rintro _ w ⟨rfl,hS'⟩
    replace hS:=hS.cmp hS';clear hS'
    refine(On)<|zx14<|Oj ?_
    exact⟨Zm ⟨fun hh=>⟨by first|assumption|(unfold ZP;omega),Oa,Oa,Oa,fun h0=>Oa,fun k k0 k1=>by first|omega|exact Classical.byContradiction fun h9=>absurd (show∃k,0<=k/\k<t.nl/\¬ZP (t.l k) from⟨k,k0,k1,h9⟩) (by assumption)⟩,fun hh=>by obtain⟨h1,h2,h3,h4,h5,h6⟩:=hh;first|exact h1|exact fun⟨k,k0,k1,k2⟩=>k2 (h6 k k0 k1)|omega⟩,hS.nl⟩
   iterate 3 refine zlo ?_
   refine(On)<|zx14<|Oj ?_
   exact⟨Zj (by rintro⟨h1,h2,h3,h4,h5,h6⟩;first|omega|(have:=h5 Oa;omega)|exact absurd h1 ‹¬ZP t.s›|(obtain⟨k,k0,k1,k2⟩:=‹∃k,0<=k/\k<t.nl/\¬ZP (t.l k)›;exact k2 (h6 k k0 k1))),hS.nl⟩
  iterate 4 refine zlo ?_
  refine zs2 ?_
  iterate 3 refine zlo ?_
  refine(On)<|zx14<|Oj ?_
  exact⟨Zj (by rintro⟨h1,h2,h3,h4,h5,h6⟩;first|omega|(have:=h5 Oa;omega)|exact absurd h1 ‹¬ZP t.s›|(obtain⟨k,k0,k1,k2⟩:=‹∃k,0<=k/\k<t.nl/\¬ZP (t.l k)›;exact k2 (h6 k k0 k1))),hS.nl⟩
 refine ZV<|(zV (xfb 0 fd_32_0))<|(zV (xlb 0 pl_3 hS))<|(On)<|zlb 25 ?_ ?_<;>intro hc
 ·
  refine(zV (xfb 2 fd_32_2))<|(zV (xlb 0 pl_22 hS))<|(zV (xln Zb (hV).leaf.row.slh))<|(Oo)<|zlb 31 ?_ ?_<;>intro hc
  ·
   refine(zV (xfb 2 fd_32_2))<|(zV (xlb 0 pl_22 hS))<|zlc (xc0 U2) (Zn3 (n:=t.nl) (f:=t.l) w ((hV).leaf.row.below hS.below)) ?_;rintro _ w ⟨rfl,hS'⟩
   replace hS:=hS.cmp hS';clear hS'
   refine(Oo)<|zx1<|Oj ?_
   exact⟨Zm ⟨fun hh=>⟨by first|assumption|(unfold ZP;omega),Oa,Oa,Oa,fun h0=>Oa,fun k k0 k1=>by first|omega|exact Classical.byContradiction fun h9=>absurd (show∃k,0<=k/\k<t.nl/\¬ZP (t.l k) from⟨k,k0,k1,h9⟩) (by assumption)⟩,fun hh=>by obtain⟨h1,h2,h3,h4,h5,h6⟩:=hh;first|exact h1|exact fun⟨k,k0,k1,k2⟩=>k2 (h6 k k0 k1)|omega⟩,hS.nl⟩
  iterate 4 refine zlo ?_
  refine(On)<|zx1<|Oj ?_
  exact⟨Zj (by rintro⟨h1,h2,h3,h4,h5,h6⟩;first|omega|(have:=h5 Oa;omega)|exact absurd h1 ‹¬ZP t.s›|(obtain⟨k,k0,k1,k2⟩:=‹∃k,0<=k/\k<t.nl/\¬ZP (t.l k)›;exact k2 (h6 k k0 k1))),hS.nl⟩
 iterate 4 refine zlo ?_
 refine zs2 ?_
 iterate 4 refine zlo ?_
 refine(On)<|zx1<|Oj ?_
 exact⟨Zj (by rintro⟨h1,h2,h3,h4,h5,h6⟩;first|omega|(have:=h5 Oa;omega)|exact absurd h1 ‹¬ZP t.s›|(obtain⟨k,k0,k1,k2⟩:=‹∃k,0<=k/\k<t.nl/\¬ZP (t.l k)›;exact k2 (h6 k k0 k1))),hS.nl⟩
theorem ZhL:Zd Om 142=true:=Oc
theorem Zm2:Zd Om 219=true:=Oc
theorem Zm1:Zd Om 220=true:=Oc
theorem Zm0:Zd Om 221=true:=Oc
theorem ZmI:Zd Om 276=true:=Oc
theorem ZpJ{t:Tr}(w0:World)(hK:KAt w0 t)(hV:LvAt w0 t)(hal:∀(w0:World),KAt w0 t->LvAt w0 t->Calls Om 142 [.agg #[.int Oi t.s,t.vK,t.vL]].toArray w0 fun e w=>∃v,e= .returned v/\v=B t.ok/\Sat w0 w []):
   Calls Om 221 [.agg #[.int Oi t.s,t.vK,t.vL]].toArray w0 fun e w=>∃v,e= .returned v/\v=B (¬t.ok)/\Sat w0 w []:=by
 refine zenG Tryz.func221 Tryz.ntmps221 fun w hS=> ?_
 refine zsr<|zla (xbx (cs:= [_,_,_]) hS) ?_;rintro _ w ⟨g1,rfl,hS⟩
 refine(zP)<|zlz<|(zV (xls 0 st_32 hS))<|zlc (xc0 ZhL) (hal w (KAt.below hS.below (hK)) (LvAt.below hS.below (hV))) ?_;rintro _ w ⟨rfl,hS'⟩
 replace hS:=hS.cmp hS';clear hS'
 refine(On)<|zx1<|Oj ?_
 exact⟨rfl,hS.nl⟩
theorem ZnX{t:Tr}(w0:World)(hK:KAt w0 t)(hV:LvAt w0 t)(iha:∀i,0<=i->i<t.n->∀(w0:World),KAt w0 (t.kid i)->LvAt w0 (t.kid i)->Calls Om 142 [.agg #[.int Oi (t.kid i).s,(t.kid i).vK,(t.kid i).vL]].toArray w0 fun e w=>∃v,e= .returned v/\v=B (t.kid i).ok/\Sat w0 w []):
   Calls Om 276 [t.vK,.func (.func 221) #[] #[]].toArray w0 fun e w=>∃v,e= .returned v/\∃r:Int,v= .int Oi r/\((r= -1/\∀k,0<=k->k<t.n->(t.kid k).ok)\/(0<=r/\r<t.n/\¬(t.kid r).ok))/\Sat w0 w []:=by
 have hn:=hK.row.slh.n0;have hn1:=hK.row.slh.n1;have hln:=hV.leaf.row.slh.n0;have bP:=hV.leaf.row.slh.n1
 refine zenG Tryz.func276 Tryz.ntmps276 fun w hS=> ?_
 refine zsr<|(zP)<|zx5<|(zP)<|(zV (xln Xw (hK).row.slh))<|(zP)<|zx6<|zlp (fun mm M w=>∃(i:Int),mm=((t.n-i).toNat)/\(0<=i)/\(i<=t.n)/\(∀k,0<=k->k<i->(t.kid k).ok)/\M= [(0,t.vK),(1,.func (.func 221) #[] #[]),(7,.int Oi t.n),(8,.int Oi i)]/\Sat w0 w []) ⟨0,rfl,Oa,Oa,?_,rfl,hS⟩ ?_
 ·
  intro k h0 h1;omega
 clear hS w
 rintro mm M w ⟨i,rfl,h0,h1,qa,rfl,hS⟩
 refine zsr<|(zP)<|zx7<|Zf ?_ ?_<;>intro hc
 ·
  refine zx3<|(On)<|zlz<|(Oo)<|(zV (xix (kk:=3*i) Xw (hK).row.slh))<|(zV (xlw (cs:= [.int Oi ((t.kid i).s),(t.kid i).vK,(t.kid i).vL]) st_32 ((hK).row.below hS.below) (Vg (q:=3*i) (i:=i) _ Oa)))<|zlc (xc0 Zm0) (ZpJ (t:=(t.kid i)) w (KAt.below hS.below ((hK).sub (i:=i) Oa Oa)) (LvAt.below hS.below ((hV).sub (i:=i) Oa Oa)) (iha i Oa Oa)) ?_;rintro _ w ⟨rfl,hS'⟩
  replace hS:=hS.cmp hS';clear hS'
  refine zlt<|Zf ?_ ?_<;>intro hc
  ·
   refine zsr<|(On)<|zx2<|Oj ?_
   exact⟨i,rfl,.inr ⟨by omega,Oa,‹¬(t.kid i).ok›⟩,hS⟩
  refine zx4<|(zV (Zh (r:=i+1)))<|(zP)<|zln<|zlq ⟨i+1,rfl,Oa,Oa,?_,rfl,hS⟩
  ·
   intro k k0 k1;rcases Int.lt_or_eq_of_le (show k<=i by omega) with hk|hk
   · exact qa k k0 hk
   · rw [hk];exact Od ‹_›
 refine zx8<|(zP)<|zx1<|Oj ?_
 exact⟨-1,rfl,.inl ⟨rfl,fun k h0 h1=>qa k h0 Oa⟩,hS⟩
theorem Zn7{t:Tr}(w0:World)(hK:KAt w0 t)(hV:LvAt w0 t)(iha:∀i,0<=i->i<t.n->∀(w0:World),KAt w0 (t.kid i)->LvAt w0 (t.kid i)->Calls Om 142 [.agg #[.int Oi (t.kid i).s,(t.kid i).vK,(t.kid i).vL]].toArray w0 fun e w=>∃v,e= .returned v/\v=B (t.kid i).ok/\Sat w0 w []):
   Calls Om 220 [t.vK,.func (.func 221) #[] #[]].toArray w0 fun e w=>∃v,e= .returned v/\v=B (∃k,0<=k/\k<t.n/\¬(t.kid k).ok)/\Sat w0 w []:=by
 refine zenG Tryz.func220 Tryz.ntmps220 fun w hS=> ?_
 refine zsr<|(zP)<|zlz<|(On)<|zlc (xc0 ZmI) (ZnX (t:=t) w (KAt.below hS.below (hK)) (LvAt.below hS.below (hV)) iha) ?_;rintro _ w ⟨r1,rfl,hr1,hS'⟩
 replace hS:=hS.cmp hS';clear hS'
 refine(On)<|zx1<|Oj ?_
 exact⟨Zm (by
  rcases hr1 with⟨h1,h2⟩|⟨h1,h2,h3⟩
  · exact⟨fun h=>Oa,fun⟨k,h4,h5,h6⟩=>absurd (h2 k h4 h5) h6⟩
  · exact⟨fun _=>⟨_,h1,h2,h3⟩,fun _=>h1⟩),hS⟩
theorem ZkC:∀(t:Tr) (w0:World) (hK:KAt w0 t) (hV:LvAt w0 t),
   Calls Om 142 [.agg #[.int Oi t.s,t.vK,t.vL]].toArray w0 fun e w=>∃v,e= .returned v/\v=B t.ok/\Sat w0 w []:=by
 refine Tr.ind fun t ih=> ?_
 intro w0 hK hV
 refine zenG Tryz.func142 Tryz.ntmps142 fun w hS=> ?_
 refine zsr<|zla (xbx (cs:= [_,_,_]) hS) ?_;rintro _ w ⟨g1,rfl,hS⟩
 refine(zP)<|zlz<|(zV (xls 0 st_32 hS))<|zlc (xc0 Zm2) (ZnI (t:=t) w (KAt.below hS.below (hK)) (LvAt.below hS.below (hV))) ?_;rintro _ w ⟨rfl,hS'⟩
 replace hS:=hS.cmp hS';clear hS'
 refine(zP)<|zlb 5 ?_ ?_<;>intro hc
 ·
  refine(zV (xfb 1 fd_32_1))<|(zV (xlb 0 WG hS))<|zlc (xc0 Zm1) (Zn7 (t:=t) w (KAt.below hS.below (hK)) (LvAt.below hS.below (hV)) ih) ?_;rintro _ w ⟨rfl,hS'⟩
  replace hS:=hS.cmp hS';clear hS'
  refine(Oo)<|zx1<|Oj ?_
  exact⟨Zm (by rw [t.ok_iff];exact⟨fun hh=>⟨‹OkN t›,fun k k0 k1=>Classical.byContradiction fun h9=>hh ⟨k,k0,k1,h9⟩⟩,fun hh ⟨k,k0,k1,k2⟩=>k2 (hh.2 k k0 k1)⟩),hS.nl⟩
 iterate 4 refine zlo ?_
 refine(On)<|zx1<|Oj ?_
 exact⟨Zj (by rw [t.ok_iff];rintro⟨h1,h2⟩;first|exact absurd h1 ‹¬OkN t›|(obtain⟨k,k0,k1,k2⟩:=‹∃k,0<=k/\k<t.n/\¬(t.kid k).ok›;exact k2 (h2 k k0 k1))),hS.nl⟩
theorem KB{t:Tr}(w0:World)(hK:KAt w0 t)(hV:LvAt w0 t):
   Calls Om 69 [.agg #[.int Oi t.s,t.vK,t.vL]].toArray w0 fun e w=>∃v,e= .returned v/\v=B (YM t)/\Sat w0 w []:=by
 refine zenG Tryz.func69 Tryz.ntmps69 fun w hS=> ?_
 refine zsr<|zla (xbx (cs:= [_,_,_]) hS) ?_;rintro _ w ⟨g1,rfl,hS⟩
 refine(zP)<|zlz<|(zV (xls 0 st_32 hS))<|zlc (xc0 ZhN) (Zkh t w (KAt.below hS.below (hK)) (LvAt.below hS.below (hV))) ?_;rintro _ w ⟨rfl,hS'⟩
 replace hS:=hS.cmp hS';clear hS'
 refine(On)<|zlb 6 ?_ ?_<;>intro hc
 ·
  refine(zV (xls 0 st_32 hS))<|zlc (xc0 ZhM) (Zks t w (KAt.below hS.below (hK)) (LvAt.below hS.below (hV))) ?_;rintro _ w ⟨rfl,hS'⟩
  replace hS:=hS.cmp hS';clear hS'
  refine(Oo)<|zlb 11 ?_ ?_<;>intro hc
  ·
   refine(zV (xls 0 st_32 hS))<|zlc (xc0 ZhL) (ZkC t w (KAt.below hS.below (hK)) (LvAt.below hS.below (hV))) ?_;rintro _ w ⟨rfl,hS'⟩
   replace hS:=hS.cmp hS';clear hS'
   refine(On)<|zx1<|Oj ?_
   exact⟨Zm ⟨fun hh=>⟨by first|exact hh|assumption,Oa,Oa⟩,fun hh=>by obtain⟨h1,h2,h3⟩:=hh;first|exact h1|omega⟩,hS.nl⟩
  refine(zO)<|(zO)<|(On)<|zx1<|Oj ?_
  exact⟨Zj (by rintro⟨h1,h2,h3⟩;first|omega|exact absurd h1 ‹¬t.ok›),hS.nl⟩
 iterate 3 refine zlo ?_
 refine(On)<|(zO)<|zlo ?_
 refine(On)<|zx1<|Oj ?_
 exact⟨Zj (by rintro⟨h1,h2,h3⟩;first|omega|exact absurd h1 ‹¬t.ok›),hS.nl⟩
variable {b i:Int} {f:Of}
noncomputable def ZW(p:Prob)(wi i:Int):Prob:=p.with fun j=>p.D j-Yy (MX p wi) i j
def fw (f:Int->Option (List Int)):Nat->Int->Option (List Int)
  |0,_=>none
  | c+1,i=>match f i with
    |some l=>some (i::l)
    |none=>fw f c (i+1)
theorem ZlL{f:Int->Option (List Int)}{n:Int}(h:n<=i):fw f (n-i).toNat i=none:=by rw [show(n-i).toNat=0 by omega];rfl
theorem ZoS{f:Int->Option (List Int)}{n:Int}(h:i<n)(hf:f i=none):fw f (n-i).toNat i=fw f (n-(i+1)).toNat (i+1):=by
 rw [show(n-i).toNat=(n-(i+1)).toNat+1 by omega]
 show(match f i with
   |some l=>some (i::l)
   |none=>fw f (n-(i+1)).toNat (i+1))=_
 rw [hf]
theorem ZlK{f:Int->Option (List Int)}{n:Int}{l:List Int}(h:i<n)(hf:f i=some l):fw f (n-i).toNat i=some (i::l):=by
 rw [show(n-i).toNat=(n-(i+1)).toNat+1 by omega]
 show(match f i with
   |some l=>some (i::l)
   |none=>fw f (n-(i+1)).toNat (i+1))=_
 rw [hf]
theorem Zeg{f:Int->Option (List Int)}:∀{c:Nat} {i:Int},fw f c i=none->∀k,i<=k->k<i+c->f k=none
 |0,i,_,k,h1,h2=>Oa
 | c +1,i,h,k,h1,h2=>by
   unfold fw at h
   cases hf:f i with
   |some m=>rw [hf] at h;cases h
   | none=>
     rw [hf] at h
     by_cases e:k=i
     · rw [e];exact hf
     · exact Zeg h k Oa Oa
noncomputable def wrT:Tr->Prob->Int->Option (List Int)
  | .nil,p,b=> @ite _ (WJ p b 0 (fun _=>0)) (Classical.propDecidable _) none (some [])
  | .mk s vK n kid vL nl l,p,b=>if n=0 then @ite _ (WJ p b nl l) (Classical.propDecidable _) none (some []) else
    @ite _ (ZO p b s/\Zl p b s=n) (Classical.propDecidable _) (fw (fun i=>wrT (kid i) (ZW p s i) (b-1)) n.toNat 0) (some [])
theorem ZdN{t:Tr}{p:Prob}(h:t.n=0):wrT t p b= @ite _ (WJ p b t.nl t.l) (Classical.propDecidable _) none (some []):=by
 cases t with
 |nil=>rfl
 |mk s vK n kid vL nl l=>exact if_pos h
theorem WL{t:Tr}{p:Prob}(h:t.n=0)(hl:WJ p b t.nl t.l):wrT t p b=none:=by rw [ZdN h,if_pos hl]
theorem Vs{t:Tr}{p:Prob}(h:t.n=0)(hl:¬WJ p b t.nl t.l):wrT t p b=some []:=by rw [ZdN h,if_neg hl]
noncomputable def ZjC(t:Tr)(p:Prob)(b:Int)(i:Int):Option (List Int):=wrT (t.kid i) (ZW p t.s i) (b-1)
theorem KV{t:Tr}{p:Prob}(h:t.n≠0)(hs:ZO p b t.s)(hn:Zl p b t.s=t.n):wrT t p b=fw (ZjC t p b) (t.n-0).toNat 0:=by
 cases t with
 |nil=>exact absurd rfl h
 | mk s vK n kid vL nl l=>
   have h':n≠0:=h
   show(if n=0 then _ else _)=_
   rw [if_neg h',if_pos (show ZO p b s/\Zl p b s=n from⟨hs,hn⟩),Int.sub_zero]
   rfl
theorem ZcQ{t:Tr}{p:Prob}(h:t.n≠0)(hs:¬(ZO p b t.s/\Zl p b t.s=t.n)):wrT t p b=some []:=by
 cases t with
 |nil=>exact absurd rfl h
 | mk s vK n kid vL nl l=>
   have h':n≠0:=h
   show(if n=0 then _ else _)=_
   rw [if_neg h',if_neg (show¬(ZO p b s/\Zl p b s=n) from hs)]
def IsL(q:Int)(f:Of)(l:List Int):Prop:=q=l.length/\∀k,0<=k->k<q->f k=l.getD k.toNat 0
theorem IsL.nil:IsL 0 f []:=⟨rfl,fun k h0 h1=>Oa⟩
theorem IsL.snoc{q i:Int}{f:Of}{l:List Int}(h:IsL q f l):IsL (q+1) (Gw.snoc f q i) (l++ [i]):=by
 obtain⟨h1,h2⟩:=h
 refine⟨by simp [h1],fun k k0 k1=> ?_⟩
 by_cases e:k<q
 · rw [Zs e,h2 k k0 e,List.getD_eq_getElem?_getD,List.getD_eq_getElem?_getD,List.getElem?_append_left Oa]
 · rw [Zt e,show k.toNat=l.length by omega,List.getD_eq_getElem?_getD,List.getElem?_append_right (Nat.le_refl _)];simp
theorem IsL.init{q:Int}{l:List Int}(h:IsL q f (l++ [i])):IsL (q-1) f l:=by
 obtain⟨h1,h2⟩:=h
 rw [List.length_append,List.length_singleton] at h1
 refine⟨by omega,fun k k0 k1=> ?_⟩
 rw [h2 k k0 Oa,List.getD_eq_getElem?_getD,List.getD_eq_getElem?_getD,List.getElem?_append_left Oa]
theorem VY{p:Prob}{wi:Int}(hs:ZO p b wi)(i0:0<=i)(i1:i<Zl p b wi):MPat p wi (Yy (MX p wi) i)/\1<=Yy (MX p wi) i wi:=by
 rw [YK hs] at i1
 obtain⟨h1,h2⟩:=ZiI hs.1.1 (ZbP i0 i1)
 exact⟨h1,h2 hs.2.2.1.1 hs.2.2.1.2⟩
theorem Zal{w w':World}{vL vD:Value}{p:Prob}{wi:Int}{vv:Int->Value}(hs:ZO p b wi)(h:PAt w' vL vD p)(rL:Row w (vv (2*i)) 1 p.m (ints (gfn p (MX p wi) (2*i))))(rD:Row w (vv (2*i+1)) 1 p.m (ints (gfn p (MX p wi) (2*i+1))))(i0:0<=i)(i1:i<Zl p b wi):PAt w (vv (2*i)) (vv (2*i+1)) (ZW p wi i):=by
 have hp:=hs.1.1
 rw [ZoR p _ (i:=i) rfl] at rL
 rw [ZlI p _ (i:=i) rfl] at rD
 refine⟨rL,?_,h.iL,fun k=> ?_,h.is,h.ik⟩
 · show Row w _ 1 p.d _
   rw [hp.d];exact rD
 · obtain⟨hm,_⟩:=VY hs i0 i1
   show _<=p.D k-Yy (MX p wi) i k/\p.D k-Yy (MX p wi) i k<=_
   by_cases hk:0<=k/\k<p.m
   · have h1:=hm.rng k hk.1 hk.2
     have h2:=hp.all k hk.1 hk.2
     unfold Prob.each at h2
     omega
   · rw [hm.zero k Oa]
     have:=h.iD k
     omega
def Ky(i:Int)(f:Of):Of:=fun k=>if k<1 then i else f (k-1)
theorem Zfv(i:Int)(f:Of):cat ((1:Int)*(1:Nat)) (ints fun _=>i) (ints f)=ints (Ky i f):=by
 funext j;simp only [cat,ints,Ky];split<;>split<;>first|rfl|omega
theorem Zou{t:Tr}{p:Prob}(h:t.n=0):wrT t p b≠none↔¬WJ p b t.nl t.l:=by
 by_cases hl:WJ p b t.nl t.l
 · rw [WL h hl];exact⟨fun h=>absurd rfl h,fun h=>absurd hl h⟩
 · rw [Vs h hl];exact⟨fun _=>hl,fun _=>Option.some_ne_none _⟩
theorem Zlf{t:Tr}{p:Prob}(h:t.n=0):(wrT t p b).getD []= []:=by
 by_cases hl:WJ p b t.nl t.l
 · rw [WL h hl];rfl
 · rw [Vs h hl];rfl
end Go.Proofs.YtpnamgfdakfccaaGreat
namespace Go.Proofs.YtpnamgfdakfccaaGreat
open Go Go.RowKit Go.Proofs.Gw
theorem Zk3:Zd Om 30=true:=Oc
theorem Zpp:Zd Om 31=true:=Oc
theorem ZkZ:Zd Om 70=true:=Oc
theorem Zc5:ZG Om 151=true:=Oc
theorem ZoA:ZG Om 88=true:=Oc
theorem Zoz:ZG Om 89=true:=Oc
theorem Ug{E:TypeId}{n:Int}{vv:Int->Value}{ln:Of}{f:Og}{w:World}{l:List Ent}(h:(Frame.bun l).holds w)(i:Nat)(hi:l[i]? =some (.sem (Frame.rows E n vv ln f))){k:Int}(k0:0<=k)(k1:k<n):Row w (vv k) 1 (ln k) (ints (f k)):=((h.1 _ (List.mem_of_getElem? hi)).1 k k0 k1).row
theorem ZeH{w:World}{l:List Ent}{F:Gw.Frame}(h:(Frame.bun l).holds w)(i:Nat)(hi:l[i]? =some (.sem F)):F.holds w:=h.1 _ (List.mem_of_getElem? hi)
theorem ZpF:∀(t:Tr) {F:Gw.Frame} {vL vD:Value} {p:Prob} {b:Int} {gl gs gp gw:Nat} {vp:Value} {q:Int} {f:Of} {pre:List Int} (w0 w:World) (hS:Sat w0 w [.blk gl [.func (.func 31) #[] #[]],.blk gs [.func (.func 30) #[] #[]],.blk gp [vp],.blk gw [.func (.func 70) #[] #[Or gl,Or gs,Or gp,Or gw]],.sem (Frame.dq 3 vp q f),.sem F]) (hP:∀w1,Below w0.heap.size w0 w1->F.holds w1->PAt w1 vL vD p) (hK:KAt w0 t) (hV:LvAt w0 t) (hv:Slh vp q) (hI:IsL q f pre) (hq:q+b<=1001),
   Calls Om 70 [.agg #[vL,vD,.int Oi p.stock,.int Oi p.kerf,.int Oi b],.agg #[.int Oi t.s,t.vK,t.vL],Or gl,Or gs,Or gp,Or gw].toArray w fun e w=>∃v,e= .returned v/\∃v1 q1 f1,v=B (wrT t p b≠none)/\Slh v1 q1/\IsL q1 f1 (pre++(wrT t p b).getD [])/\Sat w0 w [.blk gl [.func (.func 31) #[] #[]],.blk gs [.func (.func 30) #[] #[]],.blk gp [v1],.blk gw [.func (.func 70) #[] #[Or gl,Or gs,Or gp,Or gw]],.sem (Frame.dq 3 v1 q1 f1),.sem F]:=by
 refine Tr.ind fun t ih=> ?_
 intro F vL vD p b gl gs gp gw vp q f pre w0 w hS hP hK hV hv hI hq
 have hn:=hK.row.slh.n0;have hn1:=hK.row.slh.n1;have hln:=hV.leaf.row.slh.n0;have bP:=hV.leaf.row.slh.n1
 have h:=hP w hS.below (hS.holds _ (List.mem_of_getElem? (i:=5) rfl))
 have hv0:=hv.n0;have hv1:=hv.n1
 refine zenF Tryz.func70 Tryz.ntmps70 ?_
 refine zsr<|zla (xbx (cs:= [_,_,_,_,_]) hS) ?_;rintro _ w ⟨g1,rfl,hS⟩
 refine zla (xbx (cs:= [_,_,_]) hS) ?_;rintro _ w ⟨g2,rfl,hS⟩
 refine(zP)<|zx5<|(zV (xfb 1 fd_32_1))<|(zV (xlb 7 WG hS))<|(zV (xln Xw (hK).row.slh))<|(zP)<|zlt<|Zf ?_ ?_<;>intro hc
 ·
  refine zsr<|(zV (xlb 0 Zoz hS))<|(zV (xls 6 Yu hS))<|(zV (xfb 2 fd_32_2))<|(zV (xlb 7 pl_22 hS))<|zlc (xc0 Zpp) (ZnP (p:=p) (b:=b) w (hP _ hS.below (hS.holds _ (List.mem_of_getElem? (i:=5) rfl))) ((hV).leaf.below hS.below) (hV).room) ?_;rintro _ w ⟨rfl,hS'⟩
  replace hS:=hS.cmp hS';clear hS'
  refine(On)<|zx14<|Oj ?_
  have hw9:t.n=0:=Oa
  exact⟨_,_,_,(Zm (Zou hw9)).symm,hv,by rw [Zlf hw9];simpa using hI,hS.pk [0,1,2,3,4,5]⟩
 refine ZV<|(zV (xlb 1 ZoA hS))<|(zV (xls 6 Yu hS))<|(zV (xfb 0 fd_32_0))<|(zV (xlb 7 pl_3 hS))<|zlc (xc0 Zk3) (ZeB (p:=p) (b:=b) (wi:=t.s) w (hP _ hS.below (hS.holds _ (List.mem_of_getElem? (i:=5) rfl)))) ?_;rintro _ w ⟨dW,zn,rfl,aO,hS'⟩
 replace hS:=(hS.comp hS').n10;clear hS'
 have kj:∀k,0<=k->k<2*(Zl p b t.s)->Slh (zn k) p.m:=fun k k0 k1=>hS.slhIn 9 rfl k0 k1
 refine zs5 ?_
 refine zx5<|(Oo)<|zlb 33 ?_ ?_<;>intro hc
 ·
  iterate 6 refine zlo ?_
  refine(zP)<|zlt<|zct<|zsr ?_
  refine(zP)<|zx14<|Oj ?_
  have hw9:wrT t p b=some []:=ZcQ Oa (by rintro⟨q1,q2⟩;first|exact absurd q1 ‹¬ZO p b t.s›|omega)
  exact⟨_,_,_,(ZQ (show wrT t p b≠none by rw [hw9];exact Option.some_ne_none _)).symm,hv,by rw [hw9];simpa using hI,hS.pk [0,1,2,3,4,5]⟩
 refine(zP)<|(zV (xln Wt aO))<|(zV (xfb 1 fd_32_1))<|(zV (xlb 7 WG hS))<|(zV (xln Xw (hK).row.slh))<|(On)<|zlt<|Zf ?_ ?_<;>intro hc
 ·
  refine zsr<|(zP)<|zx14<|Oj ?_
  have hw9:wrT t p b=some []:=ZcQ Oa (by rintro⟨q1,q2⟩;first|exact absurd q1 ‹¬ZO p b t.s›|omega)
  exact⟨_,_,_,(ZQ (show wrT t p b≠none by rw [hw9];exact Option.some_ne_none _)).symm,hv,by rw [hw9];simpa using hI,hS.pk [0,1,2,3,4,5]⟩
 refine zsk<|ztn<|zsq<|zsr<|(zV (xfb 1 fd_32_1))<|(zV (xlb 7 WG hS))<|(zV (xln Xw (hK).row.slh))<|(zP)<|zx6 ?_
 have hsp:ZO p b t.s:=by first|assumption|exact Od ‹_›
 have hkn:Zl p b t.s=t.n:=Oa
 have hsb:=hsp.1.2;have hpn:=aO.n1;have hv0:=hv.n0
 refine zlp (fun mm M w=>∃(vp2:Value) (q2:Int) (f2:Of) (i:Int),mm=((t.n-i).toNat)/\(0<=i)/\(i<=t.n)/\(wrT t p b=fw (ZjC t p b) (t.n-i).toNat i)/\(Slh vp2 q2)/\(IsL q2 f2 pre)/\(q2=q)/\M= [(4,Or gp),(5,Or gw),(9,dW),(42,t.vK),(43,.int Oi t.n),(44,.int Oi i)]/\Sat w0 w [.blk gl [.func (.func 31) #[] #[]],.blk gs [.func (.func 30) #[] #[]],.blk gp [vp2],.blk gw [.func (.func 70) #[] #[Or gl,Or gs,Or gp,Or gw]],.sem (Frame.dq 3 vp2 q2 f2),.sem F,.blk g1 [vL,vD,.int Oi p.stock,.int Oi p.kerf,.int Oi b],.blk g2 [.int Oi t.s,t.vK,t.vL],.own dW 5 39 (Zl p b t.s) (ZS zn p.stock p.kerf (b-1)),.sem (Frame.rows 3 (2*(Zl p b t.s)) zn (fun _=>p.m) (gfn p (MX p t.s)))]) ⟨vp,q,f,0,rfl,Oa,Oa,?_,?_,?_,?_,rfl,hS⟩ ?_
 ·
  exact KV Oa hsp hkn
 ·
  exact hv
 ·
  exact hI
 ·
  rfl
 clear hS w
 rintro mm M w ⟨vp2,q2,f2,i,rfl,h0,h1,hfw,gF,hI2,hq2,rfl,hS⟩
 refine zsr<|(zP)<|zx7<|Zf ?_ ?_<;>intro hc
 ·
  refine zx3<|(zP)<|(zV (xix (kk:=3*i) Xw (hK).row.slh))<|(zV (xlw (cs:= [.int Oi ((t.kid i).s),(t.kid i).vK,(t.kid i).vL]) st_32 ((hK).row.below hS.below) (Vg (q:=3*i) (i:=i) _ Oa)))<|zla (xal (cs:= [_,_,_]) WV hS) ?_;rintro _ w ⟨g4,rfl,hS⟩
  refine(zP)<|zle (xsw 10 st_32 hS (hd:=(Za rfl (Za ((hK).sub (i:=i) Oa Oa).row.slh.one (Za ((hV).sub (i:=i) Oa Oa).leaf.row.slh.one Zi))))) ?_;clear hS;rintro w hS
  refine zlz<|(zV (xlb 2 pl_22 hS))<|(zP)<|zla (xli (n:=1) (len:=1) (pv:= [(0,.int Oi i)]) (cs:= [.int Oi i]) (c:=ints (fun _=>i)) Zb ZJ hS) ?_;rintro v1 w ⟨hS,hv1⟩
  refine zla (Zle 4 Zb ZJ hS (hS.rowN 11 rfl)) ?_;rintro v2 w ⟨hS,hv2⟩
  refine zle (xsb 2 pl_22 hS (hv:=hv2.one)) ?_;clear hS;rintro w hS
  refine zlt<|zsq<|zsq<|zdst [0,1,3,5,6,7,8,9,10,11] [0,1,3,5,6,7,8,9,10,11] 1000 mx_ hS ?_;clear hS;intro w hS
  refine(zDl 0 (fun w hS=>(xlb 2 Zc5 hS)))<|(zDw 1 xmv)<|(zDw 2 xmv)<|(zDw 3 (xix (kk:=5*i) Wt aO))<|(zDl 4 (fun w hS=>(xlw (cs:= [(zn (2*i)),(zn (2*i+1)),.int Oi p.stock,.int Oi p.kerf,.int Oi (b-1)]) Yu (hS.rowN 6 rfl) (Kl (q:=5*i) (i:=i) zn p.stock p.kerf (b-1) Oa))))<|(zDl 5 (fun w hS=>(xls 8 st_32 hS)))<|zdc 6 (xcc (vs:= [_,_]) ZkZ) (ih i Oa Oa (pre:=pre++ [i]) (p:=(ZW p t.s i)) (b:=(b-1)) w0 w (Sat.bundle (l1:= [_,_,_,_,_]) (hS.pk [0,1,2,3,4,5,6,7,8,9,10,11])) (fun w1 hb hF=>Zal (vv:=zn) hsp (hP w1 hb (ZeH hF 0 rfl)) (Ug hF 4 rfl (k:=2*i) Oa Oa) (Ug hF 4 rfl (k:=2*i+1) Oa Oa) Oa Oa) ((hK).sub (i:=i) Oa Oa) ((hV).sub (i:=i) Oa Oa) hv2 (IsL.snoc hI2) Oa) ?_;rintro _ w ⟨ek,yh,fW,rfl,xx,xm,hS⟩
  replace hS:=Sat.unbundle (l1:= [_,_,_,_,_]) (l3:= []) hS
  refine⟨⟨fun _=>hS.pk [0,1,3,5,6,7,8,9,10,11],hS.pk [0,1,3,5,6,7,8,9,10,11]⟩,?_⟩
  refine zdd<|ztn ?_
  refine Zf ?_ ?_<;>intro hc
  ·
   refine zsr<|(zP)<|zlt<|zrt<|ztr<|zbr<|ztr<|ztr<|zbr<|ztr<|Oj ?_
   obtain⟨l9,hl9⟩:=Option.ne_none_iff_exists'.1 ‹(wrT (t.kid i) (ZW p t.s i) (b-1))≠none›
   rw [hl9] at xm
   have hw9:wrT t p b=some (i::l9):=hfw.trans (ZlK Oa hl9)
   exact⟨_,_,_,(ZQ (show wrT t p b≠none by rw [hw9];exact Option.some_ne_none _)).symm,xx,by rw [hw9];rw [List.append_assoc] at xm;exact xm,hS.pk [0,1,2,3,4,5]⟩
  refine zsk<|ztn<|zrg ?_
  iterate 2 refine zlv (xlb 2 pl_22 hS) ?_
  have hqz:=xm.1;have hqy:=xx.n1;rw [List.length_append,List.length_append,List.length_singleton] at hqz
  refine(zV (xln Zb xx))<|(zV (Zp (r:=yh-1)))<|zlv (ZcP (i:=yh-1) (yh-1).toNat Zb xx (Frame.dq.roomy (hS.dqOf 4 rfl))) ?_
  have aa:=(Kw (e:=yh-1) xx Oa Oa)
  replace hS:=hS.dqpre (n:=yh) 4 (yh-1).toNat Oa
  replace hS:=hS.dqn 4 (by omega:((yh-1).toNat:Int)=yh-1)
  refine zle (xsb 2 pl_22 hS (hv:=aa.one)) ?_;clear hS;rintro w hS
  refine zx10<|(zV (Zh (r:=i+1)))<|(zP)<|zln ?_
  rw [show(wrT (t.kid i) (ZW p t.s i) (b-1))=none from Classical.byContradiction ‹¬((wrT (t.kid i) (ZW p t.s i) (b-1))≠none)›] at xm
  simp only [Option.getD_none,List.append_nil] at xm
  refine zlq ⟨(Ru ek (yh-1).toNat),yh-1,fW,i+1,rfl,Oa,Oa,?_,?_,?_,?_,rfl,hS.pk [0,1,2,3,4,5,6,7,8,9]⟩
  ·
   rw [hfw];exact ZoS Oa (show ZjC t p b i=none from Classical.byContradiction ‹¬((wrT (t.kid i) (ZW p t.s i) (b-1))≠none)›)
  ·
   exact aa
  ·
   exact IsL.init (i:=i) xm
  ·
   have h8:=xm.1;have h9:=hI2.1;rw [List.length_append,List.length_singleton] at h8;omega
 refine zx8<|(zP)<|zx1<|Oj ?_
 have hw9:wrT t p b=none:=hfw.trans (ZlL Oa)
 exact⟨_,_,_,(ZA (show¬wrT t p b≠none by rw [hw9];exact fun h=>h rfl)).symm,gF,by rw [hw9];simpa using hI2,hS.pk [0,1,2,3,4,5]⟩
variable {b:Int}
theorem Zpq:Zd Om 29=true:=Oc
theorem Zk0:Zd Om 69=true:=Oc
theorem Zmi:ZN Om 151=some (.nilFunc,1,8):=Oc
noncomputable def Zcw(t:Tr)(p:Prob)(b:Int):Int:= @ite _ (Z5 p b/\YM t) (Classical.propDecidable _) (match wrT t p b with|none=>0|some _=>21) 1
noncomputable def Zft(t:Tr)(p:Prob)(b:Int):List Int:= @ite _ (Z5 p b/\YM t) (Classical.propDecidable _) ((wrT t p b).getD []) []
theorem ZhQ{t:Tr}{p:Prob}(h:¬(Z5 p b/\YM t)):Zcw t p b=1/\Zft t p b= []:=⟨if_neg h,if_neg h⟩
theorem Zj2{t:Tr}{p:Prob}(h1:Z5 p b)(h2:YM t)(h:wrT t p b≠none):Zcw t p b=21/\Zft t p b=(wrT t p b).getD []:=by
 refine⟨?_,if_pos ⟨h1,h2⟩⟩
 obtain⟨l,hl⟩:=Option.ne_none_iff_exists'.1 h
 unfold Zcw;rw [if_pos ⟨h1,h2⟩,hl]
theorem XQ{t:Tr}{p:Prob}(h1:Z5 p b)(h2:YM t)(h:wrT t p b=none):Zcw t p b=0/\Zft t p b= []:=by
 refine⟨?_,?_⟩
 · unfold Zcw;rw [if_pos ⟨h1,h2⟩,h]
 · unfold Zft;rw [if_pos ⟨h1,h2⟩,h];rfl
theorem Zlc{P:Program}{L:List (Nat×Value)}{w:World}{n:Nat}{fn:Func}{R:Ending->World->Prop}{T:TypeId}{s t:Nat}{a1:Addr}{v1 v2:Value}(t1:ZG P T=true)(c1:w.cell? a1=some v1)(h:R (.returned (.tuple #[v1,v2])) w)
   (hr:fn.results= #[.cell s T,.tmp t]:=by exact rfl) (h1:lk L s=some (.pointer (some a1)):=by exact rfl) (h2:lk L t=some v2:=by exact rfl):Ge n [] (bodyPost P fn R) .ret L w:=fun a hF=>by
 refine⟨hF.defers,_,?_,h⟩
 obtain⟨⟨_,_,q1⟩,_⟩:=XJ (w:=w) t1
 have e1:=hF.get s _ h1
 have e2:=hF.get t _ h2
 rw [Array.getD_eq_getD_getElem?] at e1 e2
 simp [results,hr,e1,e2,asAddr,loadVar,q1,c1]
theorem ZnH{t:Tr}{vL vD:Value}{p:Prob}(w0:World)(h:PAt w0 vL vD p)(hb:Z5 p b)(hK:KAt w0 t)(hV:LvAt w0 t):
   Calls Om 29 [.agg #[vL,vD,.int Oi p.stock,.int Oi p.kerf,.int Oi b],.agg #[.int Oi t.s,t.vK,t.vL],.func (.func 30) #[] #[],.func (.func 31) #[] #[]].toArray w0 fun e w=>∃v,e= .returned v/\∃r q f,v= .tuple #[r,.int Oi (Zcw t p b)]/\Slh r q/\IsL q f (Zft t p b)/\Sat w0 w [.sem (Frame.dq 3 r q f)]:=by
 have hn:=hK.row.slh.n0;have hn1:=hK.row.slh.n1;have hln:=hV.leaf.row.slh.n0;have bP:=hV.leaf.row.slh.n1
 obtain⟨hm,hm1,hd,hd1,hs,hk⟩:=h.Oq
 have hb1:=hb.2
 refine zenG Tryz.func29 Tryz.ntmps29 fun w hS=> ?_
 refine zsr<|zla (xbx (cs:= [_,_,_,_,_]) hS) ?_;rintro _ w ⟨g1,rfl,hS⟩
 refine zla (xbx (cs:= [_,_,_]) hS) ?_;rintro _ w ⟨g2,rfl,hS⟩
 refine zla (xbx (cs:= [_]) hS) ?_;rintro _ w ⟨g3,rfl,hS⟩
 refine zla (xbx (cs:= [_]) hS) ?_;rintro _ w ⟨g4,rfl,hS⟩
 refine zla (xal (cs:= [_]) Yl hS) ?_;rintro _ w ⟨g5,rfl,hS⟩
 refine(zP)<|zx5<|(zV (xls 1 st_32 hS))<|zlc (xc0 Zk0) (KB (t:=t) w (KAt.below hS.below (hK)) (LvAt.below hS.below (hV))) ?_;rintro _ w ⟨rfl,hS'⟩
 replace hS:=hS.cmp hS';clear hS'
 refine(zP)<|zlt<|Zf ?_ ?_<;>intro hc
 ·
  refine zsr<|zle (xsb 4 pl_22 hS) ?_;clear hS;rintro w hS
  refine(zP)<|zx14<|Zlc pl_22 (hS.cellN 4 rfl rfl) ⟨_,rfl,?_⟩
  obtain⟨h8,h9⟩:=ZhQ (t:=t) (p:=p) (b:=b) (fun hh=>‹¬YM t› hh.2)
  exact⟨_,0,fun _=>0,by rw [h8],slh_nil,by rw [h9];exact IsL.nil,(hS.dqnil 3 (fun _=>0)).sub (.cons _ (.cons _ (.cons _ (.cons _ (.cons _ (.cons_cons _ .slnil))))))⟩
 refine ZV<|zla (xal (cs:= [_]) Zmi hS) ?_;rintro _ w ⟨g6,rfl,hS⟩
 refine zlz<|(zV xmf)<|zle (xsb 5 Zc5 hS) ?_;clear hS;rintro w hS
 refine zx5<|zlv (xlb 5 Zc5 hS) ?_
 replace hS:=hS.dqnil 3 (fun _=>0)
 refine(zV (xls 0 Yu hS))<|(zV (xls 1 st_32 hS))<|zlc (xcc (vs:= [_,_]) ZkZ) (ZpF t (F:=Frame.bun [.blk g1 [vL,vD,.int Oi p.stock,.int Oi p.kerf,.int Oi b],.blk g2 [.int Oi t.s,t.vK,t.vL]]) (pre:= []) (p:=p) (b:=b) w0 w (Sat.bundle (l1:= [_,_,_,_,_]) (hS.pk [3,2,4,5,6,0,1])) (fun w1 hb _=>h.below hb) hK hV slh_nil IsL.nil Oa) ?_;rintro _ w ⟨ek,yh,fW,rfl,xx,xm,hS⟩
 replace hS:=Sat.unbundle (l1:= [_,_,_,_,_]) (l3:= []) hS
 refine zlt<|Zf ?_ ?_<;>intro hc
 ·
  refine zsr<|(zV (xlb 2 pl_22 hS))<|zle (xsb 2 pl_22 hS (hv:=xx.one)) ?_;clear hS;rintro w hS
  refine(zP)<|zx14<|Zlc pl_22 (hS.cellN 2 rfl rfl) ⟨_,rfl,?_⟩
  obtain⟨h8,h9⟩:=Zj2 hb (Od ‹¬¬YM t›) ‹wrT t p b≠none›
  exact⟨_,_,_,by rw [h8],xx,by rw [h9];exact xm,hS.pk [4]⟩
 refine ZV<|zle (xsb 2 pl_22 hS) ?_;clear hS;rintro w hS
 refine(zP)<|zx1<|Zlc pl_22 (hS.cellN 2 rfl rfl) ⟨_,rfl,?_⟩
 obtain⟨h8,h9⟩:=XQ hb (Od ‹¬¬YM t›) (Classical.byContradiction ‹¬(wrT t p b≠none)›)
 exact⟨_,0,fun _=>0,by rw [h8],slh_nil,by rw [h9];exact IsL.nil,(hS.dqnil 3 (fun _=>0)).sub (.cons _ (.cons _ (.cons _ (.cons _ (.cons _ (.cons _ (.cons _ (.cons_cons _ .slnil))))))))⟩
theorem ZpI{t:Tr}{vL vD:Value}{p:Prob}(w0:World)(h:PAt w0 vL vD p)(hK:KAt w0 t)(hV:LvAt w0 t):
   Calls Om 10 [.agg #[vL,vD,.int Oi p.stock,.int Oi p.kerf,.int Oi b],.agg #[.int Oi t.s,t.vK,t.vL]].toArray w0 fun e w=>∃v,e= .returned v/\∃r q f,v= .tuple #[r,.int Oi (Zcw t p b)]/\Slh r q/\IsL q f (Zft t p b)/\Sat w0 w [.sem (Frame.dq 3 r q f)]:=by
 have hn:=hK.row.slh.n0;have hn1:=hK.row.slh.n1;have hln:=hV.leaf.row.slh.n0;have bP:=hV.leaf.row.slh.n1
 obtain⟨hm,hm1,hd,hd1,hs,hk⟩:=h.Oq
 refine zenG Tryz.func10 Tryz.ntmps10 fun w hS=> ?_
 refine zsr<|zla (xbx (cs:= [_,_,_,_,_]) hS) ?_;rintro _ w ⟨g1,rfl,hS⟩
 refine zla (xbx (cs:= [_,_,_]) hS) ?_;rintro _ w ⟨g2,rfl,hS⟩
 refine(On)<|zx5<|(zV (xls 0 Yu hS))<|zlc (xc0 Zew) (Za2 (p:=p) (b:=b) w (h.below hS.below)) ?_;rintro _ w ⟨rfl,hS'⟩
 replace hS:=hS.cmp hS';clear hS'
 refine(zP)<|zlt<|Zf ?_ ?_<;>intro hc
 ·
  refine zsr<|(On)<|zx14<|zf2 ⟨_,rfl,?_⟩
  obtain⟨h8,h9⟩:=ZhQ (t:=t) (p:=p) (b:=b) (fun hh=>‹¬Z5 p b› hh.1)
  exact⟨_,0,fun _=>0,by rw [h8],slh_nil,by rw [h9];exact IsL.nil,(hS.dqnil 3 (fun _=>0)).sub (.cons _ (.cons _ (.cons_cons _ .slnil)))⟩
 refine ZV<|(zV (xls 0 Yu hS))<|(zV (xls 1 st_32 hS))<|zlc (xc0 Zpq) (ZnH (t:=t) (p:=p) (b:=b) w (h.below hS.below) (Od ‹¬¬Z5 p b›) (KAt.below hS.below (hK)) (LvAt.below hS.below (hV))) ?_;rintro _ w ⟨rk1,k1,fk1,rfl,eY,fC,hS'⟩
 replace hS:=(hS.comp hS').n3;clear hS'
 refine zs4 ?_
 refine zx1<|zf2 ⟨_,rfl,?_⟩
 exact⟨_,_,_,rfl,eY,fC,hS.pk [2]⟩
end Go.Proofs.YtpnamgfdakfccaaGreat
namespace Go.Proofs.YtpnamgfdakfccaaGreat
open Go Go.RowKit Go.Proofs.Gw
def Zbi(t:Tr):Prop:=t.s=0/\t.nl=0/\t.n=0
theorem Ze1{p:Prob}{u:Int}{ln cnt:Of}{pt:Og}(h:PlanOk p u ln pt cnt):0<=psum (fun _=>1) cnt u.toNat/\psum (fun _=>1) cnt u.toNat<=1000000:=by
 have h1:∀n:Nat,(n:Int)<=u->0<=psum (fun _=>1) cnt n/\psum (fun _=>1) cnt n<=1000*n:=fun n=>by
   induction n with
   |zero=>intro _;simp [psum]
   | succ n ih=>
     intro hn
     have h2:=ih Oa
     have h3:=h.2.2 n Oa Oa
     simp only [psum];omega
 have h4:=h.2.1
 by_cases hu:0<=u
 · have h5:=h1 u.toNat Oa;omega
 · rw [show u.toNat=0 by omega];simp [psum]
end Go.Proofs.YtpnamgfdakfccaaGreat
namespace Go.Proofs.Gw
open Go Go.RowKit
variable {w:Int} {x:Of} {L:List (Of)}
def XM(L:List (Of))(j:Int):Int:=match L with
  | []=>0
  |a::L=>a j+XM L j
def LFit(p:Prob)(L:List (Of)):Prop:=∀a∈L,FitsP p p.m a
theorem TV(L M:List (Of))(j:Int):XM (L++M) j=XM L j+XM M j:=by
 induction L with
 |nil=>simp [XM]
 |cons a L ih=>simp only [List.cons_append,XM,ih];omega
theorem LFit.nn{p:Prob}(h:LFit p L){j:Int}(j0:0<=j)(j1:j<p.m):0<=XM L j:=by
 induction L with
 |nil=>exact Int.le_refl _
 | cons a L ih=>
   have h1:=(h a (List.mem_cons_self ..)).all j j0 j1
   have h2:=ih fun b hb=>h b (List.mem_cons_of_mem _ hb)
   simp only [XM];omega
theorem ZgC{j:Int}(h:1<=XM L j):∃L1 a L2,L=L1++a::L2/\1<=a j:=by
 induction L with
 |nil=>simp [XM] at h
 | cons a L ih=>
   by_cases e:1<=a j
   · exact⟨[],a,L,rfl,e⟩
   · simp only [XM] at h
     obtain⟨L1,b,L2,rfl,h2⟩:=ih Oa
     exact⟨a::L1,b,L2,rfl,h2⟩
theorem Vv(f:Of):∀n:Nat,Zc f (n+1)=f 0+Zc (fun i=>f (i+1)) n
 |0=>by simp [Zc]
 | n+1=>by
   have h:=Vv f n
   show Zc f (n+1)+f ((n+1:Nat):Int)=f 0+(Zc (fun i=>f (i+1)) n+f ((n:Int)+1))
   rw [h,show((n+1:Nat):Int)=(n:Int)+1 by omega];omega
def Zda(L:List (Of))(i:Int):Of:=L.getD i.toNat (fun _=>0)
theorem Ke(k:Int):∀L:List (Of),X8 (Zda L) (fun _=>1) L.length k=XM L k
 | []=>rfl
 | a ::L=>by
   unfold X8
   rw [List.length_cons,Vv]
   have e:Zc (fun i=>Zda (a::L) (i+1) k*1) L.length=Zc (fun i=>Zda L i k*1) L.length:=Zg fun i i0 i1=>by
     unfold Zda;rw [show(i+1).toNat=i.toNat+1 by omega];rfl
   have h:=Ke k L
   unfold X8 at h
   rw [e,h]
   show(a k)*1+_=_
   simp [XM]
theorem Zgn{i:Int}(i0:0<=i)(i1:i<L.length):Zda L i∈L:=by
 unfold Zda
 rw [List.getD_eq_getElem?_getD,List.getElem?_eq_getElem Oa]
 exact List.getElem_mem _
theorem ZcD {p:Prob} {n b:Int} {y:Of} {q:Int} (h:Chk p n y q=0) (hb:b<=1000) (hbn:b<Yt p n y q) (hL:LFit p L) (hc:∀j,0<=j->j<p.m->p.D j<=XM L j):b<L.length:=by
 by_cases hl:1000<L.length
 · omega
 · have hM:MeetsP p L.length (fun _=>p.m) (Zda L) (fun _=>1):=
     ⟨⟨(XQ h).1,Oa,fun i i0 i1=>⟨hL _ (Zgn i0 i1),Oa,Oa⟩⟩,fun k k0 k1=>by
       rw [show((L.length:Int)).toNat=L.length by omega,Ke];exact hc k k0 k1⟩
   have h1:=ZeW h Oa hM
   rw [show((L.length:Int)).toNat=L.length by omega,WO] at h1
   omega
def rep(c:Nat)(a:Of):List (Of):=List.replicate c a
theorem Zb1(a:Of)(j:Int):∀c:Nat,XM (rep c a) j=a j*c
 |0=>by simp [rep,XM]
 | c+1=>by
   have h:=Zb1 a j c
   show a j+XM (rep c a) j=_
   rw [h,Int.natCast_add,Int.mul_add];simp;omega
theorem RY {p:Prob} {len:Of} {pt:Og} {cnt:Of}:∀n:Nat,(∀i,0<=i->i<(n:Int)->FitsP p (len i) (pt i)/\0<=cnt i)->∃L,LFit p L/\(∀j,XM L j=X8 pt cnt n j)/\(L.length:Int)=Zc cnt n
 |0,_=>⟨[],fun a ha=>absurd ha (by simp),fun _=>rfl,rfl⟩
 | n + 1,h=>by
   obtain⟨L,h1,h2,h3⟩:=RY n fun i i0 i1=>h i i0 Oa
   obtain⟨h4,h5⟩:=h n Oa Oa
   refine⟨L++rep (cnt n).toNat (pt n),fun a ha=> ?_,fun j=> ?_,?_⟩
   · rcases List.mem_append.1 ha with ha|ha
     · exact h1 a ha
     · rw [(List.mem_replicate.1 ha).2]
       have:=h4;rw [this.eq] at this;exact this
   · rw [TV,h2,Zb1,Int.toNat_of_nonneg h5];rfl
   · rw [List.length_append,Int.natCast_add,h3];unfold rep;rw [List.length_replicate,Int.toNat_of_nonneg h5];rfl
theorem RF{p:Prob}(hp:p.Ok){x:Of}(hx:∀i,0<=i->i<p.m->0<=x i):∀(k:Nat) {i:Int},0<=i->i+k<=p.m->ZL p x i.toNat<=ZL p x (i+k).toNat
 |0,i,_,_=>by simp
 | k+1,i,i0,h=>by
   have h1:=RF hp hx k i0 Oa
   have h2:ZL p x (i+k+1).toNat=ZL p x (i+k).toNat+x (i+k)*(p.L (i+k)+p.kerf):=ZF _ Oa
   have h3:=hp.all (i+k) Oa Oa
   unfold Prob.each at h3
   have h4:=hp.k1
   have h5:0<=x (i+k)*(p.L (i+k)+p.kerf):=Int.mul_nonneg (hx _ Oa Oa) Oa
   rw [show i+((k+1:Nat):Int)=i+k+1 by omega,h2];omega
theorem Zen {p:Prob} (hp:p.Ok) {w:Int} {x:Of} (hx:MPat p w x):∀(j:Nat) {i l:Int} {a:Of},(p.m-i).toNat=j->0<=i->i<=p.m->Pfx p i a l->(∀k,k<i->x k=a k)->(i<=w->w<p.m->1<=x w)->x∈exI p w i a l
 | 0,i,l,a,hj,h0,h1,h,he,hw=>by
   have hi:i=p.m:=Oa
   have e:x=a:=funext fun k=>by
     by_cases hk:k<i
     · exact he k hk
     · rw [h.zero k Oa,hx.zero k Oa]
   subst e
   rw [Tl hi (by have:=h.left;rw [hi] at this;rw [this];exact hx.maxi)]
   exact List.mem_singleton.2 rfl
 | j + 1,i,l,a,hj,h0,h1,h,he,hw=>by
   rw [Wj h0 Oa]
   have hr:=hx.rng i h0 Oa
   have hs:=hp.all i h0 Oa
   unfold Prob.each at hs
   have hk:=hp.k1
   have hu:ZL p x (i+1).toNat=ZL p x i.toNat+x i*(p.L i+p.kerf):=ZF _ h0
   have hm:=RF hp (fun k k0 k1=>(hx.rng k k0 k1).1) (p.m-(i+1)).toNat (i:=i+1) Oa Oa
   rw [show i+1+((p.m-(i+1)).toNat:Int)=p.m by omega] at hm
   have ha:ZL p x i.toNat=ZL p a i.toNat:=Zg fun k k0 k1=>by rw [he k Oa]
   have hl:=h.left
   have hxu:=hx.used
   have hle:x i*(p.L i+p.kerf)<=l:=Oa
   have h2:x i<=most p i l:=by
     unfold most
     have:x i<=l.tdiv (p.L i+p.kerf):=by
       rw [Int.tdiv_eq_ediv_of_nonneg h.l0]
       exact(Int.le_ediv_iff_mul_le Oa).2 hle
     omega
   have hls:least w i<=x i:=by
     unfold least
     by_cases e:w=i
     · rw [if_pos e,<-e];exact hw Oa Oa
     · rw [if_neg e];exact hr.1
   refine Zhw hls Oa (Zen hp hx j Oa Oa Oa (h.step hp h0 Oa hr.1 h2) (fun k hk=> ?_) fun q1 q2=>hw Oa q2)
   by_cases e:k=i
   · rw [e,ZC]
   · rw [upd_ne _ _ e];exact he k Oa
theorem Zol{p:Prob}(hp:p.Ok)(hx:MPat p w x)(hw:0<=w->w<p.m->1<=x w):x∈MX p w:=
 Zen hp hx _ rfl (Int.le_refl 0) (by have:=hp.m1;omega) (Pfx.start hp) (fun k hk=>by rw [hx.zero k Oa]) hw
theorem Tw{p:Prob}{f:Of}{i:Int}(h0:0<=i):∀{n:Nat},i<(n:Int)->ZL p (upd f i (f i+1)) n=ZL p f n+(p.L i+p.kerf)
 |0,h=>Oa
 | n +1,h=>by
   show Zc _ (n+1)=Zc _ (n+1)+_
   simp only [Zc]
   by_cases e:i=n
   · subst e
     have:Zc (fun j=>upd f (n:Int) (f n+1) j*(p.L j+p.kerf)) n=Zc (fun j=>f j*(p.L j+p.kerf)) n:=Zg fun j j0 j1=>by rw [upd_ne _ _ Oa]
     rw [this,ZC,Int.add_mul,Int.one_mul];omega
   · have ih:=Tw (p:=p) (f:=f) h0 (n:=n) Oa
     unfold ZL at ih
     rw [ih,upd_ne _ _ (fun h=>e h.symm)];omega
theorem Ze9 {p:Prob} (hp:p.Ok):∀(c:Nat) {x:Of},(p.stock+p.kerf-ZL p x p.m.toNat).toNat=c->(∀k,0<=k->k<p.m->0<=x k/\x k<=p.D k)->(∀k,k<0\/p.m<=k->x k=0)->ZL p x p.m.toNat<=p.stock+p.kerf->(∃i,0<=i/\i<p.m/\0<x i)->∃z,MPat p w z/\∀k,x k<=z k:=by
 intro c
 induction c using Nat.strongRecOn with
 | _ c ih=>
   intro x hc hr hz hu hp0
   by_cases hm:∀i,0<=i->i<p.m->x i<p.D i->p.stock+p.kerf-ZL p x p.m.toNat<p.L i+p.kerf
   · exact⟨x,⟨hr,hz,hu,hp0,hm⟩,fun k=>Int.le_refl _⟩
   · obtain⟨i,hi⟩:=Classical.not_forall.1 hm
     obtain⟨i0,hi⟩:=Classical.not_forall.1 hi
     obtain⟨i1,hi⟩:=Classical.not_forall.1 hi
     obtain⟨i2,i3⟩:=Classical.not_forall.1 hi
     have he:=Tw (p:=p) (f:=x) i0 (n:=p.m.toNat) Oa
     have hs:=hp.all i i0 i1
     unfold Prob.each at hs
     have hk:=hp.k1
     obtain⟨z,h1,h2⟩:=ih _ Oa (x:=upd x i (x i+1)) rfl (fun k k0 k1=>by
         by_cases e:k=i
         · rw [e,ZC];have:=hr i i0 i1;omega
         · rw [upd_ne _ _ e];exact hr k k0 k1) (fun k hk=>by rw [upd_ne _ _ Oa];exact hz k hk) Oa
       ⟨i,i0,i1,by rw [ZC];have:=hr i i0 i1;omega⟩
     refine⟨z,h1,fun k=> ?_⟩
     have h3:=h2 k
     by_cases e:k=i
     · rw [e,ZC] at h3;rw [e];omega
     · rw [upd_ne _ _ e] at h3;exact h3
theorem KE{p:Prob}{a:Of}(ha:FitsP p p.m a)(w0:0<=w)(w1:w<p.m)(hw:1<=a w)(hd:1<=p.D w):∃i,0<=i/\i<((MX p w).length:Int)/\∀j,0<=j->j<p.m->min (a j) (p.D j)<=Yy (MX p w) i j:=by
 have hp:=ha.ok
 obtain⟨x,hx,hx0⟩:∃x:Of,(∀j,0<=j->j<p.m->x j=min (a j) (p.D j))/\∀j,j<0\/p.m<=j->x j=0:=
   ⟨fun j=>if 0<=j/\j<p.m then min (a j) (p.D j) else 0,fun j j0 j1=>if_pos ⟨j0,j1⟩,fun j hj=>if_neg Oa⟩
 have hu:ZL p x p.m.toNat<=p.stock+p.kerf:=by
   refine Int.le_trans (Z1 fun j j0 j1=> ?_) ha.used
   rw [hx j j0 Oa]
   have h2:=hp.all j j0 Oa
   unfold Prob.each at h2
   have hk:=hp.k1
   exact Int.mul_le_mul_of_nonneg_right Oa Oa
 obtain⟨z,h1,h2⟩:=Ze9 hp (w:=w) _ rfl (fun k k0 k1=>by
     rw [hx k k0 k1]
     have h2:=hp.all k k0 k1
     unfold Prob.each at h2
     have:=ha.all k k0 k1
     omega) hx0 hu ⟨w,w0,w1,by rw [hx w w0 w1];omega⟩
 have h3:z∈MX p w:=Zol hp h1 fun _ _=>by
   have:=h2 w;rw [hx w w0 w1] at this;omega
 obtain⟨n,hn,e⟩:=List.mem_iff_getElem.1 h3
 refine⟨n,Oa,Oa,fun j j0 j1=> ?_⟩
 have h4:=h2 j
 rw [hx j j0 j1] at h4
 unfold Yy
 rw [show((n:Int)).toNat=n by omega,List.getD_eq_getElem?_getD,List.getElem?_eq_getElem hn,Option.getD_some,e]
 exact h4
end Go.Proofs.Gw
namespace Go.Proofs.Gw
open Go Go.RowKit
theorem RN{f:Of}:∀{n:Nat},1<=Zc f n->∃k,0<=k/\k<(n:Int)/\1<=f k
 |0,h=>by simp [Zc] at h
 | n +1,h=>by
   by_cases e:1<=f n
   · exact⟨n,Oa,Oa,e⟩
   · simp only [Zc] at h
     obtain⟨k,h0,h1,h2⟩:=RN (f:=f) (n:=n) Oa
     exact⟨k,h0,Oa,h2⟩
theorem ZiP{p:Prob}{x y:Of}(h:∀j,0<=j->j<p.m->x j=y j):ZL p x p.m.toNat=ZL p y p.m.toNat:=Zg fun j j0 j1=>by
 rw [h j j0 Oa]
theorem Kp{p:Prob}(hp:p.Ok){a:Of}(h:∀j,0<=j->j<p.m->0<=a j)(hu:ZL p a p.m.toNat<=p.stock+p.kerf):FitsP p p.m a:=by
 refine⟨hp,rfl,fun j j0 j1=>⟨h j j0 j1,?_⟩,hu⟩
 have h1:=Xf (f:=fun i=>a i*(p.L i+p.kerf)) (n:=p.m.toNat) j0 Oa (fun i i0 i1=>by
   have h2:=hp.all i i0 Oa
   unfold Prob.each at h2
   exact Int.mul_nonneg (h i i0 Oa) (by have:=hp.k1;omega))
 have h2:=hp.all j j0 j1
 unfold Prob.each at h2
 have hk:=hp.k1;have hs:=hp.s2
 apply Classical.byContradiction;intro hn
 have h3:2001*(p.L j+p.kerf)<=a j*(p.L j+p.kerf):=Int.mul_le_mul_of_nonneg_right Oa Oa
 unfold ZL at hu
 omega
def ZI(p:Prob):Int:=Zc p.D p.m.toNat
theorem Wd{p:Prob}(hp:p.Ok):0<=ZI p/\ZI p<=20000:=by
 have h:=UU (f:=p.D) (A:=1000) (n:=p.m.toNat) (fun i i0 i1=>by
   have he:=hp.all i i0 Oa
   unfold Prob.each at he
   omega)
 have:=hp.m2
 unfold ZI;omega
end Go.Proofs.Gw
namespace Go.Proofs.YtpnamgfdakfccaaGreat
open Go Go.RowKit Go.Proofs.Gw
theorem ZbR{p:Prob}{b wi i:Int}(hs:ZO p b wi)(i0:0<=i)(i1:i<Zl p b wi):(ZW p wi i).Ok:=by
 obtain⟨h1,_⟩:=VY hs i0 i1
 refine Zjw hs.1.1 fun k k0 k1=> ?_
 have h2:=h1.rng k k0 (by rw [<-hs.1.1.d];exact k1)
 omega
theorem ZcW:∀(t:Tr) {p:Prob} {b:Int},wrT t p b=none->∀{L:List (Of)},LFit p L->(∀j,0<=j->j<p.m->p.D j<=XM L j)->b<L.length:=Tr.ind fun t ih p b h L hL hc=>by
 by_cases h0:t.n=0
 · by_cases hl:WJ p b t.nl t.l
   · obtain⟨h1,h2,h3,h4⟩:=hl
     exact ZcD h3 h1.2.2 h4 hL hc
   · rw [Vs h0 hl] at h;cases h
 · by_cases hs:ZO p b t.s/\Zl p b t.s=t.n
   · rw [KV h0 hs.1 hs.2] at h
     have hn:Zl p b t.s=(MX p t.s).length:=YK hs.1
     obtain⟨hpo,hb1,⟨s0,s1⟩,hd,_⟩:=hs.1
     have hp:=hpo.1
     have he:=hp.all t.s s0 s1
     unfold Prob.each at he
     obtain⟨L1,a,L2,rfl,ha⟩:=ZgC (j:=t.s) (Int.le_trans Oa (hc t.s s0 s1))
     obtain⟨i,i0,i1,hi⟩:=KE (hL a (by simp)) s0 s1 ha Oa
     have hk:ZjC t p b i=none:=Zeg h i i0 Oa
     have hok:=ZbR hs.1 i0 Oa
     have hL2:LFit p (L1++L2):=fun x hx=>hL x (by rcases List.mem_append.1 hx with hx|hx<;>simp [hx])
     have h5:=ih i i0 Oa hk (L:=L1++L2) (fun x hx=>by
         obtain⟨_,g2,g3,g4⟩:=hL2 x hx
         exact⟨hok,rfl,g3,g4⟩) (fun j j0 j1=>by
         have g1:=hc j j0 j1
         have g2:=hi j j0 j1
         have g3:=hL2.nn j0 j1
         rw [TV,XM] at g1
         rw [TV] at g3⊢
         show p.D j-Yy (MX p t.s) i j<=_
         omega)
     rw [List.length_append] at h5⊢
     rw [List.length_cons]
     omega
   · rw [ZcQ h0 hs] at h;cases h
theorem Vb(f d:Of):∀n:Nat,psum f d n=Zc (fun k=>f k*d k) n
 |0=>rfl
 | n+1=>by
   have:=Vb f d n
   simp only [psum,Zc,this]
theorem RZ{p:Prob}{u:Int}{ln cnt:Of}{pt:Og}(h:PlanOk p u ln pt cnt/\∀j,0<=j->j<p.m->p.D j<=ZH u pt cnt j):∃L,LFit p L/\(∀j,0<=j->j<p.m->p.D j<=XM L j)/\(L.length:Int)=psum (fun _=>1) cnt u.toNat:=by
 obtain⟨⟨_,h1,h2⟩,h3⟩:=h
 obtain⟨L,g1,g2,g3⟩:=RY (p:=p) (len:=ln) (pt:=pt) (cnt:=cnt) u.toNat fun i i0 i1=>by
   have:=h2 i i0 Oa
   exact⟨this.2.2,Oa⟩
 refine⟨L,g1,fun j j0 j1=> ?_,?_⟩
 · have:=h3 j j0 j1
   unfold ZH at this
   rw [g2];unfold X8
   rw [Vb] at this;exact this
 · rw [g3,Vb];exact Zg fun i _ _=>by rw [Int.one_mul]
end Go.Proofs.YtpnamgfdakfccaaGreat
namespace Go.Proofs.Gw
open Go Go.RowKit
variable {w:Int} {f:Of}
def TpN(f:Of):Nat->Int->Int
  |0=>f
  |d+1=>fun s=>TpN f d s+TpN f d (s+1)
theorem Rp{f:Of}(h:∀s,0<=f s):∀(d:Nat) (s:Int),0<=TpN f d s
 |0,s=>h s
 | d+1,s=>by
   have:=Rp h d s;have:=Rp h d (s+1)
   simp only [TpN];omega
theorem Ts(f:Of)(a:Nat):∀(b:Nat),TpN (TpN f a) b=TpN f (a+b)
 |0=>rfl
 | b+1=>by
   funext s
   have:=Ts f a b
   show TpN (TpN f a) b s+TpN (TpN f a) b (s+1)=TpN f (a+b) s+TpN f (a+b) (s+1)
   rw [this]
theorem Zbc{f:Of}(h:∀s,0<=f s)(s:Int):∀d:Nat,Zc (fun k=>f (s+k)) (d+1)<=TpN f d s
 |0=>by simp [Zc,TpN]
 | d +1=>by
   have h1:=Zbc h s d
   have h2:f (s+1+d)<=TpN f d (s+1):=by
     have:=Zbc h (s+1) d
     have h3:Zc (fun k=>f (s+1+k)) (d+1)=Zc (fun k=>f (s+1+k)) d+f (s+1+d):=rfl
     have h4:0<=Zc (fun k=>f (s+1+k)) d:=ZY fun i _ _=>h _
     omega
   have h5:Zc (fun k=>f (s+k)) (d+1+1)=Zc (fun k=>f (s+k)) (d+1)+f (s+((d+1:Nat):Int)):=rfl
   have e:s+((d+1:Nat):Int)=s+1+d:=Oa
   rw [h5,e]
   simp only [TpN];omega
def YP{α:Type}(f:α->Int)(l:List α):Int:=(l.map f).sum
theorem Zfb{α:Type}(f:α->Int)(l m:List α):YP f (l++m)=YP f l+YP f m:=by simp [YP]
theorem Zb0{α:Type}(f:α->Int)(F:Int->List α)(lo:Int):∀c:Nat,YP f (dn F lo c)=Zc (fun k=>YP f (F (lo+k))) c
 |0=>rfl
 | c+1=>by
   have:=Zb0 f F lo c
   show YP f (F (lo+c)++dn F lo c)=Zc _ c+_
   rw [Zfb,this];exact Int.add_comm _ _
def tl(p:Prob)(i:Int):Nat:=(ZI p-Zc p.D i.toNat).toNat
theorem W8{p:Prob}(hp:p.Ok):∀(c:Nat) {i:Int},0<=i->i+c<=p.m->Zc p.D i.toNat<=Zc p.D (i+c).toNat
 |0,i,_,_=>by simp
 | c+1,i,i0,h=>by
   have h1:=W8 hp c i0 Oa
   have h2:=ZF p.D (i:=i+c) Oa
   have he:=hp.all (i+c) Oa Oa
   unfold Prob.each at he
   rw [show i+((c+1:Nat):Int)=i+c+1 by omega,h2];omega
theorem ZiU{p:Prob}(hp:p.Ok){i:Int}(i0:0<=i)(i1:i<p.m):tl p i=tl p (i+1)+(p.D i).toNat:=by
 have h2:=ZF p.D i0
 have h3:=W8 hp (p.m-(i+1)).toNat (i:=i+1) Oa Oa
 rw [show i+1+((p.m-(i+1)).toNat:Int)=p.m by omega] at h3
 have he:=hp.all i i0 i1
 unfold Prob.each at he
 unfold tl ZI;omega
theorem Zli(p:Prob):tl p p.m=0:=by unfold tl ZI;omega
theorem ZiT(p:Prob):(tl p 0:Nat)=(ZI p).toNat:=by unfold tl;simp [Zc]
theorem Vj {p:Prob} (hp:p.Ok) {w:Int} {f:Of} (hf:∀s,0<=f s):∀(j:Nat) {i l:Int} {a:Of},(p.m-i).toNat=j->0<=i->i<=p.m->0<=l->
   (w<i->YP (fun x=>f (Zc x p.m.toNat)) (exI p w i a l)<=TpN f (tl p i) (Zc a i.toNat))/\
   (i<=w->w<p.m->1<=p.D w->YP (fun x=>f (Zc x p.m.toNat)) (exI p w i a l)<=TpN f (tl p i-1) (Zc a i.toNat+1))
 | 0,i,l,a,hj,h0,h1,hl=>by
   obtain rfl:i=p.m:=Oa
   refine⟨fun _=> ?_,fun g1 g2=>Oa⟩
   rw [Zli]
   by_cases hm:ZcK p a l
   · rw [Tl rfl hm];simp [YP,TpN]
   · rw [ZaH rfl hm];simpa [YP,TpN] using hf _
 | j + 1,i,l,a,hj,h0,h1,hl=>by
   have he:=hp.all i h0 Oa
   unfold Prob.each at he
   have hk1:=hp.k1
   have eQ:=ZiU hp h0 (show i<p.m by omega)
   rw [Wj h0 Oa,Zb0]
   have ky:most p i l<=p.D i:=by unfold most;omega
   have xe:∀k,0<=k->k<=most p i l->0<=l-k*(p.L i+p.kerf):=fun k k0 k1=>by
     have:=(XK hp h0 Oa hl k0 k1).2.2;omega
   have bJ:∀k,Zc (upd a i k) (i+1).toNat=Zc a i.toNat+k:=fun k=>by
     rw [ZF _ h0,ZC]
     rw [Zg (g:=a) fun q q0 q1=>by rw [upd_ne _ _ Oa]]
   have zy:∀(g:Of) (c:Nat) (d:Nat) (s:Int),(∀s,0<=g s)->(c:Int)<=d+1->Zc (fun k=>g (s+k)) c<=TpN g d s:=fun g c d s hg hc=>by
     refine Int.le_trans ?_ (Zbc hg s d)
     have:∀n:Nat,c<=n->Zc (fun k=>g (s+k)) c<=Zc (fun k=>g (s+k)) n:=fun n=>by
       induction n with
       |zero=>intro h;rw [show c=0 by omega];exact Int.le_refl _
       | succ n ih=>
         intro h
         by_cases e:c=n+1
         · rw [e];exact Int.le_refl _
         · have:=ih Oa;have:=hg (s+n);simp only [Zc];omega
     exact this (d+1) Oa
   refine⟨fun hw=> ?_,fun hw hwm hD=> ?_⟩
   · have hls:least w i=0:=by unfold least;rw [if_neg Oa]
     rw [hls,Int.sub_zero]
     have h5:Zc (fun k=>YP (fun x=>f (Zc x p.m.toNat)) (kid p w i a l (0+k))) (most p i l+1).toNat<=Zc (fun k=>TpN f (tl p (i+1)) (Zc a i.toNat+k)) (most p i l+1).toNat:=Z1 fun k k0 k1=>by
       have:=(Vj hp (w:=w) hf j (i:=i+1) (l:=l-(0+k)*(p.L i+p.kerf)) (a:=upd a i (0+k)) Oa Oa Oa (xe (0+k) Oa Oa)).1 Oa
       rw [bJ,Int.zero_add] at this
       unfold kid;rw [Int.zero_add];exact this
     refine Int.le_trans h5 (Int.le_trans (zy _ _ (p.D i).toNat _ (Rp hf _) Oa) ?_)
     rw [Ts,<-eQ];exact Int.le_refl _
   · by_cases e:w=i
     · subst e
       have hls:least w w=1:=by unfold least;rw [if_pos rfl]
       rw [hls]
       have h5:Zc (fun k=>YP (fun x=>f (Zc x p.m.toNat)) (kid p w w a l (1+k))) (most p w l+1-1).toNat<=Zc (fun k=>TpN f (tl p (w+1)) (Zc a w.toNat+1+k)) (most p w l+1-1).toNat:=Z1 fun k k0 k1=>by
         have:=(Vj hp (w:=w) hf j (i:=w+1) (l:=l-(1+k)*(p.L w+p.kerf)) (a:=upd a w (1+k)) Oa Oa Oa (xe (1+k) Oa Oa)).1 Oa
         rw [bJ,show Zc a w.toNat+(1+k)=Zc a w.toNat+1+k by omega] at this
         unfold kid;exact this
       refine Int.le_trans h5 (Int.le_trans (zy _ _ ((p.D w).toNat-1) _ (Rp hf _) Oa) ?_)
       rw [Ts,show tl p (w+1)+((p.D w).toNat-1)=tl p w-1 by omega];exact Int.le_refl _
     · have hls:least w i=0:=by unfold least;rw [if_neg e]
       rw [hls,Int.sub_zero]
       have hw1:1<=tl p (i+1):=by
         have h7:=W8 hp (w-(i+1)).toNat (i:=i+1) Oa Oa
         rw [show i+1+((w-(i+1)).toNat:Int)=w by omega] at h7
         have h8:=ZF p.D (i:=w) Oa
         have h9:=W8 hp (p.m-(w+1)).toNat (i:=w+1) Oa Oa
         rw [show w+1+((p.m-(w+1)).toNat:Int)=p.m by omega] at h9
         unfold tl ZI;omega
       have h5:Zc (fun k=>YP (fun x=>f (Zc x p.m.toNat)) (kid p w i a l (0+k))) (most p i l+1).toNat<=Zc (fun k=>TpN f (tl p (i+1)-1) (Zc a i.toNat+1+k)) (most p i l+1).toNat:=Z1 fun k k0 k1=>by
         have:=(Vj hp (w:=w) hf j (i:=i+1) (l:=l-(0+k)*(p.L i+p.kerf)) (a:=upd a i (0+k)) Oa Oa Oa (xe (0+k) Oa Oa)).2 Oa hwm hD
         rw [bJ,Int.zero_add,show Zc a i.toNat+k+1=Zc a i.toNat+1+k by omega] at this
         unfold kid;rw [Int.zero_add];exact this
       refine Int.le_trans h5 (Int.le_trans (zy _ _ (p.D i).toNat _ (Rp hf _) Oa) ?_)
       rw [Ts,show tl p (i+1)-1+(p.D i).toNat=tl p i-1 by omega];exact Int.le_refl _
theorem ZcL{p:Prob}(hp:p.Ok)(w0:0<=w)(w1:w<p.m)(hD:1<=p.D w)(hf:∀s,0<=f s):YP (fun x=>f (Zc x p.m.toNat)) (MX p w)<=TpN f ((ZI p).toNat-1) 1:=by
 have:=(Vj hp hf _ (w:=w) (a:=fun _=>0) rfl (Int.le_refl 0) (by have:=hp.m1;omega) (show 0<=p.stock+p.kerf by have:=hp.s1;have:=hp.k1;omega)).2 w0 w1 hD
 rw [ZiT] at this
 simpa [MX,Zc] using this
def Gn(n:Int):Int:=if n<0 then 0 else [1,2,4,10,30,104,406].getD n.toNat 0
theorem Zlb(n:Int):0<=Gn n:=by
 unfold Gn;split
 · omega
 · rw [List.getD_eq_getElem?_getD]
   cases h: [(1:Int),2,4,10,30,104,406][n.toNat]? with
   |none=>simp
   | some x=>
     have:=List.mem_of_getElem? h
     simp at this;simp;omega
theorem six{P:Int->Prop}(h1:P 1)(h2:P 2)(h3:P 3)(h4:P 4)(h5:P 5)(h6:P 6):∀n:Int,1<=n->n<=6->P n:=fun n a b=>by
 have:n=1\/n=2\/n=3\/n=4\/n=5\/n=6:=Oa
 rcases this with rfl|rfl|rfl|rfl|rfl|rfl<;>assumption
theorem ZpQ:∀n:Int,1<=n->n<=6->1+TpN (fun s=>Gn (n-s)) (n.toNat-1) 1<=Gn n:=six (by decide) (by decide) (by decide) (by decide) (by decide) (by decide)
theorem Zbf:∀n:Int,0<=n->n<=6->1<=Gn n/\Gn n<=406:=fun n a b=>by
 by_cases e:n=0
 · subst e;decide
 · exact six (P:=fun n=>1<=Gn n/\Gn n<=406) (by decide) (by decide) (by decide) (by decide) (by decide) (by decide) n Oa b
theorem Zjk:∀n:Int,1<=n->n<=6->TpN (fun _=>1) (n.toNat-1) 1<=100:=six (by decide) (by decide) (by decide) (by decide) (by decide) (by decide)
theorem Kc{α:Type}:∀l:List α,YP (fun _=>(1:Int)) l=l.length
 | []=>rfl
 |a::l=>by have:=Kc l;simp only [YP,List.map_cons,List.sum_cons,List.length_cons] at*;omega
theorem ZiJ{p:Prob}(hp:p.Ok)(w0:0<=w)(w1:w<p.m)(hD:1<=p.D w)(hn:ZI p<=6):((MX p w).length:Int)<=100/\1<=ZI p:=by
 have h1:1<=ZI p:=by
   have:=Xf (f:=p.D) (n:=p.m.toNat) w0 Oa (fun i i0 i1=>by
     have he:=hp.all i i0 Oa
     unfold Prob.each at he;omega)
   unfold ZI;omega
 refine⟨?_,h1⟩
 have h2:=ZcL hp w0 w1 hD (f:=fun _=>1) (fun _=>Oa)
 rw [Kc] at h2
 exact Int.le_trans h2 (Zjk _ h1 hn)
theorem Kb(f:(Of)->Int):∀l:List (Of),Zc (fun k=>f (Yy l k)) l.length=YP f l
 | []=>rfl
 | a ::l=>by
   rw [List.length_cons,Vv]
   have e:Zc (fun i=>f (Yy (a::l) (i+1))) l.length=Zc (fun i=>f (Yy l i)) l.length:=Zg fun i i0 i1=>by
     unfold Yy;rw [show(i+1).toNat=i.toNat+1 by omega];rfl
   rw [e,Kb f l];simp [YP,Yy]
end Go.Proofs.Gw
namespace Go.Proofs.Gw
open Go Go.RowKit
variable {w:World}
def Tr.fr2(E T:TypeId):Tr->Frame| .nil=>Frame.bun []| .mk s vK n kid vL nl l=>Frame.bun [.own vK 3 E n (YL kid),.own vL 1 T nl (ints l),.sem (Frame.all n fun i=>(kid i).fr2 E T)]
def UO:Tr->Prop
  | .nil=>True
  | .mk s vK n kid vL nl l=>((-9223372036854775808<=s/\s<=9223372036854775807)/\56*n<=140737488351232/\∀k,-9223372036854775808<=l k/\l k<=9223372036854775807)/\∀i,0<=i->i<n->UO (kid i)
theorem Tr.fr2_at{E T:TypeId}:∀t:Tr,UO t->(t.fr2 E T).holds w->KAt w t/\LvAt w t:=Tr.ind fun t ih hr hf=>by
 cases t with
 |nil=>exact⟨trivial,trivial⟩
 | mk s vK n kid vL nl l=>
   have hf':(Frame.bun [.own vK 3 E n (YL kid),.own vL 1 T nl (ints l),.sem (Frame.all n fun i=>(kid i).fr2 E T)]).holds w:=hf
   have g1:=hf'.1 _ (List.mem_cons_self ..)
   have g2:=hf'.1 _ (List.mem_cons_of_mem _ (List.mem_cons_self ..))
   have g3:=hf'.1 (.sem _) (List.mem_cons_of_mem _ (List.mem_cons_of_mem _ (List.mem_cons_self ..)))
   have hr':((-9223372036854775808<=s/\s<=9223372036854775807)/\56*n<=140737488351232/\∀k,-9223372036854775808<=l k/\l k<=9223372036854775807)/\∀i,0<=i->i<n->UO (kid i):=hr
   obtain⟨⟨r1,r2,r3⟩,r4⟩:=hr'
   refine⟨⟨⟨g1.row,r2⟩,fun i i0 i1=>(ih i i0 i1 (r4 i i0 i1) (g3.1 i i0 i1)).1⟩,⟨⟨g2.row,r3⟩,Ent.holds.roomy g2,r1⟩,fun i i0 i1=>(ih i i0 i1 (r4 i i0 i1) (g3.1 i i0 i1)).2⟩
theorem Sat.tree2{w0:World}{l:List Ent}{E T:TypeId}{v vL:Value}{n nl:Int}{kid:Int->Tr}{f:Of}(h:Sat w0 w (l++ [.own v 3 E n (YL kid),.own vL 1 T nl (ints f),.sem (Frame.all n fun i=>(kid i).fr2 E T)]))(s:Int):Sat w0 w (l++ [.sem ((Tr.mk s v n kid vL nl f).fr2 E T)]):=by
 exact h.bundle (l2:= [.own v 3 E n (YL kid),.own vL 1 T nl (ints f),.sem (Frame.all n fun i=>(kid i).fr2 E T)])
theorem Sat.tree0{w0:World}{l:List Ent}(h:Sat w0 w l)(E T:TypeId):Sat w0 w (l++ [.sem (Tr.nil.fr2 E T)]):=by
 refine h.comp (m:= [.sem (Tr.nil.fr2 E T)]) ⟨Below.refl _ _,?_,?_,List.pairwise_singleton _ _⟩
 · intro e he;obtain rfl:=List.mem_singleton.1 he;exact⟨fun e he=>(by cases he),List.Pairwise.nil⟩
 · intro e he g hg;obtain rfl:=List.mem_singleton.1 he;obtain⟨e,he,_⟩:=hg;cases he
end Go.Proofs.Gw
namespace Go.Proofs.YtpnamgfdakfccaaGreat
open Go Go.RowKit Go.Proofs.Gw
variable {C b c e i lf m wi:Int} {cnt ln ln2 qf:Of} {pt pt2:Og}
def PMt(p:Prob)(u:Int)(ln:Of)(pt:Og)(cnt:Of):Prop:=PlanOk p u ln pt cnt/\∀j,0<=j->j<p.m->p.D j<=ZH u pt cnt j
def brs(u:Int)(cnt:Of):Int:=psum (fun _=>1) cnt u.toNat
def KL(p:Prob):Prop:=p.Ok/\∀j,0<=j->j<p.m->p.D j<=0
theorem Vu(p:Prob):psum (fun _=>1) p.D p.m.toNat=ZI p:=by
 rw [Vb];exact Zg fun i _ _=>by rw [Int.one_mul]
theorem ZbW{p:Prob}(hp:p.Ok)(h:1<=ZI p):∃w,0<=w/\w<p.m/\1<=p.D w:=by
 obtain⟨k,k0,k1,k2⟩:=RN (f:=p.D) (n:=p.m.toNat) h
 exact⟨k,k0,Oa,k2⟩
theorem BestR.tot{p:Prob}{out:Us}(h:BestR p out e)(hok:p.Ok):(e=0->ZI p<=1000)/\(ZI p<=1000->e=0):=by
 have hc:∀{l:Us} {e:Int},FFitR p l e->(e=0->ZI p<=1000)/\(ZI p<=1000->e=0):=fun {l e} hf=>by
   have h1:=hf.1
   unfold ZiN at h1
   rw [Vu] at h1
   rcases h1 with⟨g,_⟩|⟨_,g1,g2⟩|⟨_,g1,g2⟩
   · exact absurd hok g
   · exact⟨fun _=>Oa,fun _=>Oa⟩
   · exact⟨fun _=>Oa,fun _=>Oa⟩
 rcases h with⟨h1,h2,_⟩|⟨h1,l,h2,_⟩
 · exact hc h2
 · have:=hc h2;exact⟨fun _=>this.1 rfl,fun _=>h1⟩
theorem BestR.meets {p:Prob} {n:Int} (h:BestR p (plL n ln pt cnt) e) (hok:p.Ok) (he:e=0) (n0:0<=n):PMt p n ln pt cnt/\brs n cnt<=ZI p:=by
 have ht:=(BestR.tot h hok).1 he
 have hx:ExU p (plL n ln pt cnt):=by
   rcases h with⟨h1,_⟩|⟨_,l,h2,u,ml,mf,s,ec,u0,hc,h3⟩
   · exact absurd he h1
   · have hl:=h2.ex hok rfl
     rcases h3 with⟨_,h4⟩|⟨_,h3⟩
     · rw [h4];exact hl
     · rcases h3 with⟨h4,_⟩|⟨h4,_⟩|⟨_,x,f,y,g,hx,hy,h5⟩
       · omega
       · omega
       · rw [h5];exact ZbO (ZbO hl hx.ex) hy.ex
 obtain⟨⟨g1,g2,g3⟩,g4⟩:=hx.sound hok (by rw [Vu];exact ht) n0
 refine⟨⟨⟨g1,g2,fun k k0 k1=>⟨(g3 k k0 k1).2.1,(g3 k k0 k1).2.2,(g3 k k0 k1).1⟩⟩,fun j j0 j1=> ?_⟩,?_⟩
 · have:=g4 j j0 j1
   rw [Zaq] at this
   unfold ZH;omega
 · have h5:=hx.few
   rw [Vu,Z7 _ n0] at h5
   exact h5
def Zop(p:Prob)(b u:Int)(ln:Of)(pt:Og)(cnt:Of)(ok:Prop):Prop:=(ok->PMt p u ln pt cnt/\brs u cnt<=b)/\(ZI p<=b->ok)
theorem KJ{p:Prob}{y z:Of}:∀(j:Nat),(∀i,0<=i->i<(j:Int)->y i=z i)->Tab p y j=Tab p z j
 |0,_=>rfl
 | j+1,h=>by
   funext c
   have:=KJ (p:=p) j fun i i0 i1=>h i i0 Oa
   simp only [Tab]
   rw [this,h j Oa Oa]
theorem Zfr{p:Prob}{n q:Int}{y z:Of}(hn:n=p.m->∀i,0<=i->i<p.m->y i=z i)(h:Chk p n y q=0):Chk p n z q=0/\Yt p n z q=Yt p n y q:=by
 obtain⟨hp,hf,he,hw⟩:=Gw.XQ h
 have hyz:=hn he
 have hm:=hp.m1
 have h1:Chk p n z q=0:=by
   refine Zj3 hp ⟨hf.1,hf.2.1,fun k k0 k1=>by rw [<-hyz k k0 Oa];exact hf.2.2 k k0 k1⟩ he ?_
   unfold WI at hw⊢
   rw [<-KJ (y:=y) p.m.toNat fun i i0 i1=>hyz i i0 Oa]
   omega
 refine⟨h1,?_⟩
 rw [Yb h1,Yb h]
 unfold Bnd
 rw [X2,X2,Zg (f:=fun i=>p.D i*z i) (g:=fun i=>p.D i*y i) fun i i0 i1=>by rw [hyz i i0 Oa]]
def lfn(m q:Int)(y:Of):Of:=fun k=>if 0<=k/\k<=m then Ky q y k else 0
def LfR(p:Prob)(b n:Int)(l:Of)(ok:Prop):Prop:=(ok->WJ p b n l/\n<=40/\∀k,ZP (l k))/\(b=0->1<=ZI p->ok)
def ZeO(p:Prob)(c:Ct)(m:Int):Prop:=m<0\/(Chk p c.n c.y c.q=0/\m=Yt p c.n c.y c.q)
theorem Xi{p:Prob}{b c b':Ct}{m':Int}(h:ZeO p b m)(ho:(b',m')=Xr p (b,m) c e):ZeO p b' m'/\m<=m'/\(e=0->Chk p c.n c.y c.q=0->Yt p c.n c.y c.q<=m'):=by
 by_cases hc:e=0/\Chk p c.n c.y c.q=0/\m<Yt p c.n c.y c.q
 · rw [<-R6 hc.1 hc.2.1 hc.2.2] at ho
   obtain⟨rfl,rfl⟩:=Prod.mk.inj ho
   exact⟨.inr ⟨hc.2.1,rfl⟩,Oa,fun _ _=>Int.le_refl _⟩
 · rw [<-V0 hc] at ho
   obtain⟨rfl,rfl⟩:=Prod.mk.inj ho
   refine⟨h,Int.le_refl _,fun h1 h2=> ?_⟩
   apply Classical.byContradiction;intro h3
   exact hc ⟨h1,h2,Oa⟩
theorem Ka{p:Prob}(hp:p.Ok):∀(j:Nat),(j:Int)<=p.m->∀c,0<=c->Tab p (fun k=>p.L k+p.kerf) j c<=c
 |0,_,c,hc=>hc
 | j+1,hj,c,hc=>by
   have h2:=hp.all j Oa Oa
   unfold Prob.each at h2
   have hk:=hp.k1
   simp only [Tab]
   obtain⟨n,h3,h4,h5⟩:=ZcJ (Tab p (fun k=>p.L k+p.kerf) j) (p.L j+p.kerf) (p.L j+p.kerf) (p.D j).toNat c hc
   rw [h5]
   have:=Ka hp j Oa (c-n*(p.L j+p.kerf)) Oa
   omega
theorem V2{p:Prob}(hp:p.Ok):Chk p (WS p).n (WS p).y (WS p).q=0:=by
 have h1:=hp.s1;have h2:=hp.s2;have h3:=hp.k1;have h4:=hp.k2;have hm:=hp.m1
 refine Zj3 hp ⟨by show 1<=p.stock+p.kerf;omega,by show p.stock+p.kerf<=_;omega,fun k k0 k1=> ?_⟩ rfl ?_
 · have he:=hp.all k k0 k1
   unfold Prob.each at he
   show 0<=p.L k+p.kerf/\p.L k+p.kerf<=_
   omega
 · have:=Ka hp p.m.toNat Oa (p.stock+p.kerf) Oa
   show¬p.stock+p.kerf<WI p fun k=>p.L k+p.kerf
   unfold WI;omega
theorem Zjr{p:Prob}(hp:p.Ok)(h:1<=ZI p):1<=Yt p (WS p).n (WS p).y (WS p).q:=by
 rw [Yb (V2 hp)]
 obtain⟨w,w0,w1,w2⟩:=ZbW hp h
 have h1:=hp.s1;have h3:=hp.k1
 have h5:1<=Tot p.D (WS p).y p.m.toNat:=by
   rw [X2]
   have:=Xf (f:=fun i=>p.D i*(p.L i+p.kerf)) (n:=p.m.toNat) w0 Oa fun i i0 i1=>by
     have he:=hp.all i i0 Oa;unfold Prob.each at he
     exact Int.mul_nonneg Oa Oa
   have he:=hp.all w w0 w1
   unfold Prob.each at he
   have h6:1*1<=p.D w*(p.L w+p.kerf):=Int.mul_le_mul w2 Oa Oa Oa
   show 1<=Zc (fun i=>p.D i*(p.L i+p.kerf)) p.m.toNat
   omega
 show 1<=(Tot p.D (WS p).y p.m.toNat+(p.stock+p.kerf)-1).tdiv (p.stock+p.kerf)
 rw [Int.tdiv_eq_ediv_of_nonneg Oa]
 exact(Int.le_ediv_iff_mul_le Oa).2 Oa
theorem DBestR.good{p:Prob}{c:Ct}(h:DBestR p c m e)(hp:p.Ok):e=0/\ZeO p c m/\(1<=ZI p->1<=m):=by
 rcases h with⟨g,_⟩|⟨_,he,c1,e1,c2,e2,c3,e3,h1,h2,h3,h4⟩
 · exact absurd hp g
 · refine⟨he,?_⟩
   obtain⟨b1,m1,ho1⟩:∃b m,(b,m)=Xr p (Ct.zer,-1) c1 e1:=⟨_,_,rfl⟩
   rw [<-ho1] at h4
   obtain⟨b2,m2,ho2⟩:∃b m,(b,m)=Xr p (b1,m1) c2 e2:=⟨_,_,rfl⟩
   rw [<-ho2] at h4
   have g1:=Xi (.inl Oa) ho1
   have g2:=Xi g1.1 ho2
   have g3:=Xi g2.1 h4
   refine⟨g3.1,fun hn=> ?_⟩
   rcases h2 with⟨g,_⟩|⟨_,rfl,rfl⟩
   · exact absurd hp g
   · have:=g2.2.2 rfl (V2 hp)
     have:=Zjr hp hn
     omega
theorem Zjx {p:Prob} {n:Int} {c:Ct} (hpo:Z5 p b) (h:ZeO p c m) (hb:b<m) (hn:n=c.n+1):WJ p b n (lfn c.n c.q c.y)/\n<=40/\∀k,ZP (lfn c.n c.q c.y k):=by
 have hb0:=hpo.2.1
 rcases h with h|⟨h1,h2⟩
 · omega
 · obtain⟨hp,hf,he,_⟩:=Gw.XQ h1
   have hm1:=hp.m1;have hm2:=hp.m2
   have e0:lfn c.n c.q c.y 0=c.q:=by unfold lfn Ky;rw [if_pos ⟨by omega,Oa⟩,if_pos Oa]
   have e1:∀k,0<=k->k<c.n->lfn c.n c.q c.y (k+1)=c.y k:=fun k k0 k1=>by
     unfold lfn Ky;rw [if_pos ⟨by omega,Oa⟩,if_neg Oa,show k+1-1=k by omega]
   have h3:=Zfr (z:=fun k=>lfn c.n c.q c.y (k+1)) (fun _ i i0 i1=>(e1 i i0 Oa).symm) h1
   refine⟨⟨hpo,Oa,?_,?_⟩,Oa,fun k=> ?_⟩
   · rw [e0,show n-1=c.n by omega];exact h3.1
   · rw [e0,show n-1=c.n by omega,h3.2];omega
   · unfold ZP
     by_cases hk:0<=k/\k<=c.n
     · by_cases hk0:k=0
       · rw [hk0,e0];have:=hf.1;have:=hf.2.1;omega
       · have:=e1 (k-1) Oa Oa
         rw [show k-1+1=k by omega] at this
         rw [this];have:=hf.2.2 (k-1) Oa Oa;omega
     · unfold lfn;rw [if_neg hk];omega
def WZ(p:Prob)(b c:Int)(t:Tr)(u:Int)(ln:Of)(pt:Og)(cnt:Of)(ok:Prop)(lf:Int):Prop:=
  1<=c/\(ZI p<=6->c<=Gn (ZI p))/\(¬ok->Zbi t/\u=0/\(ZI p<=6->lf<0))/\
  (ok->(Zbi t/\PMt p u ln pt cnt/\brs u cnt<=b)\/(u=0/\wrT t p b=none/\(0<t.n\/0<t.nl)/\(t.ok/\UO t)/\(ZI p<=6->t.nodes=c/\t.depth<=ZI p+1)))
theorem Yk:Zbi Tr.nil:=⟨rfl,rfl,rfl⟩
theorem Tc{p:Prob}(hp:p.Ok):ZI p<=6->1<=Gn (ZI p):=fun h=>(Zbf _ (Wd hp).1 h).1
theorem Zi0{p:Prob}(hp:p.Ok)(h:lf<0):WZ p b 1 .nil 0 ln pt cnt False lf:=
 ⟨Int.le_refl _,Tc hp,fun _=>⟨Yk,rfl,fun _=>h⟩,fun h=>h.elim⟩
theorem Zi2{p:Prob}{u:Int}{ok:Prop}(hp:p.Ok)(h:Zop p b u ln pt cnt ok)(ho:ok):WZ p b 1 .nil u ln pt cnt True lf:=
 ⟨Int.le_refl _,Tc hp,fun h=>absurd trivial h,fun _=> .inl ⟨Yk,h.1 ho⟩⟩
theorem Zf8{x:Int}(h:ZP x): -9223372036854775808<=x/\x<=9223372036854775807:=by unfold ZP at h;omega
theorem Zf3{p:Prob}{nl:Int}{l:Of}{vK vL:Value}{kid:Int->Tr}{ok:Prop}(hp:p.Ok)(h:LfR p b nl l ok)(ho:ok):WZ p b 1 (.mk 0 vK 0 kid vL nl l) 0 ln pt cnt True lf:=by
 obtain⟨h1,h2,h3⟩:=h.1 ho
 refine⟨Int.le_refl _,Tc hp,fun h=>absurd trivial h,fun _=> .inr ⟨rfl,WL rfl h1,.inr ?_,⟨⟨⟨by show ZP 0;unfold ZP;omega,by show(0:Int)<=100;omega,h2,.inl rfl,fun _=>rfl,fun k _ _=>h3 k⟩,fun i i0 i1=>Oa⟩,⟨⟨by omega,Oa,fun k=>Zf8 (h3 k)⟩,fun i i0 i1=>Oa⟩⟩,fun hn=> ?_⟩⟩
 · have:=h1.2.1;show 0<nl;omega
 · have:=(Wd hp).1
   refine⟨rfl,?_⟩
   show IntKind.i64.wrap (0+1)<=_
   have:IntKind.i64.wrap (0+1)=1:=by decide
   omega
theorem Zbz{p:Prob}{u2 nl:Int}{l:Of}{ok1 ok2:Prop}(hpo:Z5 p b)(h1:Zop p b u2 ln2 pt2 qf ok1)(n1:¬ok1)(h2:LfR p b nl l ok2)(n2:¬ok2)(h3:∀wi,ZO p b wi->100<Zl p b wi):WZ p b 1 .nil 0 ln pt cnt False lf:=by
 have hp:=hpo.1
 refine⟨Int.le_refl _,Tc hp,fun _=>⟨Yk,rfl,fun hn=> ?_⟩,fun h=>h.elim⟩
 exfalso
 have h4:¬ZI p<=b:=fun h=>n1 (h1.2 h)
 have hb0:=hpo.2.1
 have h5:b≠0:=fun h=>n2 (h2.2 h Oa)
 obtain⟨w,w0,w1,w2⟩:=ZbW hp Oa
 have h6:=(ZiJ hp w0 w1 w2 hn).1
 have h7:ZO p b w:=⟨hpo,Oa,⟨w0,w1⟩,Oa,Oa⟩
 have:=h3 w h7
 rw [YK h7] at this
 omega
theorem Ve{p:Prob}(hs:ZO p b wi)(i0:0<=i)(i1:i<Zl p b wi):ZI (ZW p wi i)=ZI p-Zc (Yy (MX p wi) i) p.m.toNat/\1<=Zc (Yy (MX p wi) i) p.m.toNat:=by
 obtain⟨h1,h2⟩:=VY hs i0 i1
 have e:Zc (fun j=>p.D j-Yy (MX p wi) i j) p.m.toNat+Zc (Yy (MX p wi) i) p.m.toNat=Zc p.D p.m.toNat:=by
   rw [<-W7];exact Zg fun j _ _=>Oa
 have h3:=Xf (f:=Yy (MX p wi) i) (n:=p.m.toNat) hs.2.2.1.1 (by have:=hs.2.2.1.2;omega) fun j j0 j1=>(h1.rng j j0 Oa).1
 refine⟨?_,Oa⟩
 show Zc (fun j=>p.D j-Yy (MX p wi) i j) p.m.toNat=Zc p.D p.m.toNat-_
 omega
theorem ZbQ{p:Prob}(hs:ZO p b wi)(hn:ZI p<=6):1+Zc (fun k=>Gn (ZI (ZW p wi k))) (Zl p b wi).toNat<=Gn (ZI p):=by
 have hp:=hs.1.1
 obtain⟨w0,w1⟩:=hs.2.2.1
 have hD:1<=p.D wi:=by have he:=hp.all wi w0 w1;unfold Prob.each at he;have:=hs.2.2.2.1;omega
 have h1:=(ZiJ hp w0 w1 hD hn).2
 have h2:=ZcL hp w0 w1 hD (f:=fun s=>Gn (ZI p-s)) fun s=>Zlb _
 have h3:=ZpQ _ h1 hn
 have h4:Zc (fun k=>Gn (ZI (ZW p wi k))) (Zl p b wi).toNat=YP (fun x=>Gn (ZI p-Zc x p.m.toNat)) (MX p wi):=by
   rw [<-Kb,YK hs,Int.toNat_natCast]
   exact Zg fun k k0 k1=>by rw [(Ve hs k0 (by rw [YK hs];exact k1)).1]
 omega
theorem Ze4{p:Prob}(hs:ZO p b wi)(hn:ZI p<=6)(i0:0<=i)(i1:i<=Zl p b wi):1+Zc (fun k=>Gn (ZI (ZW p wi k))) i.toNat<=Gn (ZI p):=by
 have h1:=ZbQ hs hn
 have h2:∀c:Nat,Zc (fun k=>Gn (ZI (ZW p wi k))) i.toNat<=Zc (fun k=>Gn (ZI (ZW p wi k))) (i.toNat+c):=fun c=>by
   induction c with
   |zero=>exact Int.le_refl _
   |succ c ih=>have:=Zlb (ZI (ZW p wi ((i.toNat+c:Nat):Int)));show _<=Zc (fun k=>Gn (ZI (ZW p wi k))) (i.toNat+c)+Gn (ZI (ZW p wi ((i.toNat+c:Nat):Int)));omega
 have h3:=h2 (Zl p b wi-i).toNat
 rw [show i.toNat+(Zl p b wi-i).toNat=(Zl p b wi).toNat by omega] at h3
 omega
structure Upto (p:Prob) (b wi i C:Int) (kd:Int->Tr):Prop where
  one:1<=C
  few:ZI p<=6->C<=1+Zc (fun k=>Gn (ZI (ZW p wi k))) i.toNat
  all:∀k,0<=k->k<i->wrT (kd k) (ZW p wi k) (b-1)=none/\(kd k).ok/\UO (kd k)
  cnt:ZI p<=6->Uo (fun k=>(kd k).nodes) i.toNat=C/\0<=VB (fun k=>(kd k).depth) i.toNat/\VB (fun k=>(kd k).depth) i.toNat<=ZI p
theorem Upto.start{p:Prob}(hp:p.Ok)(kd:Int->Tr):Upto p b wi 0 1 kd:=
 ⟨Int.le_refl _,fun _=>by simp [Zc],fun k k0 k1=>Oa,fun _=>⟨rfl,Int.le_refl _,(Wd hp).1⟩⟩
theorem Upto.calls{p:Prob}{kd:Int->Tr}{t:Tr}{u:Int}{ok:Prop}(h:Upto p b wi i C kd)(hs:ZO p b wi)(i0:0<=i)(i1:i<Zl p b wi)(hc:WZ (ZW p wi i) (b-1) c t u ln pt cnt ok lf)(hn:ZI p<=6):C+c<=1+Zc (fun k=>Gn (ZI (ZW p wi k))) (i+1).toNat/\C+c<=Gn (ZI p):=by
 have h1:=Ve hs i0 i1
 have h2:=hc.2.1 Oa
 have h3:=h.few hn
 have h4:=ZF (fun k=>Gn (ZI (ZW p wi k))) i0
 have h5:=Ze4 hs hn (i:=i+1) Oa Oa
 omega
theorem Upto.next{p:Prob}{kd:Int->Tr}{t:Tr}{u:Int}{ok:Prop}(h:Upto p b wi i C kd)(hs:ZO p b wi)(i0:0<=i)(i1:i<Zl p b wi)(hc:WZ (ZW p wi i) (b-1) c t u ln pt cnt ok lf)(ho:ok)(hm:¬(0<u\/(t.n=0/\t.nl=0/\KL (ZW p wi i)))):Upto p b wi (i+1) (C+c) (gsn kd i t):=by
 have h9:wrT t (ZW p wi i) (b-1)=none/\(t.ok/\UO t)/\(ZI (ZW p wi i)<=6->t.nodes=c/\t.depth<=ZI (ZW p wi i)+1):=by
   rcases hc.2.2.2 ho with⟨g1,g2,g3⟩|⟨g1,g2,g3,g4,g5⟩
   · exfalso
     have hu:¬0<u:=fun hu=>hm (.inl hu)
     refine hm (.inr ⟨g1.2.2,g1.2.1,g2.1.1,fun j j0 j1=> ?_⟩)
     have:=g2.2 j j0 j1
     unfold ZH at this
     rw [show u.toNat=0 by omega] at this
     exact this
   · exact⟨g2,g4,g5⟩
 have hc1:=hc.1
 have h1:=h.one
 refine⟨by omega,fun hn=>(h.calls hs i0 i1 hc hn).1,fun k k0 k1=> ?_,fun hn=> ?_⟩
 · by_cases e:k<i
   · rw [Zq e];exact h.all k k0 e
   · rw [ZB e,show k=i by omega];exact⟨h9.1,h9.2.1⟩
 · obtain⟨q1,q2,q3⟩:=h.cnt hn
   have q4:=Ve hs i0 i1
   obtain⟨q5,q6⟩:=h9.2.2 Oa
   have q7:=(h.calls hs i0 i1 hc hn).2
   have q8:=Zbf (ZI p) (Wd hs.1.1).1 hn
   have e1:Uo (fun k=>(gsn kd i t k).nodes) i.toNat=Uo (fun k=>(kd k).nodes) i.toNat:=TB fun k k0 k1=>by rw [Zq Oa]
   have e2:VB (fun k=>(gsn kd i t k).depth) i.toNat=VB (fun k=>(kd k).depth) i.toNat:=TU fun k k0 k1=>by rw [Zq Oa]
   rw [RM _ i0,R9 _ i0,e1,e2,q1,Y1,q5]
   refine⟨I64.wrap (by unfold I64;omega),Oa,Oa⟩
theorem ZiY{p:Prob}{kd:Int->Tr}{t:Tr}{u:Int}{ok:Prop}(h:Upto p b wi i C kd)(hs:ZO p b wi)(i0:0<=i)(i1:i<Zl p b wi)(hc:WZ (ZW p wi i) (b-1) c t u ln pt cnt ok lf)(ho:¬ok):WZ p b (C+c) .nil 0 ln2 pt2 qf False lf:=by
 have h1:=h.one;have h2:=hc.1
 refine⟨by omega,fun hn=>(h.calls hs i0 i1 hc hn).2,fun _=>⟨Yk,rfl,fun hn=> ?_⟩,fun h=>h.elim⟩
 have:=Ve hs i0 i1
 exact(hc.2.2.1 ho).2.2 Oa
theorem Zfi{p:Prob}{n:Int}{f:Of}(hp:p.Ok)(h:FitsP (ZW p wi i) n f):FitsP p n f:=⟨hp,h.eq,h.all,h.used⟩
theorem WQ{f d g e:Of}:∀n:Nat,(∀k,0<=k->k<(n:Int)->f k=g k/\d k=e k)->psum f d n=psum g e n
 |0,_=>rfl
 | n+1,h=>by
   have h1:=WQ n fun k k0 k1=>h k k0 Oa
   obtain⟨h2,h3⟩:=h n Oa Oa
   simp only [psum];rw [h1,h2,h3]
theorem Zf1 {p:Prob} {kd:Int->Tr} {t:Tr} {u:Int} {ok:Prop} {x:Of} (h:Upto p b wi i C kd) (hs:ZO p b wi) (i0:0<=i) (i1:i<Zl p b wi) (hc:WZ (ZW p wi i) (b-1) c t u ln pt cnt ok lf) (ho:ok) (hm:0<u\/(t.n=0/\t.nl=0/\KL (ZW p wi i))) (u0:0<=u) {m9:Int} (hm9:m9=p.m) (hx:∀j,0<=j->j<p.m->x j=Yy (MX p wi) i j):WZ p b (C+c) .nil (u+1) (gsn ln u m9) (gsn pt u x) (snoc cnt u 1) True lf/\u<1000:=by
 subst hm9
 have h1:=h.one;have h2:=hc.1
 have hp:=hs.1.1
 obtain⟨m1,m2⟩:=VY hs i0 i1
 have hb1:=hs.1.2.2
 have hpl:PMt (ZW p wi i) u ln pt cnt/\brs u cnt<=b-1:=by
   rcases hc.2.2.2 ho with⟨g1,g2,g3⟩|⟨g1,g2,g3,g4,g5⟩
   · exact⟨g2,g3⟩
   · exfalso;omega
 obtain⟨⟨⟨_,k1,k2⟩,k3⟩,k4⟩:=hpl
 have hub:u<=brs u cnt:=by
   have:∀n:Nat,(n:Int)<=u->(n:Int)<=psum (fun _=>1) cnt n:=fun n=>by
     induction n with
     |zero=>intro _;simp [psum]
     | succ n ih=>
       intro hn
       have a1:=ih Oa
       have a2:=(k2 n Oa Oa).1
       simp only [psum];omega
   have a3:=this u.toNat Oa
   unfold brs;omega
 have hfx:FitsP p p.m x:=by
   refine Kp hp (fun j j0 j1=>by rw [hx j j0 j1];exact(m1.rng j j0 j1).1) ?_
   rw [ZiP hx];exact m1.used
 have hmk:∀j,ZH (u+1) (gsn pt u x) (snoc cnt u 1) j=ZH u pt cnt j+x j:=fun j=>by
   rw [XL u0]
   have e:ZH u (gsn pt u x) (snoc cnt u 1) j=ZH u pt cnt j:=WQ _ fun k k0 k1=>⟨by show gsn pt u x k j=_;rw [Zq Oa],Zs Oa⟩
   rw [e,Y1,Zt Oa];omega
 have hbr:brs (u+1) (snoc cnt u 1)=brs u cnt+1:=by
   unfold brs
   rw [YO _ _ u0,Zt Oa,WQ (g:=fun _=>1) (e:=cnt) u.toNat fun k k0 k1=>⟨rfl,Zs Oa⟩]
   omega
 refine⟨⟨by omega,fun hn=>(h.calls hs i0 i1 hc hn).2,fun h=>absurd trivial h,fun _=> .inl ⟨Yk,⟨⟨hp,Oa,fun k k0 k1=> ?_⟩,fun j j0 j1=> ?_⟩,Oa⟩⟩,Oa⟩
 · by_cases e:k<u
   · rw [Zq e,Zq e,Zs e]
     obtain⟨a1,a2,a3⟩:=k2 k k0 e
     exact⟨a1,a2,Zfi hp a3⟩
   · rw [ZB e,ZB e,Zt e]
     exact⟨by omega,Oa,hfx⟩
 · rw [hmk,hx j j0 j1]
   have:=k3 j j0 j1
   have e:(ZW p wi i).D j=p.D j-Yy (MX p wi) i j:=rfl
   omega
theorem ZgY{f:Int->Option (List Int)}:∀(c:Nat) (i:Int),(∀k,i<=k->k<i+c->f k=none)->fw f c i=none
 |0,_,_=>rfl
 | c+1,i,h=>by
   unfold fw
   rw [h i Oa Oa]
   exact ZgY c (i+1) fun k k0 k1=>h k Oa Oa
theorem Zf6{p:Prob}(hs:ZO p b wi):1<=Zl p b wi:=by
 have hp:=hs.1.1
 obtain⟨w0,w1⟩:=hs.2.2.1
 have he:=hp.all wi w0 w1
 unfold Prob.each at he
 have hz:ZL p (fun _=>0) p.m.toNat=0:=by
   unfold ZL
   rw [Zg (g:=fun _=>0) fun i i0 i1=>by simp]
   exact ZE _
 have h1:=Tw (p:=p) (f:=fun _=>0) w0 (n:=p.m.toNat) Oa
 have hf:FitsP p p.m (upd (fun _=>0) wi (0+1)):=Kp hp (fun j j0 j1=>by by_cases e:j=wi;(rw [e,Gw.ZC];omega);(rw [Gw.upd_ne _ _ e];exact Int.le_refl _)) (by have h2:ZL p (Gw.upd (fun _=>0) wi (0+1)) p.m.toNat=ZL p (fun _=>0) p.m.toNat+(p.L wi+p.kerf):=h1;rw [h2,hz];omega)
 obtain⟨i,i0,i1,_⟩:=KE hf w0 w1 (by rw [ZC];omega) (by have:=hs.2.2.2.1;omega)
 rw [YK hs];omega
theorem Zf0{p:Prob}{kd:Int->Tr}{vK vL:Value}{l:Of}(h:Upto p b wi (Zl p b wi) C kd)(hs:ZO p b wi)(hk:Zl p b wi<=100):WZ p b C (.mk wi vK (Zl p b wi) kd vL 0 l) 0 ln pt cnt True lf\/¬(∀k,-9223372036854775808<=l k/\l k<=9223372036854775807):=by
 by_cases hl:∀k,-9223372036854775808<=l k/\l k<=9223372036854775807
 · left
   have h1:=Zf6 hs
   have hp:=hs.1.1
   obtain⟨w0,w1⟩:=hs.2.2.1
   have hm2:=hp.m2
   refine⟨h.one,fun hn=> ?_,fun h=>absurd trivial h,fun _=> .inr ⟨rfl,?_,.inl ?_,⟨⟨⟨?_,hk,?_,.inr rfl,fun h0=> ?_,fun k k0 k1=> ?_⟩,fun i i0 i1=>(h.all i i0 i1).2.1⟩,⟨⟨by omega,Oa,hl⟩,fun i i0 i1=>(h.all i i0 i1).2.2⟩⟩,fun hn=> ?_⟩⟩
   · have:=h.few hn;have:=ZbQ hs hn;omega
   · rw [KV (t:= .mk wi vK (Zl p b wi) kd vL 0 l) (by show Zl p b wi≠0;omega) hs rfl]
     refine ZgY _ _ fun k k0 k1=> ?_
     exact(h.all k k0 (by have k1':k<0+((Zl p b wi-0).toNat:Int):=k1;omega)).1
   · show 0<Zl p b wi;omega
   · show ZP wi;unfold ZP;omega
   · show(0:Int)<=40;omega
   · have h0':Zl p b wi=0:=h0;omega
   · have k1':k<(0:Int):=k1;omega
   · obtain⟨q1,q2,q3⟩:=h.cnt hn
     refine⟨q1,?_⟩
     show IntKind.i64.wrap (VB (fun k=>(kd k).depth) (Zl p b wi).toNat+1)<=_
     rw [I64.wrap (by unfold I64;omega)];omega
 · exact .inr hl
theorem ZkP{p:Prob}{u:Int}{t:Tr}{ok:Prop}(h:WZ p b c t u ln pt cnt ok lf):u<=1000:=by
 by_cases ho:ok
 · rcases h.2.2.2 ho with⟨_,g,_⟩|⟨g,_⟩
   · exact g.1.2.1
   · omega
 · have:=(h.2.2.1 ho).2.1;omega
theorem Ze5{p:Prob}(hs:ZO p b wi)(i0:0<=i)(i1:i<Zl p b wi):Z5 (ZW p wi i) (b-1):=⟨ZbR hs i0 i1,by have:=hs.2.1;omega,by have:=hs.1.2.2;omega⟩
theorem Zi1{p:Prob}{u:Int}{t:Tr}{ok:Prop}(h:WZ p b c t u ln pt cnt ok lf)(ho:ok)(hm:0<u\/(t.n=0/\t.nl=0/\KL p)):PMt p u ln pt cnt/\brs u cnt<=b:=by
 rcases h.2.2.2 ho with⟨g1,g2,g3⟩|⟨g1,g2,g3,g4,g5⟩
 · exact⟨g2,g3⟩
 · exfalso;omega
theorem ZiZ{p:Prob}{u:Int}{t:Tr}{ok:Prop}(h:WZ p b c t u ln pt cnt ok lf)(ho:ok)(hm:¬(0<u\/(t.n=0/\t.nl=0/\KL p))):u=0/\wrT t p b=none/\(0<t.n\/0<t.nl)/\(t.ok/\UO t)/\(ZI p<=6->t.nodes=c/\t.depth<=ZI p+1):=by
 rcases h.2.2.2 ho with⟨g1,g2,g3⟩|h
 · exfalso
   have hu:¬0<u:=fun hu=>hm (.inl hu)
   refine hm (.inr ⟨g1.2.2,g1.2.1,g2.1.1,fun j j0 j1=> ?_⟩)
   have:=g2.2 j j0 j1
   unfold ZH at this
   rw [show u.toNat=0 by omega] at this
   exact this
 · exact h
theorem Zf5{p:Prob}{u:Int}{t:Tr}{ok:Prop}(hp:p.Ok)(h:WZ p b c t u ln pt cnt ok (20000-c))(ho:¬ok):6<ZI p:=by
 apply Classical.byContradiction;intro hn
 have h1:=(h.2.2.1 ho).2.2 Oa
 have h2:=h.2.1 Oa
 have h3:=Zbf _ (Wd hp).1 (show ZI p<=6 by omega)
 omega
theorem Zf4{p:Prob}{u:Int}{t:Tr}{ok:Prop}(hp:p.Ok)(h:WZ p b c t u ln pt cnt ok lf)(hf:(t.ok/\UO t)/\(ZI p<=6->t.nodes=c/\t.depth<=ZI p+1))(hv:¬YM t):6<ZI p:=by
 apply Classical.byContradiction;intro hn
 obtain⟨g1,g2⟩:=hf.2 Oa
 have h2:=h.2.1 Oa
 have h3:=Zbf _ (Wd hp).1 (show ZI p<=6 by omega)
 exact hv ⟨hf.1.1,Oa,Oa⟩
theorem Zgx{p:Prob}{u n2:Int}(h:PMt p u ln pt cnt/\brs u cnt<=b)(hb:b<=1000)(hN:NormR (plL u ln pt cnt) (plL n2 ln2 pt2 qf))(u0:0<=u)(n0:0<=n2)(n1:n2<=u):PMt p n2 ln2 pt2 qf/\brs n2 qf<=b:=by
 obtain⟨⟨h1,h2⟩,h3⟩:=h
 have e1:brs n2 qf=brs u cnt:=by
   have:=hN.wsum (fun _=>1)
   rw [Z7 _ n0,Z7 _ u0] at this
   exact this
 have ak:∀x∈plL n2 ln2 pt2 qf,1<=x.2:=hN.pos fun x hx=>(Vy h1 x hx).1.1
 have hle:=(Zdu ak).2
 have e2:Gw.wsum (fun _=>1) (plL n2 ln2 pt2 qf)=brs n2 qf:=Z7 _ n0
 have hP:PlanOk p n2 ln2 pt2 qf:=VW h1.1 (by have:=h1.2.1;omega) fun x hx=>by
   obtain⟨y,hy,he⟩:=hN.keys x hx
   have h5:=hle x hx
   refine⟨⟨ak x hx,Oa⟩,?_⟩
   rw [<-he];exact(Vy h1 y hy).2
 refine⟨⟨hP,fun j j0 j1=> ?_⟩,Oa⟩
 have h6:=h2 j j0 j1
 rw [h1.mk u0 j0 j1] at h6
 rw [hP.mk n0 j0 j1]
 unfold mkU at h6⊢
 rw [hN.wsum];exact h6
def RefR(p:Prob)(b:Int)(t:Tr)(u:Int)(ln:Of)(pt:Og)(cnt:Of)(e:Int):Prop:=
  (¬Z5 p b/\Zbi t/\u=0/\e=1)\/(Z5 p b/\6<ZI p/\Zbi t/\u=0/\e=9)\/(Z5 p b/\e=0/\Zbi t/\PMt p u ln pt cnt/\brs u cnt<=b)\/
  (Z5 p b/\e=0/\u=0/\YM t/\UO t/\wrT t p b=none/\(0<t.n\/0<t.nl))
def SolR6(p:Prob)(nb:Int)(t:Tr)(u:Int)(ln:Of)(pt:Og)(cnt:Of)(e:Int):Prop:=
  (¬p.Ok/\e=1/\nb=0/\Zbi t/\u=0)\/(p.Ok/\6<ZI p/\e=9/\nb=0/\Zbi t/\u=0)\/
  (p.Ok/\e=0/\PMt p u ln pt cnt/\brs u cnt=nb/\nb<=1000/\UO t/\((nb=0/\Zbi t)\/(1<=nb/\YM t/\wrT t p (nb-1)=none)))
theorem RefR.err{p:Prob}{u:Int}{t:Tr}(h:RefR p b t u ln pt cnt e)(hp:Z5 p b)(he:e≠0):6<ZI p:=by
 rcases h with⟨h,_⟩|⟨_,h,_⟩|⟨_,h,_⟩|⟨_,h,_⟩
 · exact absurd hp h
 · exact h
 · exact absurd h he
 · exact absurd h he
theorem RefR.plan{p:Prob}{u:Int}{t:Tr}(h:RefR p b t u ln pt cnt e)(he:e=0)(h1:¬0<t.n)(h2:¬0<t.nl):PMt p u ln pt cnt/\brs u cnt<=b:=by
 rcases h with⟨_,_,_,h⟩|⟨_,_,_,_,h⟩|⟨_,_,_,h3,h4⟩|⟨_,_,_,_,_,_,h⟩
 · omega
 · omega
 · exact⟨h3,h4⟩
 · omega
theorem RefR.tree{p:Prob}{u:Int}{t:Tr}(h:RefR p b t u ln pt cnt e)(he:e=0)(h1:0<t.n\/0<t.nl):YM t/\UO t/\wrT t p b=none:=by
 rcases h with⟨_,_,_,h⟩|⟨_,_,_,_,h⟩|⟨_,_,h3,_⟩|⟨_,_,_,h1,h2,h3,_⟩
 · omega
 · omega
 · have:=h3.2.1;have:=h3.2.2;omega
 · exact⟨h1,h2,h3⟩
theorem ZpK{p:Prob}{u:Int}(h:PMt p u ln pt cnt):0<=brs u cnt:=(Ze1 h.1).1
end Go.Proofs.YtpnamgfdakfccaaGreat
namespace Go.Proofs.YtpnamgfdakfccaaGreat
open Go Go.RowKit Go.Proofs.Gw
theorem ZhO:Zd Om 13=true:=Oc
theorem ZnG{vL vD:Value}{p:Prob}{b:Int}(w0:World)(h:PAt w0 vL vD p)(hpo:Z5 p b):
   Calls Om 62 [.agg #[vL,vD,.int Oi p.stock,.int Oi p.kerf,.int Oi b]].toArray w0 fun e w=>∃v,e= .returned v/\∃r u pv ln pt cnt ok,v= .tuple #[r,B ok]/\Zop p b u ln pt cnt ok/\Slh r u/\Sat w0 w [.own r 2 97 u (Ze pv cnt),.sem (Frame.rows 3 u pv ln pt)]:=by
 obtain⟨hm,hm1,hd,hd1,hs,hk⟩:=h.Oq
 have hb1:=hpo.2.1;have hb2:=hpo.2.2
 refine zenG Tryz.func62 Tryz.ntmps62 fun w hS=> ?_
 refine zsr<|zla (xbx (cs:= [_,_,_,_,_]) hS) ?_;rintro _ w ⟨g1,rfl,hS⟩
 refine(On)<|zlz<|(zV (xfb 0 fd_39_0))<|(zV (xlp 0 (ds:= [vL,vD,.int Oi p.stock,.int Oi p.kerf]) st_27 hS))<|zlc (xc0 ZhO) (ZdI (p:=p) w (h.below hS.below)) ?_;rintro _ w ⟨av,yG,zR,zU,ac,af,f6,rfl,qy,cJ,fi,xP,hS'⟩
 replace hS:=(hS.comp hS').n3;clear hS'
 have dw:=fun k (k0:0<=k) (k1:k<yG)=>hS.slhIn 2 rfl k0 k1
 refine zs5 ?_
 refine zx7<|zdst [0,1,2] [0,1,2] 1000 mx_ hS ?_;clear hS;intro w hS
 refine(zDw 0 xmv)<|(zDw 1 xmv)<|(zDw 2 YT)<|(zDw 3 xmv)<|zdb 15 ?_ ?_<;>intro hc
 ·
  refine(zDw 4 xmv)<|(zDw 6 (xfb 4 fd_39_1))<|(zDl 7 (fun w hS=>(xlb 0 pl_3 hS)))<|zdc 5 (xc0 Kz) (Vn (u:=yG) (pv:=zR) (ln:=zU) (pt:=ac) (cnt:=af) w (⟨(hS.rowN 1 rfl),fun k k0 k1=>hS.rowIn 2 rfl k0 k1,fun k k0 k1=>hS.roomIn 2 rfl k0 k1⟩:VAt _ av yG zR zU ac af) Oa (fun k k0 k1=>by have h8:=cJ k k0 k1;omega)) ?_;rintro _ w ⟨rfl,hS'⟩
  replace hS:=hS.cmp hS';clear hS'
  refine⟨⟨fun _=>hS,hS⟩,?_⟩
  refine(zDw 8 Xu)<|(zDw 9 xpt)<|(zDw 10 xas)<|(zDw 11 xas)<|zdd<|ztn<|zrt<|zf2 ⟨_,rfl,?_⟩
  have hmt:=qy.meets hpo.1 Oa xP.n0
  exact⟨_,_,_,_,_,_,_,rfl,⟨fun hq=>⟨hmt.1,hq⟩,fun hq=>Int.le_trans hmt.2 hq⟩,xP,hS.pk [1,2]⟩
 refine(zDo 4)<|(zDo 6)<|(zDo 7)<|(zDo 5)<|(zDo 8)<|(zDw 9 xpf)<|(zDw 10 xas)<|(zDw 11 xas)<|zdd<|ztn<|zrt<|zf2 ⟨_,rfl,?_⟩
 exact⟨_,_,_,_,_,_,False,by rw [ZA not_false],⟨fun h=>h.elim,fun hq=>by have h8:=(qy.tot hpo.1).2 (by have:=hpo.2.2;omega);omega⟩,xP,hS.pk [1,2]⟩
theorem Zk5:Zd Om 11=true:=Oc
theorem Zpv{vL vD:Value}{p:Prob}{b:Int}(w0:World)(h:PAt w0 vL vD p)(hpo:Z5 p b):
   Calls Om 63 [.agg #[vL,vD,.int Oi p.stock,.int Oi p.kerf,.int Oi b]].toArray w0 fun e w=>∃v,e= .returned v/\∃r n l ok,v= .tuple #[r,B ok]/\LfR p b n l ok/\Slh r n/\Sat w0 w [.own r 1 3 n (ints l)]:=by
 obtain⟨hm,hm1,hd,hd1,hs,hk⟩:=h.Oq
 have hb1:=hpo.2.1;have hb2:=hpo.2.2
 refine zenG Tryz.func63 Tryz.ntmps63 fun w hS=> ?_
 refine zsr<|zla (xbx (cs:= [_,_,_,_,_]) hS) ?_;rintro _ w ⟨g1,rfl,hS⟩
 refine(On)<|zlz<|(zV (xfb 0 fd_39_0))<|(zV (xlp 0 (ds:= [vL,vD,.int Oi p.stock,.int Oi p.kerf]) st_27 hS))<|zlc (xc0 Zk5) (ZcA (p:=p) w (h.below hS.below)) ?_;rintro _ w ⟨d9,yc,gD,jQ,rfl,qy,zt,hS'⟩
 replace hS:=(hS.comp hS').n2;clear hS'
 refine zs4 ?_
 refine zla (xal (cs:= [_,_]) Ub hS) ?_;rintro _ w ⟨g2,rfl,hS⟩
 refine zle (xsw 2 st_43 hS (hd:=(Za zt.one (Za rfl Zi)))) ?_;clear hS;rintro w hS
 refine(On)<|zx5<|(Oo)<|zlb 16 ?_ ?_<;>intro hc
 ·
  iterate 4 refine zlo ?_
  refine(zP)<|zlt<|zct<|zsr ?_
  refine(On)<|zx14<|zf2 ⟨_,rfl,?_⟩
  obtain⟨g1,g2,g3⟩:=qy.good hpo.1
  exact⟨_,0,fun _=>0,False,by rw [ZA not_false],⟨fun h=>h.elim,fun hb hn=>by have:=g3 hn;omega⟩,slh_nil,(hS.addnil 1 3 (ints fun _=>0)).sub (.cons _ (.cons _ (.cons _ (.cons_cons _ .slnil))))⟩
 refine(zP)<|(zV (xfb 4 fd_39_1))<|(zV (xlb 0 pl_3 hS))<|(On)<|zlt<|Zf ?_ ?_<;>intro hc
 ·
  refine zsr<|(On)<|zx14<|zf2 ⟨_,rfl,?_⟩
  obtain⟨g1,g2,g3⟩:=qy.good hpo.1
  exact⟨_,0,fun _=>0,False,by rw [ZA not_false],⟨fun h=>h.elim,fun hb hn=>by have:=g3 hn;omega⟩,slh_nil,(hS.addnil 1 3 (ints fun _=>0)).sub (.cons _ (.cons _ (.cons _ (.cons_cons _ .slnil))))⟩
 refine ZV<|(zV (xfb 1 fd_43_1))<|zlv (xlb 2 pl_3 hS) ?_
 have hgc:=(qy.good hpo.1).2.1.resolve_left Oa
 have hgn:=(Gw.XQ hgc.1).2.2.1;have hgm:=hpo.1.m2
 refine zla (xli (n:=1) (len:=1) (pv:= [(0,.int Oi yc.q)]) (cs:= [.int Oi yc.q]) (c:=ints (fun _=>yc.q)) Zb ZJ hS) ?_;rintro v1 w ⟨hS,hv1⟩
 refine(zV (xfb 0 fd_43_0))<|(zV (xlb 2 pl_22 hS))<|zla (xap 3 (r:=yc.n+1) (f:=ints (Ky yc.q yc.y)) Zb ZJ hS (hS.rowN 1 rfl) (by exact Zfv _ _)) ?_;rintro v2 w ⟨hS,hv2⟩
 refine(On)<|zx1<|zf2 ⟨_,rfl,?_⟩
 obtain⟨g1,g2,g3⟩:=qy.good hpo.1
 replace hS:=hS.recont 3 rfl (d:=ints (lfn yc.n yc.q yc.y)) (fun k k0 k1=>by unfold ints lfn;rw [if_pos ⟨k0,Oa⟩])
 exact⟨_,_,_,True,by rw [ZQ trivial],⟨fun _=>Zjx hpo g2 Oa Oa,fun _ _=>trivial⟩,hv2,hS.pk [3]⟩
def Zqh(p:Prob)(b i:Int):Prop:= -1<=i/\(0<=i->ZO p b i/\Zl p b i<=100)/\(i<0->∀wi,ZO p b wi->100<Zl p b wi)
theorem Ze3{p:Prob}{b i:Int}(h:i<0):Zl p b i=0:=Vd fun hs=>by have:=hs.2.2.1.1;omega
theorem ZnF{vL vD:Value}{p:Prob}{b:Int}(w0:World)(h:PAt w0 vL vD p):
   Calls Om 64 [.agg #[vL,vD,.int Oi p.stock,.int Oi p.kerf,.int Oi b]].toArray w0 fun e w=>∃v,e= .returned v/\∃i r vv,v= .tuple #[.int Oi i,r,B (0<=i)]/\Zqh p b i/\Slh r (Zl p b i)/\Sat w0 w [.own r 5 39 (Zl p b i) (ZS vv p.stock p.kerf (b-1)),.sem (Frame.rows 3 (2*Zl p b i) vv (fun _=>p.m) (gfn p (MX p i)))]:=by
 obtain⟨hm,hm1,hd,hd1,hs,hk⟩:=h.Oq
 refine zenG Tryz.func64 Tryz.ntmps64 fun w hS=> ?_
 refine zsr<|zla (xbx (cs:= [_,_,_,_,_]) hS) ?_;rintro _ w ⟨g1,rfl,hS⟩
 refine(Oo)<|zlz<|(zP)<|zlz<|(zP)<|zx5<|(zV (xfb 0 fd_39_0))<|(zV (xfb 1 fd_27_1))<|(zV (xlb 0 pl_22 hS))<|(zV (xln Zb h.D.slh))<|(zP)<|zx6 ?_
 replace hS:=(hS.addnil 5 39 (ZS (fun _=>Oh) p.stock p.kerf (b-1))).addrows 3 (fun _=>Oh) (fun _=>p.m) (gfn p (MX p (-1)))
 replace hS:=hS.rowsn 2 rfl (show(0:Int)=2*0 from rfl)
 refine zlp (fun mm M w=>∃(nB:Int) (vvB:Int->Value) (wB:Value) (j:Int) (i:Int),mm=((p.d-i).toNat)/\(0<=i)/\(i<=p.d)/\(-1<=j)/\(Slh wB nB)/\(nB=Zl p b j)/\(0<=j->ZO p b j/\Zl p b j<=100)/\(j<0->∀wi,0<=wi->wi<i->ZO p b wi->100<Zl p b wi)/\M= [(1,Or g1),(2,.int Oi 0),(3,Oh),(4,.bool false),(5,.int Oi j),(6,wB),(13,vD),(14,.int Oi p.d),(15,.int Oi i)]/\Sat w0 w [.blk g1 [vL,vD,.int Oi p.stock,.int Oi p.kerf,.int Oi b],.own wB 5 39 nB (ZS vvB p.stock p.kerf (b-1)),.sem (Frame.rows 3 (2*nB) vvB (fun _=>p.m) (gfn p (MX p j)))]) ⟨0,(fun _=>Oh),Oh,(-1),0,rfl,Oa,Oa,Oa,?_,?_,?_,?_,rfl,hS⟩ ?_
 ·
  exact slh_nil
 ·
  exact(Ze3 Oa).symm
 ·
  intro hh;omega
 ·
  intro hh wi w0 w1;omega
 clear hS w
 rintro mm M w ⟨nB,vvB,wB,j,i,rfl,h0,h1,hj,hwB,hnB,hsp,hno,rfl,hS⟩
 have hrB:∀k,0<=k->k<2*nB->Slh (vvB k) p.m:=fun k k0 k1=>hS.slhIn 2 rfl k0 k1
 refine zsr<|(zP)<|zx7<|Zf ?_ ?_<;>intro hc
 ·
  refine zx3<|(zP)<|(zV (xix (kk:=i) Zb h.D.slh))<|zlv (xlr (u:= .int Oi (p.D i)) pl_3 (h.D.below hS.below)) ?_
  have hbv:=h.iD i
  refine(On)<|zx5<|(On)<|zlt<|Zf ?_ ?_<;>intro hc
  ·
   refine zxt<|ztx<|zbh<|ztn<|zrg<|(zV (Zh (r:=i+1)))<|(zP)<|zln<|zlq ⟨nB,vvB,wB,j,i+1,rfl,Oa,Oa,Oa,?_,?_,?_,?_,rfl,hS⟩
   ·
    exact hwB
   ·
    first|exact hnB|rfl
   ·
    first|exact hsp|exact fun _=>⟨by assumption,Oa⟩
   ·
    first
    |(intro hh;omega)
    |(intro hh wi w0 w1 hs;rcases Int.lt_or_eq_of_le (show wi<=i by omega) with h9|h9;exact hno hh wi w0 h9 hs;rw [h9] at hs⊢;first|omega|exact absurd hs ‹¬ZO p b i›|exact absurd Oa hs.2.2.2.1)
  refine ZV<|(zV (xls 0 Yu hS))<|(zP)<|zlc (xc0 Zk3) (ZeB (p:=p) (b:=b) (wi:=i) w (h.below hS.below)) ?_;rintro _ w ⟨dY,cS,rfl,y6,hS'⟩
  replace hS:=(hS.comp hS').n5;clear hS'
  have kl:∀k,0<=k->k<2*(Zl p b i)->Slh (cS k) p.m:=fun k k0 k1=>hS.slhIn 4 rfl k0 k1
  refine zs2 ?_
  have kX:=y6.n0
  refine(Oo)<|zlz<|(On)<|zlb 29 ?_ ?_<;>intro hc
  ·
   refine(zP)<|(zV (xln Wt y6))<|(Oo)<|zlb 34 ?_ ?_<;>intro hc
   ·
    refine(Oo)<|zlb 37 ?_ ?_<;>intro hc
    ·
     iterate 5 refine zlo ?_
     refine(On)<|zlt<|zct<|zrg ?_
     refine zs4 ?_
     refine zx10<|(zV (Zh (r:=i+1)))<|(zP)<|zln<|zlq ⟨(Zl p b i),cS,dY,i,i+1,rfl,Oa,Oa,Oa,?_,?_,?_,?_,rfl,hS.pk [0,3,4]⟩
     ·
      exact y6
     ·
      first|exact hnB|rfl
     ·
      first|exact hsp|exact fun _=>⟨by assumption,Oa⟩
     ·
      first
      |(intro hh;omega)
      |(intro hh wi w0 w1 hs;rcases Int.lt_or_eq_of_le (show wi<=i by omega) with h9|h9;exact hno hh wi w0 h9 hs;rw [h9] at hs⊢;first|omega|exact absurd hs ‹¬ZO p b i›|exact absurd Oa hs.2.2.2.1)
    refine(zP)<|(zV (xln Wt y6))<|(zP)<|(zV (xln Wt hwB))<|(Oo)<|zlt<|Zf ?_ ?_<;>intro hc
    ·
     refine zrg<|zs4 ?_
     refine zx10<|(zV (Zh (r:=i+1)))<|(zP)<|zln<|zlq ⟨(Zl p b i),cS,dY,i,i+1,rfl,Oa,Oa,Oa,?_,?_,?_,?_,rfl,hS.pk [0,3,4]⟩
     ·
      exact y6
     ·
      first|exact hnB|rfl
     ·
      first|exact hsp|exact fun _=>⟨by assumption,Oa⟩
     ·
      first
      |(intro hh;omega)
      |(intro hh wi w0 w1 hs;rcases Int.lt_or_eq_of_le (show wi<=i by omega) with h9|h9;exact hno hh wi w0 h9 hs;rw [h9] at hs⊢;first|omega|exact absurd hs ‹¬ZO p b i›|exact absurd Oa hs.2.2.2.1)
    refine zx4<|(zV (Zh (r:=i+1)))<|(zP)<|zln<|zlq ⟨nB,vvB,wB,j,i+1,rfl,Oa,Oa,Oa,?_,?_,?_,?_,rfl,hS.pk [0,1,2]⟩
    ·
     exact hwB
    ·
     first|exact hnB|rfl
    ·
     first|exact hsp|exact fun _=>⟨by assumption,Oa⟩
    ·
     first
     |(intro hh;omega)
     |(intro hh wi w0 w1 hs;rcases Int.lt_or_eq_of_le (show wi<=i by omega) with h9|h9;exact hno hh wi w0 h9 hs;rw [h9] at hs⊢;first|omega|exact absurd hs ‹¬ZO p b i›|exact absurd Oa hs.2.2.2.1)
   iterate 9 refine zlo ?_
   refine(zP)<|zlt<|zcf<|zsk<|zbn<|ztn<|zrg ?_
   refine(zV (Zh (r:=i+1)))<|(zP)<|zln<|zlq ⟨nB,vvB,wB,j,i+1,rfl,Oa,Oa,Oa,?_,?_,?_,?_,rfl,hS.pk [0,1,2]⟩
   ·
    exact hwB
   ·
    first|exact hnB|rfl
   ·
    first|exact hsp|exact fun _=>⟨by assumption,Oa⟩
   ·
    first
    |(intro hh;omega)
    |(intro hh wi w0 w1 hs;rcases Int.lt_or_eq_of_le (show wi<=i by omega) with h9|h9;exact hno hh wi w0 h9 hs;rw [h9] at hs⊢;first|omega|exact absurd hs ‹¬ZO p b i›|exact absurd Oa hs.2.2.2.1)
  iterate 3 refine zlo ?_
  refine zs2 ?_
  iterate 9 refine zlo ?_
  refine(zP)<|zlt<|zcf<|zsk<|zbn<|ztn<|zrg ?_
  refine(zV (Zh (r:=i+1)))<|(zP)<|zln<|zlq ⟨nB,vvB,wB,j,i+1,rfl,Oa,Oa,Oa,?_,?_,?_,?_,rfl,hS.pk [0,1,2]⟩
  ·
   exact hwB
  ·
   first|exact hnB|rfl
  ·
   first|exact hsp|exact fun _=>⟨by assumption,Oa⟩
  ·
   first
   |(intro hh;omega)
   |(intro hh wi w0 w1 hs;rcases Int.lt_or_eq_of_le (show wi<=i by omega) with h9|h9;exact hno hh wi w0 h9 hs;rw [h9] at hs⊢;first|omega|exact absurd hs ‹¬ZO p b i›|exact absurd Oa hs.2.2.2.1)
 refine zx8<|zs6 ?_
 refine(zP)<|zx1<|zf3 ⟨_,rfl,?_⟩
 subst hnB
 exact⟨_,_,_,rfl,⟨hj,hsp,fun hh wi hs=>hno hh wi hs.2.2.1.1 (by have:=hs.2.2.1.2;have:=hs.1.1.d;omega) hs⟩,hwB,hS.pk [1,2]⟩
theorem ZiO{w:World}{pv:Int->Value}{ln cnt:Of}{pt:Og}:VAt w Oh 0 pv ln pt cnt:=⟨Td _ _ _,fun i i0 i1=>Oa,fun i i0 i1=>Oa⟩
theorem R7{p:Prob}{ln cnt:Of}{pt:Og}:(PlanOk p 0 ln pt cnt/\∀j,0<=j->j<p.m->p.D j<=ZH 0 pt cnt j)↔KL p:=
 ⟨fun h=>⟨h.1.1,fun j j0 j1=>h.2 j j0 j1⟩,fun h=>⟨⟨h.1,Oa,fun k k0 k1=>Oa⟩,fun j j0 j1=>h.2 j j0 j1⟩⟩
theorem Zh6{vL vD:Value}{p:Prob}{b:Int}{s9 n9 nl9 u:Int}{vK vL9 vV:Value}(w0:World)(h:PAt w0 vL vD p)(hk9:Slh vK n9)(hl9:Slh vL9 nl9)(hv9:Slh vV u):
   Calls Om 65 [.agg #[vL,vD,.int Oi p.stock,.int Oi p.kerf,.int Oi b],.agg #[.int Oi s9,vK,vL9],vV].toArray w0 fun e w=>∃v,e= .returned v/\v=B (0<u\/(n9=0/\nl9=0/\KL p))/\Sat w0 w []:=by
 obtain⟨hm,hm1,hd,hd1,hs,hk⟩:=h.Oq
 have hn9:=hk9.n0;have k9:=hl9.n0;have hu9:=hv9.n0
 refine zenG Tryz.func65 Tryz.ntmps65 fun w hS=> ?_
 refine zsr<|zla (xbx (cs:= [_,_,_,_,_]) hS) ?_;rintro _ w ⟨g1,rfl,hS⟩
 refine zla (xbx (cs:= [_,_,_]) hS) ?_;rintro _ w ⟨g2,rfl,hS⟩
 refine(zP)<|zlz<|(zP)<|(zV (xln ZR hv9))<|(On)<|zlb 10 ?_ ?_<;>intro hc
 ·
  iterate 15 refine zlo ?_
  refine(On)<|zx1<|Oj ?_
  exact⟨Yn (.inl Oa),hS.nl⟩
 refine(zV (xfb 1 fd_32_1))<|(zV (xlb 1 WG hS))<|(zV (xln Xw hk9))<|(On)<|zlb 15 ?_ ?_<;>intro hc
 ·
  refine(zV (xfb 2 fd_32_2))<|(zV (xlb 1 pl_22 hS))<|(zV (xln Zb hl9))<|(Oo)<|zlb 21 ?_ ?_<;>intro hc
  ·
   refine(zV (xfb 0 fd_39_0))<|(zV (xlp 0 (ds:= [vL,vD,.int Oi p.stock,.int Oi p.kerf]) st_27 hS))<|zlc (xc0 ZhK) (Rk (u:=0) (pv:=fun _=>undef) (ln:=fun _=>0) (pt:=fun _ _=>0) (cnt:=fun _=>0) (p:=p) w ZiO (h.below hS.below)) ?_;rintro _ w ⟨rfl,hS'⟩
   replace hS:=hS.cmp hS';clear hS'
   refine(Oo)<|zx1<|Oj ?_
   exact⟨Zm ⟨fun hh=> .inr ⟨by omega,Oa,R7.1 hh⟩,fun hh=>by rcases hh with hh|⟨g1,g2,g3⟩;omega;exact R7.2 g3⟩,hS.nl⟩
  iterate 3 refine zlo ?_
  refine(Oo)<|zx1<|Oj ?_
  exact⟨Zj (by rintro(hh|⟨g1,g2,g3⟩)<;>omega),hS.nl⟩
 iterate 4 refine zlo ?_
 refine zs2 ?_
 iterate 3 refine zlo ?_
 refine(Oo)<|zx1<|Oj ?_
 exact⟨Zj (by rintro(hh|⟨g1,g2,g3⟩)<;>omega),hS.nl⟩
variable {cnt:Of} {pv:Int->Value}
theorem Zp6(w:World)(a:Addr)(n c:Nat):(binOp .eql 29 (.slice (some a) n c) Oh).run Om w= .ok (.bool false) w:=Oc
theorem ZoW(w:World):(binOp .eql 29 Oh Oh).run Om w= .ok (.bool true) w:=Oc
theorem ZpU{L:List (Nat×Value)}{w:World}{o:Oper}{x y:Operand}{T':TypeId}{a:Addr}{n c:Nat}(ho:o.op= .binOp .eql 29 x y T':=by exact rfl)(hx:evL L x=some (.slice (some a) n c):=by exact rfl)(hy:evL L y=some Oh:=by exact rfl):Runs Om L w o (.value (.bool false)) w:=fun ρ h=>by
 simp [execOp,ho,h _ _ hx,h _ _ hy,Zp6];rfl
theorem Zot{L:List (Nat×Value)}{w:World}{o:Oper}{x y:Operand}{T':TypeId}(ho:o.op= .binOp .eql 29 x y T':=by exact rfl)(hx:evL L x=some Oh:=by exact rfl)(hy:evL L y=some Oh:=by exact rfl):Runs Om L w o (.value (.bool true)) w:=fun ρ h=>by
 simp [execOp,ho,h _ _ hx,h _ _ hy,ZoW];rfl
theorem ZcV{n k:Int}(h1:∀k,0<=k->k<n->(pv k).oneCell'=true)(k0:0<=k)(k1:k<n*((2:Nat):Int)):(Ze pv cnt k).oneCell'=true:=by
 unfold Ze;split
 · exact h1 _ Oa Oa
 · rfl
theorem Zn9{g9 m9 c9:Nat}{n:Int}(w0:World)(hR:Row w0 (.slice (some ⟨g9,0,none⟩) m9 c9) 2 n (Ze pv cnt))(h1:∀k,0<=k->k<n->(pv k).oneCell'=true)(hn5:n<=1000000):
   Calls Om 67 [(.slice (some ⟨g9,0,none⟩) m9 c9)].toArray w0 fun e w=>∃v,e= .returned v/\∃r,v=r/\Slh r n/\Sat w0 w [.own r 2 97 n (Ze pv cnt)]:=by
 have hn:=hR.slh.n0;have hn1:=hR.slh.n1
 refine zenG Tryz.func67 Tryz.ntmps67 fun w hS=> ?_
 refine zsr<|(zP)<|zx5<|(zP)<|(zV ZpU)<|zlt<|zcf<|zsk<|ztn<|zsr ?_
 refine zla (xl0 (c:=Ze pv cnt) ZR hS) ?_;rintro v1 w ⟨hS,hv1⟩
 refine(zP)<|zla (xap 0 (r:=n) (f:=Ze pv cnt) ZR Y8 hS (hR.below hS.below) (by exact ZhR _ _) (h1:=(fun k k0 k1=>ZcV h1 k0 k1))) ?_;rintro v2 w ⟨hS,hv2⟩
 refine(zP)<|zx1<|Oj ?_
 exact⟨_,rfl,hv2,hS⟩
theorem Zoa(w0:World):
   Calls Om 67 [Oh].toArray w0 fun e w=>∃v,e= .returned v/\∃r,v=r/\Slh r 0/\Sat w0 w [.own r 2 97 0 (Ze pv cnt)]:=by
 refine zenG Tryz.func67 Tryz.ntmps67 fun w hS=> ?_
 refine zsr<|(zP)<|zx5<|(zP)<|(zV Zot)<|zlt<|zct<|zsr ?_
 refine(zP)<|zx14<|Oj ?_
 exact⟨_,rfl,slh_nil,(hS.sub .slnil).addnil 2 97 (Ze pv cnt)⟩
theorem ZpH{x:Value}{n:Int}(w0:World)(ho:(Ent.own x 2 97 n (Ze pv cnt)).holds w0)(h1:∀k,0<=k->k<n->(pv k).oneCell'=true)(hn:n<=1000000):Calls Om 67 [x].toArray w0 fun e w=>∃v,e= .returned v/\∃r,v=r/\Slh r n/\Sat w0 w [.own r 2 97 n (Ze pv cnt)]:=by
 have qv:=ho.row
 obtain⟨hn0,hn1,⟨rfl,rfl⟩|⟨g,cap,cur,rfl,_⟩⟩:=ho
 · exact Zoa w0
 · exact Zn9 w0 qv h1 hn
end Go.Proofs.YtpnamgfdakfccaaGreat
namespace Go.Proofs.YtpnamgfdakfccaaGreat
open Go Go.RowKit Go.Proofs.Gw
theorem Zk2:Zd Om 61=true:=Oc
theorem Zpi:Zd Om 62=true:=Oc
theorem Zph:Zd Om 63=true:=Oc
theorem Zpg:Zd Om 64=true:=Oc
theorem Zk1:Zd Om 65=true:=Oc
theorem Zpf:Zd Om 67=true:=Oc
theorem Zc6:ZG Om 138=true:=Oc
theorem ZnA (N:Nat):∀{F:Gw.Frame} {vL vD:Value} {p:Prob} {b lf:Int} {gl gs:Nat} (w0 w:World) (hS:Sat w0 w [.blk gl [.int Oi lf],.blk gs [.func (.func 61) #[] #[Or gl,Or gs]],.sem F]) (hP:∀w1,Below w0.heap.size w0 w1->F.holds w1->PAt w1 vL vD p) (hpo:Z5 p b) (hlf:0<=lf/\lf<=20000) (hN:b.toNat<N),
   Calls Om 61 [.agg #[vL,vD,.int Oi p.stock,.int Oi p.kerf,.int Oi b],Or gl,Or gs].toArray w fun e w=>∃v,e= .returned v/\∃t u pv ln pt cnt ok c vV,v= .tuple #[.agg #[.int Oi (Tr.s t),t.vK,t.vL],vV,B ok]/\WZ p b c t u ln pt cnt ok (lf-c)/\(-1<=lf-c/\(ok->0<=lf-c))/\Slh t.vK t.n/\Slh t.vL t.nl/\Slh vV u/\Sat w0 w [.blk gl [.int Oi (lf-c)],.blk gs [.func (.func 61) #[] #[Or gl,Or gs]],.sem (t.fr2 32 3),.own vV 2 97 u (Ze pv cnt),.sem (Frame.rows 3 u pv ln pt),.sem F]:=by
 induction N with
 |zero=>intros;omega
 | succ N ih=>
   intro F vL vD p b lf gl gs w0 w hS hP hpo hlf hN
   have h:=hP w hS.below (hS.holds _ (List.mem_of_getElem? (i:=2) rfl))
   obtain⟨hm,hm1,hd,hd1,hs,hk⟩:=h.Oq
   refine zenF Tryz.func61 Tryz.ntmps61 ?_
   refine zsr<|zla (xbx (cs:= [_,_,_,_,_]) hS) ?_;rintro _ w ⟨g1,rfl,hS⟩
   refine zla (xal (cs:= [_,_,_]) WV hS) ?_;rintro _ w ⟨g2,rfl,hS⟩
   refine(On)<|zx5<|(zV (xlb 0 pl_3 hS))<|(zV (Zp (r:=lf-1)))<|zle (xsb 0 pl_3 hS) ?_;clear hS;rintro w hS
   refine zlz<|(zV (xlb 0 pl_3 hS))<|(zP)<|zlt<|Zf ?_ ?_<;>intro hc
   ·
    refine zsr<|(zV (xany (v:= .agg #[.int Oi 0,Oh,Oh])))<|zle (xsw 4 st_32 hS) ?_;clear hS;rintro w hS
    refine(On)<|zx14<|XU 4 st_32 hS ⟨_,rfl,?_⟩
    replace hS:=hS.pk [0,1,2]
    replace hS:=hS.tree0 32 3
    replace hS:=(hS.addnil 2 97 (Ze (fun _=>Oh) (fun _=>0))).addrows 3 (fun _=>Oh) (fun _=>0) (fun _ _=>0)
    exact⟨.nil,0,_,_,_,_,False,1,Oh,(by rw [ZA not_false];rfl),(Zi0 hpo.1 Oa),⟨by omega,fun hh=>hh.elim⟩,slh_nil,slh_nil,slh_nil,hS.pk [0,1,3,4,5,2]⟩
   refine zsk<|ztn<|zsq<|zsr<|(zV (xls 3 Yu hS))<|zlc (xc0 Zpi) (ZnG (p:=p) (b:=b) w (hP _ hS.below (hS.holds _ (List.mem_of_getElem? (i:=2) rfl))) hpo) ?_;rintro _ w ⟨dT,ez,j9,kb,kC,kK,ci,rfl,bm,cW,hS'⟩
   replace hS:=(hS.comp hS').n7;clear hS'
   have gU:=fun k (k0:0<=k) (k1:k<ez)=>hS.slhIn 6 rfl k0 k1
   refine zs5 ?_
   refine zlz<|(zP)<|zlt<|Zf ?_ ?_<;>intro hc
   ·
    refine zsr<|(zV (xany (v:= .agg #[.int Oi 0,Oh,Oh])))<|(zP)<|zle (xsw 4 st_32 hS) ?_;clear hS;rintro w hS
    refine(On)<|zx14<|XU 4 st_32 hS ⟨_,rfl,?_⟩
    replace hS:=hS.pk [0,1,5,6,2]
    replace hS:=hS.tree0 32 3
    exact⟨.nil,_,_,_,_,_,True,1,dT,(by rw [ZQ trivial];rfl),(Zi2 hpo.1 bm ‹ci›),⟨by omega,fun _=>Oa⟩,slh_nil,slh_nil,cW,hS.pk [0,1,5,2,3,4]⟩
   refine zsk<|ztn<|zsq<|zsr<|(zV (xls 3 Yu hS))<|zlc (xc0 Zph) (Zpv (p:=p) (b:=b) w (hP _ hS.below (hS.holds _ (List.mem_of_getElem? (i:=2) rfl))) hpo) ?_;rintro _ w ⟨xr,eA,fU,cg,rfl,bl,yi,hS'⟩
   replace hS:=(hS.comp hS').n8;clear hS'
   refine zs5 ?_
   refine zlz<|(zP)<|zlt<|Zf ?_ ?_<;>intro hc
   ·
    refine zsr<|(zP)<|zlv (xany (v:= .agg #[.int Oi 0,Oh,xr]) (hr:=by obtain⟨_,_,_,_,rfl,_⟩:=yi;kernel_rfl)) ?_
    refine zle (xsw 4 st_32 hS (hd:=(Za rfl (Za rfl (Za yi.one Zi))))) ?_;clear hS;rintro w hS
    refine(On)<|zx14<|XU 4 st_32 hS ⟨_,rfl,?_⟩
    replace hS:=hS.pk [0,1,2,7]
    replace hS:=(hS.addnil 3 32 (YL (fun _=> .nil))).addall (fun z9=>((fun _=>Tr.nil) z9).fr2 32 3)
    replace hS:=hS.pk [0,1,2,4,3,5]
    replace hS:=Sat.tree2 (l:= [_,_,_]) hS 0
    replace hS:=(hS.addnil 2 97 (Ze (fun _=>Oh) (fun _=>0))).addrows 3 (fun _=>Oh) (fun _=>0) (fun _ _=>0)
    exact⟨(.mk 0 Oh 0 (fun _=> .nil) xr eA fU),0,_,_,_,_,True,1,Oh,(by rw [ZQ trivial];rfl),(Zf3 hpo.1 bl ‹cg›),⟨by omega,fun _=>Oa⟩,slh_nil,yi,slh_nil,hS.pk [0,1,3,4,5,2]⟩
   refine ZV<|(zV (xls 3 Yu hS))<|zlc (xc0 Zpg) (ZnF (p:=p) (b:=b) w (hP _ hS.below (hS.holds _ (List.mem_of_getElem? (i:=2) rfl)))) ?_;rintro _ w ⟨qA,zL,qZ,rfl,zF,zr,hS'⟩
   replace hS:=(hS.comp hS').n10;clear hS'
   have yQ:∀k,0<=k->k<2*(Zl p b qA)->Slh (qZ k) p.m:=fun k k0 k1=>hS.slhIn 9 rfl k0 k1
   refine zs6 ?_
   refine(zP)<|zx5<|(On)<|zlt<|Zf ?_ ?_<;>intro hc
   ·
    refine zsr<|(zV (xany (v:= .agg #[.int Oi 0,Oh,Oh])))<|zle (xsw 4 st_32 hS) ?_;clear hS;rintro w hS
    refine(On)<|zx14<|XU 4 st_32 hS ⟨_,rfl,?_⟩
    replace hS:=hS.pk [0,1,2]
    replace hS:=hS.tree0 32 3
    replace hS:=(hS.addnil 2 97 (Ze (fun _=>Oh) (fun _=>0))).addrows 3 (fun _=>Oh) (fun _=>0) (fun _ _=>0)
    exact⟨.nil,0,_,_,_,_,False,1,Oh,(by rw [ZA not_false];rfl),(Zbz hpo bm ‹¬ci› bl ‹¬cg› (zF.2.2 Oa)),⟨by omega,fun hh=>hh.elim⟩,slh_nil,slh_nil,slh_nil,hS.pk [0,1,3,4,5,2]⟩
   refine ZV<|(zP)<|(zV (xany (v:= .agg #[.int Oi qA,Oh,Oh])))<|zla (xal (cs:= [_,_,_]) WV hS) ?_;rintro _ w ⟨g3,rfl,hS⟩
   refine zle (xsw 10 st_32 hS) ?_;clear hS;rintro w hS
   refine zx5<|(zP)<|(zV (xln Wt zr))<|(zP)<|zx6 ?_
   have hsp:ZO p b qA:=(zF.2.1 Oa).1
   have hle:=(zF.2.1 Oa).2
   have kY:=zr.n0
   have ms:=hsp.2.1;have my:=hpo.2.1;have mw:=hpo.2.2;have k7:=hpo.1.d;have kZ:=hpo.1.m2
   replace hS:=hS.addnil 3 32 (YL (fun _=> .nil))
   replace hS:=hS.addall (fun z9=>((fun _=>Tr.nil) z9).fr2 32 3)
   refine zlp (fun mm M w=>∃(C:Int) (kd:Int->Tr) (wK:Value) (i:Int),mm=((Zl p b qA-i).toNat)/\(0<=i)/\(i<=Zl p b qA)/\(Slh wK i)/\(Upto p b qA i C kd)/\(0<=lf-C)/\M= [(2,Or gs),(3,Or g1),(4,Or g2),(14,Or g3),(55,zL),(56,.int Oi (Zl p b qA)),(57,.int Oi i)]/\Sat w0 w [.blk gl [.int Oi (lf-C)],.blk gs [.func (.func 61) #[] #[Or gl,Or gs]],.sem F,.blk g1 [vL,vD,.int Oi p.stock,.int Oi p.kerf,.int Oi b],.blk g2 [.int Oi 0,Oh,Oh],.blk g3 [.int Oi qA,wK,Oh],.own wK 3 32 i (YL kd),.sem (Frame.all i (fun z9=>(kd z9).fr2 32 3)),.own zL 5 39 (Zl p b qA) (ZS qZ p.stock p.kerf (b-1)),.sem (Frame.rows 3 (2*(Zl p b qA)) qZ (fun _=>p.m) (gfn p (MX p qA)))]) ⟨1,(fun _=>Tr.nil),Oh,0,rfl,Oa,Oa,?_,?_,?_,rfl,hS.pk [0,1,2,3,4,10,11,12,8,9]⟩ ?_
   ·
    exact slh_nil
   ·
    exact Upto.start hpo.1 _
   ·
    omega
   clear hS w
   rintro mm M w ⟨C,kd,wK,i,rfl,h0,h1,hwK,hup,hlC,rfl,hS⟩
   have hc1:=hup.one
   refine zsr<|(zP)<|zx7<|Zf ?_ ?_<;>intro hc
   ·
    refine zx3<|(zV (xix (kk:=5*i) Wt zr))<|(zV (xlw (cs:= [(qZ (2*i)),(qZ (2*i+1)),.int Oi p.stock,.int Oi p.kerf,.int Oi (b-1)]) Yu (hS.rowN 8 rfl) (Kl (q:=5*i) (i:=i) qZ p.stock p.kerf (b-1) Oa)))<|zla (xal (cs:= [_,_,_,_,_]) Zeo hS) ?_;rintro _ w ⟨g4,rfl,hS⟩
    refine zle (xsw 10 Yu hS (hd:=(Za (yQ (2*i) Oa Oa).one (Za (yQ (2*i+1) Oa Oa).one (Za rfl (Za rfl (Za rfl Zi))))))) ?_;clear hS;rintro w hS
    refine zlz<|(zV (xlb 1 Zc6 hS))<|(zV (xls 10 Yu hS))<|zlc (xcc (vs:= [_]) Zk2) (ih (p:=(ZW p qA i)) (b:=(b-1)) (lf:=(lf-C)) w0 w (Sat.bundle (l1:= [_,_]) (hS.pk [0,1,2,3,4,5,6,7,8,9,10])) (fun w1 hb hF=>Zal (vv:=qZ) hsp (hP w1 hb (ZeH hF 0 rfl)) (Ug hF 7 rfl (k:=2*i) Oa Oa) (Ug hF 7 rfl (k:=2*i+1) Oa Oa) h0 Oa) (Ze5 hsp h0 Oa) ⟨by omega,Oa⟩ Oa) ?_;rintro _ w ⟨tz1,uz1,aB,bI,bH,ae,qU,cz1,bG,rfl,xn,z8,yU,yT,xx,hS⟩
    replace hS:=Sat.unbundle (l1:= [_,_,_,_,_]) (l3:= []) hS
    rw [show lf-C-cz1=lf-(C+cz1) by omega] at hS xn z8
    replace hS:=hS.pk [0,1,3,4,5,6,7,8,9,10,11,12,13,2]
    have gP:=fun j (j0:0<=j) (j1:j<uz1)=>hS.slhIn 3 rfl j0 j1
    have eO:=ZkP xn;have eP:=xx.n0
    refine zs4 ?_
    refine zla (xal (cs:= [_,_,_]) WV hS) ?_;rintro _ w ⟨g5,rfl,hS⟩
    refine zle (xsw 14 st_32 hS (hd:=(Za rfl (Za yU.one (Za yT.one Zi))))) ?_;clear hS;rintro w hS
    refine(On)<|zx5<|(On)<|zlt<|Zf ?_ ?_<;>intro hc
    ·
     refine zsr<|(zV (xany (v:= .agg #[.int Oi 0,Oh,Oh])))<|zle (xsw 6 st_32 hS) ?_;clear hS;rintro w hS
     refine(On)<|zlt<|zrt<|ztr<|zbr<|ztr<|ztr<|zbr<|ztr<|XU 6 st_32 hS ⟨_,rfl,?_⟩
     replace hS:=hS.pk [0,1,4]
     replace hS:=hS.tree0 32 3
     replace hS:=(hS.addnil 2 97 (Ze (fun _=>Oh) (fun _=>0))).addrows 3 (fun _=>Oh) (fun _=>0) (fun _ _=>0)
     exact⟨.nil,0,_,_,_,_,False,C+cz1,Oh,(by rw [ZA not_false];rfl),(ZiY hup hsp h0 Oa xn ‹¬qU›),⟨by omega,fun hh=>hh.elim⟩,slh_nil,slh_nil,slh_nil,hS.pk [0,1,3,4,5,2]⟩
    refine zsk<|ztn<|zsq<|zsr<|(zV (xls 12 Yu hS))<|(zV (xls 14 st_32 hS))<|(zP)<|zlc (xc0 Zk1) (Zh6 (p:=(ZW p qA i)) (b:=(b-1)) (u:=uz1) (n9:=tz1.n) (nl9:=tz1.nl) (s9:=tz1.s) w (Zal (vv:=qZ) hsp h (show Row _ _ 1 p.m _ from(hS.rowIn (k:=2*i) 11 rfl Oa Oa)) (show Row _ _ 1 p.m _ from(hS.rowIn (k:=2*i+1) 11 rfl Oa Oa)) Oa Oa) yU yT xx) ?_;rintro _ w ⟨rfl,hS'⟩
    replace hS:=hS.cmp hS';clear hS'
    refine zlt<|Zf ?_ ?_<;>intro hc
    ·
     refine zsr<|(zV (xfb 0 fd_39_0))<|(zV (xfb 1 fd_27_1))<|(zV (xlb 5 pl_22 hS))<|zlc (xc0 cl_66) (c_clone (n:=p.d) (f:=p.D) w (hP _ hS.below (hS.holds _ (List.mem_of_getElem? (i:=4) rfl))).D Oa) ?_;rintro vq1 w ⟨_,rfl,qb,hS'⟩
     replace hS:=(hS.comp hS').n16;clear hS'
     refine(zP)<|zx5<|(zV (xfb 0 fd_39_0))<|(zV (xfb 1 fd_27_1))<|(zV (xlb 12 pl_22 hS))<|(zV (xln Zb (yQ (2*i+1) Oa Oa)))<|(zP)<|zx6<|zlp (fun mm M w=>∃(fd:Of) (n:Int),mm=((p.m-n).toNat)/\(0<=n)/\(n<=p.m)/\(∀k,0<=k->k<p.m->fd k=if k<n then Yy (MX p qA) i k else p.D k)/\M= [(2,Or gs),(3,Or g1),(4,Or g2),(14,Or g3),(17,Or g5),(18,bG),(20,vq1),(55,zL),(56,.int Oi (Zl p b qA)),(57,.int Oi i),(81,(qZ (2*i+1))),(82,.int Oi p.m),(83,.int Oi n)]/\Sat w0 w [.blk gl [.int Oi (lf-(C+cz1))],.blk gs [.func (.func 61) #[] #[Or gl,Or gs]],.own bG 2 97 uz1 (Ze aB ae),.sem (Frame.rows 3 uz1 aB bI bH),.sem F,.blk g1 [vL,vD,.int Oi p.stock,.int Oi p.kerf,.int Oi b],.blk g2 [.int Oi 0,Oh,Oh],.blk g3 [.int Oi qA,wK,Oh],.own wK 3 32 i (YL kd),.sem (Frame.all i (fun z9=>(kd z9).fr2 32 3)),.own zL 5 39 (Zl p b qA) (ZS qZ p.stock p.kerf (b-1)),.sem (Frame.rows 3 (2*(Zl p b qA)) qZ (fun _=>p.m) (gfn p (MX p qA))),.blk g4 [(qZ (2*i)),(qZ (2*i+1)),.int Oi p.stock,.int Oi p.kerf,.int Oi (b-1)],.sem (tz1.fr2 32 3),.blk g5 [.int Oi tz1.s,tz1.vK,tz1.vL],.own vq1 1 3 p.d (ints fd)]) ⟨p.D,0,rfl,Oa,Oa,?_,rfl,hS⟩ ?_
     ·
      intro k k0 k1;rw [if_neg Oa]
     clear hS w
     rintro mm M w ⟨fd,n,rfl,n0,n1,hfd,rfl,hS⟩
     refine zsr<|(zP)<|zx7<|Zf ?_ ?_<;>intro hc
     ·
      refine zx3<|(zP)<|(zV (xix (kk:=n) Zb (yQ (2*i+1) Oa Oa)))<|(zV (xlr (u:= .int Oi ((gfn p (MX p qA)) (2*i+1) n)) pl_3 (show Row _ _ 1 p.m _ from(hS.rowIn (k:=2*i+1) 11 rfl Oa Oa))))<|(On)<|zlt<|zrg<|(On)<|(zV (xix (kk:=n) Zb qb))<|zlv (xlr (u:= .int Oi (fd n)) pl_3 (hS.rowN 15 rfl)) ?_
      have hfi:=hfd n n0 Oa
      rw [if_neg Oa] at hfi
      have hgf:gfn p (MX p qA) (2*i+1) n=p.D n-Yy (MX p qA) i n:=congrFun (ZlI p _ (i:=i) rfl) n
      have hr9:=(VY hsp h0 (show i<Zl p b qA by omega)).1.rng n n0 Oa
      have he9:=hpo.1.all n n0 Oa;unfold Prob.each at he9
      refine(zP)<|(zV (Zp (r:=fd n-((gfn p (MX p qA)) (2*i+1) n))))<|(zV (xix (kk:=n) Zb qb))<|zle (xso 15 pl_3 hS (ZD _ _ _)) ?_;clear hS;rintro w hS
      refine zx10<|(zV (Zh (r:=n+1)))<|(zP)<|zln<|zlq ⟨(upd fd n (fd n-((gfn p (MX p qA)) (2*i+1) n))),n+1,rfl,Oa,Oa,?_,rfl,hS⟩
      ·
       intro k k0 k1;unfold Gw.upd;by_cases e:k=n
       · rw [if_pos e,if_pos Oa,e];omega
       · rw [if_neg e,hfd k k0 k1];by_cases e2:k<n
         · rw [if_pos e2,if_pos Oa]
         · rw [if_neg e2,if_neg Oa]
     refine zx8<|(zV (xany (v:= .agg #[.int Oi 0,Oh,Oh])))<|(zP)<|zlc (xc0 Zpf) (ZpH w (hS.holds _ (List.mem_of_getElem? (i:=2) rfl)) (fun k k0 k1=>(hS.slhIn 3 rfl k0 k1).one) Oa) ?_;rintro j7 w ⟨_,rfl,gH,hS'⟩
     replace hS:=(hS.comp hS').n17;clear hS'
     refine(zP)<|zlv (xany (v:= .agg #[vq1,.int Oi 1]) (hr:=by obtain⟨_,_,_,_,rfl,_⟩:=qb;kernel_rfl)) ?_
     refine zla (xli (n:=1) (len:=1) (pv:= [(0,.agg #[vq1,.int Oi 1])]) (cs:= [vq1,.int Oi 1]) (c:=Ze (fun _=>vq1) (fun _=>1)) ZR Y8 hS (hf:=by obtain⟨_,_,_,_,rfl,_⟩:=qb;kernel_rfl)) ?_;rintro v1 w ⟨hS,hv1⟩
     refine zla (xap 16 (r:=uz1+1) ZR Y8 hS (hS.rowN 17 rfl) (Xn _ _ _ _ _) (h1:=fun k _ _=>Xe (fun _=>qb.one) k)) ?_;rintro v2 w ⟨hS,hv2⟩
     replace hS:=Sat.merge (l1:= [_,_,_]) (l2:= [_,_,_,_,_,_,_,_,_,_,_]) (l3:= [_,_]) hS Oa
     have xp:=fun k (k0:0<=k) (k1:k<uz1+1)=>hS.slhIn 3 rfl k0 k1
     refine zle (xsw 6 st_32 hS) ?_;clear hS;rintro w hS
     refine(On)<|zlt<|zrt<|ztr<|zbr<|ztr<|ztr<|zbr<|ztr<|XU 6 st_32 hS ⟨_,rfl,?_⟩
     have hq9:=z8.2 Oe
     replace hS:=hS.pk [0,1,15,3,4]
     replace hS:=hS.tree0 32 3
     exact⟨.nil,_,_,_,_,_,True,C+cz1,v2,(by rw [ZQ trivial];rfl),(Zf1 hup hsp h0 Oa xn Oe (by assumption) xx.n0 hpo.1.d (fun j j0 j1=>by rw [hfd j j0 j1,if_pos Oa])).1,⟨by omega,fun _=>Oa⟩,slh_nil,slh_nil,hv2,hS.pk [0,1,5,2,3,4]⟩
    refine zsk<|ztn<|zrg<|(zV (xfb 1 fd_32_1))<|(zV (xlb 7 WG hS))<|(zV (xls 14 st_32 hS))<|zla (xli (n:=1) (len:=1) (pv:= [(0,.agg #[.int Oi tz1.s,tz1.vK,tz1.vL])]) (cs:= [.int Oi tz1.s,tz1.vK,tz1.vL]) (c:=X4 (fun _=>tz1.s) (fun _=>tz1.vK) (fun _=>tz1.vL)) Xw WV hS (hf:=by have hz:=yU;revert hz;generalize tz1.vK=z;rintro⟨_,_,_,_,rfl,_⟩;show _=_;have hz:=yT;revert hz;generalize tz1.vL=z;rintro⟨_,_,_,_,rfl,_⟩;show _=_;kernel_rfl)) ?_;rintro v1 w ⟨hS,hv1⟩
    refine zla (xap 8 (r:=i+1) Xw WV hS (hS.rowN 15 rfl) (ZdB _ _ _) (h1:=fun k _ _=>ZcY (fun _=>yU.one) (fun _=>yT.one) k)) ?_;rintro v2 w ⟨hS,hv2⟩
    replace hS:=Sat.allsnoc (l1:= [_,_,_,_,_,_,_,_,_]) (l2:= [_,_,_]) (l3:= [_,_]) hS Oa (H:=fun z9=>(gsn kd i tz1 z9).fr2 32 3) (fun k k0 k1=>by(try dsimp only);rw [Zq k1]) (by(try dsimp only);rw [Y1])
    refine(zV (xfb 1 fd_32_1))<|zle (xsb 7 WG hS (hv:=hv2.one)) ?_;clear hS;rintro w hS
    refine zx10<|(zV (Zh (r:=i+1)))<|(zP)<|zln<|zlq ⟨C+cz1,(gsn kd i tz1),v2,i+1,rfl,Oa,Oa,?_,?_,?_,rfl,hS.pk [0,1,4,5,6,7,8,9,10,11]⟩
    ·
     exact hv2
    ·
     exact hup.next hsp h0 Oa xn Oe (by assumption)
    ·
     have h9:=z8.2 Oe;omega
   refine zx8<|(zV (xls 5 st_32 hS))<|zle (xsw 4 st_32 hS (hd:=(Za rfl (Za hwK.one (Za rfl Zi))))) ?_;clear hS;rintro w hS
   refine(On)<|zx1<|XU 4 st_32 hS ⟨_,rfl,?_⟩
   obtain rfl:i=Zl p b qA:=Oa
   replace hS:=hS.pk [0,1,2,6,7]
   replace hS:=hS.addnil 1 3 (ints (fun _=>0))
   replace hS:=hS.pk [0,1,2,3,5,4]
   replace hS:=Sat.tree2 (l:= [_,_,_]) hS qA
   replace hS:=(hS.addnil 2 97 (Ze (fun _=>Oh) (fun _=>0))).addrows 3 (fun _=>Oh) (fun _=>0) (fun _ _=>0)
   exact⟨(.mk qA wK (Zl p b qA) kd Oh 0 (fun _=>0)),0,_,_,_,_,True,C,Oh,(by rw [ZQ trivial];rfl),((Zf0 hup hsp hle).resolve_right (fun hh=>hh fun k=>⟨by show _<=(0:Int);omega,by show(0:Int)<=_;omega⟩)),⟨by omega,fun _=>Oa⟩,hwK,slh_nil,slh_nil,hS.pk [0,1,3,4,5,2]⟩
theorem Zmj:ZN Om 138=some (.nilFunc,1,8):=Oc
theorem Zh3{vL vD:Value}{p:Prob}{b:Int}(w0:World)(h:PAt w0 vL vD p):
   Calls Om 27 [.agg #[vL,vD,.int Oi p.stock,.int Oi p.kerf,.int Oi b]].toArray w0 fun e w=>∃v,e= .returned v/\∃t u pv ln pt cnt e vV,v= .tuple #[.agg #[.int Oi (Tr.s t),t.vK,t.vL],vV,.int Oi e]/\RefR p b t u ln pt cnt e/\UO t/\Slh t.vK t.n/\Slh t.vL t.nl/\Slh vV u/\Sat w0 w [.sem (t.fr2 32 3),.own vV 2 97 u (Ze pv cnt),.sem (Frame.rows 3 u pv ln pt)]:=by
 obtain⟨hm,hm1,hd,hd1,hs,hk⟩:=h.Oq
 refine zenG Tryz.func27 Tryz.ntmps27 fun w hS=> ?_
 refine zsr<|zla (xbx (cs:= [_,_,_,_,_]) hS) ?_;rintro _ w ⟨g1,rfl,hS⟩
 refine zla (xal (cs:= [_,_,_]) WV hS) ?_;rintro _ w ⟨g2,rfl,hS⟩
 refine(On)<|zx5<|(zV (xls 0 Yu hS))<|zlc (xc0 Zew) (Za2 (p:=p) (b:=b) w (h.below hS.below)) ?_;rintro _ w ⟨rfl,hS'⟩
 replace hS:=hS.cmp hS';clear hS'
 refine(zP)<|zlt<|Zf ?_ ?_<;>intro hc
 ·
  refine zsr<|(zV (xany (v:= .agg #[.int Oi 0,Oh,Oh])))<|zle (xsw 1 st_32 hS) ?_;clear hS;rintro w hS
  refine(On)<|zx14<|XU 1 st_32 hS ⟨_,rfl,?_⟩
  replace hS:=hS.nl
  replace hS:=hS.tree0 32 3
  replace hS:=(hS.addnil 2 97 (Ze (fun _=>Oh) (fun _=>0))).addrows 3 (fun _=>Oh) (fun _=>0) (fun _ _=>0)
  exact⟨.nil,0,_,_,_,_,1,Oh,rfl,.inl ⟨‹¬Z5 p b›,Yk,rfl,rfl⟩,trivial,slh_nil,slh_nil,slh_nil,hS⟩
 refine ZV<|zla (xal (cs:= [_]) ZJ hS) ?_;rintro _ w ⟨g3,rfl,hS⟩
 have hpo:Z5 p b:=Oe;have hb1:=hpo.2.1;have hb2:=hpo.2.2
 refine zle (xsb 2 pl_3 hS) ?_;clear hS;rintro w hS
 refine zlz<|zla (xal (cs:= [_]) Zmj hS) ?_;rintro _ w ⟨g4,rfl,hS⟩
 refine zlz<|(zV xmf)<|zle (xsb 3 Zc6 hS) ?_;clear hS;rintro w hS
 refine zlz<|(zV (xlb 3 Zc6 hS))<|(zV (xls 0 Yu hS))<|zlc (xcc (vs:= [_]) Zk2) (ZnA _ (F:=Frame.bun [.blk g1 [vL,vD,.int Oi p.stock,.int Oi p.kerf,.int Oi b],.blk g2 [.int Oi 0,Oh,Oh]]) (p:=p) (b:=b) (lf:=20000) w0 w (Sat.bundle (l1:= [_,_]) (hS.pk [2,3,0,1])) (fun w1 hb _=>h.below hb) hpo ⟨by omega,Oa⟩ (Nat.lt_succ_self _)) ?_;rintro _ w ⟨tz1,uz1,aB,bI,bH,ae,qU,cz1,bG,rfl,xn,z8,yU,yT,xx,hS⟩
 replace hS:=Sat.unbundle (l1:= [_,_,_,_,_]) (l3:= []) hS
 replace hS:=hS.pk [0,1,3,4,5,6,2]
 have gP:=fun j (j0:0<=j) (j1:j<uz1)=>hS.slhIn 3 rfl j0 j1
 have eO:=ZkP xn;have eP:=xx.n0
 refine zs4 ?_
 refine zla (xal (cs:= [_,_,_]) WV hS) ?_;rintro _ w ⟨g5,rfl,hS⟩
 refine zle (xsw 7 st_32 hS (hd:=(Za rfl (Za yU.one (Za yT.one Zi))))) ?_;clear hS;rintro w hS
 refine(On)<|zlt<|zsq<|zbk<|zsr<|(Oo)<|zlt<|Zf ?_ ?_<;>intro hc
 ·
  refine zsr<|(zV (xany (v:= .agg #[.int Oi 0,Oh,Oh])))<|zle (xsw 5 st_32 hS) ?_;clear hS;rintro w hS
  refine(On)<|zlt<|zrt<|zbr<|ztr<|XU 5 st_32 hS ⟨_,rfl,?_⟩
  replace hS:=hS.nl
  replace hS:=hS.tree0 32 3
  replace hS:=(hS.addnil 2 97 (Ze (fun _=>Oh) (fun _=>0))).addrows 3 (fun _=>Oh) (fun _=>0) (fun _ _=>0)
  exact⟨.nil,0,_,_,_,_,9,Oh,rfl,.inr (.inl ⟨hpo,Zf5 hpo.1 xn ‹¬qU›,Yk,rfl,rfl⟩),trivial,slh_nil,slh_nil,slh_nil,hS⟩
 refine zsr<|(zV (xls 4 Yu hS))<|(zV (xls 7 st_32 hS))<|(zP)<|zlc (xc0 Zk1) (Zh6 (p:=p) (b:=b) (u:=uz1) (n9:=tz1.n) (nl9:=tz1.nl) (s9:=tz1.s) w (h.below hS.below) yU yT xx) ?_;rintro _ w ⟨rfl,hS'⟩
 replace hS:=hS.cmp hS';clear hS'
 refine(zP)<|zlt<|Zf ?_ ?_<;>intro hc
 ·
  refine zsr<|(zV (xany (v:= .agg #[.int Oi 0,Oh,Oh])))<|zlv xmv ?_
  have hpm:=Zi1 xn Oe Oe
  refine zlc (xc0 Zeu) (Za4 (u:=uz1) (pv:=aB) (ln:=bI) (pt:=bH) (cnt:=ae) w (⟨(hS.rowN 2 rfl),fun k k0 k1=>hS.rowIn 3 rfl k0 k1,fun k k0 k1=>hS.roomIn 3 rfl k0 k1⟩:VAt _ bG uz1 aB bI bH ae) Oa (fun k k0 k1=>by have h8:=(hpm.1.1.2.2 k k0 k1).2.2.eq;have:=hpm.1.1.1.m2;omega) (fun k k0 k1=>by have h8:=hpm.1.1.2.2 k k0 k1;exact⟨h8.1,h8.2.1⟩)) ?_;rintro xH w ⟨_,qH,xu,x9,yb,xD,rfl,xq,xt,yH,x5,xM,hS'⟩
  replace hS:=(hS.comp hS').n10;clear hS'
  have yq:=fun k (k0:0<=k) (k1:k<qH)=>hS.slhIn 9 rfl k0 k1
  refine zle (xsw 5 st_32 hS) ?_;clear hS;rintro w hS
  refine(On)<|zlt<|zrt<|zbr<|ztr<|XU 5 st_32 hS ⟨_,rfl,?_⟩
  have hnp:=Zgx hpm Oa xq Oa xt yH
  replace hS:=hS.pk [8,9]
  replace hS:=hS.tree0 32 3
  exact⟨.nil,_,_,_,_,_,0,_,rfl,.inr (.inr (.inl ⟨hpo,rfl,Yk,hnp⟩)),trivial,slh_nil,slh_nil,xM,hS.pk [2,0,1]⟩
 refine zsr<|zlv (xls 7 st_32 hS) ?_
 have hpf:=ZiZ xn Oe (by assumption)
 refine zlc (xc0 Zk0) (KB (t:=tz1) w (Tr.fr2_at tz1 hpf.2.2.2.1.2 (hS.holds (.sem (Tr.fr2 32 3 tz1)) (by repeat first|exact List.mem_cons_self .. |apply List.mem_cons_of_mem))).1 (Tr.fr2_at tz1 hpf.2.2.2.1.2 (hS.holds (.sem (Tr.fr2 32 3 tz1)) (by repeat first|exact List.mem_cons_self .. |apply List.mem_cons_of_mem))).2) ?_;rintro _ w ⟨rfl,hS'⟩
 replace hS:=hS.cmp hS';clear hS'
 refine(On)<|zlt<|Zf ?_ ?_<;>intro hc
 ·
  refine zsr<|(zV (xany (v:= .agg #[.int Oi 0,Oh,Oh])))<|zle (xsw 5 st_32 hS) ?_;clear hS;rintro w hS
  refine(On)<|zlt<|zrt<|zbr<|ztr<|XU 5 st_32 hS ⟨_,rfl,?_⟩
  replace hS:=hS.nl
  replace hS:=hS.tree0 32 3
  replace hS:=(hS.addnil 2 97 (Ze (fun _=>Oh) (fun _=>0))).addrows 3 (fun _=>Oh) (fun _=>0) (fun _ _=>0)
  exact⟨.nil,0,_,_,_,_,9,Oh,rfl,.inr (.inl ⟨hpo,Zf4 hpo.1 xn hpf.2.2.2 ‹¬YM tz1›,Yk,rfl,rfl⟩),trivial,slh_nil,slh_nil,slh_nil,hS⟩
 refine zsk<|zbn<|ztn<|zsr<|(zV (xls 7 st_32 hS))<|zle (xsw 5 st_32 hS (hd:=(Za rfl (Za yU.one (Za yT.one Zi))))) ?_;clear hS;rintro w hS
 refine(On)<|zx1<|XU 5 st_32 hS ⟨_,rfl,?_⟩
 replace hS:=hS.pk [6]
 replace hS:=(hS.addnil 2 97 (Ze (fun _=>Oh) (fun _=>0))).addrows 3 (fun _=>Oh) (fun _=>0) (fun _ _=>0)
 exact⟨tz1,0,_,_,_,_,0,Oh,rfl,.inr (.inr (.inr ⟨hpo,rfl,rfl,Od ‹¬¬YM tz1›,hpf.2.2.2.1.2,hpf.2.1,hpf.2.2.1⟩)),hpf.2.2.2.1.2,yU,yT,slh_nil,hS⟩
theorem Zpr:Zd Om 27=true:=Oc
theorem ZkS:ZN Om 34=some (.agg #[.int Oi 0,Oh,.int Oi 0,Oh,Oh],5,88):=Oc
theorem X9:Zx Om 34=some 5:=Oc
theorem Zh4{vL vD:Value}{p:Prob}(w0:World)(h:PAt w0 vL vD p):
   Calls Om 9 [.agg #[vL,vD,.int Oi p.stock,.int Oi p.kerf]].toArray w0 fun e w=>∃v,e= .returned v/\∃nb t u pv ln pt cnt e vV,v= .tuple #[.agg #[.int Oi nb,vV,.int Oi (Tr.s t),t.vK,t.vL],.int Oi e]/\SolR6 p nb t u ln pt cnt e/\UO t/\Slh t.vK t.n/\Slh t.vL t.nl/\Slh vV u/\Sat w0 w [.sem (t.fr2 32 3),.own vV 2 97 u (Ze pv cnt),.sem (Frame.rows 3 u pv ln pt)]:=by
 obtain⟨hm,hm1,hd,hd1,hs,hk⟩:=h.Oq
 refine zenG Tryz.func9 Tryz.ntmps9 fun w hS=> ?_
 refine zsr<|zla (xbx (cs:= [_,_,_,_]) hS) ?_;rintro _ w ⟨g1,rfl,hS⟩
 refine zla (xal (cs:= [_,_,_,_,_]) ZkS hS) ?_;rintro _ w ⟨g2,rfl,hS⟩
 refine(zP)<|zx5<|(zV (xls 0 st_27 hS))<|zlc (xc0 XP) (Ya (p:=p) w (h.below hS.below)) ?_;rintro _ w ⟨rfl,hS'⟩
 replace hS:=hS.cmp hS';clear hS'
 refine(zP)<|zlt<|Zf ?_ ?_<;>intro hc
 ·
  refine zsr<|(zV (xany (v:= .agg #[.int Oi 0,Oh,.int Oi 0,Oh,Oh])))<|zle (xsw 1 X9 hS) ?_;clear hS;rintro w hS
  refine(zP)<|zx14<|Ym 1 X9 hS ⟨_,rfl,?_⟩
  replace hS:=hS.nl
  replace hS:=hS.tree0 32 3
  replace hS:=(hS.addnil 2 97 (Ze (fun _=>Oh) (fun _=>0))).addrows 3 (fun _=>Oh) (fun _=>0) (fun _ _=>0)
  exact⟨0,.nil,0,_,_,_,_,1,Oh,rfl,.inl ⟨‹¬p.Ok›,rfl,rfl,Yk,rfl⟩,trivial,slh_nil,slh_nil,slh_nil,hS⟩
 refine ZV<|zlv (xls 0 st_27 hS) ?_
 have hok:p.Ok:=Oe
 refine zlc (xc0 ZhO) (ZdI (p:=p) w (h.below hS.below)) ?_;rintro _ w ⟨av,yG,zR,zU,ac,af,f6,rfl,qy,cJ,fi,xP,hS'⟩
 replace hS:=(hS.comp hS').n4;clear hS'
 have dw:=fun k (k0:0<=k) (k1:k<yG)=>hS.slhIn 3 rfl k0 k1
 refine zs5 ?_
 refine zx5<|(On)<|zlt<|Zf ?_ ?_<;>intro hc
 ·
  refine zsr<|(zV (xany (v:= .agg #[.int Oi 0,Oh,.int Oi 0,Oh,Oh])))<|zle (xsw 1 X9 hS) ?_;clear hS;rintro w hS
  refine(zP)<|zx14<|Ym 1 X9 hS ⟨_,rfl,?_⟩
  replace hS:=hS.nl
  replace hS:=hS.tree0 32 3
  replace hS:=(hS.addnil 2 97 (Ze (fun _=>Oh) (fun _=>0))).addrows 3 (fun _=>Oh) (fun _=>0) (fun _ _=>0)
  exact⟨0,.nil,0,_,_,_,_,9,Oh,rfl,.inr (.inl ⟨hok,by have h8:=(qy.tot hok).2;omega,rfl,rfl,Yk,rfl⟩),trivial,slh_nil,slh_nil,slh_nil,hS⟩
 refine zsk<|ztn<|zbk ?_
 have hmt:=qy.meets hok Oa xP.n0
 have aS:=(qy.tot hok).1 Oa
 refine zlp (fun mm M w=>∃(nC:Int) (wv:Int->Value) (lC:Of) (gC:Og) (cC:Of) (wC:Value),mm=((brs nC cC).toNat)/\(PMt p nC lC gC cC)/\(brs nC cC<=1000)/\(Slh wC nC)/\M= [(1,Or g1),(2,Or g2),(4,wC)]/\Sat w0 w [.blk g1 [vL,vD,.int Oi p.stock,.int Oi p.kerf],.blk g2 [.int Oi 0,Oh,.int Oi 0,Oh,Oh],.own wC 2 97 nC (Ze wv cC),.sem (Frame.rows 3 nC wv lC gC)]) ⟨yG,zR,zU,ac,af,av,rfl,?_,?_,?_,rfl,hS⟩ ?_
 ·
  exact hmt.1
 ·
  exact Int.le_trans hmt.2 aS
 ·
  exact xP
 clear hS w
 rintro mm M w ⟨nC,wv,lC,gC,cC,wC,rfl,hpm,hbm,hwC,rfl,hS⟩
 have hrC:=fun k (k0:0<=k) (k1:k<nC)=>hS.slhIn 3 rfl k0 k1
 have hu6:=hpm.1.2.1
 refine zbk<|zsr<|(zP)<|zlc (xc0 Kz) (Vn (u:=nC) (pv:=wv) (ln:=lC) (pt:=gC) (cnt:=cC) w (⟨(hS.rowN 2 rfl),fun k k0 k1=>hS.rowIn 3 rfl k0 k1,fun k k0 k1=>hS.roomIn 3 rfl k0 k1⟩:VAt _ wC nC wv lC gC cC) Oa (fun k k0 k1=>by have h8:=hpm.1.2.2 k k0 k1;omega)) ?_;rintro _ w ⟨rfl,hS'⟩
 replace hS:=hS.cmp hS';clear hS'
 have hbb:=ZpK hpm;unfold brs at hbb hbm
 refine(zP)<|zx5<|(On)<|zlt<|Zf ?_ ?_<;>intro hc
 ·
  refine zsr<|(zP)<|zlv (xany (v:= .agg #[.int Oi 0,wC,.int Oi 0,Oh,Oh]) (hr:=by obtain⟨_,_,_,_,rfl,_⟩:=hwC;kernel_rfl)) ?_
  refine zle (xsw 1 X9 hS (hd:=(Za rfl (Za hwC.one (Za rfl (Za rfl (Za rfl Zi))))))) ?_;clear hS;rintro w hS
  refine(zP)<|zlt<|zrt<|ztr<|zbr<|ztr<|zbr<|Ym 1 X9 hS ⟨_,rfl,?_⟩
  replace hS:=hS.pk [2,3]
  replace hS:=hS.tree0 32 3
  exact⟨0,.nil,_,_,_,_,_,0,_,rfl,.inr (.inr ⟨hok,rfl,hpm,by unfold brs;omega,Oa,trivial,.inl ⟨rfl,Yk⟩⟩),trivial,slh_nil,slh_nil,hwC,hS.pk [2,0,1]⟩
 refine ZV<|zlv (xls 0 st_27 hS) ?_
 have ak:Z5 p ((psum (fun _=>1) cC (nC).toNat)-1):=⟨hok,Oa,Oa⟩
 refine(zP)<|(zV (Zp (r:=(psum (fun _=>1) cC (nC).toNat)-1)))<|zlv (xany (v:= .agg #[vL,vD,.int Oi p.stock,.int Oi p.kerf,.int Oi ((psum (fun _=>1) cC (nC).toNat)-1)]) (hr:=by obtain⟨_,_,_,_,rfl,_⟩:=h.L.slh;obtain⟨_,_,_,_,rfl,_⟩:=h.D.slh;kernel_rfl)) ?_
 refine zlc (xc0 Zpr) (Zh3 (p:=p) (b:=((psum (fun _=>1) cC (nC).toNat)-1)) w (h.below hS.below)) ?_;rintro _ w ⟨x8,el,ep,eF,et,dQ,mA,ed,rfl,xR,gX,x7,x6,eK,hS'⟩
 replace hS:=(hS.comp hS').n7;clear hS'
 have kq:=fun j (j0:0<=j) (j1:j<el)=>hS.slhIn 6 rfl j0 j1
 refine zs4 ?_
 refine zla (xal (cs:= [_,_,_]) WV hS) ?_;rintro _ w ⟨g3,rfl,hS⟩
 refine zle (xsw 7 st_32 hS (hd:=(Za rfl (Za x7.one (Za x6.one Zi))))) ?_;clear hS;rintro w hS
 refine(On)<|zx5<|(On)<|zlt<|Zf ?_ ?_<;>intro hc
 ·
  refine zsr<|(zV (xany (v:= .agg #[.int Oi 0,Oh,.int Oi 0,Oh,Oh])))<|zle (xsw 1 X9 hS) ?_;clear hS;rintro w hS
  refine(zP)<|zlt<|zrt<|ztr<|zbr<|ztr<|zbr<|Ym 1 X9 hS ⟨_,rfl,?_⟩
  replace hS:=hS.nl
  replace hS:=hS.tree0 32 3
  replace hS:=(hS.addnil 2 97 (Ze (fun _=>Oh) (fun _=>0))).addrows 3 (fun _=>Oh) (fun _=>0) (fun _ _=>0)
  exact⟨0,.nil,0,_,_,_,_,9,Oh,rfl,.inr (.inl ⟨hok,xR.err ak Oa,rfl,rfl,Yk,rfl⟩),trivial,slh_nil,slh_nil,slh_nil,hS⟩
 refine zsk<|ztn<|zsq<|zsr<|(zV (xfb 1 fd_32_1))<|(zV (xlb 7 WG hS))<|(zV (xln Xw x7))<|(On)<|zlb 44 ?_ ?_<;>intro hc
 ·
  iterate 4 refine zlo ?_
  refine(zP)<|zlt<|zct<|zsr ?_
  refine(On)<|(zV (xls 7 st_32 hS))<|zlv (xany (v:= .agg #[.int Oi (psum (fun _=>1) cC (nC).toNat),wC,.int Oi x8.s,x8.vK,x8.vL]) (hr:=by obtain⟨_,_,_,_,rfl,_⟩:=hwC;have hz:=x7;revert hz;generalize x8.vK=z;rintro⟨_,_,_,_,rfl,_⟩;show _=_;have hz:=x6;revert hz;generalize x8.vL=z;rintro⟨_,_,_,_,rfl,_⟩;show _=_;kernel_rfl)) ?_
  refine zle (xsw 1 X9 hS (hd:=(Za rfl (Za hwC.one (Za rfl (Za x7.one (Za x6.one Zi))))))) ?_;clear hS;rintro w hS
  refine(zP)<|zlt<|zrt<|ztr<|zbr<|ztr<|zbr<|Ym 1 X9 hS ⟨_,rfl,?_⟩
  have htr:=xR.tree Oa (by first|exact .inl Oa|exact .inr Oa)
  replace hS:=hS.pk [4,2,3]
  exact⟨_,x8,_,_,_,_,_,0,_,rfl,.inr (.inr ⟨hok,rfl,hpm,rfl,Oa,htr.2.1,.inr ⟨by omega,htr.1,htr.2.2⟩⟩),htr.2.1,x7,x6,hwC,hS⟩
 refine(zV (xfb 2 fd_32_2))<|(zV (xlb 7 pl_22 hS))<|(zV (xln Zb x6))<|(On)<|zlt<|Zf ?_ ?_<;>intro hc
 ·
  refine zsr<|(On)<|(zV (xls 7 st_32 hS))<|zlv (xany (v:= .agg #[.int Oi (psum (fun _=>1) cC (nC).toNat),wC,.int Oi x8.s,x8.vK,x8.vL]) (hr:=by obtain⟨_,_,_,_,rfl,_⟩:=hwC;have hz:=x7;revert hz;generalize x8.vK=z;rintro⟨_,_,_,_,rfl,_⟩;show _=_;have hz:=x6;revert hz;generalize x8.vL=z;rintro⟨_,_,_,_,rfl,_⟩;show _=_;kernel_rfl)) ?_
  refine zle (xsw 1 X9 hS (hd:=(Za rfl (Za hwC.one (Za rfl (Za x7.one (Za x6.one Zi))))))) ?_;clear hS;rintro w hS
  refine(zP)<|zlt<|zrt<|ztr<|zbr<|ztr<|zbr<|Ym 1 X9 hS ⟨_,rfl,?_⟩
  have htr:=xR.tree Oa (by first|exact .inl Oa|exact .inr Oa)
  replace hS:=hS.pk [4,2,3]
  exact⟨_,x8,_,_,_,_,_,0,_,rfl,.inr (.inr ⟨hok,rfl,hpm,rfl,Oa,htr.2.1,.inr ⟨by omega,htr.1,htr.2.2⟩⟩),htr.2.1,x7,x6,hwC,hS⟩
 refine zsk<|ztn<|zrg<|(On)<|zln<|zbn<|zlq ⟨el,ep,eF,et,dQ,ed,rfl,?_,?_,?_,rfl,hS.pk [0,1,5,6]⟩ (hlt:=(by have h8:=(xR.plan Oa Oa Oa).2;unfold brs at h8⊢;omega))
 ·
  exact(xR.plan Oa Oa Oa).1
 ·
  have h8:=(xR.plan Oa Oa Oa).2;unfold brs at h8⊢;omega
 ·
  exact eK
theorem SolR6.u{p:Prob}{nb u e:Int}{t:Tr}{ln cnt:Of}{pt:Og}(h:SolR6 p nb t u ln pt cnt e):u<=1000:=by
 rcases h with⟨_,_,_,_,h⟩|⟨_,_,_,_,_,h⟩|⟨_,_,h,_⟩
 · omega
 · omega
 · exact h.1.2.1
theorem SolR6.bars{p:Prob}{nb u e:Int}{t:Tr}{ln cnt:Of}{pt:Og}(h:SolR6 p nb t u ln pt cnt e)(hp:p.Ok)(he:e=0):∃L,LFit p L/\(∀j,0<=j->j<p.m->p.D j<=XM L j)/\(L.length:Int)=nb:=by
 rcases h with⟨h,_⟩|⟨_,_,h,_⟩|⟨_,_,h1,h2,_⟩
 · exact absurd hp h
 · omega
 · obtain⟨L,g1,g2,g3⟩:=RZ h1
   exact⟨L,g1,g2,g3.trans h2⟩
theorem SolR6.least{p:Prob}{nb u e:Int}{t:Tr}{ln cnt:Of}{pt:Og}(h:SolR6 p nb t u ln pt cnt e)(hp:p.Ok)(he:e=0){L:List (Of)}(hL:LFit p L)(hc:∀j,0<=j->j<p.m->p.D j<=XM L j):nb<=L.length:=by
 rcases h with⟨h,_⟩|⟨_,_,h,_⟩|⟨_,_,_,_,_,_,⟨h1,_⟩|⟨_,_,h1⟩⟩
 · exact absurd hp h
 · omega
 · omega
 · have:=ZcW t h1 hL hc;omega
theorem SolR6.nb{p:Prob}{nb u e:Int}{t:Tr}{ln cnt:Of}{pt:Og}(h:SolR6 p nb t u ln pt cnt e):0<=nb/\nb<=1000:=by
 rcases h with⟨_,_,h,_⟩|⟨_,_,_,h,_⟩|⟨_,_,h1,h2,h3,_⟩
 · omega
 · omega
 · have:=ZpK h1;omega
theorem ZfW {p:Prob} {nb u e m e2:Int} {t:Tr} {c:Ct} {ln cnt:Of} {pt:Og} (h:SolR6 p nb t u ln pt cnt e) (hp:p.Ok) (he:e=0) (hd:DBestR p c m e2):e2=0/\Chk p c.n c.y c.q=0/\Yt p c.n c.y c.q=m/\m<=nb:=by
 obtain⟨q1,q2,_⟩:=hd.good hp
 have h0 :0<=m:=by
   rcases hd with⟨g,_⟩|⟨_,_,c1,e1,c2,e2,c3,e3,h1,h2,h3,h4⟩
   · exact absurd hp g
   · obtain⟨b1,m1,ho1⟩:∃b m,(b,m)=Xr p (Ct.zer,-1) c1 e1:=⟨_,_,rfl⟩
     rw [<-ho1] at h4
     obtain⟨b2,m2,ho2⟩:∃b m,(b,m)=Xr p (b1,m1) c2 e2:=⟨_,_,rfl⟩
     rw [<-ho2] at h4
     have g1:=Xi (.inl Oa) ho1
     have g2:=Xi g1.1 ho2
     have g3:=Xi g2.1 h4
     rcases h2 with⟨g,_⟩|⟨_,rfl,rfl⟩
     · exact absurd hp g
     · have h5:=g2.2.2 rfl (V2 hp)
       have h6:0<=Yt p (WS p).n (WS p).y (WS p).q:=by
         rw [Yb (V2 hp)]
         obtain⟨_,hf,hn,_⟩:=Gw.XQ (V2 hp)
         have h7:=(K7 hp (hf.priced hn) p.m (by have:=hp.m1;omega) (Int.le_refl _)).1
         have h8:=hf.1
         unfold Bnd
         exact Int.tdiv_nonneg Oa Oa
       omega
 rcases q2 with q2|⟨q2,q3⟩
 · omega
 · refine⟨q1,q2,q3.symm,?_⟩
   obtain⟨L,g1,g2,g3⟩:=h.bars hp he
   apply Classical.byContradiction;intro hn
   have h9:=SolR6.nb h
   have:=ZcD q2 (b:=nb) Oa Oa g1 g2
   omega
end Go.Proofs.YtpnamgfdakfccaaGreat
