import Derived.Test.YtkichmnjjblodaaGreatPmE
set_option linter.unusedVariables false
set_option linter.unusedSimpArgs false
set_option maxRecDepth 20000
set_option maxHeartbeats 4000000
namespace Go.Proofs.YtkichmnjjblodaaGreat
open Go Go.RowKit Go.Proofs.Gw
theorem U8:Zc Tryz.prog 150=true:=by kernel_rfl
theorem VR:ZI Tryz.prog 209=true:=by kernel_rfl
theorem Zg3 {vL vD:Value} {p:Prob} (hp:p.Ok) {wi:Int} {St Tt:Type} (qc:St->List (Int->Int)) (Inv:St->Prop) (Stp:Tt->Prop) (t0:Tt) {g2 g3 g5 g6:Nat} {vl:Value} (hvl:Slh vl (p.m+1)) {lq:Nat} {C:St->Gw.Frame} {D:Tt->Gw.Frame} (N:Nat):∀{F:Gw.Frame} {s:St} {ga gy gv:Nat} {va:Value} {a:Int->Int} {i l need:Int} {pre post:List (Int->Int)} (w0 w:World) (hS:Sat w0 w [.sem (C s),.blk g2 [vL,vD,.int .i64 p.stock,.int .i64 p.kerf],.blk g3 [.int .i64 wi],.blk g5 [.int .i64 p.m],.blk g6 [vl],.own vl 1 3 (p.m+1) (ints (Xi p)),.blk ga [va],.own va 1 3 p.m (ints a),.blk gy [.func (.yield lq) #[] #[]],.blk gv [.func (.func 150) #[] #[.pointer (some ⟨g6,0,none⟩),.pointer (some ⟨g5,0,none⟩),.pointer (some ⟨ga,0,none⟩),.pointer (some ⟨gy,0,none⟩),.pointer (some ⟨g3,0,none⟩),.pointer (some ⟨g2,0,none⟩),.pointer (some ⟨gv,0,none⟩)]],.sem F]) (h:PAt w0 vL vD p) (hva:Slh va p.m) (h0:0<=i) (h1:i<=p.m) (hx:Pfx p i a l) (hn:NeedP p a i need) (hI:Inv s) (hh:qc s=pre) (hM:MX p wi=pre++(exI p wi i a l++post)) (hY:∀(s:St) (x:BX) (rest:Gw.Frame) (w:World),(fun(s:St) (x:BX) (rest:Gw.Frame)=>Inv s/\Slh x.v x.n/\x.n=p.m/\∃r,MX p wi=qc s++x.f::r) s x rest->Sat w0 w (.sem (C s)::([.blk g2 [vL,vD,.int .i64 p.stock,.int .i64 p.kerf],.blk g3 [.int .i64 wi],.blk g5 [.int .i64 p.m],.blk g6 [vl],.own vl 1 3 (p.m+1) (ints (Xi p))]++((fun(x:BX)=> [.own x.v 1 3 x.n (ints x.f)]) x++ [.sem rest])))->Yld Tryz.prog lq [x.v] w fun v w'=>(v= .bool true/\∃s',(fun(s:St) (x:BX) (s1:St)=>qc s1=qc s++ [x.f]/\Inv s1) s x s'/\Sat w0 w' (.sem (C s')::([.blk g2 [vL,vD,.int .i64 p.stock,.int .i64 p.kerf],.blk g3 [.int .i64 wi],.blk g5 [.int .i64 p.m],.blk g6 [vl],.own vl 1 3 (p.m+1) (ints (Xi p))]++ [.sem rest])))\/(v= .bool false/\∃t,Stp t/\Sat w0 w' (.sem (D t)::([.blk g2 [vL,vD,.int .i64 p.stock,.int .i64 p.kerf],.blk g3 [.int .i64 wi],.blk g5 [.int .i64 p.m],.blk g6 [vl],.own vl 1 3 (p.m+1) (ints (Xi p))]++ [.sem rest])))) (hN:(p.m-i).toNat<N),
    Calls Tryz.prog 150 [.int .i64 i,.int .i64 l,.int .i64 need,.pointer (some ⟨g6,0,none⟩),.pointer (some ⟨g5,0,none⟩),.pointer (some ⟨ga,0,none⟩),.pointer (some ⟨gy,0,none⟩),.pointer (some ⟨g3,0,none⟩),.pointer (some ⟨g2,0,none⟩),.pointer (some ⟨gv,0,none⟩)].toArray w fun e w=>∃v,e= .returned v/\∃(ok:Prop) (s2:St) (t2:Tt) (a2:Int->Int),v=B ok/\(ok->a2=a/\Inv s2/\qc s2=pre++exI p wi i a l)/\(¬ok->Stp t2)/\Sat w0 w [.sem (Frame.cd ok (C s2) (D t2)),.blk g2 [vL,vD,.int .i64 p.stock,.int .i64 p.kerf],.blk g3 [.int .i64 wi],.blk g5 [.int .i64 p.m],.blk g6 [vl],.own vl 1 3 (p.m+1) (ints (Xi p)),.blk ga [va],.own va 1 3 p.m (ints a2),.blk gy [.func (.yield lq) #[] #[]],.blk gv [.func (.func 150) #[] #[.pointer (some ⟨g6,0,none⟩),.pointer (some ⟨g5,0,none⟩),.pointer (some ⟨ga,0,none⟩),.pointer (some ⟨gy,0,none⟩),.pointer (some ⟨g3,0,none⟩),.pointer (some ⟨g2,0,none⟩),.pointer (some ⟨gv,0,none⟩)]],.sem F]:=by
  induction N with
  |zero=>intros;omega
  | succ N ih=>
    intro F s ga gy gv va a i l need pre post w0 w hS h hva h0 h1 hx hn hI hh hM hY hN
    have hm:=h.L.slh.n0;have hm1:=h.L.slh.n1;have hdn:=h.D.slh.n0;have fJ:=h.D.slh.n1;have hs:=h.is;have hk:=h.ik
    have hpm:=hp.m1;have qH:=hp.m2;have hpd:=hp.d;have hs1:=hp.s1;have hs2:=hp.s2;have hk1:=hp.k1;have hk2:=hp.k2
    have hlx:=Zii hp hx h0 h1;have hl0:=hx.l0;have hLn:=Km hp h0;have hnt:=hn.top
    refine Zee Tryz.func150 Tryz.ntmps150 ?_
    refine hsq<|hrz ?_
    refine(zP)<|zln<|zh<|htn<|hsq<|hsq<|hrz ?_
    refine(zP)<|(zV (xlb 4 pl_22 hS))<|(zP)<|(zV (xix (kk:=i) Zb hvl))<|(zV (xlr (u:= .int .i64 (Xi p i)) pl_3 (hS.rowN 5 rfl)))<|(zV (Zp (r:=l-(Xi p i))))<|(zP)<|(zP)<|zln<|zh<|htn ?_
    refine YO ?_ ?_<;>intro hc
    ·
     refine hsq<|hrz ?_
     refine(zP)<|zln<|zh<|htn<|hrt<|ztr<|zf1 ⟨_,rfl,?_⟩
     exact⟨True,s,t0,a,(ZQ trivial).symm,fun _=>⟨rfl,hI,by first|rw [ZbM hp h0 h1 hx hn (by omega),hh,List.append_nil]|rw [Uu (by omega) ‹_›,hh,List.append_nil]⟩,fun hq=>absurd trivial hq,by rw [YR trivial];exact hS.pk [0,1,2,3,4,5,6,7,8,9,10]⟩
    refine hsk<|htn<|hsq<|hsq<|hrz ?_
    refine(zP)<|(zV (xlb 3 pl_3 hS))<|(zP)<|zln<|zh<|htn ?_
    refine YO ?_ ?_<;>intro hc
    ·
     refine hsq<|hrz ?_
     refine(zV (xlb 6 pl_22 hS))<|zlc (xc0 Wq) (ZkO (n:=p.m) (f:=a) w (hS.rowN 7 rfl)) ?_;rintro _ w ⟨rfl,hS'⟩
     replace hS:=hS.cmp hS';clear hS'
     refine(zP)<|(zP)<|zlb 14 ?_ ?_<;>intro hc
     ·
      refine zln<|zh<|htn<|hsq ?_
      refine hdr 8 mx_ hS ?_;clear hS;intro w hS
      refine hd1 0 ?_
      refine hov xmv ?_
      refine hd1 1 ?_
      refine hov xmv ?_
      refine hd2 2 3 ?_ ?_
      ·
       refine hof ?_
       refine hd1 3 ?_
       refine hof ?_
       refine hd1 4 ?_
       refine hof ?_
       refine hd1 5 ?_
       refine hof ?_
       refine hd1 6 ?_
       refine hov xpt ?_
       refine hd1 7 ?_
       refine hov xas ?_
       refine hd0<|htn<|hrt<|ztr<|zf1 ⟨_,rfl,?_⟩
       exact⟨True,s,t0,a,(ZQ trivial).symm,fun _=>⟨rfl,hI,by first|rw [ZbM hp h0 h1 hx hn (by omega),hh,List.append_nil]|rw [Uu (by omega) ‹_›,hh,List.append_nil]⟩,fun hq=>absurd trivial hq,by rw [YR trivial];exact hS.pk [0,1,2,3,4,5,6,7,8,9,10]⟩
      ·
       refine hof ?_
       refine hd2 2 4 ?_ ?_
       ·
        refine hof ?_
        refine hd1 4 ?_
        refine hof ?_
        refine hd1 5 ?_
        refine hof ?_
        refine hd1 6 ?_
        refine hov xpt ?_
        refine hd1 7 ?_
        refine hov xas ?_
        refine hd0<|htn<|hrt<|ztr<|zf1 ⟨_,rfl,?_⟩
        exact⟨True,s,t0,a,(ZQ trivial).symm,fun _=>⟨rfl,hI,by first|rw [ZbM hp h0 h1 hx hn (by omega),hh,List.append_nil]|rw [Uu (by omega) ‹_›,hh,List.append_nil]⟩,fun hq=>absurd trivial hq,by rw [YR trivial];exact hS.pk [0,1,2,3,4,5,6,7,8,9,10]⟩
       ·
        refine hof ?_
        refine hd1 2 ?_
        refine hof ?_
        refine hd1 5 ?_
        refine hof ?_
        refine hd1 6 ?_
        refine hov xpt ?_
        refine hd1 7 ?_
        refine hov xas ?_
        refine hd0<|htn<|hrt<|ztr<|zf1 ⟨_,rfl,?_⟩
        exact⟨True,s,t0,a,(ZQ trivial).symm,fun _=>⟨rfl,hI,by first|rw [ZbM hp h0 h1 hx hn (by omega),hh,List.append_nil]|rw [Uu (by omega) ‹_›,hh,List.append_nil]⟩,fun hq=>absurd trivial hq,by rw [YR trivial];exact hS.pk [0,1,2,3,4,5,6,7,8,9,10]⟩
     refine zln<|zh<|htn<|hsq ?_
     refine hdr 8 mx_ hS ?_;clear hS;intro w hS
     refine hd1 0 ?_
     refine hov xmv ?_
     refine hd1 1 ?_
     refine hov xmv ?_
     refine hd2 2 3 ?_ ?_
     ·
      refine hov (xlb 8 pl_208 hS) ?_
      refine hd1 3 ?_
      refine hov (xlb 6 pl_22 hS) ?_
      refine hd1 4 ?_
      refine hoc (xc0 cl_65) (c_clone (n:=p.m) (f:=a) w (hS.rowN 7 rfl) (by omega)) ?_;rintro vq1 w ⟨_,rfl,qa,hS'⟩
      replace hS:=(hS.comp hS').n12;clear hS'
      refine hd1 5 ?_
      replace hS:=hS.pk [0,1,2,3,4,5,11,6,7,8,9,10]
      refine hoy (hY s ⟨vq1,p.m,a⟩ _ w ⟨hI,qa,rfl,post,by rw [hM,XS (by omega) hn (by rw [LatI_end (by omega)] at*;omega) (Classical.not_not.1 ‹_›),hh];rfl⟩ (Sat.bundle (l1:= [_,_,_,_,_,_,_]) hS)) ?_;rintro _ w (⟨rfl,sy1,qt,hS⟩|⟨rfl,ty1,qX,hS⟩)
      ·
       replace hS:=Sat.unbundle (l1:= [_,_,_,_,_,_]) (l3:= []) hS
       refine hd1 6 ?_
       refine hov xpf ?_
       refine hd1 7 ?_
       refine hov xas ?_
       refine hd0<|htn<|hrt<|ztr<|zf1 ⟨_,rfl,?_⟩
       exact⟨True,sy1,t0,a,(ZQ trivial).symm,fun _=>⟨rfl,qt.2,by rw [XS (by omega) hn (by rw [LatI_end (by omega)] at*;omega) (Classical.not_not.1 ‹_›),qt.1,hh]⟩,fun hq=>absurd trivial hq,by rw [YR trivial];exact hS.pk [0,1,2,3,4,5,6,7,8,9,10]⟩
      ·
       replace hS:=Sat.unbundle (l1:= [_,_,_,_,_,_]) (l3:= []) hS
       refine hd1 6 ?_
       refine hov xpf ?_
       refine hd1 7 ?_
       refine hov xas ?_
       refine hd0<|htn<|hrt<|ztr<|zf1 ⟨_,rfl,?_⟩
       exact⟨False,s,ty1,a,(Zz not_false).symm,fun hq=>hq.elim,fun _=>qX,by rw [Wg not_false];exact hS.pk [0,1,2,3,4,5,6,7,8,9,10]⟩
     ·
      refine hov (xlb 6 pl_22 hS) ?_
      refine hd2 2 4 ?_ ?_
      ·
       refine hov (xlb 8 pl_208 hS) ?_
       refine hd1 4 ?_
       refine hoc (xc0 cl_65) (c_clone (n:=p.m) (f:=a) w (hS.rowN 7 rfl) (by omega)) ?_;rintro vq1 w ⟨_,rfl,qa,hS'⟩
       replace hS:=(hS.comp hS').n12;clear hS'
       refine hd1 5 ?_
       replace hS:=hS.pk [0,1,2,3,4,5,11,6,7,8,9,10]
       refine hoy (hY s ⟨vq1,p.m,a⟩ _ w ⟨hI,qa,rfl,post,by rw [hM,XS (by omega) hn (by rw [LatI_end (by omega)] at*;omega) (Classical.not_not.1 ‹_›),hh];rfl⟩ (Sat.bundle (l1:= [_,_,_,_,_,_,_]) hS)) ?_;rintro _ w (⟨rfl,sy1,qt,hS⟩|⟨rfl,ty1,qX,hS⟩)
       ·
        replace hS:=Sat.unbundle (l1:= [_,_,_,_,_,_]) (l3:= []) hS
        refine hd1 6 ?_
        refine hov xpf ?_
        refine hd1 7 ?_
        refine hov xas ?_
        refine hd0<|htn<|hrt<|ztr<|zf1 ⟨_,rfl,?_⟩
        exact⟨True,sy1,t0,a,(ZQ trivial).symm,fun _=>⟨rfl,qt.2,by rw [XS (by omega) hn (by rw [LatI_end (by omega)] at*;omega) (Classical.not_not.1 ‹_›),qt.1,hh]⟩,fun hq=>absurd trivial hq,by rw [YR trivial];exact hS.pk [0,1,2,3,4,5,6,7,8,9,10]⟩
       ·
        replace hS:=Sat.unbundle (l1:= [_,_,_,_,_,_]) (l3:= []) hS
        refine hd1 6 ?_
        refine hov xpf ?_
        refine hd1 7 ?_
        refine hov xas ?_
        refine hd0<|htn<|hrt<|ztr<|zf1 ⟨_,rfl,?_⟩
        exact⟨False,s,ty1,a,(Zz not_false).symm,fun hq=>hq.elim,fun _=>qX,by rw [Wg not_false];exact hS.pk [0,1,2,3,4,5,6,7,8,9,10]⟩
      ·
       refine hoc (xc0 cl_65) (c_clone (n:=p.m) (f:=a) w (hS.rowN 7 rfl) (by omega)) ?_;rintro vq1 w ⟨_,rfl,qa,hS'⟩
       replace hS:=(hS.comp hS').n12;clear hS'
       refine hd1 2 ?_
       refine hov (xlb 8 pl_208 hS) ?_
       refine hd1 5 ?_
       replace hS:=hS.pk [0,1,2,3,4,5,11,6,7,8,9,10]
       refine hoy (hY s ⟨vq1,p.m,a⟩ _ w ⟨hI,qa,rfl,post,by rw [hM,XS (by omega) hn (by rw [LatI_end (by omega)] at*;omega) (Classical.not_not.1 ‹_›),hh];rfl⟩ (Sat.bundle (l1:= [_,_,_,_,_,_,_]) hS)) ?_;rintro _ w (⟨rfl,sy1,qt,hS⟩|⟨rfl,ty1,qX,hS⟩)
       ·
        replace hS:=Sat.unbundle (l1:= [_,_,_,_,_,_]) (l3:= []) hS
        refine hd1 6 ?_
        refine hov xpf ?_
        refine hd1 7 ?_
        refine hov xas ?_
        refine hd0<|htn<|hrt<|ztr<|zf1 ⟨_,rfl,?_⟩
        exact⟨True,sy1,t0,a,(ZQ trivial).symm,fun _=>⟨rfl,qt.2,by rw [XS (by omega) hn (by rw [LatI_end (by omega)] at*;omega) (Classical.not_not.1 ‹_›),qt.1,hh]⟩,fun hq=>absurd trivial hq,by rw [YR trivial];exact hS.pk [0,1,2,3,4,5,6,7,8,9,10]⟩
       ·
        replace hS:=Sat.unbundle (l1:= [_,_,_,_,_,_]) (l3:= []) hS
        refine hd1 6 ?_
        refine hov xpf ?_
        refine hd1 7 ?_
        refine hov xas ?_
        refine hd0<|htn<|hrt<|ztr<|zf1 ⟨_,rfl,?_⟩
        exact⟨False,s,ty1,a,(Zz not_false).symm,fun hq=>hq.elim,fun _=>qX,by rw [Wg not_false];exact hS.pk [0,1,2,3,4,5,6,7,8,9,10]⟩
    refine hsk<|htn<|hsq<|hrz ?_
    refine(zP)<|zln<|zh<|htn<|hsq<|hsq<|hrz ?_
    refine(zP)<|(zV (xlb 2 pl_3 hS))<|(zP)<|zln<|zh<|htn ?_
    refine YO ?_ ?_<;>intro hc
    ·
     refine hrz ?_
     refine(zP)<|zln<|zh<|htn<|hsq<|hsq ?_
     refine hdst [0,1,2,3,4,5,6,7,8,9,10] [0,1,2,3,4,5,6,7,8,9,10] 1000 mx_ hS ?_;clear hS;intro w hS
     refine(zDw 0 (xfb 1 fd_32_1))<|(zDl 1 (fun w hS=>(xlb 1 pl_22 hS)))<|(zDw 2 xmv)<|(zDw 3 (xix (kk:=i) Zb h.D.slh))<|Yz 4 (fun w hS=>(xlr (u:= .int .i64 (p.D i)) pl_3 (h.D.below hS.below))) ?_
     have hbv:=h.iD i
     have hei:=hp.all i h0 (by omega);unfold Prob.each at hei
     have hqd:=YD (a:=l) (b:=p.L i+p.kerf) (by omega) (by omega)
     have hml:min (p.D i) (Int.tdiv l (p.L i+p.kerf))=most p i l:=rfl
     refine(zDw 5 xmv)<|(zDl 6 (fun w hS=>(xls 1 st_32 hS)))<|(zDw 7 xmv)<|zdc 8 (xc0 Xv) (Xw (p:=p) (i:=i) w (h.below hS.below) hp (by omega) (by omega)) ?_;rintro _ w ⟨rfl,hS'⟩
     replace hS:=hS.cmp hS';clear hS'
     refine⟨⟨fun _=>hS,hS⟩,?_⟩
     refine(zDw 9 (Um (r:=(Int.tdiv l (p.L i+p.kerf)))))<|(zDw 10 (UC (r:=(min (p.D i) (Int.tdiv l (p.L i+p.kerf))))))<|(zDw 11 xas)<|zdd<|zh<|htn<|hbk ?_
     have hlw:least wi i=1:=by unfold least;first|rw [if_pos (by omega)]|rw [if_neg (by omega)]
     rw [<-Ve (show a i=0 from hx.zero i (by omega))] at hS
     refine hlp (fun mm M w=>∃(s2:St) (z:Int) (k:Int),mm=((k+1-least wi i).toNat)/\(least wi i-1<=k\/k=most p i l)/\(k<=most p i l)/\(Inv s2)/\(MX p wi=qc s2++(dn (kid p wi i a l) (least wi i) (k+1-least wi i).toNat++post))/\M= [(0,.int .i64 i),(1,.int .i64 l),(2,.int .i64 need),(5,.pointer (some ⟨ga,0,none⟩)),(8,.pointer (some ⟨g2,0,none⟩)),(9,.pointer (some ⟨gv,0,none⟩)),(15,.int .i64 1),(16,.int .i64 k)]/\Sat w0 w [.sem (C s2),.blk g2 [vL,vD,.int .i64 p.stock,.int .i64 p.kerf],.blk g3 [.int .i64 wi],.blk g5 [.int .i64 p.m],.blk g6 [vl],.own vl 1 3 (p.m+1) (ints (Xi p)),.blk ga [va],.own va 1 3 p.m (ints (upd a i z)),.blk gy [.func (.yield lq) #[] #[]],.blk gv [.func (.func 150) #[] #[.pointer (some ⟨g6,0,none⟩),.pointer (some ⟨g5,0,none⟩),.pointer (some ⟨ga,0,none⟩),.pointer (some ⟨gy,0,none⟩),.pointer (some ⟨g3,0,none⟩),.pointer (some ⟨g2,0,none⟩),.pointer (some ⟨gv,0,none⟩)]],.sem F]) ⟨s,0,(min (p.D i) (Int.tdiv l (p.L i+p.kerf))),rfl,(by omega),(by omega),?_,?_,rfl,hS⟩ ?_
     ·
      exact hI
     ·
      rw [hM,XT h0 (by omega),hh];rfl
     clear hS w
     rintro mm M w ⟨s2,z,k,rfl,k0,k1,hI2,hM2,rfl,hS⟩
     refine hsq<|hsq<|hrz ?_
     refine(zP)<|(zP)<|(zP)<|zln<|zh<|htn ?_
     refine YO ?_ ?_<;>intro hc
     ·
      refine hsk<|htn<|hsq<|hbk<|hsq<|hrz ?_
      refine(zP)<|(zP)<|zln<|zh<|htn<|hsq<|hsq<|hrz ?_
      refine(zP)<|(zV (xfb 1 fd_32_1))<|(zV (xlb 1 pl_22 hS))<|(zP)<|(zV (xix (kk:=i) Zb h.D.slh))<|zlv (xlr (u:= .int .i64 (p.D i)) pl_3 (h.D.below hS.below)) ?_
      have hbv:=h.iD i
      refine(zP)<|zln<|zh<|htn ?_
      refine YO ?_ ?_<;>intro hc
      ·
       refine hrz ?_
       refine(zP)<|(zV (xls 1 st_32 hS))<|(zP)<|zlc (xc0 Xv) (Xw (p:=p) (i:=i) w (h.below hS.below) hp (by omega) (by omega)) ?_;rintro _ w ⟨rfl,hS'⟩
       replace hS:=hS.cmp hS';clear hS'
       refine(zV (UC (r:=(min need (p.L i+p.kerf)))))<|(zP)<|zln<|zh<|htn<|hsq<|hrz ?_
       refine(zV (xlb 6 pl_22 hS))<|(zP)<|(zP)<|(zV (xix (kk:=i) Zb hva))<|zle (xso 7 pl_3 hS (Xj a i z k)) ?_;clear hS;rintro w hS
       refine zln<|zh<|htn<|hsq ?_
       refine hdst [1,2,3,4,6,8,9,5] [1,2,3,4,6,8,9,5] 1000 mx_ hS ?_;clear hS;intro w hS
       refine(zDl 0 (fun w hS=>(xlb 6 VR hS)))<|(zDw 1 xmv)<|(zDw 2 (Zg (r:=i+1)))<|(zDw 3 xmv)<|(zDw 4 xmv)<|Yz 5 (fun w hS=>(xls 0 st_32 hS)) ?_
       have hmm:=Xq hp h0 (by omega) hx.l0 (k:=k) (by omega) (by omega)
       refine(zDw 6 xmv)<|(zDw 10 xmv)<|zdc 7 (xc0 Xv) (Xw (p:=p) (i:=i) w (h.below hS.below) hp (by omega) (by omega)) ?_;rintro _ w ⟨rfl,hS'⟩
       replace hS:=hS.cmp hS';clear hS'
       refine⟨⟨fun _=>hS.pk [1,2,3,4,6,8,9,5],hS.pk [1,2,3,4,6,8,9,5]⟩,?_⟩
       refine(zDw 8 (Yd (r:=(k*(p.L i+p.kerf))) (e:=rfl)))<|(zDw 9 (Zp (r:=l-(k*(p.L i+p.kerf)))))<|zdc 11 (xcc (vs:= [_,_,_]) U8) (ih (s:=s2) (i:=i+1) (a:=upd a i k) (l:=l-k*(p.L i+p.kerf)) (need:=(min need (p.L i+p.kerf))) (pre:=qc s2) (post:=dn (kid p wi i a l) (least wi i) (k-least wi i).toNat++post) w0 w (Sat.bundle (l1:= [_,_,_,_,_,_,_,_,_,_]) (hS.pk [0,1,2,3,4,5,6,7,8,9,10])) h hva (by omega) (by omega) (hx.step hp h0 (by omega) (by omega) (by omega)) (hn.yes h0 (by omega)) hI2 rfl (by rw [hM2,Uj (k:=k) _ (by omega),List.append_assoc];rfl) hY (by omega)) ?_;rintro _ w ⟨qO,sz1,tz1,yR,rfl,yn,yz,hS⟩
       replace hS:=Sat.unbundle (l1:= [_,_,_,_,_,_,_,_,_,_]) (l3:= []) hS
       refine⟨⟨fun _=>hS.pk [1,2,3,4,6,8,9,5],hS.pk [1,2,3,4,6,8,9,5]⟩,?_⟩
       refine(zDw 12 YA)<|zdd<|zh<|htn ?_
       refine YO ?_ ?_<;>intro hc
       ·
        refine hsq<|hrz ?_
        refine(zP)<|zln<|zh<|htn<|hrt<|zbr<|ztr<|ztr<|zbr<|ztr<|zf1 ⟨_,rfl,?_⟩
        have yb:=Classical.not_not.1 (fun hh9=>hh9 ‹¬qO›)
        exact⟨False,s,tz1,yR,(Zz not_false).symm,fun hq=>hq.elim,fun _=>yz yb,by rw [Wg not_false];rw [Wg yb] at hS;exact hS.pk [0,1,2,3,4,5,6,7,8,9,10]⟩
       refine hsk<|zbn<|htn<|hrz ?_
       refine zlv xmv ?_
       obtain⟨rfl,xb,zb⟩:=yn (Classical.not_not.1 ‹¬¬qO›)
       rw [YR (Classical.not_not.1 ‹¬¬qO›)] at hS
       refine(zV (Zp (r:=k-1)))<|(zP)<|zln<|zh<|hlq ⟨sz1,k,k-1,rfl,(by omega),(by omega),?_,?_,rfl,hS⟩
       ·
        exact xb
       ·
        rw [zb,hM2,Uj (k:=k) _ (by omega),show k-1+1-least wi i=k-least wi i by omega,List.append_assoc,List.append_assoc];rfl
      refine hsk<|htn<|hsq<|hrz ?_
      refine(zV (xlb 6 pl_22 hS))<|(zP)<|(zP)<|(zV (xix (kk:=i) Zb hva))<|zle (xso 7 pl_3 hS (Xj a i z k)) ?_;clear hS;rintro w hS
      refine zln<|zh<|htn<|hsq ?_
      refine hdst [1,2,3,4,6,8,9,5] [1,2,3,4,6,8,9,5] 1000 mx_ hS ?_;clear hS;intro w hS
      refine(zDl 0 (fun w hS=>(xlb 6 VR hS)))<|(zDw 1 xmv)<|(zDw 2 (Zg (r:=i+1)))<|(zDw 3 xmv)<|(zDw 4 xmv)<|Yz 5 (fun w hS=>(xls 0 st_32 hS)) ?_
      have hmm:=Xq hp h0 (by omega) hx.l0 (k:=k) (by omega) (by omega)
      refine(zDw 6 xmv)<|(zDw 10 xmv)<|zdc 7 (xc0 Xv) (Xw (p:=p) (i:=i) w (h.below hS.below) hp (by omega) (by omega)) ?_;rintro _ w ⟨rfl,hS'⟩
      replace hS:=hS.cmp hS';clear hS'
      refine⟨⟨fun _=>hS.pk [1,2,3,4,6,8,9,5],hS.pk [1,2,3,4,6,8,9,5]⟩,?_⟩
      refine(zDw 8 (Yd (r:=(k*(p.L i+p.kerf))) (e:=rfl)))<|(zDw 9 (Zp (r:=l-(k*(p.L i+p.kerf)))))<|zdc 11 (xcc (vs:= [_,_,_]) U8) (ih (s:=s2) (i:=i+1) (a:=upd a i k) (l:=l-k*(p.L i+p.kerf)) (need:=need) (pre:=qc s2) (post:=dn (kid p wi i a l) (least wi i) (k-least wi i).toNat++post) w0 w (Sat.bundle (l1:= [_,_,_,_,_,_,_,_,_,_]) (hS.pk [0,1,2,3,4,5,6,7,8,9,10])) h hva (by omega) (by omega) (hx.step hp h0 (by omega) (by omega) (by omega)) (hn.no h0 (by omega)) hI2 rfl (by rw [hM2,Uj (k:=k) _ (by omega),List.append_assoc];rfl) hY (by omega)) ?_;rintro _ w ⟨qO,sz1,tz1,yR,rfl,yn,yz,hS⟩
      replace hS:=Sat.unbundle (l1:= [_,_,_,_,_,_,_,_,_,_]) (l3:= []) hS
      refine⟨⟨fun _=>hS.pk [1,2,3,4,6,8,9,5],hS.pk [1,2,3,4,6,8,9,5]⟩,?_⟩
      refine(zDw 12 YA)<|zdd<|zh<|htn ?_
      refine YO ?_ ?_<;>intro hc
      ·
       refine hsq<|hrz ?_
       refine(zP)<|zln<|zh<|htn<|hrt<|zbr<|ztr<|ztr<|zbr<|ztr<|zf1 ⟨_,rfl,?_⟩
       have yb:=Classical.not_not.1 (fun hh9=>hh9 ‹¬qO›)
       exact⟨False,s,tz1,yR,(Zz not_false).symm,fun hq=>hq.elim,fun _=>yz yb,by rw [Wg not_false];rw [Wg yb] at hS;exact hS.pk [0,1,2,3,4,5,6,7,8,9,10]⟩
      refine hsk<|zbn<|htn<|hrz ?_
      refine zlv xmv ?_
      obtain⟨rfl,xb,zb⟩:=yn (Classical.not_not.1 ‹¬¬qO›)
      rw [YR (Classical.not_not.1 ‹¬¬qO›)] at hS
      refine(zV (Zp (r:=k-1)))<|(zP)<|zln<|zh<|hlq ⟨sz1,k,k-1,rfl,(by omega),(by omega),?_,?_,rfl,hS⟩
      ·
       exact xb
      ·
       rw [zb,hM2,Uj (k:=k) _ (by omega),show k-1+1-least wi i=k-least wi i by omega,List.append_assoc,List.append_assoc];rfl
     refine hxt<|ztx<|ztx<|zbh<|htn<|hsq<|hrz ?_
     refine(zV (xlb 6 pl_22 hS))<|(zP)<|(zV (xix (kk:=i) Zb hva))<|zle (xso 7 pl_3 hS (Xj a i z 0)) ?_;clear hS;rintro w hS
     refine zln<|zh<|htn<|hsq<|hrz ?_
     refine(zP)<|zln<|zh<|htn<|hrt<|zf1 ⟨_,rfl,?_⟩
     rw [Ve (show a i=0 from hx.zero i (by omega))] at hS
     have hk9:k+1-least wi i=0:=by omega
     rw [show(k+1-least wi i).toNat=0 by omega] at hM2
     exact⟨True,s2,t0,a,(ZQ trivial).symm,fun _=>⟨rfl,hI2,List.append_cancel_right (by rw [<-hM2,hM,List.append_assoc];rfl)⟩,fun hq=>absurd trivial hq,by rw [YR trivial];exact hS.pk [0,1,2,3,4,5,6,7,8,9,10]⟩
    refine hsk<|htn<|hsq<|hsq ?_
    refine hdst [0,1,2,3,4,5,6,7,8,9,10] [0,1,2,3,4,5,6,7,8,9,10] 1000 mx_ hS ?_;clear hS;intro w hS
    refine(zDw 0 (xfb 1 fd_32_1))<|(zDl 1 (fun w hS=>(xlb 1 pl_22 hS)))<|(zDw 2 xmv)<|(zDw 3 (xix (kk:=i) Zb h.D.slh))<|Yz 4 (fun w hS=>(xlr (u:= .int .i64 (p.D i)) pl_3 (h.D.below hS.below))) ?_
    have hbv:=h.iD i
    have hei:=hp.all i h0 (by omega);unfold Prob.each at hei
    have hqd:=YD (a:=l) (b:=p.L i+p.kerf) (by omega) (by omega)
    have hml:min (p.D i) (Int.tdiv l (p.L i+p.kerf))=most p i l:=rfl
    refine(zDw 5 xmv)<|(zDl 6 (fun w hS=>(xls 1 st_32 hS)))<|(zDw 7 xmv)<|zdc 8 (xc0 Xv) (Xw (p:=p) (i:=i) w (h.below hS.below) hp (by omega) (by omega)) ?_;rintro _ w ⟨rfl,hS'⟩
    replace hS:=hS.cmp hS';clear hS'
    refine⟨⟨fun _=>hS,hS⟩,?_⟩
    refine(zDw 9 (Um (r:=(Int.tdiv l (p.L i+p.kerf)))))<|(zDw 10 (UC (r:=(min (p.D i) (Int.tdiv l (p.L i+p.kerf))))))<|(zDw 11 xas)<|zdd<|zh<|htn<|hbk ?_
    have hlw:least wi i=0:=by unfold least;first|rw [if_pos (by omega)]|rw [if_neg (by omega)]
    rw [<-Ve (show a i=0 from hx.zero i (by omega))] at hS
    refine hlp (fun mm M w=>∃(s2:St) (z:Int) (k:Int),mm=((k+1-least wi i).toNat)/\(least wi i-1<=k\/k=most p i l)/\(k<=most p i l)/\(Inv s2)/\(MX p wi=qc s2++(dn (kid p wi i a l) (least wi i) (k+1-least wi i).toNat++post))/\M= [(0,.int .i64 i),(1,.int .i64 l),(2,.int .i64 need),(5,.pointer (some ⟨ga,0,none⟩)),(8,.pointer (some ⟨g2,0,none⟩)),(9,.pointer (some ⟨gv,0,none⟩)),(15,.int .i64 0),(16,.int .i64 k)]/\Sat w0 w [.sem (C s2),.blk g2 [vL,vD,.int .i64 p.stock,.int .i64 p.kerf],.blk g3 [.int .i64 wi],.blk g5 [.int .i64 p.m],.blk g6 [vl],.own vl 1 3 (p.m+1) (ints (Xi p)),.blk ga [va],.own va 1 3 p.m (ints (upd a i z)),.blk gy [.func (.yield lq) #[] #[]],.blk gv [.func (.func 150) #[] #[.pointer (some ⟨g6,0,none⟩),.pointer (some ⟨g5,0,none⟩),.pointer (some ⟨ga,0,none⟩),.pointer (some ⟨gy,0,none⟩),.pointer (some ⟨g3,0,none⟩),.pointer (some ⟨g2,0,none⟩),.pointer (some ⟨gv,0,none⟩)]],.sem F]) ⟨s,0,(min (p.D i) (Int.tdiv l (p.L i+p.kerf))),rfl,(by omega),(by omega),?_,?_,rfl,hS⟩ ?_
    ·
     exact hI
    ·
     rw [hM,XT h0 (by omega),hh];rfl
    clear hS w
    rintro mm M w ⟨s2,z,k,rfl,k0,k1,hI2,hM2,rfl,hS⟩
    refine hsq<|hsq<|hrz ?_
    refine(zP)<|(zP)<|(zP)<|zln<|zh<|htn ?_
    refine YO ?_ ?_<;>intro hc
    ·
     refine hsk<|htn<|hsq<|hbk<|hsq<|hrz ?_
     refine(zP)<|(zP)<|zln<|zh<|htn<|hsq<|hsq<|hrz ?_
     refine(zP)<|(zV (xfb 1 fd_32_1))<|(zV (xlb 1 pl_22 hS))<|(zP)<|(zV (xix (kk:=i) Zb h.D.slh))<|zlv (xlr (u:= .int .i64 (p.D i)) pl_3 (h.D.below hS.below)) ?_
     have hbv:=h.iD i
     refine(zP)<|zln<|zh<|htn ?_
     refine YO ?_ ?_<;>intro hc
     ·
      refine hrz ?_
      refine(zP)<|(zV (xls 1 st_32 hS))<|(zP)<|zlc (xc0 Xv) (Xw (p:=p) (i:=i) w (h.below hS.below) hp (by omega) (by omega)) ?_;rintro _ w ⟨rfl,hS'⟩
      replace hS:=hS.cmp hS';clear hS'
      refine(zV (UC (r:=(min need (p.L i+p.kerf)))))<|(zP)<|zln<|zh<|htn<|hsq<|hrz ?_
      refine(zV (xlb 6 pl_22 hS))<|(zP)<|(zP)<|(zV (xix (kk:=i) Zb hva))<|zle (xso 7 pl_3 hS (Xj a i z k)) ?_;clear hS;rintro w hS
      refine zln<|zh<|htn<|hsq ?_
      refine hdst [1,2,3,4,6,8,9,5] [1,2,3,4,6,8,9,5] 1000 mx_ hS ?_;clear hS;intro w hS
      refine(zDl 0 (fun w hS=>(xlb 6 VR hS)))<|(zDw 1 xmv)<|(zDw 2 (Zg (r:=i+1)))<|(zDw 3 xmv)<|(zDw 4 xmv)<|Yz 5 (fun w hS=>(xls 0 st_32 hS)) ?_
      have hmm:=Xq hp h0 (by omega) hx.l0 (k:=k) (by omega) (by omega)
      refine(zDw 6 xmv)<|(zDw 10 xmv)<|zdc 7 (xc0 Xv) (Xw (p:=p) (i:=i) w (h.below hS.below) hp (by omega) (by omega)) ?_;rintro _ w ⟨rfl,hS'⟩
      replace hS:=hS.cmp hS';clear hS'
      refine⟨⟨fun _=>hS.pk [1,2,3,4,6,8,9,5],hS.pk [1,2,3,4,6,8,9,5]⟩,?_⟩
      refine(zDw 8 (Yd (r:=(k*(p.L i+p.kerf))) (e:=rfl)))<|(zDw 9 (Zp (r:=l-(k*(p.L i+p.kerf)))))<|zdc 11 (xcc (vs:= [_,_,_]) U8) (ih (s:=s2) (i:=i+1) (a:=upd a i k) (l:=l-k*(p.L i+p.kerf)) (need:=(min need (p.L i+p.kerf))) (pre:=qc s2) (post:=dn (kid p wi i a l) (least wi i) (k-least wi i).toNat++post) w0 w (Sat.bundle (l1:= [_,_,_,_,_,_,_,_,_,_]) (hS.pk [0,1,2,3,4,5,6,7,8,9,10])) h hva (by omega) (by omega) (hx.step hp h0 (by omega) (by omega) (by omega)) (hn.yes h0 (by omega)) hI2 rfl (by rw [hM2,Uj (k:=k) _ (by omega),List.append_assoc];rfl) hY (by omega)) ?_;rintro _ w ⟨qO,sz1,tz1,yR,rfl,yn,yz,hS⟩
      replace hS:=Sat.unbundle (l1:= [_,_,_,_,_,_,_,_,_,_]) (l3:= []) hS
      refine⟨⟨fun _=>hS.pk [1,2,3,4,6,8,9,5],hS.pk [1,2,3,4,6,8,9,5]⟩,?_⟩
      refine(zDw 12 YA)<|zdd<|zh<|htn ?_
      refine YO ?_ ?_<;>intro hc
      ·
       refine hsq<|hrz ?_
       refine(zP)<|zln<|zh<|htn<|hrt<|zbr<|ztr<|ztr<|zbr<|ztr<|zf1 ⟨_,rfl,?_⟩
       have yb:=Classical.not_not.1 (fun hh9=>hh9 ‹¬qO›)
       exact⟨False,s,tz1,yR,(Zz not_false).symm,fun hq=>hq.elim,fun _=>yz yb,by rw [Wg not_false];rw [Wg yb] at hS;exact hS.pk [0,1,2,3,4,5,6,7,8,9,10]⟩
      refine hsk<|zbn<|htn<|hrz ?_
      refine zlv xmv ?_
      obtain⟨rfl,xb,zb⟩:=yn (Classical.not_not.1 ‹¬¬qO›)
      rw [YR (Classical.not_not.1 ‹¬¬qO›)] at hS
      refine(zV (Zp (r:=k-1)))<|(zP)<|zln<|zh<|hlq ⟨sz1,k,k-1,rfl,(by omega),(by omega),?_,?_,rfl,hS⟩
      ·
       exact xb
      ·
       rw [zb,hM2,Uj (k:=k) _ (by omega),show k-1+1-least wi i=k-least wi i by omega,List.append_assoc,List.append_assoc];rfl
     refine hsk<|htn<|hsq<|hrz ?_
     refine(zV (xlb 6 pl_22 hS))<|(zP)<|(zP)<|(zV (xix (kk:=i) Zb hva))<|zle (xso 7 pl_3 hS (Xj a i z k)) ?_;clear hS;rintro w hS
     refine zln<|zh<|htn<|hsq ?_
     refine hdst [1,2,3,4,6,8,9,5] [1,2,3,4,6,8,9,5] 1000 mx_ hS ?_;clear hS;intro w hS
     refine(zDl 0 (fun w hS=>(xlb 6 VR hS)))<|(zDw 1 xmv)<|(zDw 2 (Zg (r:=i+1)))<|(zDw 3 xmv)<|(zDw 4 xmv)<|Yz 5 (fun w hS=>(xls 0 st_32 hS)) ?_
     have hmm:=Xq hp h0 (by omega) hx.l0 (k:=k) (by omega) (by omega)
     refine(zDw 6 xmv)<|(zDw 10 xmv)<|zdc 7 (xc0 Xv) (Xw (p:=p) (i:=i) w (h.below hS.below) hp (by omega) (by omega)) ?_;rintro _ w ⟨rfl,hS'⟩
     replace hS:=hS.cmp hS';clear hS'
     refine⟨⟨fun _=>hS.pk [1,2,3,4,6,8,9,5],hS.pk [1,2,3,4,6,8,9,5]⟩,?_⟩
     refine(zDw 8 (Yd (r:=(k*(p.L i+p.kerf))) (e:=rfl)))<|(zDw 9 (Zp (r:=l-(k*(p.L i+p.kerf)))))<|zdc 11 (xcc (vs:= [_,_,_]) U8) (ih (s:=s2) (i:=i+1) (a:=upd a i k) (l:=l-k*(p.L i+p.kerf)) (need:=need) (pre:=qc s2) (post:=dn (kid p wi i a l) (least wi i) (k-least wi i).toNat++post) w0 w (Sat.bundle (l1:= [_,_,_,_,_,_,_,_,_,_]) (hS.pk [0,1,2,3,4,5,6,7,8,9,10])) h hva (by omega) (by omega) (hx.step hp h0 (by omega) (by omega) (by omega)) (hn.no h0 (by omega)) hI2 rfl (by rw [hM2,Uj (k:=k) _ (by omega),List.append_assoc];rfl) hY (by omega)) ?_;rintro _ w ⟨qO,sz1,tz1,yR,rfl,yn,yz,hS⟩
     replace hS:=Sat.unbundle (l1:= [_,_,_,_,_,_,_,_,_,_]) (l3:= []) hS
     refine⟨⟨fun _=>hS.pk [1,2,3,4,6,8,9,5],hS.pk [1,2,3,4,6,8,9,5]⟩,?_⟩
     refine(zDw 12 YA)<|zdd<|zh<|htn ?_
     refine YO ?_ ?_<;>intro hc
     ·
      refine hsq<|hrz ?_
      refine(zP)<|zln<|zh<|htn<|hrt<|zbr<|ztr<|ztr<|zbr<|ztr<|zf1 ⟨_,rfl,?_⟩
      have yb:=Classical.not_not.1 (fun hh9=>hh9 ‹¬qO›)
      exact⟨False,s,tz1,yR,(Zz not_false).symm,fun hq=>hq.elim,fun _=>yz yb,by rw [Wg not_false];rw [Wg yb] at hS;exact hS.pk [0,1,2,3,4,5,6,7,8,9,10]⟩
     refine hsk<|zbn<|htn<|hrz ?_
     refine zlv xmv ?_
     obtain⟨rfl,xb,zb⟩:=yn (Classical.not_not.1 ‹¬¬qO›)
     rw [YR (Classical.not_not.1 ‹¬¬qO›)] at hS
     refine(zV (Zp (r:=k-1)))<|(zP)<|zln<|zh<|hlq ⟨sz1,k,k-1,rfl,(by omega),(by omega),?_,?_,rfl,hS⟩
     ·
      exact xb
     ·
      rw [zb,hM2,Uj (k:=k) _ (by omega),show k-1+1-least wi i=k-least wi i by omega,List.append_assoc,List.append_assoc];rfl
    refine hxt<|ztx<|ztx<|zbh<|htn<|hsq<|hrz ?_
    refine(zV (xlb 6 pl_22 hS))<|(zP)<|(zV (xix (kk:=i) Zb hva))<|zle (xso 7 pl_3 hS (Xj a i z 0)) ?_;clear hS;rintro w hS
    refine zln<|zh<|htn<|hsq<|hrz ?_
    refine(zP)<|zln<|zh<|htn<|hrt<|zf1 ⟨_,rfl,?_⟩
    rw [Ve (show a i=0 from hx.zero i (by omega))] at hS
    have hk9:k+1-least wi i=0:=by omega
    rw [show(k+1-least wi i).toNat=0 by omega] at hM2
    exact⟨True,s2,t0,a,(ZQ trivial).symm,fun _=>⟨rfl,hI2,List.append_cancel_right (by rw [<-hM2,hM,List.append_assoc];rfl)⟩,fun hq=>absurd trivial hq,by rw [YR trivial];exact hS.pk [0,1,2,3,4,5,6,7,8,9,10]⟩
end Go.Proofs.YtkichmnjjblodaaGreat
namespace Go.Proofs.YtkichmnjjblodaaGreat
open Go Go.RowKit Go.Proofs.Gw
theorem ZiT:ZV Tryz.prog 209=some (.nilFunc,1,8):=by kernel_rfl
theorem Zkw{vL vD:Value}{p:Prob}{wi:Int}{St Tt:Type}(qc:St->List (Int->Int))(Inv:St->Prop)(Stp:Tt->Prop)(t0:Tt)(s0:St)(hs0:qc s0= [])(hI0:Inv s0){g2 g3 g5 g6:Nat}{vl:Value}(w0:World)(hvl:Slh vl (p.m+1))(hp:p.Ok)(h:PAt w0 vL vD p):ItG (St:=St) (X:=BX) (Tt:=Tt) Tryz.prog w0 149 [.pointer (some ⟨g5,0,none⟩),.pointer (some ⟨g6,0,none⟩),.pointer (some ⟨g3,0,none⟩),.pointer (some ⟨g2,0,none⟩)] [.blk g2 [vL,vD,.int .i64 p.stock,.int .i64 p.kerf],.blk g3 [.int .i64 wi],.blk g5 [.int .i64 p.m],.blk g6 [vl],.own vl 1 3 (p.m+1) (ints (Xi p))] (fun x=> [x.v]) (fun x=> [.own x.v 1 3 x.n (ints x.f)]) (fun(s:St) (x:BX) (rest:Gw.Frame)=>Inv s/\Slh x.v x.n/\x.n=p.m/\∃r,MX p wi=qc s++x.f::r) (fun(s:St) (x:BX) (s1:St)=>qc s1=qc s++ [x.f]/\Inv s1) (fun _ _ t=>Stp t) (s0) (fun s rest=>Inv s/\qc s=MX p wi) (fun t _=>Stp t):=by
  intro l C D w hS hY
  have hm:=h.L.slh.n0;have hm1:=h.L.slh.n1;have hdn:=h.D.slh.n0;have fJ:=h.D.slh.n1;have hs:=h.is;have hk:=h.ik
  have hpm:=hp.m1;have qH:=hp.m2;have hpd:=hp.d;have hs1:=hp.s1;have hs2:=hp.s2;have hk1:=hp.k1;have hk2:=hp.k2
  refine Zee Tryz.func149 Tryz.ntmps149 ?_
  refine hsq<|hrz ?_
  refine zla (xbx (cs:= [_]) hS) ?_;rintro _ w ⟨g7,rfl,hS⟩
  replace hS:=hS.n7
  refine zln<|zh<|htn<|hsq<|hrz ?_
  refine zlv (xlb 3 pl_3 hS) ?_
  refine zla (xmk Zb ZB hS) ?_;rintro v1 w ⟨hS,hv1⟩
  replace hS:=hS.n8
  refine zla (xal (cs:= [_]) Yg hS) ?_;rintro _ w ⟨g8,rfl,hS⟩
  replace hS:=hS.n9
  refine zle (xsb 8 pl_22 hS (hv:=hv1.one)) ?_;clear hS;rintro w hS
  replace hS:=hS.n9
  refine zln<|zh<|htn<|hsq<|hrz ?_
  refine zla (xal (cs:= [_]) ZiT hS) ?_;rintro _ w ⟨g9,rfl,hS⟩
  replace hS:=hS.n10
  refine zln<|zh<|htn<|hsq<|hrz ?_
  refine zlv xmf ?_
  refine zle (xsb 9 VR hS) ?_;clear hS;rintro w hS
  replace hS:=hS.n10
  refine zln<|zh<|htn<|hrz ?_
  refine zlv (xlb 9 VR hS) ?_
  refine zlv (xfb 2 fd_32_2) ?_
  refine zlv (xlb 1 pl_3 hS) ?_
  refine zlv (xfb 3 fd_32_3) ?_
  refine zlv (xlb 1 pl_3 hS) ?_
  refine zlv (Zg (r:=p.stock+p.kerf)) ?_
  refine zlv (xfb 2 fd_32_2) ?_
  refine zlv (xlb 1 pl_3 hS) ?_
  refine zlv (xfb 3 fd_32_3) ?_
  refine zlv (xlb 1 pl_3 hS) ?_
  refine zlv (Zg (r:=p.stock+p.kerf)) ?_
  refine zlv (Zg (r:=p.stock+p.kerf+1)) ?_
  refine zlc (xcc (vs:= [_,_,_]) U8) (Zg3 hp qc Inv Stp t0 hvl _ (s:=s0) (i:=0) (a:=fun _=>0) (l:=p.stock+p.kerf) (need:=p.stock+p.kerf+1) (pre:= []) (post:= []) w0 w (Sat.bundle (l1:= [_,_,_,_,_,_,_,_,_,_]) (l2:= []) (hS.pk [0,1,2,3,4,5,8,7,6,9])) h hv1 (by omega) (by omega) (Pfx.start hp) (NeedP.start p) hI0 hs0 (by rw [List.nil_append,List.append_nil];rfl) hY (Nat.lt_succ_self _)) ?_;rintro _ w ⟨qO,sz1,tz1,yR,rfl,yn,yz,hS⟩
  replace hS:=Sat.unbundle (l1:= [_,_,_,_,_,_,_,_,_,_]) (l3:= []) hS
  replace hS:=hS.n10
  refine zln<|zh<|Xn ⟨_,rfl,?_⟩
  by_cases hok:qO
  · obtain⟨_,hi,hh⟩:=yn hok
    rw [YR hok] at hS
    exact .inl ⟨sz1,_,⟨hi,by rw [hh,List.nil_append];rfl⟩,Sat.bundle (l1:= [_,_,_,_,_,_]) hS⟩
  · rw [Wg hok] at hS
    exact .inr ⟨tz1,_,yz hok,Sat.bundle (l1:= [_,_,_,_,_,_]) hS⟩
end Go.Proofs.YtkichmnjjblodaaGreat
namespace Go.Proofs.YtkichmnjjblodaaGreat
open Go Go.RowKit Go.Proofs.Gw
theorem Zkf:Zc Tryz.prog 114=true:=by kernel_rfl
theorem Zj0:Zc Tryz.prog 149=true:=by kernel_rfl
theorem Zlr:ZV Tryz.prog 49=some (.int .i64 0,1,8):=by kernel_rfl
structure WSt where
  v:Value
  n:Int
  vv:Int->Value
  f:Int->Int->Int
  l:List (Int->Int)
def Zmu(p:Prob)(s:WSt):Prop:=Slh s.v s.n/\Ls p.m s.n s.f s.l/\s.n<=300
def Zk3(p:Prob)(wi u:Int)(f:Int->Int->Int)(e:Int):Prop:=(300<(MX p wi).length/\e=9/\u=0)\/((MX p wi).length<=300/\e=0/\Ls p.m u f (MX p wi))
theorem Zfk{vL vD:Value}{p:Prob}{wi:Int}(w0:World)(h:PAt w0 vL vD p)(hp:p.Ok):
    Calls Tryz.prog 77 [.agg #[vL,vD,.int .i64 p.stock,.int .i64 p.kerf],.int .i64 wi].toArray w0 fun e w=>∃v,e= .returned v/\∃r u vv f e,v= .tuple #[r,.int .i64 e]/\Zk3 p wi u f e/\Slh r u/\Sat w0 w [.own r 1 22 u vv,.sem (Frame.rows 3 u vv (fun _=>p.m) f)]:=by
  have hm:=h.L.slh.n0;have hm1:=h.L.slh.n1;have hd:=h.D.slh.n0;have hd1:=h.D.slh.n1;have hs:=h.is;have hk:=h.ik
  have hpm:=hp.m1;have qH:=hp.m2;have hpd:=hp.d;have hs1:=hp.s1;have hs2:=hp.s2;have hk1:=hp.k1;have hk2:=hp.k2
  refine ZgC Tryz.func77 Tryz.ntmps77 fun w hS=> ?_
  refine hsq<|hrz ?_
  refine zla (xbx (cs:= [_,_,_,_]) hS) ?_;rintro _ w ⟨g1,rfl,hS⟩
  refine zla (xal (cs:= [_]) ZeA hS) ?_;rintro _ w ⟨g2,rfl,hS⟩
  refine zla (xal (cs:= [_]) Zlr hS) ?_;rintro _ w ⟨g3,rfl,hS⟩
  refine zln<|zh<|htn<|hsq<|hrz ?_
  refine zla (xal (cs:= [_]) ZeA hS) ?_;rintro _ w ⟨g4,rfl,hS⟩
  refine zln<|zh<|htn<|hsq<|hsq<|hrz ?_
  refine(zV (xls 0 st_32 hS))<|(zP)<|zlc (xc0 Zkf) (Zdn (p:=p) (wi:=wi) w (h.below hS.below) hp) ?_;rintro _ w ⟨g5,g6,g7,g8,vl1,rfl,eW,hS'⟩
  replace hS:=(hS.comp hS').n9;clear hS'
  refine zln<|zh<|htn<|hbk ?_
  replace hS:=hS.addnil 1 22 (fun _=>Value.slice none 0 0)
  replace hS:=hS.addrows 3 (fun _=>Value.slice none 0 0) (fun _=>p.m) (fun _ _=>0)
  refine Zlh (St:=WSt) (X:=BX) (Tt:=Unit) (fun s=> [.blk g1 [vL,vD,.int .i64 p.stock,.int .i64 p.kerf],.blk g2 [.slice none 0 0],.blk g3 [.int .i64 0],.blk g4 [s.v],.own s.v 1 22 s.n s.vv,.sem (Frame.rows 3 s.n s.vv (fun _=>p.m) s.f)]) (fun t=> [.blk g2 [.slice none 0 0],.blk g3 [.int .i64 9]]) (fun _=> .ret) (⟨.slice none 0 0,0,fun _=> .slice none 0 0,fun _ _=>0, []⟩:WSt) (fun x M es=>M= [(0,.agg #[vL,vD,.int .i64 p.stock,.int .i64 p.kerf]),(1,.int .i64 wi),(2,.pointer (some ⟨g1,0,none⟩)),(4,.pointer (some ⟨g2,0,none⟩)),(5,.pointer (some ⟨g3,0,none⟩)),(6,.pointer (some ⟨g4,0,none⟩)),(8,.agg #[vL,vD,.int .i64 p.stock,.int .i64 p.kerf]),(9,.int .i64 wi),(10,.func (.func 149) #[] #[.pointer (some ⟨g7,0,none⟩),.pointer (some ⟨g8,0,none⟩),.pointer (some ⟨g6,0,none⟩),.pointer (some ⟨g5,0,none⟩)]),(11,x.v),(7,x.v)]/\es= [.own x.v 1 3 x.n (ints x.f)]) (Zkw (wi:=wi) (fun s=>s.l) (Zmu p) (fun(_:Unit)=>300<(MX p wi).length) () (⟨.slice none 0 0,0,fun _=> .slice none 0 0,fun _ _=>0, []⟩:WSt) rfl ⟨slh_nil,Ls.nil,by show(0:Int)<=300;omega⟩ w0 eW hp h) (hS.pk [0,1,2,3,9,10,4,5,6,7,8]) Zj0 (fun _=>rfl) (fun _=> .inl rfl) ?_ ?_ ?_ ?_
  ·
   intro lq s x rest w qq qE hrr hS
   refine hrz ?_
   refine(zP)<|zln<|zh<|Zef ⟨rfl,rfl⟩ hS
  ·
   rintro lq s x _ _ rest w qq ⟨rfl,rfl⟩ qE hrr hS
   obtain⟨⟨hlO,hls,hn3⟩,hxv,hxn,r9,hM9⟩:=qq
   have hrO:=fun k (k0:0<=k) (k1:k<s.n)=>hS.slhIn 5 rfl k0 k1
   have hsn:=hlO.n0
   have xo:=hls.1
   refine hbk<|hsq<|hsq<|hrz ?_
   refine(zV (xlb 3 ZL hS))<|(zV (xln Zk hlO))<|(zP)<|zln<|zh<|htn ?_
   refine YO ?_ ?_<;>intro hc
   ·
    refine hsq<|hrz ?_
    refine zle (xsb 1 ZL hS) ?_;clear hS;rintro w hS
    refine zle (xsb 2 pl_49 hS) ?_;clear hS;rintro w hS
    refine zln<|zh<|htn<|hrt<|ztr<|zbr<|Zed () (by show 300<(MX p wi).length;rw [hM9,List.length_append,List.length_cons];omega) rfl (hS.pk [1,2,6,7,8,9,10,11])
   refine hsk<|htn<|hrz ?_
   refine(zV (xlb 3 ZL hS))<|(zP)<|zla (xli (n:=1) (len:=1) (pv:= [(0,x.v)]) (cs:= [x.v]) (c:=(fun _=>x.v)) Zk Yg hS (hf:=by have hz:=hxv;revert hz;generalize x.v=z;rintro⟨_,_,_,_,rfl,_⟩;show _=_;kernel_rfl)) ?_;rintro v1 w ⟨hS,hv1⟩
   refine zla (xap 4 (r:=s.n+1) Zk Yg hS (hS.rowN 13 rfl) (Wd _ _ _) (h1:=fun _ _ _=>hxv.one)) ?_;rintro v2 w ⟨hS,hv2⟩
   replace hS:=Sat.merge (l1:= [_,_,_,_,_]) (l2:= [_,_,_,_,_,_]) (l3:= [_]) hS (by omega)
   have xf:=fun k (k0:0<=k) (k1:k<s.n+1)=>hS.slhIn 5 rfl k0 k1
   refine zle (xsb 3 ZL hS (hv:=hv2.one)) ?_;clear hS;rintro w hS
   refine zln<|zh<|zbn ?_
   replace hS:=hS.rerows (vv':=(gsn s.vv s.n x.v)) (ln':=fun _=>p.m) (f':=(gsn s.f s.n x.f)) 5 rfl (fun k k0 k1=>⟨rfl,by unfold gsn;split<;>(try dsimp only)<;>omega,fun _ _ _=>rfl⟩)
   refine Zbb ⟨v2,s.n+1,gsn s.vv s.n x.v,gsn s.f s.n x.f,s.l++ [x.f]⟩ ⟨rfl,hv2,hls.snoc fun _ _ _=>rfl,by show s.n+1<=300;omega⟩ (hS.pk [0,1,2,3,4,5,6,7,8,9,10,11])
  ·
   intro Dk s rest w qx hS
   obtain⟨⟨hlO,hls,hn3⟩,hh9⟩:=qx
   have hrO:=fun k (k0:0<=k) (k1:k<s.n)=>hS.slhIn 5 rfl k0 k1
   have hsn:=hlO.n0
   have xo:=hls.1
   refine zbn<|htn<|hsq<|hrz ?_
   refine(zV (xlb 3 ZL hS))<|zle (xsb 1 ZL hS (hv:=hlO.one)) ?_;clear hS;rintro w hS
   refine zle (xsb 2 pl_49 hS) ?_;clear hS;rintro w hS
   refine zln<|zh<|htn<|hrt<|Zbc 12 hS fun w hS=>Zk6 ZL pl_49 (hS.cellN 1 rfl rfl) (hS.cellN 2 rfl rfl) ⟨_,rfl,?_⟩
   exact⟨_,_,_,_,0,rfl,.inr ⟨by rw [<-hh9];omega,rfl,by rw [<-hh9];exact hls⟩,hlO,hS.pk [4,5]⟩
  ·
   intro Dk t rest w qx hS
   show Ge _ _ _ .ret _ _
   refine zbr<|ztr<|Zbc 8 hS fun w hS=>Zk6 ZL pl_49 (hS.cellN 0 rfl rfl) (hS.cellN 1 rfl rfl) ⟨_,rfl,?_⟩
   exact⟨_,0,_,_,_,rfl,.inl ⟨qx,rfl,rfl⟩,slh_nil,((hS.sub (.cons _ (.cons _ (.cons _ (.cons _ (.cons _ (.cons _ (.cons _ (.cons _ (.cons _ .slnil)))))))))).addnil 1 22 (fun _=>Value.slice none 0 0)).addrows 3 (fun _=>Value.slice none 0 0) (fun _=>p.m) (fun _ _=>0)⟩
end Go.Proofs.YtkichmnjjblodaaGreat
namespace Go.Proofs.YtkichmnjjblodaaGreat
open Go Go.RowKit Go.Proofs.Gw
theorem ZlB:Zc Tryz.prog 77=true:=by kernel_rfl
theorem Zhc{vL vD:Value}{p:Prob}{wi:Int}(w0:World)(h:PAt w0 vL vD p):
    Calls Tryz.prog 44 [.agg #[vL,vD,.int .i64 p.stock,.int .i64 p.kerf],.int .i64 wi].toArray w0 fun e w=>∃v,e= .returned v/\∃r u vv f e,v= .tuple #[r,.int .i64 e]/\Zmb p wi u f e/\Slh r u/\Sat w0 w [.own r 1 22 u vv,.sem (Frame.rows 3 u vv (fun _=>p.m) f)]:=by
  have hm:=h.L.slh.n0;have hm1:=h.L.slh.n1;have hd:=h.D.slh.n0;have hd1:=h.D.slh.n1;have hs:=h.is;have hk:=h.ik
  refine zenG Tryz.func44 Tryz.ntmps44 fun w hS=> ?_
  refine zsr<|zla (xbx (cs:= [_,_,_,_]) hS) ?_;rintro _ w ⟨g1,rfl,hS⟩
  refine(zP)<|(zP)<|zlt<|zsq<|zbk<|zsr<|(zV (xls 0 st_32 hS))<|zlc (xc0 Xu) (Z6 (p:=p) w (h.below hS.below)) ?_;rintro _ w ⟨rfl,hS'⟩
  replace hS:=hS.cmp hS';clear hS'
  refine(zP)<|(zP)<|zlt<|Zf ?_ ?_<;>intro hc
  ·
   refine zsr<|(zP)<|(zP)<|zlt<|zrt<|zbr<|ztr<|zf2 ⟨_,rfl,?_⟩
   exact⟨_,0,_,_,_,rfl,.inl ⟨‹¬p.Ok›,rfl,rfl⟩,slh_nil,((hS.sub (.cons _ .slnil)).addnil 1 22 (fun _=>Value.slice none 0 0)).addrows 3 (fun _=>Value.slice none 0 0) (fun _=>p.m) (fun _ _=>0)⟩
  refine zsr<|zs2 ?_
  have hp:p.Ok:=by first|assumption|exact Classical.not_not.1 ‹_›
  have hpm:=hp.m1;have qH:=hp.m2;have hpd:=hp.d;have hs1:=hp.s1;have hs2:=hp.s2;have hk1:=hp.k1;have hk2:=hp.k2
  refine(zP)<|zlb 13 ?_ ?_<;>intro hc
  ·
   iterate 5 refine zlo ?_
   refine(zP)<|(zP)<|zlt<|zct<|zsr ?_
   refine(zP)<|(zP)<|zlt<|zrt<|zbr<|ztr<|zf2 ⟨_,rfl,?_⟩
   exact⟨_,0,_,_,_,rfl,.inr (.inl ⟨hp,by omega,rfl,rfl⟩),slh_nil,((hS.sub (.cons _ .slnil)).addnil 1 22 (fun _=>Value.slice none 0 0)).addrows 3 (fun _=>Value.slice none 0 0) (fun _=>p.m) (fun _ _=>0)⟩
  refine(zP)<|(zV (xfb 0 fd_32_0))<|(zV (xlb 0 pl_22 hS))<|(zV (xln Zb h.L.slh))<|(zP)<|(zP)<|(zP)<|zlt<|Zf ?_ ?_<;>intro hc
  ·
   refine zsr<|(zP)<|(zP)<|zlt<|zrt<|zbr<|ztr<|zf2 ⟨_,rfl,?_⟩
   exact⟨_,0,_,_,_,rfl,.inr (.inl ⟨hp,by omega,rfl,rfl⟩),slh_nil,((hS.sub (.cons _ .slnil)).addnil 1 22 (fun _=>Value.slice none 0 0)).addrows 3 (fun _=>Value.slice none 0 0) (fun _=>p.m) (fun _ _=>0)⟩
  refine zsk<|zbn<|ztn<|zsr<|(zV (xls 0 st_32 hS))<|(zP)<|zlc (xc0 ZlB) (Zfk (p:=p) (wi:=wi) w (h.below hS.below) hp) ?_;rintro _ w ⟨bR,ux1,zB,fx1,ex1,rfl,yT,zD,hS'⟩
  replace hS:=(hS.comp hS').n3;clear hS'
  have dI:∀k,0<=k->k<ux1->Slh (zB k) p.m:=fun k k0 k1=>hS.slhIn 2 rfl k0 k1
  refine zs4 ?_
  refine zx1<|zf2 ⟨_,rfl,?_⟩
  exact⟨_,_,_,_,_,rfl,(by rcases yT with⟨h8,h9⟩|⟨h8,h9,h7⟩;exact .inr (.inr (.inl ⟨hp,by omega,h8,h9⟩));exact .inr (.inr (.inr ⟨hp,by omega,h8,h9,h7⟩))),zD,hS.pk [1,2]⟩
end Go.Proofs.YtkichmnjjblodaaGreat
namespace Go.Proofs.Gw
open Go Go.RowKit
variable {i j k:Int}
def pr2{α:Type}(x y:α):Int->α:=fun j=>if j=0 then x else y
def ZS(vv:Int->Value)(s k b:Int):Int->Value:=fun j=>if j%5=0 then vv (2*(j/5)) else if j%5=1 then vv (2*(j/5)+1) else if j%5=2 then .int .i64 s else if j%5=3 then .int .i64 k else .int .i64 b
theorem ZgH(vv:Int->Value)(s k b:Int)(h:j=5*i):ZS vv s k b j=vv (2*i):=by
  unfold ZS;rw [if_pos (by omega),show j/5=i by omega]
theorem ZgG(vv:Int->Value)(s k b:Int)(h:j=5*i+1):ZS vv s k b j=vv (2*i+1):=by
  unfold ZS;rw [if_neg (by omega),if_pos (by omega),show j/5=i by omega]
theorem ZgF(vv:Int->Value)(s k b:Int)(h:j=5*i+2):ZS vv s k b j= .int .i64 s:=by
  unfold ZS;rw [if_neg (by omega),if_neg (by omega),if_pos (by omega)]
theorem ZgE(vv:Int->Value)(s k b:Int)(h:j=5*i+3):ZS vv s k b j= .int .i64 k:=by
  unfold ZS;rw [if_neg (by omega),if_neg (by omega),if_neg (by omega),if_pos (by omega)]
theorem ZgD(vv:Int->Value)(s k b:Int)(h:j=5*i+4):ZS vv s k b j= .int .i64 b:=by
  unfold ZS;rw [if_neg (by omega),if_neg (by omega),if_neg (by omega),if_neg (by omega)]
theorem T3(vv:Int->Value)(s k b:Int){q:Int}(h:q=5*i):∀(j:Nat) u, [vv (2*i),vv (2*i+1),Value.int .i64 s,.int .i64 k,.int .i64 b][j]? =some u->ZS vv s k b (q+j)=u:=fun j u hu=>by
  rcases j with _|_|_|_|_|j
  · cases hu;exact ZgH vv s k b (by omega)
  · cases hu;exact ZgG vv s k b (by omega)
  · cases hu;exact ZgF vv s k b (i:=i) (by omega)
  · cases hu;exact ZgE vv s k b (i:=i) (by omega)
  · cases hu;exact ZgD vv s k b (i:=i) (by omega)
  · simp at hu
theorem Zbd{vv:Int->Value}{s b:Int}(h:∀i,(vv i).oneCell'=true)(j:Int):(ZS vv s k b j).oneCell'=true:=by
  unfold ZS
  split
  · exact h _
  · split
    · exact h _
    · split
      · rfl
      · split<;>rfl
theorem Zgi{x y:Value}(hx:x.oneCell'=true)(hy:y.oneCell'=true)(i:Int):(pr2 x y i).oneCell'=true:=by
  unfold pr2;split
  · exact hx
  · exact hy
theorem Zbt(vv:Int->Value)(s k b n:Int)(x y:Value):cat (n*5) (ZS vv s k b) (ZS (pr2 x y) s k b)=ZS (gsn (gsn vv (2*n) x) (2*n+1) y) s k b:=by
  funext j
  unfold cat ZS gsn pr2
  by_cases h:j<n*5
  · simp only [if_pos h]
    have h1:2*(j/5)<2*n:=by omega
    have h2:2*(j/5)+1<2*n:=by omega
    have h3:2*(j/5)<2*n+1:=by omega
    have h4:2*(j/5)+1<2*n+1:=by omega
    simp only [if_pos h1,if_pos h2,if_pos h3,if_pos h4]
  · simp only [if_neg h]
    have e1:(j-n*5)%5=j%5:=by omega
    have e2:(j-n*5)/5=j/5-n:=by omega
    rw [e1,e2]
    have h1:¬2*(j/5)<2*n:=by omega
    have h2:¬2*(j/5)+1<2*n+1:=by omega
    have h3:¬2*(j/5-n)+1=0:=by omega
    simp only [if_neg h1,if_neg h2,if_neg h3]
    by_cases h5:2*(j/5)<2*n+1
    · have h6:2*(j/5-n)=0:=by omega
      simp only [if_pos h5,if_pos h6]
    · have h6:¬2*(j/5-n)=0:=by omega
      simp only [if_neg h5,if_neg h6]
theorem Sat.rowsn{w w0:World}{l:List Ent}{E:TypeId}{n m:Int}{vv:Int->Value}{ln:Int->Int}{f:Int->Int->Int}(i:Nat)(h:Sat w0 w l)(hi:l[i]? =some (.sem (Frame.rows E n vv ln f)))(e:n=m):Sat w0 w (l.set i (.sem (Frame.rows E m vv ln f))):=by
  subst e
  rw [Yq hi,<-ZX hi];exact h
def gfn(p:Prob)(X:List (Int->Int)):Int->Int->Int:=fun k=>if k%2=0 then p.L else fun j=>p.D j-Yr X (k/2) j
theorem Zll(p:Prob)(X:List (Int->Int))(h:k=2*i):gfn p X k=p.L:=by unfold gfn;rw [if_pos (by omega)]
theorem Zir(p:Prob)(X:List (Int->Int))(h:k=2*i+1):gfn p X k=fun j=>p.D j-Yr X i j:=by unfold gfn;rw [if_neg (by omega),show k/2=i by omega]
theorem Zc5{p:Prob}(hd:p.d=p.m){X:List (Int->Int)}{x:Int->Int}(i0:0<=i)(hx:∀j,0<=j->j<p.m->x j=Yr X i j)(vv:Int->Value):∀k,0<=k->k<2*i+2->vv k=vv k/\gsn (gsn (fun _=>p.m) (2*i) p.m) (2*i+1) p.d k=(fun _=>p.m) k/\
    ∀j,0<=j->j<gsn (gsn (fun _=>p.m) (2*i) p.m) (2*i+1) p.d k->gsn (gsn (gfn p X) (2*i) p.L) (2*i+1) (fun j=>p.D j-x j) k j=gfn p X k j:=fun k k0 k1=>by
  refine⟨rfl,by unfold gsn;split<;>(try split)<;>first|rfl|exact hd,fun j j0 j1=> ?_⟩
  have hl:gsn (gsn (fun _=>p.m) (2*i) p.m) (2*i+1) p.d k=p.m:=by unfold gsn;split<;>(try split)<;>first|rfl|exact hd
  rw [hl] at j1
  by_cases e1:k<2*i
  · rw [Zv (by omega),Zv e1]
  · by_cases e2:k<2*i+1
    · rw [Zv e2,ZG e1,Zll p X (i:=i) (by omega)]
    · rw [ZG e2,Zir p X (i:=i) (by omega)]
      show p.D j-x j=p.D j-Yr X i j
      rw [hx j j0 j1]
end Go.Proofs.Gw
namespace Go.Proofs.YtkichmnjjblodaaGreat
open Go Go.RowKit Go.Proofs.Gw
variable {b wi:Int}
theorem Zck:Zc Tryz.prog 43=true:=by kernel_rfl
theorem Zcd:ZV Tryz.prog 34=some (.agg #[.slice none 0 0,.slice none 0 0,.int .i64 0,.int .i64 0,.int .i64 0],5,72):=by kernel_rfl
theorem fd_34_0:Zt Tryz.prog 34 0=some 0:=by kernel_rfl
theorem fd_34_1:Zt Tryz.prog 34 1=some 4:=by kernel_rfl
theorem Yn:Zw Tryz.prog 34=some 5:=by kernel_rfl
def ZY(p:Prob)(b:Int):Prop:=p.Ok/\0<=b/\b<=1000
def ZM(p:Prob)(b wi:Int):Prop:=ZY p b/\1<=b/\(0<=wi/\wi<p.m)/\p.D wi≠0/\(MX p wi).length<=300
noncomputable def Zl(p:Prob)(b wi:Int):Int:= @ite _ (ZM p b wi) (Classical.propDecidable _) ((MX p wi).length:Int) 0
theorem Ys{p:Prob}(h:ZM p b wi):Zl p b wi=(MX p wi).length:=if_pos h
theorem WE{p:Prob}(h:¬ZM p b wi):Zl p b wi=0:=if_neg h
theorem ZdX{p:Prob}(hp:p.Ok){u:Int}{f:Int->Int->Int}(h:Ls p.m u f (MX p wi)){i:Int}(i0:0<=i)(i1:i<u):∀k,0<=k->k<p.m->0<=f i k/\f i k<=p.D k:=fun k k0 k1=>by
  rw [h.2 i i0 i1 k k0 k1]
  exact(ZfS hp (KP i0 (by have:=h.1;omega))).1.rng k k0 k1
def XW(p:Prob)(b n:Int)(l:Int->Int):Prop:=ZY p b/\2<=n/\Chk p (n-1) (fun k=>l (k+1)) (l 0)=0/\b<YS p (n-1) (fun k=>l (k+1)) (l 0)
theorem Kb{vL vD:Value}{p:Prob}(w0:World)(h:PAt w0 vL vD p):
    Calls Tryz.prog 43 [.agg #[vL,vD,.int .i64 p.stock,.int .i64 p.kerf,.int .i64 b]].toArray w0 fun e w=>∃v,e= .returned v/\v=B (ZY p b)/\Sat w0 w []:=by
  have hm:=h.L.slh.n0;have hm1:=h.L.slh.n1;have hd:=h.D.slh.n0;have hd1:=h.D.slh.n1;have hs:=h.is;have hk:=h.ik
  refine zenG Tryz.func43 Tryz.ntmps43 fun w hS=> ?_
  refine zsr<|zla (xbx (cs:= [_,_,_,_,_]) hS) ?_;rintro _ w ⟨g1,rfl,hS⟩
  refine(zP)<|zlz<|(zV (xfb 0 fd_34_0))<|(zV (xlp 0 (ds:= [vL,vD,.int .i64 p.stock,.int .i64 p.kerf]) st_32 hS))<|zlc (xc0 Xu) (Z6 (p:=p) w (h.below hS.below)) ?_;rintro _ w ⟨rfl,hS'⟩
  replace hS:=hS.cmp hS';clear hS'
  refine(zP)<|zlb 6 ?_ ?_<;>intro hc
  ·
   refine(zV (xfb 4 fd_34_1))<|(zV (xlb 0 pl_3 hS))<|(zP)<|(zP)<|(zP)<|zlb 11 ?_ ?_<;>intro hc
   ·
    refine(zV (xfb 4 fd_34_1))<|(zV (xlb 0 pl_3 hS))<|(zP)<|(zP)<|(zP)<|zx1<|zf1 ⟨_,rfl,?_⟩
    exact⟨Zn ⟨fun hh=>⟨by first|assumption|exact Classical.not_not.1 ‹_›,by omega,hh⟩,fun hh=>hh.2.2⟩,hS.nl⟩
   iterate 3 refine zlo ?_
   refine(zP)<|(zP)<|zx1<|zf1 ⟨_,rfl,?_⟩
   exact⟨Zj (by rintro⟨h1,h2,h3⟩;first|omega|exact absurd h1 ‹¬p.Ok›),hS.nl⟩
  iterate 3 refine zlo ?_
  refine zs2 ?_
  iterate 3 refine zlo ?_
  refine(zP)<|(zP)<|zx1<|zf1 ⟨_,rfl,?_⟩
  exact⟨Zj (by rintro⟨h1,h2,h3⟩;first|omega|exact absurd h1 ‹¬p.Ok›),hS.nl⟩
theorem Zfr{vL vD:Value}{p:Prob}{vl:Value}{nl:Int}{l:Int->Int}(w0:World)(h:PAt w0 vL vD p)(hl:IAt w0 vl nl l)(hrm:Gw.Wu vl):
    Calls Tryz.prog 16 [.agg #[vL,vD,.int .i64 p.stock,.int .i64 p.kerf,.int .i64 b],vl].toArray w0 fun e w=>∃v,e= .returned v/\v=B (XW p b nl l)/\Sat w0 w []:=by
  have hm:=h.L.slh.n0;have hm1:=h.L.slh.n1;have hd:=h.D.slh.n0;have hd1:=h.D.slh.n1;have hs:=h.is;have hk:=h.ik
  have hl0:=hl.n0;have hl1:=hl.n1;have hrm:=hrm
  refine zenG Tryz.func16 Tryz.ntmps16 fun w hS=> ?_
  refine zsr<|zla (xbx (cs:= [_,_,_,_,_]) hS) ?_;rintro _ w ⟨g1,rfl,hS⟩
  refine(zP)<|zx5<|(zV (xls 0 Yn hS))<|zlc (xc0 Zck) (Kb (p:=p) (b:=b) w (h.below hS.below)) ?_;rintro _ w ⟨rfl,hS'⟩
  replace hS:=hS.cmp hS';clear hS'
  refine(zP)<|(zP)<|zlb 10 ?_ ?_<;>intro hc
  ·
   iterate 3 refine zlo ?_
   refine(zP)<|zlt<|zct<|zsr ?_
   refine(zP)<|zx14<|zf1 ⟨_,rfl,?_⟩
   exact⟨Zj (by rintro⟨h1,h2,h3,h4⟩;first|omega|exact absurd h1 ‹¬ZY p b›),hS.nl⟩
  refine(zP)<|(zV (xln Zb hl.row.slh))<|(zP)<|(zP)<|zlt<|Zf ?_ ?_<;>intro hc
  ·
   refine zsr<|(zP)<|zx14<|zf1 ⟨_,rfl,?_⟩
   exact⟨Zj (by rintro⟨h1,h2,h3,h4⟩;first|omega|exact absurd h1 ‹¬ZY p b›),hS.nl⟩
  refine zsk<|ztn<|zsq<|zdst [0] [0] 1000 mx_ hS ?_;clear hS;intro w hS
  refine(zDw 0 (xfb 0 fd_34_0))<|(zDl 1 (fun w hS=>(xlp 0 (ds:= [vL,vD,.int .i64 p.stock,.int .i64 p.kerf]) st_32 hS)))<|(zDw 2 xmv)<|Zh7 3 rfl rfl rfl rfl (by kernel_rfl) rfl (fun w=>(YI (q:=1) rfl Zb rfl rfl rfl hl.row.slh rfl (by omega) (by omega))) ?_
  refine(zDw 4 xmv)<|(zDw 5 (xix (kk:=0) Zb hl.row.slh))<|Yz 6 (fun w hS=>(xlr (u:= .int .i64 (l 0)) pl_3 (hl.row.below hS.below))) ?_
  have hbv:=hl.i 0
  refine zDrv 7 (xany (v:= .agg #[(Xd vl 1),.int .i64 (l 0)]) (hr:=by have hz:=(YL (q:=1) hl.row.slh hrm (by omega)).slh;revert hz;generalize (Xd vl 1)=z;rintro⟨_,_,_,_,rfl,_⟩;show _=_;kernel_rfl)) ?_
  refine zdc 8 (xc0 ZhY) (Zcu (p:=p) w (h.below hS.below) (show Row _ _ 1 (nl-1) (ints (fun z9=>l (z9+1))) from Suf.row (c:=ints l) (YL (q:=1) hl.row.slh hrm (by omega)) (by omega) (hl.row.below hS.below)) (by omega)) ?_;rintro _ w ⟨rfl,hS'⟩
  replace hS:=hS.cmp hS';clear hS'
  refine⟨⟨fun _=>hS,hS⟩,?_⟩
  refine(zDw 9 xmv)<|(zDw 10 xex)<|(zDw 11 xex)<|(zDw 12 xas)<|(zDw 13 xas)<|zdd<|ztn<|zsr ?_
  refine(zP)<|(zP)<|(zP)<|zlb 29 ?_ ?_<;>intro hc
  ·
   refine(zP)<|(zV (xfb 4 fd_34_1))<|(zV (xlb 0 pl_3 hS))<|(zP)<|(zP)<|(zP)<|zx1<|zf1 ⟨_,rfl,?_⟩
   exact⟨Zn ⟨fun hh=>⟨Classical.not_not.1 ‹_›,by omega,by omega,hh⟩,fun hh=>hh.2.2.2⟩,hS.nl⟩
  iterate 4 refine zlo ?_
  refine(zP)<|(zP)<|zx1<|zf1 ⟨_,rfl,?_⟩
  exact⟨Zj (by rintro⟨h1,h2,h3,h4⟩;first|omega|exact absurd h1 ‹¬ZY p b›),hS.nl⟩
end Go.Proofs.YtkichmnjjblodaaGreat
namespace Go.Proofs.YtkichmnjjblodaaGreat
open Go Go.RowKit Go.Proofs.Gw
theorem Zkx{vL vD:Value}{p:Prob}{b:Int}{vA:Value}{n:Int}{x:Int->Int}(w0:World)(h:PAt w0 vL vD p)(hp:p.Ok)(hb:0<=b/\b<=1000)(hA:Row w0 vA 1 n (ints x))(hnm:n=p.m)(hx:∀k,0<=k->k<p.m->0<=x k/\x k<=p.D k):
    Calls Tryz.prog 45 [.agg #[vL,vD,.int .i64 p.stock,.int .i64 p.kerf,.int .i64 b],vA].toArray w0 fun e w=>∃v,e= .returned v/\∃r1 r2,v= .agg #[r1,r2,.int .i64 p.stock,.int .i64 p.kerf,.int .i64 (b-1)]/\Slh r1 p.m/\Slh r2 p.d/\Sat w0 w [.own r1 1 3 p.m (ints p.L),.own r2 1 3 p.d (ints fun k=>p.D k-x k)]:=by
  subst hnm
  have hm:=h.L.slh.n0;have hm1:=h.L.slh.n1;have hd:=h.D.slh.n0;have hd1:=h.D.slh.n1;have hs:=h.is;have hk:=h.ik
  have hpm:=hp.m1;have qH:=hp.m2;have hpd:=hp.d;have hs1:=hp.s1;have hs2:=hp.s2;have hk1:=hp.k1;have hk2:=hp.k2
  refine zenG Tryz.func45 Tryz.ntmps45 fun w hS=> ?_
  refine zsr<|zla (xbx (cs:= [_,_,_,_,_]) hS) ?_;rintro _ w ⟨g1,rfl,hS⟩
  refine zla (xal (cs:= [_,_,_,_,_]) Zcd hS) ?_;rintro _ w ⟨g2,rfl,hS⟩
  refine zlz<|(zV (xfb 0 fd_34_0))<|(zV (xlp 0 (ds:= [vL,vD,.int .i64 p.stock,.int .i64 p.kerf]) st_32 hS))<|zla (xal (cs:= [_,_,_,_]) ZeB hS) ?_;rintro _ w ⟨g3,rfl,hS⟩
  refine zle (xsw 2 st_32 hS (hd:=(Za h.L.slh.one (Za h.D.slh.one (Za rfl (Za rfl Zh)))))) ?_;clear hS;rintro w hS
  refine zx7<|zdst [0,1,2] [0,1,2] 1000 mx_ hS ?_;clear hS;intro w hS
  refine(zDw 0 (xfb 0 fd_32_0))<|(zDl 1 (fun w hS=>(xlb 2 pl_22 hS)))<|(zDw 2 (xln Zb h.L.slh))<|(zDw 4 (xfb 1 fd_32_1))<|(zDl 5 (fun w hS=>(xlb 2 pl_22 hS)))<|(zDw 6 (xln Zb h.D.slh))<|Ul (r:= [3,7]) ((Xc ?_ (Xc ?_ Uk)))
  ·
   refine zka (xmk Zb ZB hS) ?_;rintro v1 w ⟨hS,hv1⟩
   refine⟨⟨fun _=>hS.pk [0,1,2],hS.pk [0,1,2]⟩,?_⟩
   refine(zDw 8 xas)<|zda 7 (xmk Zb ZB hS) ?_;rintro v2 w ⟨hS,hv2⟩
   refine⟨⟨fun _=>hS.pk [0,1,2],hS.pk [0,1,2]⟩,?_⟩
   refine(zDw 9 xas)<|zdd<|ztn<|zsr ?_
   refine(zP)<|(zV (xfb 0 fd_32_0))<|(zV (xlb 2 pl_22 hS))<|Ru rfl rfl rfl (VC 3 rfl Zb rfl rfl hS rfl (h.L.below hS.below) (fun _ _ _=>rfl)) ?_;rintro _ w ⟨rfl,hS⟩
   refine zlz<|(zP)<|(zV (xfb 1 fd_32_1))<|(zV (xlb 2 pl_22 hS))<|Ru rfl rfl rfl (VC 4 rfl Zb rfl rfl hS rfl (h.D.below hS.below) (fun _ _ _=>rfl)) ?_;rintro _ w ⟨rfl,hS⟩
   refine zx5<|(zP)<|(zV (xln Zb hA.slh))<|(zP)<|zx6<|zlp (fun mm M w=>∃(fd:Int->Int) (i:Int),mm=((p.m-i).toNat)/\(0<=i)/\(i<=p.m)/\(∀k,0<=k->k<p.m->fd k=if k<i then p.D k-x k else p.D k)/\M= [(2,.pointer (some ⟨g1,0,none⟩)),(4,.pointer (some ⟨g2,0,none⟩)),(5,.pointer (some ⟨g3,0,none⟩)),(6,v1),(7,v2),(28,vA),(29,.int .i64 p.m),(30,.int .i64 i)]/\Sat w0 w [.blk g1 [vL,vD,.int .i64 p.stock,.int .i64 p.kerf,.int .i64 b],.blk g2 [.slice none 0 0,.slice none 0 0,.int .i64 0,.int .i64 0,.int .i64 0],.blk g3 [vL,vD,.int .i64 p.stock,.int .i64 p.kerf],.own v1 1 3 p.m (ints p.L),.own v2 1 3 p.d (ints fd)]) ⟨p.D,0,rfl,(by omega),(by omega),?_,rfl,hS⟩ ?_
   ·
    intro k k0 k1;rw [if_neg (by omega)]
   clear hS w
   rintro mm M w ⟨fd,i,rfl,h0,h1,hfd,rfl,hS⟩
   refine zsr<|(zP)<|zx7<|Zf ?_ ?_<;>intro hc
   ·
    refine zx3<|(zP)<|(zV (xix (kk:=i) Zb hA.slh))<|zlv (xlr (u:= .int .i64 (x i)) pl_3 (hA.below hS.below)) ?_
    have hxi:=hx i h0 (by omega);have hei:=hp.all i h0 (by omega);unfold Prob.each at hei;have hfi:=hfd i h0 (by omega);rw [if_neg (by omega)] at hfi
    refine(zP)<|(zP)<|zlt<|zrg<|(zP)<|(zP)<|(zV (xix (kk:=i) Zb hv2))<|(zV (xlr (u:= .int .i64 (fd i)) pl_3 (hS.rowN 4 rfl)))<|(zP)<|(zV (Zp (r:=fd i-(x i))))<|(zV (xix (kk:=i) Zb hv2))<|zle (xso 4 pl_3 hS (Zx _ _ _)) ?_;clear hS;rintro w hS
    refine zx10<|(zV (Zg (r:=i+1)))<|(zP)<|zln<|zlq ⟨(upd fd i (fd i-(x i))),i+1,rfl,(by omega),(by omega),?_,rfl,hS⟩
    ·
     intro k k0 k1;unfold upd;by_cases e:k=i
     · rw [if_pos e,if_pos (by omega),e];omega
     · rw [if_neg e,hfd k k0 k1];by_cases e2:k<i
       · rw [if_pos e2,if_pos (by omega)]
       · rw [if_neg e2,if_neg (by omega)]
   refine zx8<|(zP)<|(zP)<|(zV (xfb 0 fd_32_0))<|zle (xsb 2 pl_22 hS (hv:=hv1.one)) ?_;clear hS;rintro w hS
   refine(zV (xfb 1 fd_32_1))<|zle (xsb 2 pl_22 hS (hv:=hv2.one)) ?_;clear hS;rintro w hS
   refine zlz<|(zV (xls 2 st_32 hS))<|(zV (xfb 4 fd_34_1))<|(zV (xlb 0 pl_3 hS))<|(zV (Zp (r:=b-1)))<|zlv (xany (v:= .agg #[v1,v2,.int .i64 p.stock,.int .i64 p.kerf,.int .i64 (b-1)]) (hr:=by obtain⟨_,_,_,_,rfl,_⟩:=hv1;obtain⟨_,_,_,_,rfl,_⟩:=hv2;kernel_rfl)) ?_
   refine zle (xsw 1 Yn hS (hd:=(Za hv1.one (Za hv2.one (Za rfl (Za rfl (Za rfl Zh))))))) ?_;clear hS;rintro w hS
   refine zx1<|zfc 1 Yn hS ⟨_,rfl,?_⟩
   replace hS:=hS.recont 4 rfl (d:=ints fun k=>p.D k-x k) (fun k k0 k1=>by unfold ints;rw [hfd k k0 (by omega),if_pos (by omega)])
   exact⟨_,_,rfl,hv1,hv2,hS.pk [3,4]⟩
  refine zka (xmk Zb ZB hS) ?_;rintro v1 w ⟨hS,hv1⟩
  refine⟨⟨fun _=>hS.pk [0,1,2],hS.pk [0,1,2]⟩,?_⟩
  refine zda 3 (xmk Zb ZB hS) ?_;rintro v2 w ⟨hS,hv2⟩
  refine⟨⟨fun _=>hS.pk [0,1,2],hS.pk [0,1,2]⟩,?_⟩
  refine(zDw 8 xas)<|(zDw 9 xas)<|zdd<|ztn<|zsr ?_
  refine(zP)<|(zV (xfb 0 fd_32_0))<|(zV (xlb 2 pl_22 hS))<|Ru rfl rfl rfl (VC 4 rfl Zb rfl rfl hS rfl (h.L.below hS.below) (fun _ _ _=>rfl)) ?_;rintro _ w ⟨rfl,hS⟩
  refine zlz<|(zP)<|(zV (xfb 1 fd_32_1))<|(zV (xlb 2 pl_22 hS))<|Ru rfl rfl rfl (VC 3 rfl Zb rfl rfl hS rfl (h.D.below hS.below) (fun _ _ _=>rfl)) ?_;rintro _ w ⟨rfl,hS⟩
  refine zx5<|(zP)<|(zV (xln Zb hA.slh))<|(zP)<|zx6<|zlp (fun mm M w=>∃(fd:Int->Int) (i:Int),mm=((p.m-i).toNat)/\(0<=i)/\(i<=p.m)/\(∀k,0<=k->k<p.m->fd k=if k<i then p.D k-x k else p.D k)/\M= [(2,.pointer (some ⟨g1,0,none⟩)),(4,.pointer (some ⟨g2,0,none⟩)),(5,.pointer (some ⟨g3,0,none⟩)),(6,v2),(7,v1),(28,vA),(29,.int .i64 p.m),(30,.int .i64 i)]/\Sat w0 w [.blk g1 [vL,vD,.int .i64 p.stock,.int .i64 p.kerf,.int .i64 b],.blk g2 [.slice none 0 0,.slice none 0 0,.int .i64 0,.int .i64 0,.int .i64 0],.blk g3 [vL,vD,.int .i64 p.stock,.int .i64 p.kerf],.own v1 1 3 p.d (ints fd),.own v2 1 3 p.m (ints p.L)]) ⟨p.D,0,rfl,(by omega),(by omega),?_,rfl,hS⟩ ?_
  ·
   intro k k0 k1;rw [if_neg (by omega)]
  clear hS w
  rintro mm M w ⟨fd,i,rfl,h0,h1,hfd,rfl,hS⟩
  refine zsr<|(zP)<|zx7<|Zf ?_ ?_<;>intro hc
  ·
   refine zx3<|(zP)<|(zV (xix (kk:=i) Zb hA.slh))<|zlv (xlr (u:= .int .i64 (x i)) pl_3 (hA.below hS.below)) ?_
   have hxi:=hx i h0 (by omega);have hei:=hp.all i h0 (by omega);unfold Prob.each at hei;have hfi:=hfd i h0 (by omega);rw [if_neg (by omega)] at hfi
   refine(zP)<|(zP)<|zlt<|zrg<|(zP)<|(zP)<|(zV (xix (kk:=i) Zb hv1))<|(zV (xlr (u:= .int .i64 (fd i)) pl_3 (hS.rowN 3 rfl)))<|(zP)<|(zV (Zp (r:=fd i-(x i))))<|(zV (xix (kk:=i) Zb hv1))<|zle (xso 3 pl_3 hS (Zx _ _ _)) ?_;clear hS;rintro w hS
   refine zx10<|(zV (Zg (r:=i+1)))<|(zP)<|zln<|zlq ⟨(upd fd i (fd i-(x i))),i+1,rfl,(by omega),(by omega),?_,rfl,hS⟩
   ·
    intro k k0 k1;unfold upd;by_cases e:k=i
    · rw [if_pos e,if_pos (by omega),e];omega
    · rw [if_neg e,hfd k k0 k1];by_cases e2:k<i
      · rw [if_pos e2,if_pos (by omega)]
      · rw [if_neg e2,if_neg (by omega)]
  refine zx8<|(zP)<|(zP)<|(zV (xfb 0 fd_32_0))<|zle (xsb 2 pl_22 hS (hv:=hv2.one)) ?_;clear hS;rintro w hS
  refine(zV (xfb 1 fd_32_1))<|zle (xsb 2 pl_22 hS (hv:=hv1.one)) ?_;clear hS;rintro w hS
  refine zlz<|(zV (xls 2 st_32 hS))<|(zV (xfb 4 fd_34_1))<|(zV (xlb 0 pl_3 hS))<|(zV (Zp (r:=b-1)))<|zlv (xany (v:= .agg #[v2,v1,.int .i64 p.stock,.int .i64 p.kerf,.int .i64 (b-1)]) (hr:=by obtain⟨_,_,_,_,rfl,_⟩:=hv2;obtain⟨_,_,_,_,rfl,_⟩:=hv1;kernel_rfl)) ?_
  refine zle (xsw 1 Yn hS (hd:=(Za hv2.one (Za hv1.one (Za rfl (Za rfl (Za rfl Zh))))))) ?_;clear hS;rintro w hS
  refine zx1<|zfc 1 Yn hS ⟨_,rfl,?_⟩
  replace hS:=hS.recont 3 rfl (d:=ints fun k=>p.D k-x k) (fun k k0 k1=>by unfold ints;rw [hfd k k0 (by omega),if_pos (by omega)])
  exact⟨_,_,rfl,hv2,hv1,hS.pk [4,3]⟩
end Go.Proofs.YtkichmnjjblodaaGreat
namespace Go.Proofs.YtkichmnjjblodaaGreat
open Go Go.RowKit Go.Proofs.Gw
theorem ZlK:Zc Tryz.prog 44=true:=by kernel_rfl
theorem ZlJ:Zc Tryz.prog 45=true:=by kernel_rfl
theorem Vi:ZH Tryz.prog 29=some (34,5):=by kernel_rfl
theorem Zcp{vL vD:Value}{p:Prob}{b:Int}{wi:Int}(w0:World)(h:PAt w0 vL vD p):
    Calls Tryz.prog 13 [.agg #[vL,vD,.int .i64 p.stock,.int .i64 p.kerf,.int .i64 b],.int .i64 wi].toArray w0 fun e w=>∃v,e= .returned v/\∃r vv,v= .tuple #[r,B (ZM p b wi)]/\Slh r (Zl p b wi)/\Sat w0 w [.own r 5 34 (Zl p b wi) (ZS vv p.stock p.kerf (b-1)),.sem (Frame.rows 3 (2*Zl p b wi) vv (fun _=>p.m) (gfn p (MX p wi)))]:=by
  have hm:=h.L.slh.n0;have hm1:=h.L.slh.n1;have hd:=h.D.slh.n0;have hd1:=h.D.slh.n1;have hs:=h.is;have hk:=h.ik
  refine zenG Tryz.func13 Tryz.ntmps13 fun w hS=> ?_
  refine zsr<|zla (xbx (cs:= [_,_,_,_,_]) hS) ?_;rintro _ w ⟨g1,rfl,hS⟩
  refine(zP)<|(zP)<|zx5<|(zV (xls 0 Yn hS))<|zlc (xc0 Zck) (Kb (p:=p) (b:=b) w (h.below hS.below)) ?_;rintro _ w ⟨rfl,hS'⟩
  replace hS:=hS.cmp hS';clear hS'
  refine(zP)<|(zP)<|zlb 14 ?_ ?_<;>intro hc;rotate_left
  refine(zV (xfb 4 fd_34_1))<|zlv (xlb 0 pl_3 hS) ?_
  have hpo:ZY p b:=by first|assumption|exact Classical.not_not.1 ‹_›
  have hp:=hpo.1;have hpb:=hpo.2
  have hpm:=hp.m1;have qH:=hp.m2;have hpd:=hp.d;have hs1:=hp.s1;have hs2:=hp.s2;have hk1:=hp.k1;have hk2:=hp.k2
  refine(zP)<|(zP)<|(zP)<|zlb 19 ?_ ?_<;>intro hc;rotate_left
  refine zs4 ?_
  refine zlb 23 ?_ ?_<;>intro hc;rotate_left
  refine(zP)<|(zV (xfb 0 fd_34_0))<|(zV (xfb 0 fd_32_0))<|(zV (xlb 0 pl_22 hS))<|(zV (xln Zb h.L.slh))<|(zP)<|(zP)<|(zP)<|zlb 31 ?_ ?_<;>intro hc;rotate_left
  refine(zV (xfb 0 fd_34_0))<|(zV (xfb 1 fd_32_1))<|(zV (xlb 0 pl_22 hS))<|(zP)<|(zV (xix (kk:=wi) Zb h.D.slh))<|zlv (xlr (u:= .int .i64 (p.D wi)) pl_3 (h.D.below hS.below)) ?_
  have hbv:=h.iD wi
  refine(zP)<|(zP)<|zlt<|Zf ?_ ?_<;>intro hc
  ·
   refine zsr<|(zP)<|(zP)<|zx14<|zf2 ⟨_,rfl,?_⟩
   have hno:¬ZM p b wi:=by
     rintro⟨⟨q1,q2,q3⟩,q4,⟨q5,q6⟩,q7,q8⟩
     first|omega|exact absurd (show ZY p b from⟨q1,q2,q3⟩) ‹¬ZY p b›|(rcases yT with⟨g1,_⟩|⟨_,g1,_⟩|⟨_,_,g1,_⟩|⟨_,_,_,g1,_⟩;exact absurd q1 g1;exact absurd ⟨q5,q6⟩ g1;omega;omega)
   rw [WE hno]
   exact⟨_,(fun _=>Value.slice none 0 0),by rw [Zz hno],slh_nil,((hS.sub (.cons _ .slnil)).addnil 5 34 (ZS (fun _=>Value.slice none 0 0) p.stock p.kerf (b-1))).addrows 3 (fun _=>Value.slice none 0 0) (fun _=>p.m) (gfn p (MX p wi))⟩
  refine ZW<|(zV (xfb 0 fd_34_0))<|(zV (xlp 0 (ds:= [vL,vD,.int .i64 p.stock,.int .i64 p.kerf]) st_32 hS))<|(zP)<|zlc (xc0 ZlK) (Zhc (p:=p) (wi:=wi) w (h.below hS.below)) ?_;rintro _ w ⟨bR,ux1,zB,fx1,ex1,rfl,yT,zD,hS'⟩
  replace hS:=(hS.comp hS').n3;clear hS'
  have dI:∀k,0<=k->k<ux1->Slh (zB k) p.m:=fun k k0 k1=>hS.slhIn 2 rfl k0 k1
  refine zs5 ?_
  refine zx5<|(zP)<|(zP)<|zlt<|Zf ?_ ?_<;>intro hc
  ·
   refine zsr<|(zP)<|(zP)<|zx14<|zf2 ⟨_,rfl,?_⟩
   have hno:¬ZM p b wi:=by
     rintro⟨⟨q1,q2,q3⟩,q4,⟨q5,q6⟩,q7,q8⟩
     first|omega|exact absurd (show ZY p b from⟨q1,q2,q3⟩) ‹¬ZY p b›|(rcases yT with⟨g1,_⟩|⟨_,g1,_⟩|⟨_,_,g1,_⟩|⟨_,_,_,g1,_⟩;exact absurd q1 g1;exact absurd ⟨q5,q6⟩ g1;omega;omega)
   rw [WE hno]
   exact⟨_,(fun _=>Value.slice none 0 0),by rw [Zz hno],slh_nil,((hS.sub (.cons _ (.cons _ (.cons _ .slnil)))).addnil 5 34 (ZS (fun _=>Value.slice none 0 0) p.stock p.kerf (b-1))).addrows 3 (fun _=>Value.slice none 0 0) (fun _=>p.m) (gfn p (MX p wi))⟩
  refine ZW<|(zP)<|zx5<|(zP)<|(zV (xln Zk zD))<|zlv xmv ?_
  have xK:Ls p.m ux1 fx1 (MX p wi)/\(MX p wi).length<=300:=by rcases yT with⟨_,g1,_⟩|⟨_,_,g1,_⟩|⟨_,_,_,g1,_⟩|⟨_,_,g2,_,g1⟩;omega;omega;omega;exact⟨g1,g2⟩
  have fv:=xK.2
  replace xK:=xK.1
  have hun:=zD.n0;have hul:=xK.1
  refine zx6 ?_
  replace hS:=(hS.addnil 5 34 (ZS (fun _=>Value.slice none 0 0) p.stock p.kerf (b-1))).addrows 3 (fun _=>Value.slice none 0 0) (fun _=>p.m) (gfn p (MX p wi))
  replace hS:=hS.rowsn 4 rfl (show(0:Int)=2*0 from rfl)
  refine zlp (fun mm M w=>∃(i:Int) (vv:Int->Value) (wG:Value),mm=((ux1-i).toNat)/\(0<=i)/\(i<=ux1)/\(Slh wG i)/\M= [(2,.pointer (some ⟨g1,0,none⟩)),(4,.slice none 0 0),(5,.bool false),(8,wG),(49,bR),(50,.int .i64 ux1),(51,.int .i64 i)]/\Sat w0 w [.blk g1 [vL,vD,.int .i64 p.stock,.int .i64 p.kerf,.int .i64 b],.own bR 1 22 ux1 zB,.sem (Frame.rows 3 ux1 zB (fun _=>p.m) fx1),.own wG 5 34 i (ZS vv p.stock p.kerf (b-1)),.sem (Frame.rows 3 (2*i) vv (fun _=>p.m) (gfn p (MX p wi)))]) ⟨0,(fun _=>Value.slice none 0 0),(.slice none 0 0),rfl,(by omega),(by omega),?_,rfl,hS⟩ ?_
  ·
   exact slh_nil
  clear hS w
  rintro mm M w ⟨i,vv,wG,rfl,h0,h1,hwG,rfl,hS⟩
  have hrG:∀k,0<=k->k<2*i->Slh (vv k) p.m:=fun k k0 k1=>hS.slhIn 4 rfl k0 k1
  refine zsr<|(zP)<|zx7<|Zf ?_ ?_<;>intro hc
  ·
   refine zx3<|(zV (xix (kk:=i) Zk zD))<|(zV (xlr (u:=(zB i)) pl_22 (hS.rowN 1 rfl)))<|(zP)<|zlt<|zrg<|(zP)<|(zV (xls 0 Yn hS))<|(zP)<|zlc (xc0 ZlJ) (Zkx (p:=p) (b:=b) (x:=(fx1 i)) w (h.below hS.below) hp hpb (show Row _ _ 1 p.m _ from(hS.rowIn (k:=i) 2 rfl (by omega) (by omega))) rfl (ZdX hp xK h0 (by omega))) ?_;rintro _ w ⟨zS,zT,rfl,bA,bB,hS'⟩
   replace hS:=(hS.comp hS').n7;clear hS'
   refine zla (xli (n:=1) (len:=1) (pv:= [(0,.agg #[zS,zT,.int .i64 p.stock,.int .i64 p.kerf,.int .i64 (b-1)])]) (cs:= [zS,zT,.int .i64 p.stock,.int .i64 p.kerf,.int .i64 (b-1)]) (c:=ZS (pr2 zS zT) p.stock p.kerf (b-1)) Vi Zcd hS (hf:=by obtain⟨_,_,_,_,rfl,_⟩:=bA;obtain⟨_,_,_,_,rfl,_⟩:=bB;kernel_rfl)) ?_;rintro v1 w ⟨hS,hv1⟩
   refine zla (xap 3 (r:=i+1) Vi Zcd hS (hS.rowN 7 rfl) (Zbt _ _ _ _ _ _ _) (h1:=fun k _ _=>Zbd (Zgi bA.one bB.one) k)) ?_;rintro v2 w ⟨hS,hv2⟩
   replace hS:=Sat.merge (l1:= [_,_,_,_]) (l2:= []) (l3:= [_,_]) hS (by omega)
   replace hS:=hS.rowsn 4 rfl (show _=2*i+1 by omega)
   have xf:=fun k (k0:0<=k) (k1:k<2*i+1)=>hS.slhIn 4 rfl k0 k1
   replace hS:=Sat.merge (l1:= [_,_,_,_]) (l2:= []) (l3:= [_]) hS (by omega)
   replace hS:=hS.rowsn 4 rfl (show _=2*i+2 by omega)
   have yL:=fun k (k0:0<=k) (k1:k<2*i+2)=>hS.slhIn 4 rfl k0 k1
   replace hS:=hS.rerows (vv':=(gsn (gsn vv (2*i) zS) (2*i+1) zT)) (ln':=fun _=>p.m) (f':=(gfn p (MX p wi))) 4 rfl (Zc5 hpd h0 (xK.2 i h0 (by omega)) _)
   replace hS:=hS.rowsn 4 rfl (show 2*i+2=2*(i+1) by omega)
   refine(zP)<|zx10<|(zV (Zg (r:=i+1)))<|zlv xmv ?_
   have xK:Ls p.m ux1 fx1 (MX p wi)/\(MX p wi).length<=300:=by rcases yT with⟨_,g1,_⟩|⟨_,_,g1,_⟩|⟨_,_,_,g1,_⟩|⟨_,_,g2,_,g1⟩;omega;omega;omega;exact⟨g1,g2⟩
   have fv:=xK.2
   replace xK:=xK.1
   have hun:=zD.n0;have hul:=xK.1
   refine zln<|zlq ⟨i+1,(gsn (gsn vv (2*i) zS) (2*i+1) zT),v2,rfl,(by omega),(by omega),?_,rfl,hS.pk [0,1,2,3,4]⟩
   ·
    exact hv2
  refine zx8<|(zP)<|(zP)<|(zP)<|zx1<|zf2 ⟨_,rfl,?_⟩
  have hi9:i=((MX p wi).length:Int):=by have:=xK.1;omega
  have dt:ZM p b wi:=⟨hpo,by omega,by omega,by omega,by have:=xK.1;omega⟩
  rw [Ys dt]
  subst hi9
  exact⟨_,_,by rw [ZQ dt],hwG,hS.pk [3,4]⟩
  all_goals
   refine zOps ?_
   refine zlt<|zct<|zsr ?_
   refine zOps ?_
   refine zx14<|zf2 ⟨_,rfl,?_⟩
   have hno:¬ZM p b wi:=by
     rintro⟨⟨q1,q2,q3⟩,q4,⟨q5,q6⟩,q7,q8⟩
     first|omega|exact absurd (show ZY p b from⟨q1,q2,q3⟩) ‹¬ZY p b›|(rcases yT with⟨g1,_⟩|⟨_,g1,_⟩|⟨_,_,g1,_⟩|⟨_,_,_,g1,_⟩;exact absurd q1 g1;exact absurd ⟨q5,q6⟩ g1;omega;omega)
   rw [WE hno]
   exact⟨_,(fun _=>Value.slice none 0 0),by rw [Zz hno],slh_nil,((hS.sub (.cons _ .slnil)).addnil 5 34 (ZS (fun _=>Value.slice none 0 0) p.stock p.kerf (b-1))).addrows 3 (fun _=>Value.slice none 0 0) (fun _=>p.m) (gfn p (MX p wi))⟩
end Go.Proofs.YtkichmnjjblodaaGreat
namespace Go.Proofs.YtkichmnjjblodaaGreat
open Go Go.RowKit Go.Proofs.Gw
theorem ZhP:ZV Tryz.prog 24=some (.agg #[.slice none 0 0,.slice none 0 0,.int .i64 0,.int .i64 0],4,64):=by kernel_rfl
end Go.Proofs.YtkichmnjjblodaaGreat
namespace Go.Proofs.Gw
open Go Go.RowKit
variable {i:Int} {w w0:World}
inductive Tr where
  |nil
  |mk (s:Int) (vK:Value) (n:Int) (kid:Int->Tr) (vL:Value) (nl:Int) (l:Int->Int)
def Tr.s:Tr->Int| .nil=>0| .mk s _ _ _ _ _ _=>s
def Tr.vK:Tr->Value| .nil=> .slice none 0 0| .mk _ v _ _ _ _ _=>v
def Tr.n:Tr->Int| .nil=>0| .mk _ _ n _ _ _ _=>n
def Tr.kid:Tr->Int->Tr| .nil=>fun _=> .nil| .mk _ _ _ k _ _ _=>k
def Tr.vL:Tr->Value| .nil=> .slice none 0 0| .mk _ _ _ _ v _ _=>v
def Tr.nl:Tr->Int| .nil=>0| .mk _ _ _ _ _ n _=>n
def Tr.l:Tr->Int->Int| .nil=>fun _=>0| .mk _ _ _ _ _ _ l=>l
theorem Tr.ind{P:Tr->Prop}(h:∀t,(∀i,0<=i->i<t.n->P (t.kid i))->P t):∀t,P t
  | .nil=>h .nil fun i i0 i1=>by have i1':i<0:=i1;omega
  | .mk s vK n kid vL nl l=>h (.mk s vK n kid vL nl l) fun i _ _=>Tr.ind h (kid i)
def XK(S:Int->Int)(K L:Int->Value):Int->Value:=fun j=>if j%3=0 then .int .i64 (S (j/3)) else if j%3=1 then K (j/3) else L (j/3)
abbrev Yu(kid:Int->Tr):Int->Value:=XK (fun i=>(kid i).s) (fun i=>(kid i).vK) (fun i=>(kid i).vL)
theorem ZcH(S:Int->Int)(K L:Int->Value){q:Int}(h:q=3*i):∀(j:Nat) u, [Value.int .i64 (S i),K i,L i][j]? =some u->XK S K L (q+j)=u:=fun j u hu=>by
  rcases j with _|_|_|j
  · cases hu;unfold XK;rw [if_pos (by omega)];congr 2;omega
  · cases hu;unfold XK;rw [if_neg (by omega),if_pos (by omega)];congr 1;omega
  · cases hu;unfold XK;rw [if_neg (by omega),if_neg (by omega)];congr 1;omega
  · simp at hu
theorem WH(kid:Int->Tr){q:Int}(h:q=3*i):∀(j:Nat) u, [Value.int .i64 (kid i).s,(kid i).vK,(kid i).vL][j]? =some u->Yu kid (q+j)=u:=ZcH (fun i=>(kid i).s) (fun i=>(kid i).vK) (fun i=>(kid i).vL) h
theorem ZaV{S:Int->Int}{K L:Int->Value}(hK:∀i,(K i).oneCell'=true)(hL:∀i,(L i).oneCell'=true)(j:Int):(XK S K L j).oneCell'=true:=by
  unfold XK
  split
  · rfl
  · split
    · exact hK _
    · exact hL _
theorem Zbs(kid:Int->Tr)(n:Int)(t:Tr):cat (n*3) (Yu kid) (XK (fun _=>t.s) (fun _=>t.vK) (fun _=>t.vL))=Yu (gsn kid n t):=by
  funext j
  unfold cat Yu XK gsn
  by_cases h:j<n*3
  · have h1:j/3<n:=by omega
    simp only [if_pos h,if_pos h1]
  · have h1:¬j/3<n:=by omega
    have e:(j-n*3)%3=j%3:=by omega
    simp only [if_neg h,if_neg h1,e]
def KAt(w:World):Tr->Prop
  | .nil=>True
  | .mk s vK n kid vL nl l=>(Row w vK 3 n (Yu kid)/\56*n<=140737488351232)/\∀i,0<=i->i<n->KAt w (kid i)
def LvAt(w:World):Tr->Prop
  | .nil=>True
  | .mk s vK n kid vL nl l=>(IAt w vL nl l/\Wu vL/\(-9223372036854775808<=s/\s<=9223372036854775807))/\∀i,0<=i->i<n->LvAt w (kid i)
theorem KAt.row{t:Tr}(h:KAt w t):Row w t.vK 3 t.n (Yu t.kid):=by
  cases t with
  |nil=>exact Ur _ _ _
  |mk=>exact h.1.1
theorem KAt.sub{t:Tr}(h:KAt w t)(i0:0<=i)(i1:i<t.n):KAt w (t.kid i):=by
  cases t with
  |nil=>exact trivial
  |mk=>exact h.2 i i0 i1
theorem LvAt.leaf{t:Tr}(h:LvAt w t):IAt w t.vL t.nl t.l:=by
  cases t with
  |nil=>exact⟨Ur _ _ _,fun k=>by show _<=(0:Int)/\(0:Int)<=_;omega⟩
  |mk=>exact h.1.1
theorem LvAt.room{t:Tr}(h:LvAt w t):Wu t.vL:=by
  cases t with
  |nil=>intro a len cap e;cases e;exact Nat.le_refl _
  |mk=>exact h.1.2.1
theorem LvAt.s{w:World}{t:Tr}(h:LvAt w t): -9223372036854775808<=t.s/\t.s<=9223372036854775807:=by
  cases t with
  |nil=>show _<=(0:Int)/\(0:Int)<=_;omega
  |mk=>exact h.1.2.2
theorem LvAt.sub{t:Tr}(h:LvAt w t)(i0:0<=i)(i1:i<t.n):LvAt w (t.kid i):=by
  cases t with
  |nil=>exact trivial
  |mk=>exact h.2 i i0 i1
theorem KAt.below{w w':World}(hb:Below w.heap.size w w'):∀{t:Tr},KAt w t->KAt w' t
  | .nil,_=>trivial
  | .mk s vK n kid vL nl l,h=>⟨⟨h.1.1.below hb,h.1.2⟩,fun i i0 i1=>KAt.below hb (h.2 i i0 i1)⟩
theorem LvAt.below{w w':World}(hb:Below w.heap.size w w'):∀{t:Tr},LvAt w t->LvAt w' t
  | .nil,_=>trivial
  | .mk s vK n kid vL nl l,h=>⟨⟨h.1.1.below hb,h.1.2.1,h.1.2.2⟩,fun i i0 i1=>LvAt.below hb (h.2 i i0 i1)⟩
def VM(f:Int->Int):Nat->Int
  |0=>1
  |k+1=>IntKind.i64.wrap (VM f k+f k)
def W6(f:Int->Int):Nat->Int
  |0=>0
  |k+1=>max (W6 f k) (f k)
theorem Tz(f:Int->Int)(h:0<=i):VM f (i+1).toNat=IntKind.i64.wrap (VM f i.toNat+f i):=by
  rw [show(i+1).toNat=i.toNat+1 by omega]
  simp only [VM]
  rw [show((i.toNat:Nat):Int)=i by omega]
theorem TS(f:Int->Int)(h:0<=i):W6 f (i+1).toNat=max (W6 f i.toNat) (f i):=by
  rw [show(i+1).toNat=i.toNat+1 by omega]
  simp only [W6]
  rw [show((i.toNat:Nat):Int)=i by omega]
theorem WW{f g:Int->Int}:∀{k:Nat},(∀i,0<=i->i<(k:Int)->f i=g i)->VM f k=VM g k
  |0,_=>rfl
  |k+1,h=>by simp only [VM];rw [WW (k:=k) fun i a b=>h i a (by omega),h k (by omega) (by omega)]
theorem W5{f g:Int->Int}:∀{k:Nat},(∀i,0<=i->i<(k:Int)->f i=g i)->W6 f k=W6 g k
  |0,_=>rfl
  |k+1,h=>by simp only [W6];rw [W5 (k:=k) fun i a b=>h i a (by omega),h k (by omega) (by omega)]
def Tr.nodes:Tr->Int| .nil=>1| .mk _ _ n kid _ _ _=>VM (fun i=>(kid i).nodes) n.toNat
def Tr.depth:Tr->Int| .nil=>IntKind.i64.wrap (0+1)| .mk _ _ n kid _ _ _=>IntKind.i64.wrap (W6 (fun i=>(kid i).depth) n.toNat+1)
theorem Tr.nodes_eq(t:Tr):t.nodes=VM (fun i=>(t.kid i).nodes) t.n.toNat:=by cases t<;>rfl
theorem Tr.depth_eq(t:Tr):t.depth=IntKind.i64.wrap (W6 (fun i=>(t.kid i).depth) t.n.toNat+1):=by cases t<;>rfl
theorem ZhJ{P:Program}{L:List (Nat×Value)}{w:World}{o:Oper}{x y:Operand}{T T':TypeId}{m n:Int}(ho:o.op= .binOp .add T x y T':=by exact rfl)(hx:evL L x=some (.int .i64 m):=by exact rfl)(hy:evL L y=some (.int .i64 n):=by exact rfl):Runs P L w o (.value (.int .i64 (IntKind.i64.wrap (m+n)))) w:=fun ρ h=>by
  simp [execOp,ho,h _ _ hx,h _ _ hy,go_sem,Op.intArith]
def ZP(x:Int):Prop:= -1073741824<=x/\x<=1073741824
def OkN(t:Tr):Prop:=ZP t.s/\t.n<=100/\t.nl<=40/\(t.n=0\/t.nl=0)/\(t.n=0->t.s=0)/\∀k,0<=k->k<t.nl->ZP (t.l k)
def Tr.ok:Tr->Prop| .nil=>OkN .nil| .mk s vK n kid vL nl l=>OkN (.mk s vK n kid vL nl l)/\∀i,0<=i->i<n->(kid i).ok
theorem Tr.ok_iff(t:Tr):t.ok↔OkN t/\∀i,0<=i->i<t.n->(t.kid i).ok:=by
  cases t with
  |nil=>exact⟨fun h=>⟨h,fun i i0 i1=>by have i1':i<0:=i1;omega⟩,fun h=>h.1⟩
  |mk=>rfl
def Ym(t:Tr):Prop:=t.ok/\t.nodes<=2000/\t.depth<=40
def Sim:Tr->Tr->Prop
  | .nil,t=>t.s=0/\t.n=0/\t.vL= .slice none 0 0/\t.nl=0/\t.l=fun _=>0
  | .mk s vK n kid vL nl l,t=>t.s=s/\t.n=n/\t.vL=vL/\t.nl=nl/\t.l=l/\∀i,0<=i->i<n->Sim (kid i) (t.kid i)
theorem Sim.of{t u:Tr}(h:Sim t u):u.s=t.s/\u.n=t.n/\u.vL=t.vL/\u.nl=t.nl/\u.l=t.l/\∀i,0<=i->i<t.n->Sim (t.kid i) (u.kid i):=by
  cases t with
  |nil=>obtain⟨h1,h2,h3,h4,h5⟩:=h;exact⟨h1,h2,h3,h4,h5,fun i i0 i1=>by have i1':i<0:=i1;omega⟩
  |mk=>exact h
theorem Sim.nodes:∀t:Tr,∀{u:Tr},Sim t u->u.nodes=t.nodes:=Tr.ind fun t ih u h=>by
  obtain⟨_,h2,_,_,_,h6⟩:=h.of
  rw [u.nodes_eq,t.nodes_eq,h2]
  exact WW fun i i0 i1=>ih i i0 (by omega) (h6 i i0 (by omega))
theorem Sim.depth:∀t:Tr,∀{u:Tr},Sim t u->u.depth=t.depth:=Tr.ind fun t ih u h=>by
  obtain⟨_,h2,_,_,_,h6⟩:=h.of
  rw [u.depth_eq,t.depth_eq,h2]
  rw [W5 fun i i0 i1=>ih i i0 (by omega) (h6 i i0 (by omega))]
theorem Sim.ok:∀t:Tr,∀{u:Tr},Sim t u->(u.ok↔t.ok):=Tr.ind fun t ih u h=>by
  obtain⟨h1,h2,_,h4,h5,h6⟩:=h.of
  rw [u.ok_iff,t.ok_iff]
  have e:OkN u↔OkN t:=by unfold OkN;rw [h1,h2,h4,h5]
  rw [e,h2]
  exact⟨fun⟨a,b⟩=>⟨a,fun i i0 i1=>(ih i i0 i1 (h6 i i0 i1)).1 (b i i0 i1)⟩,fun⟨a,b⟩=>⟨a,fun i i0 i1=>(ih i i0 i1 (h6 i i0 i1)).2 (b i i0 i1)⟩⟩
theorem Sim.valid{t u:Tr}(h:Sim t u):Ym u↔Ym t:=by unfold Ym;rw [h.ok,h.nodes,h.depth]
def Frame.all(n:Int)(F:Int->Frame):Frame where
  holds w:=(∀i,0<=i->i<n->(F i).holds w)/\∀i j,0<=i->i<n->0<=j->j<n->i≠j->∀g,(F i).has g->¬(F j).has g
  has g:=∃i,0<=i/\i<n/\(F i).has g
  keep h hk:=⟨fun i i0 i1=>(F i).keep (h.1 i i0 i1) fun g hg=>hk g ⟨i,i0,i1,hg⟩,h.2⟩
  lt h hg:=by obtain⟨i,i0,i1,hg⟩:=hg;exact(F i).lt (h.1 i i0 i1) hg
def Tr.frame(E:TypeId):Tr->Frame| .nil=>Frame.bun []| .mk s vK n kid vL nl l=>Frame.bun [.own vK 3 E n (Yu kid),.sem (Frame.all n fun i=>(kid i).frame E)]
theorem Sat.addall{l:List Ent}(h:Sat w0 w l)(F:Int->Frame):Sat w0 w (l++ [.sem (Frame.all 0 F)]):=by
  refine h.comp (m:= [.sem (Frame.all 0 F)]) ⟨Below.refl _ _,?_,?_,List.pairwise_singleton _ _⟩
  · intro e he;obtain rfl:=List.mem_singleton.1 he;exact⟨fun i i0 i1=>by omega,fun i j i0 i1=>by omega⟩
  · intro e he g hg;obtain rfl:=List.mem_singleton.1 he;obtain⟨i,i0,i1,_⟩:=hg;omega
theorem Sat.allsnoc {l1 l2 l3:List Ent} {n:Int} {F:Int->Frame} {G:Frame} (h:Sat w0 w (l1++ .sem (Frame.all n F)::(l2++ .sem G::l3))) (hn:0<=n) {H:Int->Frame} (hH:∀i,0<=i->i<n->H i=F i) (hG:H n=G):Sat w0 w (l1++ .sem (Frame.all (n+1) H)::(l2++l3)):=by
  have hs:=List.pairwise_append.1 h.sep
  have hs2:=List.pairwise_cons.1 hs.2.1
  have hs3:=List.pairwise_append.1 hs2.2
  have hs4:=List.pairwise_cons.1 hs3.2.1
  have hF:=h.holds (.sem (Frame.all n F)) (by simp)
  have hg:=h.holds (.sem G) (by simp)
  have hAG:∀k,(∃i,0<=i/\i<n/\(F i).has k)->¬G.has k:=fun k hk hk'=>hs2.1 (.sem G) (by simp) k hk hk'
  have hH1:∀i,0<=i->i<n+1->H i=F i/\i<n\/H i=G/\i=n:=fun i i0 i1=>by
    by_cases e:i<n
    · exact .inl ⟨hH i i0 e,e⟩
    · obtain rfl:i=n:=by omega
      exact .inr ⟨hG,rfl⟩
  have cD:∀k,(Frame.all (n+1) H).has k->(Frame.all n F).has k\/G.has k:=fun k ⟨i,i0,i1,hk⟩=>by
    rcases hH1 i i0 i1 with⟨e,e1⟩|⟨e,e1⟩
    · rw [e] at hk;exact .inl ⟨i,i0,e1,hk⟩
    · rw [e] at hk;exact .inr hk
  refine⟨h.below,fun e he=> ?_,fun e he g hg'=> ?_,List.pairwise_append.2 ⟨hs.1,List.pairwise_cons.2 ⟨fun e he g hg' hg2=> ?_,List.pairwise_append.2 ⟨hs3.1,hs4.2,fun d hd e he=>hs3.2.2 d hd e (by simp [he])⟩⟩,fun d hd e he=> ?_⟩⟩
  · rcases List.mem_append.1 he with he|he
    · exact h.holds e (by simp [he])
    · rcases List.mem_cons.1 he with rfl|he
      · refine⟨fun i i0 i1=> ?_,fun i j i0 i1 j0 j1 hij k hk hk'=> ?_⟩
        · rcases hH1 i i0 i1 with⟨e,e1⟩|⟨e,e1⟩
          · rw [e];exact hF.1 i i0 e1
          · rw [e];exact hg
        · rcases hH1 i i0 i1 with⟨e,e1⟩|⟨e,e1⟩<;>rcases hH1 j j0 j1 with⟨d,d1⟩|⟨d,d1⟩<;>rw [e] at hk<;>rw [d] at hk'
          · exact hF.2 i j i0 e1 j0 d1 hij k hk hk'
          · exact hAG k ⟨i,i0,e1,hk⟩ hk'
          · exact hAG k ⟨j,j0,d1,hk'⟩ hk
          · omega
      · rcases List.mem_append.1 he with he|he
        · exact h.holds e (by simp [he])
        · exact h.holds e (by simp [he])
  · rcases List.mem_append.1 he with he|he
    · exact h.new e (by simp [he]) g hg'
    · rcases List.mem_cons.1 he with rfl|he
      · rcases cD g hg' with hg'|hg'
        · exact h.new (.sem (Frame.all n F)) (by simp) g hg'
        · exact h.new (.sem G) (by simp) g hg'
      · rcases List.mem_append.1 he with he|he
        · exact h.new e (by simp [he]) g hg'
        · exact h.new e (by simp [he]) g hg'
  · rcases cD g hg' with hg'|hg'
    · rcases List.mem_append.1 he with he|he
      · exact hs2.1 e (by simp [he]) g hg' hg2
      · exact hs2.1 e (by simp [he]) g hg' hg2
    · rcases List.mem_append.1 he with he|he
      · exact hs3.2.2 e he (.sem G) (by simp) g hg2 hg'
      · exact hs4.1 e he g hg' hg2
  · intro g hg1 hg2
    rcases List.mem_cons.1 he with rfl|he
    · rcases cD g hg2 with hg2|hg2
      · exact hs.2.2 d hd (.sem (Frame.all n F)) (by simp) g hg1 hg2
      · exact hs.2.2 d hd (.sem G) (by simp) g hg1 hg2
    · rcases List.mem_append.1 he with he|he
      · exact hs.2.2 d hd e (by simp [he]) g hg1 hg2
      · exact hs.2.2 d hd e (by simp [he]) g hg1 hg2
theorem Sat.tree{l:List Ent}{E:TypeId}{v:Value}{n:Int}{kid:Int->Tr}(h:Sat w0 w (l++ [.own v 3 E n (Yu kid),.sem (Frame.all n fun i=>(kid i).frame E)]))(s:Int)(vL:Value)(nl:Int)(f:Int->Int):Sat w0 w (l++ [.sem ((Tr.mk s v n kid vL nl f).frame E)]):=by
  exact h.bundle (l2:= [.own v 3 E n (Yu kid),.sem (Frame.all n fun i=>(kid i).frame E)])
end Go.Proofs.Gw
namespace Go.Proofs.YtkichmnjjblodaaGreat
open Go Go.RowKit Go.Proofs.Gw
theorem Ze2:Zc Tryz.prog 100=true:=by kernel_rfl
theorem ZhQ:Zc Tryz.prog 99=true:=by kernel_rfl
theorem Wo:ZV Tryz.prog 54=some (.agg #[.int .i64 0,.slice none 0 0,.slice none 0 0],3,56):=by kernel_rfl
theorem fd_54_1:Zt Tryz.prog 54 1=some 1:=by kernel_rfl
theorem XD:ZI Tryz.prog 52=true:=by kernel_rfl
theorem YM:ZH Tryz.prog 52=some (54,3):=by kernel_rfl
theorem st_54:Zw Tryz.prog 54=some 3:=by kernel_rfl
theorem Zhf:∀(t:Tr) (w0:World) (hK:KAt w0 t) (hV:LvAt w0 t),
    Calls Tryz.prog 99 [.agg #[.int .i64 t.s,t.vK,t.vL]].toArray w0 fun e w=>∃v,e= .returned v/\v= .int .i64 t.nodes/\Sat w0 w []:=by
  refine Tr.ind fun t ih=> ?_
  intro w0 hK hV
  have hn:=hK.row.slh.n0;have hn1:=hK.row.slh.n1
  refine zenG Tryz.func99 Tryz.ntmps99 fun w hS=> ?_
  refine zsr<|zla (xbx (cs:= [_,_,_]) hS) ?_;rintro _ w ⟨g1,rfl,hS⟩
  refine(zP)<|zlz<|(zP)<|zx5<|(zV (xfb 1 fd_54_1))<|(zV (xlb 0 XD hS))<|(zV (xln YM (hK).row.slh))<|(zP)<|zx6<|zlp (fun mm M w=>∃(s:Int) (i:Int),mm=((t.n-i).toNat)/\(0<=i)/\(i<=t.n)/\(s=VM (fun i=>(t.kid i).nodes) i.toNat)/\M= [(2,.int .i64 0),(3,.int .i64 s),(7,t.vK),(8,.int .i64 t.n),(9,.int .i64 i)]/\Sat w0 w [.blk g1 [.int .i64 t.s,t.vK,t.vL]]) ⟨1,0,rfl,(by omega),(by omega),?_,rfl,hS⟩ ?_
  ·
   rfl
  clear hS w
  rintro mm M w ⟨s,i,rfl,h0,h1,hs9,rfl,hS⟩
  refine zsr<|(zP)<|zx7<|Zf ?_ ?_<;>intro hc
  ·
   refine zx3<|(zV (xix (kk:=3*i) YM (hK).row.slh))<|(zV (xlw (cs:= [.int .i64 ((t.kid i).s),(t.kid i).vK,(t.kid i).vL]) st_54 ((hK).row.below hS.below) (WH (q:=3*i) (i:=i) _ (by omega))))<|zla (xal (cs:= [_,_,_]) Wo hS) ?_;rintro _ w ⟨g2,rfl,hS⟩
   refine zle (xsw 1 st_54 hS (hd:=(Za rfl (Za ((hK).sub (i:=i) (by omega) (by omega)).row.slh.one (Za ((hV).sub (i:=i) (by omega) (by omega)).leaf.row.slh.one Zh))))) ?_;clear hS;rintro w hS
   refine zlt<|zrg<|(zP)<|(zV (xls 1 st_54 hS))<|zlc (xc0 ZhQ) (ih i (by omega) (by omega) w (KAt.below hS.below ((hK).sub (i:=i) (by omega) (by omega))) (LvAt.below hS.below ((hV).sub (i:=i) (by omega) (by omega)))) ?_;rintro _ w ⟨rfl,hS'⟩
   replace hS:=hS.cmp hS';clear hS'
   refine(zV ZhJ)<|(zP)<|zx10<|(zV (Zg (r:=i+1)))<|(zP)<|zln<|zlq ⟨(IntKind.i64.wrap (s+((t.kid i).nodes))),i+1,rfl,(by omega),(by omega),?_,rfl,hS.pk [0]⟩
   ·
    rw [Tz _ h0,<-hs9]
  refine zx8<|(zP)<|(zP)<|zx1<|zf1 ⟨_,rfl,?_⟩
  obtain rfl:i=t.n:=by omega
  exact⟨by rw [t.nodes_eq,<-hs9],hS.nl⟩
theorem Zhq:∀(t:Tr) (w0:World) (hK:KAt w0 t) (hV:LvAt w0 t),
    Calls Tryz.prog 100 [.agg #[.int .i64 t.s,t.vK,t.vL]].toArray w0 fun e w=>∃v,e= .returned v/\v= .int .i64 t.depth/\Sat w0 w []:=by
  refine Tr.ind fun t ih=> ?_
  intro w0 hK hV
  have hn:=hK.row.slh.n0;have hn1:=hK.row.slh.n1
  refine zenG Tryz.func100 Tryz.ntmps100 fun w hS=> ?_
  refine zsr<|zla (xbx (cs:= [_,_,_]) hS) ?_;rintro _ w ⟨g1,rfl,hS⟩
  refine(zP)<|zlz<|(zP)<|zx5<|(zV (xfb 1 fd_54_1))<|(zV (xlb 0 XD hS))<|(zV (xln YM (hK).row.slh))<|(zP)<|zx6<|zlp (fun mm M w=>∃(s:Int) (i:Int),mm=((t.n-i).toNat)/\(0<=i)/\(i<=t.n)/\(s=W6 (fun i=>(t.kid i).depth) i.toNat)/\M= [(2,.int .i64 0),(3,.int .i64 s),(7,t.vK),(8,.int .i64 t.n),(9,.int .i64 i)]/\Sat w0 w [.blk g1 [.int .i64 t.s,t.vK,t.vL]]) ⟨0,0,rfl,(by omega),(by omega),?_,rfl,hS⟩ ?_
  ·
   rfl
  clear hS w
  rintro mm M w ⟨s,i,rfl,h0,h1,hs9,rfl,hS⟩
  refine zsr<|(zP)<|zx7<|Zf ?_ ?_<;>intro hc
  ·
   refine zx3<|(zV (xix (kk:=3*i) YM (hK).row.slh))<|(zV (xlw (cs:= [.int .i64 ((t.kid i).s),(t.kid i).vK,(t.kid i).vL]) st_54 ((hK).row.below hS.below) (WH (q:=3*i) (i:=i) _ (by omega))))<|zla (xal (cs:= [_,_,_]) Wo hS) ?_;rintro _ w ⟨g2,rfl,hS⟩
   refine zle (xsw 1 st_54 hS (hd:=(Za rfl (Za ((hK).sub (i:=i) (by omega) (by omega)).row.slh.one (Za ((hV).sub (i:=i) (by omega) (by omega)).leaf.row.slh.one Zh))))) ?_;clear hS;rintro w hS
   refine zlt<|zrg<|(zP)<|(zV (xls 1 st_54 hS))<|zlc (xc0 Ze2) (ih i (by omega) (by omega) w (KAt.below hS.below ((hK).sub (i:=i) (by omega) (by omega))) (LvAt.below hS.below ((hV).sub (i:=i) (by omega) (by omega)))) ?_;rintro _ w ⟨rfl,hS'⟩
   replace hS:=hS.cmp hS';clear hS'
   refine(zV (Zdz (r:=(max s ((t.kid i).depth)))))<|(zP)<|zx10<|(zV (Zg (r:=i+1)))<|(zP)<|zln<|zlq ⟨(max s ((t.kid i).depth)),i+1,rfl,(by omega),(by omega),?_,rfl,hS.pk [0]⟩
   ·
    rw [TS _ h0,<-hs9]
  refine zx8<|(zP)<|(zV ZhJ)<|(zP)<|zx1<|zf1 ⟨_,rfl,?_⟩
  obtain rfl:i=t.n:=by omega
  exact⟨by rw [t.depth_eq,<-hs9],hS.nl⟩
end Go.Proofs.YtkichmnjjblodaaGreat
namespace Go.Proofs.YtkichmnjjblodaaGreat
open Go Go.RowKit Go.Proofs.Gw
theorem ZeR:Zc Tryz.prog 175=true:=by kernel_rfl
theorem ZjI:Zc Tryz.prog 176=true:=by kernel_rfl
theorem fd_54_0:Zt Tryz.prog 54 0=some 0:=by kernel_rfl
theorem fd_54_2:Zt Tryz.prog 54 2=some 2:=by kernel_rfl
theorem Rf{x:Int}(w0:World):
    Calls Tryz.prog 175 [.int .i64 x].toArray w0 fun e w=>∃v,e= .returned v/\v=B (ZP x)/\Sat w0 w []:=by
  refine zenG Tryz.func175 Tryz.ntmps175 fun w hS=> ?_
  refine zsr<|(zP)<|zlz<|(zP)<|(zP)<|(zP)<|zlb 5 ?_ ?_<;>intro hc
  ·
   refine zs4 ?_
   refine zx1<|zf1 ⟨_,rfl,?_⟩
   exact⟨Zn (by unfold ZP;omega),hS⟩
  refine(zO)<|(zO)<|(zP)<|(zP)<|zx1<|zf1 ⟨_,rfl,?_⟩
  exact⟨Zj (by unfold ZP;omega),hS⟩
theorem Zks{x:Int}(w0:World):
    Calls Tryz.prog 176 [.int .i64 x].toArray w0 fun e w=>∃v,e= .returned v/\v=B (¬ZP x)/\Sat w0 w []:=by
  refine zenG Tryz.func176 Tryz.ntmps176 fun w hS=> ?_
  refine zsr<|(zP)<|zlz<|(zP)<|zlc (xc0 ZeR) (Rf (x:=x) w) ?_;rintro _ w ⟨rfl,hS'⟩
  replace hS:=hS.cmp hS';clear hS'
  refine(zP)<|(zP)<|zx1<|zf1 ⟨_,rfl,?_⟩
  exact⟨rfl,hS⟩
theorem Zky{v:Value}{n:Int}{f:Int->Int}(w0:World)(hR:Row w0 v 1 n (ints f)):
    Calls Tryz.prog 159 [v,.func (.func 176) #[] #[]].toArray w0 fun e w=>∃v,e= .returned v/\∃r:Int,v= .int .i64 r/\((r= -1/\∀k,0<=k->k<n->¬(¬ZP (f k)))\/(0<=r/\r<n/\(¬ZP (f r))))/\Sat w0 w []:=by
  have hn:=hR.slh.n0;have hn1:=hR.slh.n1
  refine zenG Tryz.func159 Tryz.ntmps159 fun w hS=> ?_
  refine zsr<|(zP)<|zx5<|(zP)<|(zV (xln Zb hR.slh))<|(zP)<|zx6<|zlp (fun mm M w=>∃(i:Int),mm=((n-i).toNat)/\(0<=i)/\(i<=n)/\(∀k,0<=k->k<i->¬(¬ZP (f k)))/\M= [(0,v),(1,.func (.func 176) #[] #[]),(7,.int .i64 n),(8,.int .i64 i)]/\Sat w0 w []) ⟨0,rfl,(by omega),(by omega),?_,rfl,hS⟩ ?_
  ·
   intro k h0 h1;omega
  clear hS w
  rintro mm M w ⟨i,rfl,h0,h1,qb,rfl,hS⟩
  refine zsr<|(zP)<|zx7<|Zf ?_ ?_<;>intro hc
  ·
   refine zx3<|(zP)<|(zP)<|zlz<|(zP)<|(zP)<|(zP)<|(zV (xix (kk:=i) Zb hR.slh))<|(zV (xlr (u:= .int .i64 (f i)) pl_3 (hR.below hS.below)))<|zlc (xc0 ZjI) (Zks (x:=(f i)) w) ?_;rintro _ w ⟨rfl,hS'⟩
   replace hS:=hS.cmp hS';clear hS'
   refine zlt<|Zf ?_ ?_<;>intro hc
   ·
    refine zsr<|(zP)<|(zP)<|zx2<|zf1 ⟨_,rfl,?_⟩
    exact⟨i,rfl,.inr ⟨by omega,by omega,‹¬ZP (f i)›⟩,hS⟩
   refine zx4<|(zV (Zg (r:=i+1)))<|(zP)<|zln<|zlq ⟨i+1,rfl,(by omega),(by omega),?_,rfl,hS⟩
   ·
    intro k h0' h1';rcases Int.lt_or_eq_of_le (show k<=i by omega) with hk|hk;exact qb k h0' hk;rw [hk];assumption
  refine zx8<|(zP)<|zx1<|zf1 ⟨_,rfl,?_⟩
  exact⟨-1,rfl,.inl ⟨rfl,fun k h0 h1=>qb k h0 (by omega)⟩,hS⟩
theorem ZkM{v:Value}{n:Int}{f:Int->Int}(w0:World)(hR:Row w0 v 1 n (ints f)):
    Calls Tryz.prog 151 [v,.func (.func 176) #[] #[]].toArray w0 fun e w=>∃v,e= .returned v/\v=B (∃k,0<=k/\k<n/\¬ZP (f k))/\Sat w0 w []:=by
  refine zenG Tryz.func151 Tryz.ntmps151 fun w hS=> ?_
  refine zsr<|(zP)<|zlz<|(zP)<|(zP)<|zlc (xc0 Wp) (Zky (n:=n) (f:=f) w (hR.below hS.below)) ?_;rintro _ w ⟨r1,rfl,hr1,hS'⟩
  replace hS:=hS.cmp hS';clear hS'
  refine(zP)<|(zP)<|zx1<|zf1 ⟨_,rfl,?_⟩
  exact⟨Zn (by
   rcases hr1 with⟨h1,h2⟩|⟨h1,h2,h3⟩
   · exact⟨fun h=>by omega,fun⟨k,h4,h5,h6⟩=>absurd h6 (h2 k h4 h5)⟩
   · exact⟨fun _=>⟨_,h1,h2,h3⟩,fun _=>h1⟩),hS⟩
theorem Zkr{t:Tr}(w0:World)(hK:KAt w0 t)(hV:LvAt w0 t):
    Calls Tryz.prog 138 [.agg #[.int .i64 t.s,t.vK,t.vL]].toArray w0 fun e w=>∃v,e= .returned v/\v=B (OkN t)/\Sat w0 w []:=by
  have hn:=hK.row.slh.n0;have hn1:=hK.row.slh.n1;have hln:=hV.leaf.row.slh.n0;have za:=hV.leaf.row.slh.n1
  refine zenG Tryz.func138 Tryz.ntmps138 fun w hS=> ?_
  refine zsr<|zla (xbx (cs:= [_,_,_]) hS) ?_;rintro _ w ⟨g1,rfl,hS⟩
  refine(zP)<|zx5<|(zV (xfb 1 fd_54_1))<|(zV (xlb 0 XD hS))<|(zV (xln YM (hK).row.slh))<|(zP)<|zlt<|Zf ?_ ?_<;>intro hc
  ·
   refine zsr<|(zV (xfb 2 fd_54_2))<|(zV (xlb 0 pl_22 hS))<|(zV (xln Zb (hV).leaf.row.slh))<|(zP)<|(zP)<|zlb 11 ?_ ?_<;>intro hc
   ·
    refine(zV (xfb 1 fd_54_1))<|(zV (xlb 0 XD hS))<|(zV (xln YM (hK).row.slh))<|(zP)<|(zP)<|(zP)<|zlb 17 ?_ ?_<;>intro hc
    ·
     refine(zV (xfb 0 fd_54_0))<|(zV (xlb 0 pl_3 hS))<|zlc (xc0 ZeR) (Rf (x:=t.s) w) ?_;rintro _ w ⟨rfl,hS'⟩
     replace hS:=hS.cmp hS';clear hS'
     refine(zP)<|(zP)<|zx14<|zf1 ⟨_,rfl,?_⟩
     exact⟨Zn ⟨fun hh=>⟨by first|assumption|(unfold ZP;omega),by omega,by omega,by omega,fun h0=>by omega,fun k k0 k1=>by first|omega|exact Classical.byContradiction fun h9=>absurd (show∃k,0<=k/\k<t.nl/\¬ZP (t.l k) from⟨k,k0,k1,h9⟩) (by assumption)⟩,fun hh=>by obtain⟨h1,h2,h3,h4,h5,h6⟩:=hh;first|exact h1|exact fun⟨k,k0,k1,k2⟩=>k2 (h6 k k0 k1)|omega⟩,hS.nl⟩
    iterate 3 refine zlo ?_
    refine(zP)<|(zP)<|zx14<|zf1 ⟨_,rfl,?_⟩
    exact⟨Zj (by rintro⟨h1,h2,h3,h4,h5,h6⟩;first|omega|(have:=h5 (by omega);omega)|exact absurd h1 ‹¬ZP t.s›|(obtain⟨k,k0,k1,k2⟩:=‹∃k,0<=k/\k<t.nl/\¬ZP (t.l k)›;exact k2 (h6 k k0 k1))),hS.nl⟩
   iterate 4 refine zlo ?_
   refine zs2 ?_
   iterate 3 refine zlo ?_
   refine(zP)<|(zP)<|zx14<|zf1 ⟨_,rfl,?_⟩
   exact⟨Zj (by rintro⟨h1,h2,h3,h4,h5,h6⟩;first|omega|(have:=h5 (by omega);omega)|exact absurd h1 ‹¬ZP t.s›|(obtain⟨k,k0,k1,k2⟩:=‹∃k,0<=k/\k<t.nl/\¬ZP (t.l k)›;exact k2 (h6 k k0 k1))),hS.nl⟩
  refine ZW<|(zV (xfb 0 fd_54_0))<|(zV (xlb 0 pl_3 hS))<|(zP)<|(zP)<|zlb 25 ?_ ?_<;>intro hc
  ·
   refine(zV (xfb 2 fd_54_2))<|(zV (xlb 0 pl_22 hS))<|(zV (xln Zb (hV).leaf.row.slh))<|(zP)<|(zP)<|(zP)<|zlb 31 ?_ ?_<;>intro hc
   ·
    refine(zV (xfb 2 fd_54_2))<|(zV (xlb 0 pl_22 hS))<|zlc (xc0 Wq) (ZkM (n:=t.nl) (f:=t.l) w ((hV).leaf.row.below hS.below)) ?_;rintro _ w ⟨rfl,hS'⟩
    replace hS:=hS.cmp hS';clear hS'
    refine(zP)<|(zP)<|(zP)<|zx1<|zf1 ⟨_,rfl,?_⟩
    exact⟨Zn ⟨fun hh=>⟨by first|assumption|(unfold ZP;omega),by omega,by omega,by omega,fun h0=>by omega,fun k k0 k1=>by first|omega|exact Classical.byContradiction fun h9=>absurd (show∃k,0<=k/\k<t.nl/\¬ZP (t.l k) from⟨k,k0,k1,h9⟩) (by assumption)⟩,fun hh=>by obtain⟨h1,h2,h3,h4,h5,h6⟩:=hh;first|exact h1|exact fun⟨k,k0,k1,k2⟩=>k2 (h6 k k0 k1)|omega⟩,hS.nl⟩
   iterate 4 refine zlo ?_
   refine(zP)<|(zP)<|zx1<|zf1 ⟨_,rfl,?_⟩
   exact⟨Zj (by rintro⟨h1,h2,h3,h4,h5,h6⟩;first|omega|(have:=h5 (by omega);omega)|exact absurd h1 ‹¬ZP t.s›|(obtain⟨k,k0,k1,k2⟩:=‹∃k,0<=k/\k<t.nl/\¬ZP (t.l k)›;exact k2 (h6 k k0 k1))),hS.nl⟩
  iterate 4 refine zlo ?_
  refine zs2 ?_
  iterate 4 refine zlo ?_
  refine(zP)<|(zP)<|zx1<|zf1 ⟨_,rfl,?_⟩
  exact⟨Zj (by rintro⟨h1,h2,h3,h4,h5,h6⟩;first|omega|(have:=h5 (by omega);omega)|exact absurd h1 ‹¬ZP t.s›|(obtain⟨k,k0,k1,k2⟩:=‹∃k,0<=k/\k<t.nl/\¬ZP (t.l k)›;exact k2 (h6 k k0 k1))),hS.nl⟩
end Go.Proofs.YtkichmnjjblodaaGreat
namespace Go.Proofs.YtkichmnjjblodaaGreat
open Go Go.RowKit Go.Proofs.Gw
theorem Ze1:Zc Tryz.prog 101=true:=by kernel_rfl
theorem Zj3:Zc Tryz.prog 138=true:=by kernel_rfl
theorem Zj2:Zc Tryz.prog 139=true:=by kernel_rfl
theorem Zj1:Zc Tryz.prog 140=true:=by kernel_rfl
theorem ZjH:Zc Tryz.prog 177=true:=by kernel_rfl
theorem Zl8{t:Tr}(w0:World)(hK:KAt w0 t)(hV:LvAt w0 t)(hal:∀(w0:World),KAt w0 t->LvAt w0 t->Calls Tryz.prog 101 [.agg #[.int .i64 t.s,t.vK,t.vL]].toArray w0 fun e w=>∃v,e= .returned v/\v=B t.ok/\Sat w0 w []):
    Calls Tryz.prog 140 [.agg #[.int .i64 t.s,t.vK,t.vL]].toArray w0 fun e w=>∃v,e= .returned v/\v=B (¬t.ok)/\Sat w0 w []:=by
  refine zenG Tryz.func140 Tryz.ntmps140 fun w hS=> ?_
  refine zsr<|zla (xbx (cs:= [_,_,_]) hS) ?_;rintro _ w ⟨g1,rfl,hS⟩
  refine(zP)<|zlz<|(zV (xls 0 st_54 hS))<|zlc (xc0 Ze1) (hal w (KAt.below hS.below (hK)) (LvAt.below hS.below (hV))) ?_;rintro _ w ⟨rfl,hS'⟩
  replace hS:=hS.cmp hS';clear hS'
  refine(zP)<|(zP)<|zx1<|zf1 ⟨_,rfl,?_⟩
  exact⟨rfl,hS.nl⟩
theorem ZkF{t:Tr}(w0:World)(hK:KAt w0 t)(hV:LvAt w0 t)(iha:∀i,0<=i->i<t.n->∀(w0:World),KAt w0 (t.kid i)->LvAt w0 (t.kid i)->Calls Tryz.prog 101 [.agg #[.int .i64 (t.kid i).s,(t.kid i).vK,(t.kid i).vL]].toArray w0 fun e w=>∃v,e= .returned v/\v=B (t.kid i).ok/\Sat w0 w []):
    Calls Tryz.prog 177 [t.vK,.func (.func 140) #[] #[]].toArray w0 fun e w=>∃v,e= .returned v/\∃r:Int,v= .int .i64 r/\((r= -1/\∀k,0<=k->k<t.n->(t.kid k).ok)\/(0<=r/\r<t.n/\¬(t.kid r).ok))/\Sat w0 w []:=by
  have hn:=hK.row.slh.n0;have hn1:=hK.row.slh.n1;have hln:=hV.leaf.row.slh.n0;have za:=hV.leaf.row.slh.n1
  refine zenG Tryz.func177 Tryz.ntmps177 fun w hS=> ?_
  refine zsr<|(zP)<|zx5<|(zP)<|(zV (xln YM (hK).row.slh))<|(zP)<|zx6<|zlp (fun mm M w=>∃(i:Int),mm=((t.n-i).toNat)/\(0<=i)/\(i<=t.n)/\(∀k,0<=k->k<i->(t.kid k).ok)/\M= [(0,t.vK),(1,.func (.func 140) #[] #[]),(7,.int .i64 t.n),(8,.int .i64 i)]/\Sat w0 w []) ⟨0,rfl,(by omega),(by omega),?_,rfl,hS⟩ ?_
  ·
   intro k h0 h1;omega
  clear hS w
  rintro mm M w ⟨i,rfl,h0,h1,qb,rfl,hS⟩
  refine zsr<|(zP)<|zx7<|Zf ?_ ?_<;>intro hc
  ·
   refine zx3<|(zP)<|(zP)<|zlz<|(zP)<|(zP)<|(zP)<|(zV (xix (kk:=3*i) YM (hK).row.slh))<|(zV (xlw (cs:= [.int .i64 ((t.kid i).s),(t.kid i).vK,(t.kid i).vL]) st_54 ((hK).row.below hS.below) (WH (q:=3*i) (i:=i) _ (by omega))))<|zlc (xc0 Zj1) (Zl8 (t:=(t.kid i)) w (KAt.below hS.below ((hK).sub (i:=i) (by omega) (by omega))) (LvAt.below hS.below ((hV).sub (i:=i) (by omega) (by omega))) (iha i (by omega) (by omega))) ?_;rintro _ w ⟨rfl,hS'⟩
   replace hS:=hS.cmp hS';clear hS'
   refine zlt<|Zf ?_ ?_<;>intro hc
   ·
    refine zsr<|(zP)<|(zP)<|zx2<|zf1 ⟨_,rfl,?_⟩
    exact⟨i,rfl,.inr ⟨by omega,by omega,‹¬(t.kid i).ok›⟩,hS⟩
   refine zx4<|(zV (Zg (r:=i+1)))<|(zP)<|zln<|zlq ⟨i+1,rfl,(by omega),(by omega),?_,rfl,hS⟩
   ·
    intro k k0 k1;rcases Int.lt_or_eq_of_le (show k<=i by omega) with hk|hk
    · exact qb k k0 hk
    · rw [hk];exact Classical.not_not.1 ‹_›
  refine zx8<|(zP)<|zx1<|zf1 ⟨_,rfl,?_⟩
  exact⟨-1,rfl,.inl ⟨rfl,fun k h0 h1=>qb k h0 (by omega)⟩,hS⟩
theorem ZkQ{t:Tr}(w0:World)(hK:KAt w0 t)(hV:LvAt w0 t)(iha:∀i,0<=i->i<t.n->∀(w0:World),KAt w0 (t.kid i)->LvAt w0 (t.kid i)->Calls Tryz.prog 101 [.agg #[.int .i64 (t.kid i).s,(t.kid i).vK,(t.kid i).vL]].toArray w0 fun e w=>∃v,e= .returned v/\v=B (t.kid i).ok/\Sat w0 w []):
    Calls Tryz.prog 139 [t.vK,.func (.func 140) #[] #[]].toArray w0 fun e w=>∃v,e= .returned v/\v=B (∃k,0<=k/\k<t.n/\¬(t.kid k).ok)/\Sat w0 w []:=by
  refine zenG Tryz.func139 Tryz.ntmps139 fun w hS=> ?_
  refine zsr<|(zP)<|zlz<|(zP)<|(zP)<|zlc (xc0 ZjH) (ZkF (t:=t) w (KAt.below hS.below (hK)) (LvAt.below hS.below (hV)) iha) ?_;rintro _ w ⟨r1,rfl,hr1,hS'⟩
  replace hS:=hS.cmp hS';clear hS'
  refine(zP)<|(zP)<|zx1<|zf1 ⟨_,rfl,?_⟩
  exact⟨Zn (by
   rcases hr1 with⟨h1,h2⟩|⟨h1,h2,h3⟩
   · exact⟨fun h=>by omega,fun⟨k,h4,h5,h6⟩=>absurd (h2 k h4 h5) h6⟩
   · exact⟨fun _=>⟨_,h1,h2,h3⟩,fun _=>h1⟩),hS⟩
theorem ZhA:∀(t:Tr) (w0:World) (hK:KAt w0 t) (hV:LvAt w0 t),
    Calls Tryz.prog 101 [.agg #[.int .i64 t.s,t.vK,t.vL]].toArray w0 fun e w=>∃v,e= .returned v/\v=B t.ok/\Sat w0 w []:=by
  refine Tr.ind fun t ih=> ?_
  intro w0 hK hV
  refine zenG Tryz.func101 Tryz.ntmps101 fun w hS=> ?_
  refine zsr<|zla (xbx (cs:= [_,_,_]) hS) ?_;rintro _ w ⟨g1,rfl,hS⟩
  refine(zP)<|zlz<|(zV (xls 0 st_54 hS))<|zlc (xc0 Zj3) (Zkr (t:=t) w (KAt.below hS.below (hK)) (LvAt.below hS.below (hV))) ?_;rintro _ w ⟨rfl,hS'⟩
  replace hS:=hS.cmp hS';clear hS'
  refine(zP)<|zlb 5 ?_ ?_<;>intro hc
  ·
   refine(zV (xfb 1 fd_54_1))<|(zV (xlb 0 XD hS))<|zlc (xc0 Zj2) (ZkQ (t:=t) w (KAt.below hS.below (hK)) (LvAt.below hS.below (hV)) ih) ?_;rintro _ w ⟨rfl,hS'⟩
   replace hS:=hS.cmp hS';clear hS'
   refine(zP)<|(zP)<|(zP)<|zx1<|zf1 ⟨_,rfl,?_⟩
   exact⟨Zn (by rw [t.ok_iff];exact⟨fun hh=>⟨‹OkN t›,fun k k0 k1=>Classical.byContradiction fun h9=>hh ⟨k,k0,k1,h9⟩⟩,fun hh ⟨k,k0,k1,k2⟩=>k2 (hh.2 k k0 k1)⟩),hS.nl⟩
  iterate 4 refine zlo ?_
  refine(zP)<|(zP)<|zx1<|zf1 ⟨_,rfl,?_⟩
  exact⟨Zj (by rw [t.ok_iff];rintro⟨h1,h2⟩;first|exact absurd h1 ‹¬OkN t›|(obtain⟨k,k0,k1,k2⟩:=‹∃k,0<=k/\k<t.n/\¬(t.kid k).ok›;exact k2 (h2 k k0 k1))),hS.nl⟩
theorem Rc{t:Tr}(w0:World)(hK:KAt w0 t)(hV:LvAt w0 t):
    Calls Tryz.prog 68 [.agg #[.int .i64 t.s,t.vK,t.vL]].toArray w0 fun e w=>∃v,e= .returned v/\v=B (Ym t)/\Sat w0 w []:=by
  refine zenG Tryz.func68 Tryz.ntmps68 fun w hS=> ?_
  refine zsr<|zla (xbx (cs:= [_,_,_]) hS) ?_;rintro _ w ⟨g1,rfl,hS⟩
  refine(zP)<|zlz<|(zV (xls 0 st_54 hS))<|zlc (xc0 ZhQ) (Zhf t w (KAt.below hS.below (hK)) (LvAt.below hS.below (hV))) ?_;rintro _ w ⟨rfl,hS'⟩
  replace hS:=hS.cmp hS';clear hS'
  refine(zP)<|(zP)<|zlb 6 ?_ ?_<;>intro hc
  ·
   refine(zV (xls 0 st_54 hS))<|zlc (xc0 Ze2) (Zhq t w (KAt.below hS.below (hK)) (LvAt.below hS.below (hV))) ?_;rintro _ w ⟨rfl,hS'⟩
   replace hS:=hS.cmp hS';clear hS'
   refine(zP)<|(zP)<|(zP)<|zlb 11 ?_ ?_<;>intro hc
   ·
    refine(zV (xls 0 st_54 hS))<|zlc (xc0 Ze1) (ZhA t w (KAt.below hS.below (hK)) (LvAt.below hS.below (hV))) ?_;rintro _ w ⟨rfl,hS'⟩
    replace hS:=hS.cmp hS';clear hS'
    refine(zP)<|(zP)<|zx1<|zf1 ⟨_,rfl,?_⟩
    exact⟨Zn ⟨fun hh=>⟨by first|exact hh|assumption,by omega,by omega⟩,fun hh=>by obtain⟨h1,h2,h3⟩:=hh;first|exact h1|omega⟩,hS.nl⟩
   refine(zO)<|(zO)<|(zP)<|(zP)<|zx1<|zf1 ⟨_,rfl,?_⟩
   exact⟨Zj (by rintro⟨h1,h2,h3⟩;first|omega|exact absurd h1 ‹¬t.ok›),hS.nl⟩
  iterate 3 refine zlo ?_
  refine(zP)<|(zP)<|(zO)<|zlo ?_
  refine(zP)<|(zP)<|zx1<|zf1 ⟨_,rfl,?_⟩
  exact⟨Zj (by rintro⟨h1,h2,h3⟩;first|omega|exact absurd h1 ‹¬t.ok›),hS.nl⟩
end Go.Proofs.YtkichmnjjblodaaGreat
namespace Go.Proofs.YtkichmnjjblodaaGreat
open Go Go.RowKit Go.Proofs.Gw
variable {b i:Int}
noncomputable def ZT(p:Prob)(wi i:Int):Prob:=p.with fun j=>p.D j-Yr (MX p wi) i j
def fw (f:Int->Option (List Int)):Nat->Int->Option (List Int)
  |0,_=>none
  | c+1,i=>match f i with
    |some l=>some (i::l)
    |none=>fw f c (i+1)
theorem Zit{f:Int->Option (List Int)}{n:Int}(h:n<=i):fw f (n-i).toNat i=none:=by rw [show(n-i).toNat=0 by omega];rfl
theorem Zlm{f:Int->Option (List Int)}{n:Int}(h:i<n)(hf:f i=none):fw f (n-i).toNat i=fw f (n-(i+1)).toNat (i+1):=by
  rw [show(n-i).toNat=(n-(i+1)).toNat+1 by omega]
  show(match f i with
    |some l=>some (i::l)
    |none=>fw f (n-(i+1)).toNat (i+1))=_
  rw [hf]
theorem Zis{f:Int->Option (List Int)}{n:Int}{l:List Int}(h:i<n)(hf:f i=some l):fw f (n-i).toNat i=some (i::l):=by
  rw [show(n-i).toNat=(n-(i+1)).toNat+1 by omega]
  show(match f i with
    |some l=>some (i::l)
    |none=>fw f (n-(i+1)).toNat (i+1))=_
  rw [hf]
theorem Zb4{f:Int->Option (List Int)}:∀{c:Nat} {i:Int},fw f c i=none->∀k,i<=k->k<i+c->f k=none
  |0,i,_,k,h1,h2=>by omega
  | c +1,i,h,k,h1,h2=>by
    unfold fw at h
    cases hf:f i with
    |some m=>rw [hf] at h;cases h
    | none=>
      rw [hf] at h
      by_cases e:k=i
      · rw [e];exact hf
      · exact Zb4 h k (by omega) (by omega)
noncomputable def wrT:Tr->Prob->Int->Option (List Int)
  | .nil,p,b=> @ite _ (XW p b 0 (fun _=>0)) (Classical.propDecidable _) none (some [])
  | .mk s vK n kid vL nl l,p,b=>if n=0 then @ite _ (XW p b nl l) (Classical.propDecidable _) none (some []) else
    @ite _ (ZM p b s/\Zl p b s=n) (Classical.propDecidable _) (fw (fun i=>wrT (kid i) (ZT p s i) (b-1)) n.toNat 0) (some [])
theorem Up{t:Tr}{p:Prob}(h:t.n=0):wrT t p b= @ite _ (XW p b t.nl t.l) (Classical.propDecidable _) none (some []):=by
  cases t with
  |nil=>rfl
  |mk s vK n kid vL nl l=>exact if_pos h
theorem XA{t:Tr}{p:Prob}(h:t.n=0)(hl:XW p b t.nl t.l):wrT t p b=none:=by rw [Up h,if_pos hl]
theorem WT{t:Tr}{p:Prob}(h:t.n=0)(hl:¬XW p b t.nl t.l):wrT t p b=some []:=by rw [Up h,if_neg hl]
noncomputable def RS(t:Tr)(p:Prob)(b:Int)(i:Int):Option (List Int):=wrT (t.kid i) (ZT p t.s i) (b-1)
theorem Vc{t:Tr}{p:Prob}(h:t.n≠0)(hs:ZM p b t.s)(hn:Zl p b t.s=t.n):wrT t p b=fw (RS t p b) (t.n-0).toNat 0:=by
  cases t with
  |nil=>exact absurd rfl h
  | mk s vK n kid vL nl l=>
    have h':n≠0:=h
    show(if n=0 then _ else _)=_
    rw [if_neg h',if_pos (show ZM p b s/\Zl p b s=n from⟨hs,hn⟩),Int.sub_zero]
    rfl
theorem UE{t:Tr}{p:Prob}(h:t.n≠0)(hs:¬(ZM p b t.s/\Zl p b t.s=t.n)):wrT t p b=some []:=by
  cases t with
  |nil=>exact absurd rfl h
  | mk s vK n kid vL nl l=>
    have h':n≠0:=h
    show(if n=0 then _ else _)=_
    rw [if_neg h',if_neg (show¬(ZM p b s/\Zl p b s=n) from hs)]
theorem Sim.wr:∀(t:Tr) {u:Tr},Sim t u->∀(p:Prob) (b:Int),wrT u p b=wrT t p b:=Tr.ind fun t ih u h p b=>by
  obtain⟨h1,h2,_,h4,h5,h6⟩:=h.of
  by_cases h0:t.n=0
  · rw [Up h0,Up (h2.trans h0),h4,h5]
  · have hu:u.n≠0:=by rw [h2];exact h0
    by_cases hs:ZM p b t.s/\Zl p b t.s=t.n
    · rw [Vc h0 hs.1 hs.2,Vc hu (by rw [h1];exact hs.1) (by rw [h1,h2];exact hs.2),h2]
      have e:∀(c:Nat) (i:Int),0<=i->i+c<=t.n->fw (RS u p b) c i=fw (RS t p b) c i:=fun c=>by
        induction c with
        |zero=>intro i _ _;rfl
        | succ c ihc=>
          intro i i0 i1
          have ek:RS u p b i=RS t p b i:=by unfold RS;rw [h1];exact ih i i0 (by omega) (h6 i i0 (by omega)) _ _
          unfold fw
          rw [ek,ihc (i+1) (by omega) (by omega)]
      have hn:Zl p b t.s=(MX p t.s).length:=Ys hs.1
      exact e _ 0 (Int.le_refl _) (by have:=hs.2;omega)
    · rw [UE h0 hs,UE hu (by rw [h1,h2];exact hs)]
def IsL(q:Int)(f:Int->Int)(l:List Int):Prop:=q=l.length/\∀k,0<=k->k<q->f k=l.getD k.toNat 0
theorem IsL.nil{f:Int->Int}:IsL 0 f []:=⟨rfl,fun k h0 h1=>by omega⟩
theorem IsL.cons{q:Int}{f g:Int->Int}{l:List Int}(h:IsL q f l)(h0:g 0=i)(hg:∀k,0<=k->k<q->g (k+1)=f k):IsL (q+1) g (i::l):=by
  obtain⟨h1,h2⟩:=h
  refine⟨by simp [h1],fun k k0 k1=> ?_⟩
  by_cases e:k=0
  · rw [e,h0];rfl
  · have:=hg (k-1) (by omega) (by omega)
    rw [show k-1+1=k by omega] at this
    rw [this,h2 (k-1) (by omega) (by omega),show k.toNat=(k-1).toNat+1 by omega];rfl
theorem IsL.snoc{q i:Int}{f:Int->Int}{l:List Int}(h:IsL q f l):IsL (q+1) (Gw.snoc f q i) (l++ [i]):=by
  obtain⟨h1,h2⟩:=h
  refine⟨by simp [h1],fun k k0 k1=> ?_⟩
  by_cases e:k<q
  · rw [Zq e,h2 k k0 e,List.getD_eq_getElem?_getD,List.getD_eq_getElem?_getD,List.getElem?_append_left (by omega)]
  · rw [Zr e,show k.toNat=l.length by omega,List.getD_eq_getElem?_getD,List.getElem?_append_right (Nat.le_refl _)];simp
theorem IsL.init{q:Int}{f:Int->Int}{l:List Int}(h:IsL q f (l++ [i])):IsL (q-1) f l:=by
  obtain⟨h1,h2⟩:=h
  rw [List.length_append,List.length_singleton] at h1
  refine⟨by omega,fun k k0 k1=> ?_⟩
  rw [h2 k k0 (by omega),List.getD_eq_getElem?_getD,List.getD_eq_getElem?_getD,List.getElem?_append_left (by omega)]
theorem IsL.same{q r:Int}{f g:Int->Int}{l:List Int}(h:IsL q f l)(h':IsL r g l):q=r/\∀k,0<=k->k<q->f k=g k:=by
  have e:q=r:=h.1.trans h'.1.symm
  exact⟨e,fun k k0 k1=>by rw [h.2 k k0 k1,h'.2 k k0 (by omega)]⟩
theorem Vs{p:Prob}{wi:Int}(hs:ZM p b wi)(i0:0<=i)(i1:i<Zl p b wi):MPat p wi (Yr (MX p wi) i)/\1<=Yr (MX p wi) i wi:=by
  rw [Ys hs] at i1
  obtain⟨h1,h2⟩:=ZfS hs.1.1 (KP i0 i1)
  exact⟨h1,h2 hs.2.2.1.1 hs.2.2.1.2⟩
theorem RM{w w':World}{vL vD:Value}{p:Prob}{wi:Int}{vv:Int->Value}(hs:ZM p b wi)(h:PAt w' vL vD p)(rL:Row w (vv (2*i)) 1 p.m (ints (gfn p (MX p wi) (2*i))))(rD:Row w (vv (2*i+1)) 1 p.m (ints (gfn p (MX p wi) (2*i+1))))(i0:0<=i)(i1:i<Zl p b wi):PAt w (vv (2*i)) (vv (2*i+1)) (ZT p wi i):=by
  have hp:=hs.1.1
  rw [Zll p _ (i:=i) rfl] at rL
  rw [Zir p _ (i:=i) rfl] at rD
  refine⟨rL,?_,h.iL,fun k=> ?_,h.is,h.ik⟩
  · show Row w _ 1 p.d _
    rw [hp.d];exact rD
  · obtain⟨hm,_⟩:=Vs hs i0 i1
    show _<=p.D k-Yr (MX p wi) i k/\p.D k-Yr (MX p wi) i k<=_
    by_cases hk:0<=k/\k<p.m
    · have h1:=hm.rng k hk.1 hk.2
      have h2:=hp.all k hk.1 hk.2
      unfold Prob.each at h2
      omega
    · rw [hm.zero k (by omega)]
      have:=h.iD k
      omega
def consf(i:Int)(f:Int->Int):Int->Int:=fun k=>if k<1 then i else f (k-1)
theorem Zdg(i:Int)(f:Int->Int):cat ((1:Int)*(1:Nat)) (ints fun _=>i) (ints f)=ints (consf i f):=by
  funext j;simp only [cat,ints,consf];split<;>split<;>first|rfl|omega
theorem IsL.consf{q i:Int}{f:Int->Int}{l:List Int}(h:IsL q f l):IsL (q+1) (consf i f) (i::l):=h.cons (if_pos (by omega)) fun k k0 k1=>by
  unfold Go.Proofs.YtkichmnjjblodaaGreat.consf;rw [if_neg (by omega),show k+1-1=k by omega]
theorem Zk8{t:Tr}{p:Prob}(h:t.n=0):wrT t p b≠none↔¬XW p b t.nl t.l:=by
  by_cases hl:XW p b t.nl t.l
  · rw [XA h hl];exact⟨fun h=>absurd rfl h,fun h=>absurd hl h⟩
  · rw [WT h hl];exact⟨fun _=>hl,fun _=>Option.some_ne_none _⟩
theorem Zh9{t:Tr}{p:Prob}(h:t.n=0):(wrT t p b).getD []= []:=by
  by_cases hl:XW p b t.nl t.l
  · rw [XA h hl];rfl
  · rw [WT h hl];rfl
end Go.Proofs.YtkichmnjjblodaaGreat
namespace Go.Proofs.YtkichmnjjblodaaGreat
open Go Go.RowKit Go.Proofs.Gw
theorem Zh1:Zc Tryz.prog 13=true:=by kernel_rfl
theorem Zh0:Zc Tryz.prog 16=true:=by kernel_rfl
theorem ZhS:Zc Tryz.prog 81=true:=by kernel_rfl
theorem Za0:ZI Tryz.prog 137=true:=by kernel_rfl
theorem Zld:ZI Tryz.prog 31=true:=by kernel_rfl
theorem Zlc:ZI Tryz.prog 39=true:=by kernel_rfl
theorem VI{E:TypeId}{n:Int}{vv:Int->Value}{ln:Int->Int}{f:Int->Int->Int}{w:World}{l:List Ent}(h:(Frame.bun l).holds w)(i:Nat)(hi:l[i]? =some (.sem (Frame.rows E n vv ln f))){k:Int}(k0:0<=k)(k1:k<n):Row w (vv k) 1 (ln k) (ints (f k)):=((h.1 _ (List.mem_of_getElem? hi)).1 k k0 k1).row
theorem Zcv{w:World}{l:List Ent}{F:Gw.Frame}(h:(Frame.bun l).holds w)(i:Nat)(hi:l[i]? =some (.sem F)):F.holds w:=h.1 _ (List.mem_of_getElem? hi)
theorem Zl3:∀(t:Tr) {F:Gw.Frame} {vL vD:Value} {p:Prob} {b:Int} {gl gs gp gw:Nat} {vp:Value} {q:Int} {f:Int->Int} {pre:List Int} (w0 w:World) (hS:Sat w0 w [.blk gl [.func (.func 16) #[] #[]],.blk gs [.func (.func 13) #[] #[]],.blk gp [vp],.blk gw [.func (.func 81) #[] #[.pointer (some ⟨gl,0,none⟩),.pointer (some ⟨gs,0,none⟩),.pointer (some ⟨gp,0,none⟩),.pointer (some ⟨gw,0,none⟩)]],.sem (Frame.dq 3 vp q f),.sem F]) (hP:∀w1,Below w0.heap.size w0 w1->F.holds w1->PAt w1 vL vD p) (hK:KAt w0 t) (hV:LvAt w0 t) (hv:Slh vp q) (hI:IsL q f pre) (hq:q+b<=1001),
    Calls Tryz.prog 81 [.agg #[vL,vD,.int .i64 p.stock,.int .i64 p.kerf,.int .i64 b],.agg #[.int .i64 t.s,t.vK,t.vL],.pointer (some ⟨gl,0,none⟩),.pointer (some ⟨gs,0,none⟩),.pointer (some ⟨gp,0,none⟩),.pointer (some ⟨gw,0,none⟩)].toArray w fun e w=>∃v,e= .returned v/\∃v1 q1 f1,v=B (wrT t p b≠none)/\Slh v1 q1/\IsL q1 f1 (pre++(wrT t p b).getD [])/\Sat w0 w [.blk gl [.func (.func 16) #[] #[]],.blk gs [.func (.func 13) #[] #[]],.blk gp [v1],.blk gw [.func (.func 81) #[] #[.pointer (some ⟨gl,0,none⟩),.pointer (some ⟨gs,0,none⟩),.pointer (some ⟨gp,0,none⟩),.pointer (some ⟨gw,0,none⟩)]],.sem (Frame.dq 3 v1 q1 f1),.sem F]:=by
  refine Tr.ind fun t ih=> ?_
  intro F vL vD p b gl gs gp gw vp q f pre w0 w hS hP hK hV hv hI hq
  have hn:=hK.row.slh.n0;have hn1:=hK.row.slh.n1;have hln:=hV.leaf.row.slh.n0;have za:=hV.leaf.row.slh.n1
  have h:=hP w hS.below (hS.holds _ (List.mem_of_getElem? (i:=5) rfl))
  have hv0:=hv.n0;have hv1:=hv.n1
  refine zenF Tryz.func81 Tryz.ntmps81 ?_
  refine zsr<|zla (xbx (cs:= [_,_,_,_,_]) hS) ?_;rintro _ w ⟨g1,rfl,hS⟩
  refine zla (xbx (cs:= [_,_,_]) hS) ?_;rintro _ w ⟨g2,rfl,hS⟩
  refine(zP)<|zx5<|(zV (xfb 1 fd_54_1))<|(zV (xlb 7 XD hS))<|(zV (xln YM (hK).row.slh))<|(zP)<|zlt<|Zf ?_ ?_<;>intro hc
  ·
   refine zsr<|(zV (xlb 0 Zlc hS))<|(zV (xls 6 Yn hS))<|(zV (xfb 2 fd_54_2))<|(zV (xlb 7 pl_22 hS))<|zlc (xc0 Zh0) (Zfr (p:=p) (b:=b) w (hP _ hS.below (hS.holds _ (List.mem_of_getElem? (i:=5) rfl))) ((hV).leaf.below hS.below) (hV).room) ?_;rintro _ w ⟨rfl,hS'⟩
   replace hS:=hS.cmp hS';clear hS'
   refine(zP)<|(zP)<|zx14<|zf1 ⟨_,rfl,?_⟩
   have hw9:t.n=0:=by omega
   exact⟨_,_,_,(Zn (Zk8 hw9)).symm,hv,by rw [Zh9 hw9];simpa using hI,hS.pk [0,1,2,3,4,5]⟩
  refine ZW<|(zV (xlb 1 Zld hS))<|(zV (xls 6 Yn hS))<|(zV (xfb 0 fd_54_0))<|(zV (xlb 7 pl_3 hS))<|zlc (xc0 Zh1) (Zcp (p:=p) (b:=b) (wi:=t.s) w (hP _ hS.below (hS.holds _ (List.mem_of_getElem? (i:=5) rfl)))) ?_;rintro _ w ⟨cV,yS,rfl,al,hS'⟩
  replace hS:=(hS.comp hS').n10;clear hS'
  have gY:∀k,0<=k->k<2*(Zl p b t.s)->Slh (yS k) p.m:=fun k k0 k1=>hS.slhIn 9 rfl k0 k1
  refine zs5 ?_
  refine zx5<|(zP)<|(zP)<|(zP)<|zlb 33 ?_ ?_<;>intro hc
  ·
   iterate 6 refine zlo ?_
   refine(zP)<|zlt<|zct<|zsr ?_
   refine(zP)<|zx14<|zf1 ⟨_,rfl,?_⟩
   have hw9:wrT t p b=some []:=UE (by omega) (by rintro⟨q1,q2⟩;first|exact absurd q1 ‹¬ZM p b t.s›|omega)
   exact⟨_,_,_,(ZQ (show wrT t p b≠none by rw [hw9];exact Option.some_ne_none _)).symm,hv,by rw [hw9];simpa using hI,hS.pk [0,1,2,3,4,5]⟩
  refine(zP)<|(zV (xln Vi al))<|(zV (xfb 1 fd_54_1))<|(zV (xlb 7 XD hS))<|(zV (xln YM (hK).row.slh))<|(zP)<|(zP)<|zlt<|Zf ?_ ?_<;>intro hc
  ·
   refine zsr<|(zP)<|zx14<|zf1 ⟨_,rfl,?_⟩
   have hw9:wrT t p b=some []:=UE (by omega) (by rintro⟨q1,q2⟩;first|exact absurd q1 ‹¬ZM p b t.s›|omega)
   exact⟨_,_,_,(ZQ (show wrT t p b≠none by rw [hw9];exact Option.some_ne_none _)).symm,hv,by rw [hw9];simpa using hI,hS.pk [0,1,2,3,4,5]⟩
  refine Xm<|(zV (xfb 1 fd_54_1))<|(zV (xlb 7 XD hS))<|(zV (xln YM (hK).row.slh))<|(zP)<|zx6 ?_
  have hsp:ZM p b t.s:=by first|assumption|exact Classical.not_not.1 ‹_›
  have hkn:Zl p b t.s=t.n:=by omega
  have hsb:=hsp.1.2;have hpn:=al.n1;have hv0:=hv.n0
  refine zlp (fun mm M w=>∃(vp2:Value) (q2:Int) (f2:Int->Int) (i:Int),mm=((t.n-i).toNat)/\(0<=i)/\(i<=t.n)/\(wrT t p b=fw (RS t p b) (t.n-i).toNat i)/\(Slh vp2 q2)/\(IsL q2 f2 pre)/\(q2=q)/\M= [(4,.pointer (some ⟨gp,0,none⟩)),(5,.pointer (some ⟨gw,0,none⟩)),(9,cV),(42,t.vK),(43,.int .i64 t.n),(44,.int .i64 i)]/\Sat w0 w [.blk gl [.func (.func 16) #[] #[]],.blk gs [.func (.func 13) #[] #[]],.blk gp [vp2],.blk gw [.func (.func 81) #[] #[.pointer (some ⟨gl,0,none⟩),.pointer (some ⟨gs,0,none⟩),.pointer (some ⟨gp,0,none⟩),.pointer (some ⟨gw,0,none⟩)]],.sem (Frame.dq 3 vp2 q2 f2),.sem F,.blk g1 [vL,vD,.int .i64 p.stock,.int .i64 p.kerf,.int .i64 b],.blk g2 [.int .i64 t.s,t.vK,t.vL],.own cV 5 34 (Zl p b t.s) (ZS yS p.stock p.kerf (b-1)),.sem (Frame.rows 3 (2*(Zl p b t.s)) yS (fun _=>p.m) (gfn p (MX p t.s)))]) ⟨vp,q,f,0,rfl,(by omega),(by omega),?_,?_,?_,?_,rfl,hS⟩ ?_
  ·
   exact Vc (by omega) hsp hkn
  ·
   exact hv
  ·
   exact hI
  ·
   rfl
  clear hS w
  rintro mm M w ⟨vp2,q2,f2,i,rfl,h0,h1,hfw,eV,hI2,hq2,rfl,hS⟩
  refine zsr<|(zP)<|zx7<|Zf ?_ ?_<;>intro hc
  ·
   refine zx3<|(zP)<|(zV (xix (kk:=3*i) YM (hK).row.slh))<|(zV (xlw (cs:= [.int .i64 ((t.kid i).s),(t.kid i).vK,(t.kid i).vL]) st_54 ((hK).row.below hS.below) (WH (q:=3*i) (i:=i) _ (by omega))))<|zla (xal (cs:= [_,_,_]) Wo hS) ?_;rintro _ w ⟨g4,rfl,hS⟩
   refine(zP)<|zle (xsw 10 st_54 hS (hd:=(Za rfl (Za ((hK).sub (i:=i) (by omega) (by omega)).row.slh.one (Za ((hV).sub (i:=i) (by omega) (by omega)).leaf.row.slh.one Zh))))) ?_;clear hS;rintro w hS
   refine zlz<|(zV (xlb 2 pl_22 hS))<|(zP)<|zla (xli (n:=1) (len:=1) (pv:= [(0,.int .i64 i)]) (cs:= [.int .i64 i]) (c:=ints (fun _=>i)) Zb ZB hS) ?_;rintro v1 w ⟨hS,hv1⟩
   refine zla (Zh8 4 Zb ZB hS (hS.rowN 11 rfl)) ?_;rintro v2 w ⟨hS,hv2⟩
   refine zle (xsb 2 pl_22 hS (hv:=hv2.one)) ?_;clear hS;rintro w hS
   refine zlt<|zsq<|zsq<|zdst [0,1,3,5,6,7,8,9,10,11] [0,1,3,5,6,7,8,9,10,11] 1000 mx_ hS ?_;clear hS;intro w hS
   refine(zDl 0 (fun w hS=>(xlb 2 Za0 hS)))<|(zDw 1 xmv)<|(zDw 2 xmv)<|(zDw 3 (xix (kk:=5*i) Vi al))<|(zDl 4 (fun w hS=>(xlw (cs:= [(yS (2*i)),(yS (2*i+1)),.int .i64 p.stock,.int .i64 p.kerf,.int .i64 (b-1)]) Yn (hS.rowN 6 rfl) (T3 (q:=5*i) (i:=i) yS p.stock p.kerf (b-1) (by omega)))))<|(zDl 5 (fun w hS=>(xls 8 st_54 hS)))<|zdc 6 (xcc (vs:= [_,_]) ZhS) (ih i (by omega) (by omega) (pre:=pre++ [i]) (p:=(ZT p t.s i)) (b:=(b-1)) w0 w (Sat.bundle (l1:= [_,_,_,_,_]) (hS.pk [0,1,2,3,4,5,6,7,8,9,10,11])) (fun w1 hb hF=>RM (vv:=yS) hsp (hP w1 hb (Zcv hF 0 rfl)) (VI hF 4 rfl (k:=2*i) (by omega) (by omega)) (VI hF 4 rfl (k:=2*i+1) (by omega) (by omega)) (by omega) (by omega)) ((hK).sub (i:=i) (by omega) (by omega)) ((hV).sub (i:=i) (by omega) (by omega)) hv2 (IsL.snoc hI2) (by omega)) ?_;rintro _ w ⟨c8,x3,eI,rfl,xm,xb,hS⟩
   replace hS:=Sat.unbundle (l1:= [_,_,_,_,_]) (l3:= []) hS
   refine⟨⟨fun _=>hS.pk [0,1,3,5,6,7,8,9,10,11],hS.pk [0,1,3,5,6,7,8,9,10,11]⟩,?_⟩
   refine zdd<|ztn ?_
   refine Zf ?_ ?_<;>intro hc
   ·
    refine zsr<|(zP)<|zlt<|zrt<|ztr<|zbr<|ztr<|ztr<|zbr<|ztr<|zf1 ⟨_,rfl,?_⟩
    obtain⟨l9,hl9⟩:=Option.ne_none_iff_exists'.1 ‹(wrT (t.kid i) (ZT p t.s i) (b-1))≠none›
    rw [hl9] at xb
    have hw9:wrT t p b=some (i::l9):=hfw.trans (Zis (by omega) hl9)
    exact⟨_,_,_,(ZQ (show wrT t p b≠none by rw [hw9];exact Option.some_ne_none _)).symm,xm,by rw [hw9];rw [List.append_assoc] at xb;exact xb,hS.pk [0,1,2,3,4,5]⟩
   refine zsk<|ztn<|zrg ?_
   iterate 2 refine zlv (xlb 2 pl_22 hS) ?_
   have hqz:=xb.1;have hqy:=xm.n1;rw [List.length_append,List.length_append,List.length_singleton] at hqz
   refine(zV (xln Zb xm))<|(zV (Zp (r:=x3-1)))<|zlv (ZaO (i:=x3-1) (x3-1).toNat Zb xm (Frame.dq.roomy (hS.dqOf 4 rfl))) ?_
   have zx:=(Ra (e:=x3-1) xm (by omega) (by omega))
   replace hS:=hS.dqpre (n:=x3) 4 (x3-1).toNat (by omega)
   replace hS:=hS.dqn 4 (by omega:((x3-1).toNat:Int)=x3-1)
   refine zle (xsb 2 pl_22 hS (hv:=zx.one)) ?_;clear hS;rintro w hS
   refine zx10<|(zV (Zg (r:=i+1)))<|(zP)<|zln ?_
   rw [show(wrT (t.kid i) (ZT p t.s i) (b-1))=none from Classical.byContradiction ‹¬((wrT (t.kid i) (ZT p t.s i) (b-1))≠none)›] at xb
   simp only [Option.getD_none,List.append_nil] at xb
   refine zlq ⟨(Tj c8 (x3-1).toNat),x3-1,eI,i+1,rfl,(by omega),(by omega),?_,?_,?_,?_,rfl,hS.pk [0,1,2,3,4,5,6,7,8,9]⟩
   ·
    rw [hfw];exact Zlm (by omega) (show RS t p b i=none from Classical.byContradiction ‹¬((wrT (t.kid i) (ZT p t.s i) (b-1))≠none)›)
   ·
    exact zx
   ·
    exact IsL.init (i:=i) xb
   ·
    have h8:=xb.1;have h9:=hI2.1;rw [List.length_append,List.length_singleton] at h8;omega
  refine zx8<|(zP)<|zx1<|zf1 ⟨_,rfl,?_⟩
  have hw9:wrT t p b=none:=hfw.trans (Zit (by omega))
  exact⟨_,_,_,(Zz (show¬wrT t p b≠none by rw [hw9];exact fun h=>h rfl)).symm,eV,by rw [hw9];simpa using hI2,hS.pk [0,1,2,3,4,5]⟩
end Go.Proofs.YtkichmnjjblodaaGreat
namespace Go.Proofs.YtkichmnjjblodaaGreat
open Go Go.RowKit Go.Proofs.Gw
variable {b:Int}
theorem ZlI:Zc Tryz.prog 50=true:=by kernel_rfl
theorem ZhU:Zc Tryz.prog 68=true:=by kernel_rfl
theorem ZiV:ZV Tryz.prog 137=some (.nilFunc,1,8):=by kernel_rfl
noncomputable def Zav(t:Tr)(p:Prob)(b:Int):Int:= @ite _ (ZY p b/\Ym t) (Classical.propDecidable _) (match wrT t p b with|none=>0|some _=>21) 1
noncomputable def Zde(t:Tr)(p:Prob)(b:Int):List Int:= @ite _ (ZY p b/\Ym t) (Classical.propDecidable _) ((wrT t p b).getD []) []
theorem Ze3{t:Tr}{p:Prob}(h:¬(ZY p b/\Ym t)):Zav t p b=1/\Zde t p b= []:=⟨if_neg h,if_neg h⟩
theorem ZgZ{t:Tr}{p:Prob}(h1:ZY p b)(h2:Ym t)(h:wrT t p b≠none):Zav t p b=21/\Zde t p b=(wrT t p b).getD []:=by
  refine⟨?_,if_pos ⟨h1,h2⟩⟩
  obtain⟨l,hl⟩:=Option.ne_none_iff_exists'.1 h
  unfold Zav;rw [if_pos ⟨h1,h2⟩,hl]
theorem Wc{t:Tr}{p:Prob}(h1:ZY p b)(h2:Ym t)(h:wrT t p b=none):Zav t p b=0/\Zde t p b= []:=by
  refine⟨?_,?_⟩
  · unfold Zav;rw [if_pos ⟨h1,h2⟩,h]
  · unfold Zde;rw [if_pos ⟨h1,h2⟩,h];rfl
theorem Zh6{P:Program}{L:List (Nat×Value)}{w:World}{n:Nat}{fn:Func}{R:Ending->World->Prop}{T:TypeId}{s t:Nat}{a1:Addr}{v1 v2:Value}(t1:ZI P T=true)(c1:w.cell? a1=some v1)(h:R (.returned (.tuple #[v1,v2])) w)
    (hr:fn.results= #[.cell s T,.tmp t]:=by exact rfl) (h1:lk L s=some (.pointer (some a1)):=by exact rfl) (h2:lk L t=some v2:=by exact rfl):Ge n [] (bodyPost P fn R) .ret L w:=fun a hF=>by
  refine⟨hF.defers,_,?_,h⟩
  obtain⟨⟨_,_,q1⟩,_⟩:=Wk (w:=w) t1
  have e1:=hF.get s _ h1
  have e2:=hF.get t _ h2
  rw [Array.getD_eq_getD_getElem?] at e1 e2
  simp [results,hr,e1,e2,asAddr,loadVar,q1,c1]
theorem Zkq{t:Tr}{vL vD:Value}{p:Prob}(w0:World)(h:PAt w0 vL vD p)(hb:ZY p b)(hK:KAt w0 t)(hV:LvAt w0 t):
    Calls Tryz.prog 50 [.agg #[vL,vD,.int .i64 p.stock,.int .i64 p.kerf,.int .i64 b],.agg #[.int .i64 t.s,t.vK,t.vL],.func (.func 13) #[] #[],.func (.func 16) #[] #[]].toArray w0 fun e w=>∃v,e= .returned v/\∃r q f,v= .tuple #[r,.int .i64 (Zav t p b)]/\Slh r q/\IsL q f (Zde t p b)/\Sat w0 w [.sem (Frame.dq 3 r q f)]:=by
  have hn:=hK.row.slh.n0;have hn1:=hK.row.slh.n1;have hln:=hV.leaf.row.slh.n0;have za:=hV.leaf.row.slh.n1
  have hm:=h.L.slh.n0;have hm1:=h.L.slh.n1;have hd:=h.D.slh.n0;have hd1:=h.D.slh.n1;have hs:=h.is;have hk:=h.ik
  have hb1:=hb.2
  refine zenG Tryz.func50 Tryz.ntmps50 fun w hS=> ?_
  refine zsr<|zla (xbx (cs:= [_,_,_,_,_]) hS) ?_;rintro _ w ⟨g1,rfl,hS⟩
  refine zla (xbx (cs:= [_,_,_]) hS) ?_;rintro _ w ⟨g2,rfl,hS⟩
  refine zla (xbx (cs:= [_]) hS) ?_;rintro _ w ⟨g3,rfl,hS⟩
  refine zla (xbx (cs:= [_]) hS) ?_;rintro _ w ⟨g4,rfl,hS⟩
  refine zla (xal (cs:= [_]) Yg hS) ?_;rintro _ w ⟨g5,rfl,hS⟩
  refine(zP)<|zx5<|(zV (xls 1 st_54 hS))<|zlc (xc0 ZhU) (Rc (t:=t) w (KAt.below hS.below (hK)) (LvAt.below hS.below (hV))) ?_;rintro _ w ⟨rfl,hS'⟩
  replace hS:=hS.cmp hS';clear hS'
  refine(zP)<|zlt<|Zf ?_ ?_<;>intro hc
  ·
   refine zsr<|zle (xsb 4 pl_22 hS) ?_;clear hS;rintro w hS
   refine(zP)<|zx14<|Zh6 pl_22 (hS.cellN 4 rfl rfl) ⟨_,rfl,?_⟩
   obtain⟨h8,h9⟩:=Ze3 (t:=t) (p:=p) (b:=b) (fun hh=>‹¬Ym t› hh.2)
   exact⟨_,0,fun _=>0,by rw [h8],slh_nil,by rw [h9];exact IsL.nil,(hS.dqnil 3 (fun _=>0)).sub (.cons _ (.cons _ (.cons _ (.cons _ (.cons _ (.cons_cons _ .slnil))))))⟩
  refine ZW<|zla (xal (cs:= [_]) ZiV hS) ?_;rintro _ w ⟨g6,rfl,hS⟩
  refine zlz<|(zV xmf)<|zle (xsb 5 Za0 hS) ?_;clear hS;rintro w hS
  refine zx5<|zlv (xlb 5 Za0 hS) ?_
  replace hS:=hS.dqnil 3 (fun _=>0)
  refine(zV (xls 0 Yn hS))<|(zV (xls 1 st_54 hS))<|zlc (xcc (vs:= [_,_]) ZhS) (Zl3 t (F:=Frame.bun [.blk g1 [vL,vD,.int .i64 p.stock,.int .i64 p.kerf,.int .i64 b],.blk g2 [.int .i64 t.s,t.vK,t.vL]]) (pre:= []) (p:=p) (b:=b) w0 w (Sat.bundle (l1:= [_,_,_,_,_]) (hS.pk [3,2,4,5,6,0,1])) (fun w1 hb _=>h.below hb) hK hV slh_nil IsL.nil (by omega)) ?_;rintro _ w ⟨c8,x3,eI,rfl,xm,xb,hS⟩
  replace hS:=Sat.unbundle (l1:= [_,_,_,_,_]) (l3:= []) hS
  refine zlt<|Zf ?_ ?_<;>intro hc
  ·
   refine zsr<|(zV (xlb 2 pl_22 hS))<|zle (xsb 2 pl_22 hS (hv:=xm.one)) ?_;clear hS;rintro w hS
   refine(zP)<|zx14<|Zh6 pl_22 (hS.cellN 2 rfl rfl) ⟨_,rfl,?_⟩
   obtain⟨h8,h9⟩:=ZgZ hb (Classical.not_not.1 ‹¬¬Ym t›) ‹wrT t p b≠none›
   exact⟨_,_,_,by rw [h8],xm,by rw [h9];exact xb,hS.pk [4]⟩
  refine ZW<|zle (xsb 2 pl_22 hS) ?_;clear hS;rintro w hS
  refine(zP)<|zx1<|Zh6 pl_22 (hS.cellN 2 rfl rfl) ⟨_,rfl,?_⟩
  obtain⟨h8,h9⟩:=Wc hb (Classical.not_not.1 ‹¬¬Ym t›) (Classical.byContradiction ‹¬(wrT t p b≠none)›)
  exact⟨_,0,fun _=>0,by rw [h8],slh_nil,by rw [h9];exact IsL.nil,(hS.dqnil 3 (fun _=>0)).sub (.cons _ (.cons _ (.cons _ (.cons _ (.cons _ (.cons _ (.cons _ (.cons_cons _ .slnil))))))))⟩
theorem Zl7{t:Tr}{vL vD:Value}{p:Prob}(w0:World)(h:PAt w0 vL vD p)(hK:KAt w0 t)(hV:LvAt w0 t):
    Calls Tryz.prog 21 [.agg #[vL,vD,.int .i64 p.stock,.int .i64 p.kerf,.int .i64 b],.agg #[.int .i64 t.s,t.vK,t.vL]].toArray w0 fun e w=>∃v,e= .returned v/\∃r q f,v= .tuple #[r,.int .i64 (Zav t p b)]/\Slh r q/\IsL q f (Zde t p b)/\Sat w0 w [.sem (Frame.dq 3 r q f)]:=by
  have hn:=hK.row.slh.n0;have hn1:=hK.row.slh.n1;have hln:=hV.leaf.row.slh.n0;have za:=hV.leaf.row.slh.n1
  have hm:=h.L.slh.n0;have hm1:=h.L.slh.n1;have hd:=h.D.slh.n0;have hd1:=h.D.slh.n1;have hs:=h.is;have hk:=h.ik
  refine zenG Tryz.func21 Tryz.ntmps21 fun w hS=> ?_
  refine zsr<|zla (xbx (cs:= [_,_,_,_,_]) hS) ?_;rintro _ w ⟨g1,rfl,hS⟩
  refine zla (xbx (cs:= [_,_,_]) hS) ?_;rintro _ w ⟨g2,rfl,hS⟩
  refine(zP)<|(zP)<|zx5<|(zV (xls 0 Yn hS))<|zlc (xc0 Zck) (Kb (p:=p) (b:=b) w (h.below hS.below)) ?_;rintro _ w ⟨rfl,hS'⟩
  replace hS:=hS.cmp hS';clear hS'
  refine(zP)<|zlt<|Zf ?_ ?_<;>intro hc
  ·
   refine zsr<|(zP)<|(zP)<|zx14<|zf2 ⟨_,rfl,?_⟩
   obtain⟨h8,h9⟩:=Ze3 (t:=t) (p:=p) (b:=b) (fun hh=>‹¬ZY p b› hh.1)
   exact⟨_,0,fun _=>0,by rw [h8],slh_nil,by rw [h9];exact IsL.nil,(hS.dqnil 3 (fun _=>0)).sub (.cons _ (.cons _ (.cons_cons _ .slnil)))⟩
  refine ZW<|(zV (xls 0 Yn hS))<|(zV (xls 1 st_54 hS))<|zlc (xc0 ZlI) (Zkq (t:=t) (p:=p) (b:=b) w (h.below hS.below) (Classical.not_not.1 ‹¬¬ZY p b›) (KAt.below hS.below (hK)) (LvAt.below hS.below (hV))) ?_;rintro _ w ⟨rk1,k1,fk1,rfl,dM,eu,hS'⟩
  replace hS:=(hS.comp hS').n3;clear hS'
  refine zs4 ?_
  refine zx1<|zf2 ⟨_,rfl,?_⟩
  exact⟨_,_,_,rfl,dM,eu,hS.pk [2]⟩
end Go.Proofs.YtkichmnjjblodaaGreat
namespace Go.Proofs.YtkichmnjjblodaaGreat
open Go Go.RowKit Go.Proofs.Gw
theorem ZlP:Zc Tryz.prog 21=true:=by kernel_rfl
theorem ZlL:Zc Tryz.prog 39=true:=by kernel_rfl
theorem ZlC:Zc Tryz.prog 70=true:=by kernel_rfl
theorem Y1:Zt Tryz.prog 63 0=some 0:=by kernel_rfl
theorem Zb8:Zt Tryz.prog 63 1=some 1:=by kernel_rfl
theorem Zb7:Zt Tryz.prog 63 2=some 2:=by kernel_rfl
theorem Zl5{v:Value}{n:Int}{f:Int->Int}(w0:World)(hR:Row w0 v 1 n (ints f)):
    Calls Tryz.prog 69 [v,.slice none 0 0].toArray w0 fun e w=>∃v,e= .returned v/\v=B (n=0)/\Sat w0 w []:=by
  have hn:=hR.slh.n0
  refine zenG Tryz.func69 Tryz.ntmps69 fun w hS=> ?_
  refine zsr<|(zP)<|zx5<|(zP)<|(zV (xln Zb hR.slh))<|(zP)<|(zV (xln Zb slh_nil))<|(zP)<|zlt<|Zf ?_ ?_<;>intro hc
  ·
   refine zsr<|(zP)<|zx14<|zf1 ⟨_,rfl,?_⟩
   exact⟨Zj (by omega),hS⟩
  refine Xm<|(zP)<|(zV (xln Zb hR.slh))<|(zP)<|zx6<|zlp (fun mm M w=>∃(i:Int),mm=((n-i).toNat)/\(0<=i)/\(i<=n)/\M= [(0,v),(1,.slice none 0 0),(12,.int .i64 n),(13,.int .i64 i)]/\Sat w0 w []) ⟨0,rfl,(by omega),(by omega),rfl,hS⟩ ?_
  clear hS w
  rintro mm M w ⟨i,rfl,h0,h1,rfl,hS⟩
  refine zsr<|(zV (xkf Z2))<|zx7<|zcf<|zxt<|ztx<|ztx<|zbh<|ztn<|zsr ?_
  refine(zP)<|zx1<|zf1 ⟨_,rfl,?_⟩
  exact⟨Yy (by omega),hS⟩
theorem ZkJ{t:Tr}(w0:World)(hK:KAt w0 t)(hV:LvAt w0 t):
    Calls Tryz.prog 70 [t.vK,.slice none 0 0,.func (.func 39) #[] #[]].toArray w0 fun e w=>∃v,e= .returned v/\v=B (t.n=0)/\Sat w0 w []:=by
  have hn:=hK.row.slh.n0;have hn1:=hK.row.slh.n1;have hln:=hV.leaf.row.slh.n0;have za:=hV.leaf.row.slh.n1
  refine zenG Tryz.func70 Tryz.ntmps70 fun w hS=> ?_
  refine zsr<|(zP)<|zx5<|(zP)<|(zV (xln YM (hK).row.slh))<|(zP)<|(zV (xln YM slh_nil))<|(zP)<|zlt<|Zf ?_ ?_<;>intro hc
  ·
   refine zsr<|(zP)<|zx14<|zf1 ⟨_,rfl,?_⟩
   exact⟨Zj (by omega),hS⟩
  refine Xm<|(zP)<|(zV (xln YM (hK).row.slh))<|(zP)<|zx6<|zlp (fun mm M w=>∃(i:Int),mm=((t.n-i).toNat)/\(0<=i)/\(i<=t.n)/\M= [(1,.slice none 0 0),(2,.func (.func 39) #[] #[]),(15,t.vK),(16,.int .i64 t.n),(17,.int .i64 i)]/\Sat w0 w []) ⟨0,rfl,(by omega),(by omega),rfl,hS⟩ ?_
  clear hS w
  rintro mm M w ⟨i,rfl,h0,h1,rfl,hS⟩
  refine zsr<|(zV (xkf Z2))<|zx7<|zcf<|zxt<|ztx<|ztx<|zbh<|ztn<|zsr ?_
  refine(zP)<|zx1<|zf1 ⟨_,rfl,?_⟩
  exact⟨Yy (by omega),hS⟩
def Th(t:Tr):Prop:=t.s=0/\t.nl=0/\t.n=0
noncomputable def ZfP(p:Prob)(nb u:Int)(ln:Int->Int)(pt:Int->Int->Int)(cnt:Int->Int)(t:Tr):Prop:=(PlanOk p u ln pt cnt/\∀j,0<=j->j<p.m->p.D j<=Zu u pt cnt j)/\psum (fun _=>1) cnt u.toNat=nb/\((nb=0/\Th t)\/(nb≠0/\Zav t p (nb-1)=0))
theorem Zfd{t:Tr}(w0:World)(hK:KAt w0 t)(hV:LvAt w0 t):
    Calls Tryz.prog 39 [.agg #[.int .i64 t.s,t.vK,t.vL],.agg #[.int .i64 0,.slice none 0 0,.slice none 0 0]].toArray w0 fun e w=>∃v,e= .returned v/\v=B (Th t)/\Sat w0 w []:=by
  have hn:=hK.row.slh.n0;have hn1:=hK.row.slh.n1;have hln:=hV.leaf.row.slh.n0;have za:=hV.leaf.row.slh.n1
  refine zenG Tryz.func39 Tryz.ntmps39 fun w hS=> ?_
  refine zsr<|zla (xbx (cs:= [_,_,_]) hS) ?_;rintro _ w ⟨g1,rfl,hS⟩
  refine zla (xbx (cs:= [_,_,_]) hS) ?_;rintro _ w ⟨g2,rfl,hS⟩
  refine(zP)<|zlz<|(zV (xfb 0 fd_54_0))<|(zV (xlb 0 pl_3 hS))<|(zV (xfb 0 fd_54_0))<|(zV (xlb 1 pl_3 hS))<|(zP)<|(zP)<|zlb 10 ?_ ?_<;>intro hc
  ·
   refine(zV (xfb 2 fd_54_2))<|(zV (xlb 0 pl_22 hS))<|(zV (xfb 2 fd_54_2))<|(zV (xlb 1 pl_22 hS))<|zlc (xc0 ZhT) (Zl5 (n:=t.nl) (f:=t.l) w ((hV).leaf.row.below hS.below)) ?_;rintro _ w ⟨rfl,hS'⟩
   replace hS:=hS.cmp hS';clear hS'
   refine(zP)<|(zP)<|zlb 17 ?_ ?_<;>intro hc
   ·
    refine(zV (xfb 1 fd_54_1))<|(zV (xlb 0 XD hS))<|(zV (xfb 1 fd_54_1))<|(zV (xlb 1 XD hS))<|zlc (xc0 ZlC) (ZkJ (t:=t) w (KAt.below hS.below (hK)) (LvAt.below hS.below (hV))) ?_;rintro _ w ⟨rfl,hS'⟩
    replace hS:=hS.cmp hS';clear hS'
    refine(zP)<|(zP)<|zx1<|zf1 ⟨_,rfl,?_⟩
    exact⟨Zn ⟨fun hh=>⟨by omega,by first|assumption|omega,hh⟩,fun hh=>hh.2.2⟩,hS.nl⟩
   iterate 5 refine zlo ?_
   refine(zP)<|(zP)<|zx1<|zf1 ⟨_,rfl,?_⟩
   exact⟨Zj (by rintro⟨h1,h2,h3⟩;first|omega|contradiction),hS.nl⟩
  iterate 5 refine zlo ?_
  refine zs2 ?_
  iterate 5 refine zlo ?_
  refine(zP)<|(zP)<|zx1<|zf1 ⟨_,rfl,?_⟩
  exact⟨Zj (by rintro⟨h1,h2,h3⟩;first|omega|contradiction),hS.nl⟩
theorem TI{p:Prob}{u:Int}{ln cnt:Int->Int}{pt:Int->Int->Int}(h:PlanOk p u ln pt cnt):0<=psum (fun _=>1) cnt u.toNat/\psum (fun _=>1) cnt u.toNat<=1000000:=by
  have h1:∀n:Nat,(n:Int)<=u->0<=psum (fun _=>1) cnt n/\psum (fun _=>1) cnt n<=1000*n:=fun n=>by
    induction n with
    |zero=>intro _;simp [psum]
    | succ n ih=>
      intro hn
      have h2:=ih (by omega)
      have h3:=h.2.2 n (by omega) (by omega)
      simp only [psum];omega
  have h4:=h.2.1
  by_cases hu:0<=u
  · have h5:=h1 u.toNat (by omega);omega
  · rw [show u.toNat=0 by omega];simp [psum]
theorem Zhb{vV:Value}{u:Int}{pv:Int->Value}{ln:Int->Int}{pt:Int->Int->Int}{cnt:Int->Int}{vL vD:Value}{p:Prob}{nb:Int}{t:Tr}(w0:World)(hV:VAt w0 vV u pv ln pt cnt)(h:PAt w0 vL vD p)(hK:KAt w0 t)(hT:LvAt w0 t)(hu5:u<=1000):
    Calls Tryz.prog 26 [.agg #[vL,vD,.int .i64 p.stock,.int .i64 p.kerf],.agg #[.int .i64 nb,vV,.int .i64 t.s,t.vK,t.vL]].toArray w0 fun e w=>∃v,e= .returned v/\v=B (ZfP p nb u ln pt cnt t)/\Sat w0 w []:=by
  have hm:=h.L.slh.n0;have hm1:=h.L.slh.n1;have hd:=h.D.slh.n0;have hd1:=h.D.slh.n1;have hs:=h.is;have hk:=h.ik
  have hn:=hK.row.slh.n0;have hn1:=hK.row.slh.n1;have hln:=hT.leaf.row.slh.n0;have za:=hT.leaf.row.slh.n1
  have hu:=hV.row.slh.n0;have hu1:=hV.row.slh.n1
  refine zenG Tryz.func26 Tryz.ntmps26 fun w hS=> ?_
  refine zsr<|zla (xbx (cs:= [_,_,_,_]) hS) ?_;rintro _ w ⟨g1,rfl,hS⟩
  refine zla (xbx (cs:= [_,_,_,_,_]) hS) ?_;rintro _ w ⟨g2,rfl,hS⟩
  refine(zP)<|zlt<|zsq<|zsq<|zdst [0,1] [0,1] 1000 mx_ hS ?_;clear hS;intro w hS
  refine(zDl 0 (fun w hS=>(xls 0 st_32 hS)))<|(zDw 1 (xfb 1 Zb8))<|(zDl 2 (fun w hS=>(xlb 1 pl_60 hS)))<|zdc 3 (xc0 ZeM) (Ta (u:=u) (pv:=pv) (ln:=ln) (pt:=pt) (cnt:=cnt) (p:=p) w (hV.below hS.below) (h.below hS.below)) ?_;rintro _ w ⟨rfl,hS'⟩
  replace hS:=hS.cmp hS';clear hS'
  refine⟨⟨fun _=>hS,hS⟩,?_⟩
  refine(zDw 4 YA)<|(zDw 5 xmv)<|zdb 12 ?_ ?_<;>intro hc
  ·
   refine(zDo 6)<|(zDo 7)<|(zDo 9)<|(zDo 10)<|(zDo 8)<|(zDo 11)<|(zDw 12 xpt)<|zdd<|ztn<|zct<|zsr ?_
   refine(zP)<|zx14<|zf1 ⟨_,rfl,?_⟩
   exact⟨Zj (by rintro⟨h1,h2,h3⟩;first|omega|exact absurd h1 ‹¬(PlanOk p u ln pt cnt/\∀j,0<=j->j<p.m->p.D j<=Zu u pt cnt j)›|exact absurd h1.1.1 ‹¬p.Ok›|(rcases h3 with⟨h4,h5,h6,h7⟩|⟨h4,_⟩<;>omega)),hS.nl⟩
  refine(zDw 6 (xfb 1 Zb8))<|(zDl 7 (fun w hS=>(xlb 1 pl_60 hS)))<|zDrv 9 (xfb 0 Y1) ?_
  have hbr:=TI (show PlanOk p u ln pt cnt/\∀j,0<=j->j<p.m->p.D j<=Zu u pt cnt j by first|assumption|exact Classical.not_not.1 ‹_›).1
  refine(zDl 10 (fun w hS=>(xlb 1 pl_3 hS)))<|zdc 8 (xc0 Zau) (VG (u:=u) (pv:=pv) (ln:=ln) (pt:=pt) (cnt:=cnt) w (hV.below hS.below) (by omega) (fun k k0 k1=>by have h9:=(show PlanOk p u ln pt cnt/\∀j,0<=j->j<p.m->p.D j<=Zu u pt cnt j by first|assumption|exact Classical.not_not.1 ‹_›).1.2.2 k k0 k1;omega)) ?_;rintro _ w ⟨rfl,hS'⟩
  replace hS:=hS.cmp hS';clear hS'
  refine⟨⟨fun _=>hS,hS⟩,?_⟩
  refine(zDw 11 YJ)<|(zDw 12 xpf)<|zdd<|ztn ?_
  refine Zf ?_ ?_<;>intro hc
  ·
   refine zsr<|(zP)<|zx14<|zf1 ⟨_,rfl,?_⟩
   exact⟨Zj (by rintro⟨h1,h2,h3⟩;first|omega|exact absurd h1 ‹¬(PlanOk p u ln pt cnt/\∀j,0<=j->j<p.m->p.D j<=Zu u pt cnt j)›|exact absurd h1.1.1 ‹¬p.Ok›|(rcases h3 with⟨h4,h5,h6,h7⟩|⟨h4,_⟩<;>omega)),hS.nl⟩
  refine Xm<|(zV (xfb 0 Y1))<|(zV (xlb 1 pl_3 hS))<|(zP)<|zlt<|Zf ?_ ?_<;>intro hc
  ·
   refine zsr<|(zV (xfb 2 Zb7))<|(zV (xlp 1 (ds:= [.int .i64 t.s,t.vK,t.vL]) st_54 hS))<|(zV (xany (v:= .agg #[.int .i64 0,.slice none 0 0,.slice none 0 0])))<|zlc (xc0 ZlL) (Zfd (t:=t) w (KAt.below hS.below (hK)) (LvAt.below hS.below (hT))) ?_;rintro _ w ⟨rfl,hS'⟩
   replace hS:=hS.cmp hS';clear hS'
   refine(zP)<|zx14<|zf1 ⟨_,rfl,?_⟩
   have hme:PlanOk p u ln pt cnt/\∀j,0<=j->j<p.m->p.D j<=Zu u pt cnt j:=by first|assumption|exact Classical.not_not.1 ‹_›
   first
   |exact⟨Zn ⟨fun hh=>⟨hme,by omega,.inl ⟨by omega,by first|exact hh|exact⟨by omega,by omega,by omega⟩⟩⟩,fun hh=>by rcases hh.2.2 with⟨h4,h5⟩|⟨h4,h5⟩;(first|exact h5|exact h5.1|(obtain⟨h6,h7,h8⟩:=h5;omega));omega⟩,hS.nl⟩
   |exact⟨Zn ⟨fun hh=>⟨hme,by omega,.inr ⟨by omega,hh⟩⟩,fun hh=>by rcases hh.2.2 with⟨h4,h5⟩|⟨h4,h5⟩;omega;exact h5⟩,hS.nl⟩
  refine ZW<|(zV (xls 0 st_32 hS))<|(zV (xfb 0 Y1))<|(zV (xlb 1 pl_3 hS))<|(zV (Zp (r:=nb-1)))<|zlv (xany (v:= .agg #[vL,vD,.int .i64 p.stock,.int .i64 p.kerf,.int .i64 (nb-1)]) (hr:=by obtain⟨_,_,_,_,rfl,_⟩:=h.L.slh;obtain⟨_,_,_,_,rfl,_⟩:=h.D.slh;kernel_rfl)) ?_
  refine(zV (xfb 2 Zb7))<|(zV (xlp 1 (ds:= [.int .i64 t.s,t.vK,t.vL]) st_54 hS))<|zlc (xc0 ZlP) (Zl7 (t:=t) (p:=p) (b:=(nb-1)) w (h.below hS.below) (KAt.below hS.below (hK)) (LvAt.below hS.below (hT))) ?_;rintro _ w ⟨rk1,k1,fk1,rfl,dM,eu,hS'⟩
  replace hS:=(hS.comp hS').n3;clear hS'
  refine zs5 ?_
  refine zlz<|(zP)<|(zP)<|(zP)<|zx1<|zf1 ⟨_,rfl,?_⟩
  have hme:PlanOk p u ln pt cnt/\∀j,0<=j->j<p.m->p.D j<=Zu u pt cnt j:=by first|assumption|exact Classical.not_not.1 ‹_›
  first
  |exact⟨Zn ⟨fun hh=>⟨hme,by omega,.inl ⟨by omega,by first|exact hh|exact⟨by omega,by omega,by omega⟩⟩⟩,fun hh=>by rcases hh.2.2 with⟨h4,h5⟩|⟨h4,h5⟩;(first|exact h5|exact h5.1|(obtain⟨h6,h7,h8⟩:=h5;omega));omega⟩,hS.nl⟩
  |exact⟨Zn ⟨fun hh=>⟨hme,by omega,.inr ⟨by omega,hh⟩⟩,fun hh=>by rcases hh.2.2 with⟨h4,h5⟩|⟨h4,h5⟩;omega;exact h5⟩,hS.nl⟩
end Go.Proofs.YtkichmnjjblodaaGreat
namespace Go.Proofs.Gw
open Go Go.RowKit
variable {w:Int} {x:Int->Int} {L:List (Int->Int)}
def Xg(L:List (Int->Int))(j:Int):Int:=match L with
  | []=>0
  |a::L=>a j+Xg L j
def LFit(p:Prob)(L:List (Int->Int)):Prop:=∀a∈L,FitsP p p.m a
theorem UV(L M:List (Int->Int))(j:Int):Xg (L++M) j=Xg L j+Xg M j:=by
  induction L with
  |nil=>simp [Xg]
  |cons a L ih=>simp only [List.cons_append,Xg,ih];omega
theorem LFit.nn{p:Prob}(h:LFit p L){j:Int}(j0:0<=j)(j1:j<p.m):0<=Xg L j:=by
  induction L with
  |nil=>exact Int.le_refl _
  | cons a L ih=>
    have h1:=(h a (List.mem_cons_self ..)).all j j0 j1
    have h2:=ih fun b hb=>h b (List.mem_cons_of_mem _ hb)
    simp only [Xg];omega
theorem Zd3{j:Int}(h:1<=Xg L j):∃L1 a L2,L=L1++a::L2/\1<=a j:=by
  induction L with
  |nil=>simp [Xg] at h
  | cons a L ih=>
    by_cases e:1<=a j
    · exact⟨[],a,L,rfl,e⟩
    · simp only [Xg] at h
      obtain⟨L1,b,L2,rfl,h2⟩:=ih (by omega)
      exact⟨a::L1,b,L2,rfl,h2⟩
theorem WX(f:Int->Int):∀n:Nat,Zd f (n+1)=f 0+Zd (fun i=>f (i+1)) n
  |0=>by simp [Zd]
  | n+1=>by
    have h:=WX f n
    show Zd f (n+1)+f ((n+1:Nat):Int)=f 0+(Zd (fun i=>f (i+1)) n+f ((n:Int)+1))
    rw [h,show((n+1:Nat):Int)=(n:Int)+1 by omega];omega
def Za4(L:List (Int->Int))(i:Int):Int->Int:=L.getD i.toNat (fun _=>0)
theorem TW(k:Int):∀L:List (Int->Int),XO (Za4 L) (fun _=>1) L.length k=Xg L k
  | []=>rfl
  | a ::L=>by
    unfold XO
    rw [List.length_cons,WX]
    have e:Zd (fun i=>Za4 (a::L) (i+1) k*1) L.length=Zd (fun i=>Za4 L i k*1) L.length:=Zi fun i i0 i1=>by
      unfold Za4;rw [show(i+1).toNat=i.toNat+1 by omega];rfl
    have h:=TW k L
    unfold XO at h
    rw [e,h]
    show(a k)*1+_=_
    simp [Xg]
theorem ZdW{i:Int}(i0:0<=i)(i1:i<L.length):Za4 L i∈L:=by
  unfold Za4
  rw [List.getD_eq_getElem?_getD,List.getElem?_eq_getElem (by omega)]
  exact List.getElem_mem _
theorem ZfJ {p:Prob} {n b:Int} {y:Int->Int} {q:Int} (h:Chk p n y q=0) (hb:b<=1000) (hbn:b<YS p n y q) (hL:LFit p L) (hc:∀j,0<=j->j<p.m->p.D j<=Xg L j):b<L.length:=by
  by_cases hl:1000<L.length
  · omega
  · have hM:MeetsP p L.length (fun _=>p.m) (Za4 L) (fun _=>1):=
      ⟨⟨(Wc h).1,by omega,fun i i0 i1=>⟨hL _ (ZdW i0 i1),by omega,by omega⟩⟩,fun k k0 k1=>by
        rw [show((L.length:Int)).toNat=L.length by omega,TW];exact hc k k0 k1⟩
    have h1:=ZcL h (by omega) hM
    rw [show((L.length:Int)).toNat=L.length by omega,Wi] at h1
    omega
def rep(c:Nat)(a:Int->Int):List (Int->Int):=List.replicate c a
theorem K7(a:Int->Int)(j:Int):∀c:Nat,Xg (rep c a) j=a j*c
  |0=>by simp [rep,Xg]
  | c+1=>by
    have h:=K7 a j c
    show a j+Xg (rep c a) j=_
    rw [h,Int.natCast_add,Int.mul_add];simp;omega
theorem TJ {p:Prob} {len:Int->Int} {pt:Int->Int->Int} {cnt:Int->Int}:∀n:Nat,(∀i,0<=i->i<(n:Int)->FitsP p (len i) (pt i)/\0<=cnt i)->∃L,LFit p L/\(∀j,Xg L j=XO pt cnt n j)/\(L.length:Int)=Zd cnt n
  |0,_=>⟨[],fun a ha=>absurd ha (by simp),fun _=>rfl,rfl⟩
  | n + 1,h=>by
    obtain⟨L,h1,h2,h3⟩:=TJ n fun i i0 i1=>h i i0 (by omega)
    obtain⟨h4,h5⟩:=h n (by omega) (by omega)
    refine⟨L++rep (cnt n).toNat (pt n),fun a ha=> ?_,fun j=> ?_,?_⟩
    · rcases List.mem_append.1 ha with ha|ha
      · exact h1 a ha
      · rw [(List.mem_replicate.1 ha).2]
        have:=h4;rw [this.eq] at this;exact this
    · rw [UV,h2,K7,Int.toNat_of_nonneg h5];rfl
    · rw [List.length_append,Int.natCast_add,h3];unfold rep;rw [List.length_replicate,Int.toNat_of_nonneg h5];rfl
theorem Ts{p:Prob}(hp:p.Ok){x:Int->Int}(hx:∀i,0<=i->i<p.m->0<=x i):∀(k:Nat) {i:Int},0<=i->i+k<=p.m->ZC p x i.toNat<=ZC p x (i+k).toNat
  |0,i,_,_=>by simp
  | k+1,i,i0,h=>by
    have h1:=Ts hp hx k i0 (by omega)
    have h2:ZC p x (i+k+1).toNat=ZC p x (i+k).toNat+x (i+k)*(p.L (i+k)+p.kerf):=ZE _ (by omega)
    have h3:=hp.all (i+k) (by omega) (by omega)
    unfold Prob.each at h3
    have h4:=hp.k1
    have h5:0<=x (i+k)*(p.L (i+k)+p.kerf):=Int.mul_nonneg (hx _ (by omega) (by omega)) (by omega)
    rw [show i+((k+1:Nat):Int)=i+k+1 by omega,h2];omega
theorem Zcc {p:Prob} (hp:p.Ok) {w:Int} {x:Int->Int} (hx:MPat p w x):∀(j:Nat) {i l:Int} {a:Int->Int},(p.m-i).toNat=j->0<=i->i<=p.m->Pfx p i a l->(∀k,k<i->x k=a k)->(i<=w->w<p.m->1<=x w)->x∈exI p w i a l
  | 0,i,l,a,hj,h0,h1,h,he,hw=>by
    have hi:i=p.m:=by omega
    have e:x=a:=funext fun k=>by
      by_cases hk:k<i
      · exact he k hk
      · rw [h.zero k (by omega),hx.zero k (by omega)]
    subst e
    rw [Uw hi (by have:=h.left;rw [hi] at this;rw [this];exact hx.maxi)]
    exact List.mem_singleton.2 rfl
  | j + 1,i,l,a,hj,h0,h1,h,he,hw=>by
    rw [XT h0 (by omega)]
    have hr:=hx.rng i h0 (by omega)
    have hs:=hp.all i h0 (by omega)
    unfold Prob.each at hs
    have hk:=hp.k1
    have hu:ZC p x (i+1).toNat=ZC p x i.toNat+x i*(p.L i+p.kerf):=ZE _ h0
    have hm:=Ts hp (fun k k0 k1=>(hx.rng k k0 k1).1) (p.m-(i+1)).toNat (i:=i+1) (by omega) (by omega)
    rw [show i+1+((p.m-(i+1)).toNat:Int)=p.m by omega] at hm
    have ha:ZC p x i.toNat=ZC p a i.toNat:=Zi fun k k0 k1=>by rw [he k (by omega)]
    have hl:=h.left
    have hxu:=hx.used
    have hle:x i*(p.L i+p.kerf)<=l:=by omega
    have h2:x i<=most p i l:=by
      unfold most
      have:x i<=l.tdiv (p.L i+p.kerf):=by
        rw [Int.tdiv_eq_ediv_of_nonneg h.l0]
        exact(Int.le_ediv_iff_mul_le (by omega)).2 hle
      omega
    have hls:least w i<=x i:=by
      unfold least
      by_cases e:w=i
      · rw [if_pos e,<-e];exact hw (by omega) (by omega)
      · rw [if_neg e];exact hr.1
    refine ZeH hls (by omega) (Zcc hp hx j (by omega) (by omega) (by omega) (h.step hp h0 (by omega) hr.1 h2) (fun k hk=> ?_) fun q1 q2=>hw (by omega) q2)
    by_cases e:k=i
    · rw [e,Zs]
    · rw [upd_ne _ _ e];exact he k (by omega)
theorem Zk1{p:Prob}(hp:p.Ok)(hx:MPat p w x)(hw:0<=w->w<p.m->1<=x w):x∈MX p w:=
  Zcc hp hx _ rfl (Int.le_refl 0) (by have:=hp.m1;omega) (Pfx.start hp) (fun k hk=>by rw [hx.zero k (by omega)]) hw
theorem Vd{p:Prob}{f:Int->Int}{i:Int}(h0:0<=i):∀{n:Nat},i<(n:Int)->ZC p (upd f i (f i+1)) n=ZC p f n+(p.L i+p.kerf)
  |0,h=>by omega
  | n +1,h=>by
    show Zd _ (n+1)=Zd _ (n+1)+_
    simp only [Zd]
    by_cases e:i=n
    · subst e
      have:Zd (fun j=>upd f (n:Int) (f n+1) j*(p.L j+p.kerf)) n=Zd (fun j=>f j*(p.L j+p.kerf)) n:=Zi fun j j0 j1=>by rw [upd_ne _ _ (by omega)]
      rw [this,Zs,Int.add_mul,Int.one_mul];omega
    · have ih:=Vd (p:=p) (f:=f) h0 (n:=n) (by omega)
      unfold ZC at ih
      rw [ih,upd_ne _ _ (fun h=>e h.symm)];omega
theorem Zc1 {p:Prob} (hp:p.Ok):∀(c:Nat) {x:Int->Int},(p.stock+p.kerf-ZC p x p.m.toNat).toNat=c->(∀k,0<=k->k<p.m->0<=x k/\x k<=p.D k)->(∀k,k<0\/p.m<=k->x k=0)->ZC p x p.m.toNat<=p.stock+p.kerf->(∃i,0<=i/\i<p.m/\0<x i)->∃z,MPat p w z/\∀k,x k<=z k:=by
  intro c
  induction c using Nat.strongRecOn with
  | _ c ih=>
    intro x hc hr hz hu hp0
    by_cases hm:∀i,0<=i->i<p.m->x i<p.D i->p.stock+p.kerf-ZC p x p.m.toNat<p.L i+p.kerf
    · exact⟨x,⟨hr,hz,hu,hp0,hm⟩,fun k=>Int.le_refl _⟩
    · obtain⟨i,hi⟩:=Classical.not_forall.1 hm
      obtain⟨i0,hi⟩:=Classical.not_forall.1 hi
      obtain⟨i1,hi⟩:=Classical.not_forall.1 hi
      obtain⟨i2,i3⟩:=Classical.not_forall.1 hi
      have he:=Vd (p:=p) (f:=x) i0 (n:=p.m.toNat) (by omega)
      have hs:=hp.all i i0 i1
      unfold Prob.each at hs
      have hk:=hp.k1
      obtain⟨z,h1,h2⟩:=ih _ (by omega) (x:=upd x i (x i+1)) rfl (fun k k0 k1=>by
          by_cases e:k=i
          · rw [e,Zs];have:=hr i i0 i1;omega
          · rw [upd_ne _ _ e];exact hr k k0 k1) (fun k hk=>by rw [upd_ne _ _ (by omega)];exact hz k hk) (by omega)
        ⟨i,i0,i1,by rw [Zs];have:=hr i i0 i1;omega⟩
      refine⟨z,h1,fun k=> ?_⟩
      have h3:=h2 k
      by_cases e:k=i
      · rw [e,Zs] at h3;rw [e];omega
      · rw [upd_ne _ _ e] at h3;exact h3
theorem Rh{p:Prob}{a:Int->Int}(ha:FitsP p p.m a)(w0:0<=w)(w1:w<p.m)(hw:1<=a w)(hd:1<=p.D w):∃i,0<=i/\i<((MX p w).length:Int)/\∀j,0<=j->j<p.m->min (a j) (p.D j)<=Yr (MX p w) i j:=by
  have hp:=ha.ok
  obtain⟨x,hx,hx0⟩:∃x:Int->Int,(∀j,0<=j->j<p.m->x j=min (a j) (p.D j))/\∀j,j<0\/p.m<=j->x j=0:=
    ⟨fun j=>if 0<=j/\j<p.m then min (a j) (p.D j) else 0,fun j j0 j1=>if_pos ⟨j0,j1⟩,fun j hj=>if_neg (by omega)⟩
  have hu:ZC p x p.m.toNat<=p.stock+p.kerf:=by
    refine Int.le_trans (Z4 fun j j0 j1=> ?_) ha.used
    rw [hx j j0 (by omega)]
    have h2:=hp.all j j0 (by omega)
    unfold Prob.each at h2
    have hk:=hp.k1
    exact Int.mul_le_mul_of_nonneg_right (by omega) (by omega)
  obtain⟨z,h1,h2⟩:=Zc1 hp (w:=w) _ rfl (fun k k0 k1=>by
      rw [hx k k0 k1]
      have h2:=hp.all k k0 k1
      unfold Prob.each at h2
      have:=ha.all k k0 k1
      omega) hx0 hu ⟨w,w0,w1,by rw [hx w w0 w1];omega⟩
  have h3:z∈MX p w:=Zk1 hp h1 fun _ _=>by
    have:=h2 w;rw [hx w w0 w1] at this;omega
  obtain⟨n,hn,e⟩:=List.mem_iff_getElem.1 h3
  refine⟨n,by omega,by omega,fun j j0 j1=> ?_⟩
  have h4:=h2 j
  rw [hx j j0 j1] at h4
  unfold Yr
  rw [show((n:Int)).toNat=n by omega,List.getD_eq_getElem?_getD,List.getElem?_eq_getElem hn,Option.getD_some,e]
  exact h4
end Go.Proofs.Gw
namespace Go.Proofs.Gw
open Go Go.RowKit
variable {i:Int}
def BFit(p:Prob)(n:Int)(bs:Int->Int->Int):Prop:=∀k,0<=k->k<n->(∀j,0<=j->j<p.m->0<=bs k j/\bs k j<=2000)/\ZC p (bs k) p.m.toNat<=p.stock+p.kerf
def Prob.less1(p:Prob)(i:Int):Prob:=p.with (upd p.D i (p.D i-1))
theorem Zd7{p:Prob}(hp:p.Ok)(hd:1<=p.D i):(p.less1 i).Ok:=ZbV hp fun k k0 k1=>by
  have he:=hp.all k k0 (by rw [<-hp.d];exact k1)
  unfold Prob.each at he
  by_cases e:k=i
  · subst e;rw [Zs];omega
  · rw [upd_ne _ _ e];omega
theorem TA(f:Int->Int){q y:Int}(q0:0<=q):∀{n:Nat},q<n->Zd (upd f q y) n=Zd f n-f q+y
  |0,h=>by omega
  | n +1,h=>by
    simp only [Zd]
    by_cases e:q=n
    · subst e
      have:Zd (upd f (n:Int) y) n=Zd f n:=Zi fun j j0 j1=>by rw [upd_ne _ _ (by omega)]
      rw [this,Zs];omega
    · have ih:=TA f q0 (y:=y) (n:=n) (by omega)
      rw [ih,upd_ne _ _ (fun h=>e h.symm)];omega
theorem TB{f:Int->Int}:∀{n:Nat},1<=Zd f n->∃k,0<=k/\k<(n:Int)/\1<=f k
  |0,h=>by simp [Zd] at h
  | n +1,h=>by
    by_cases e:1<=f n
    · exact⟨n,by omega,by omega,e⟩
    · simp only [Zd] at h
      obtain⟨k,h0,h1,h2⟩:=TB (f:=f) (n:=n) (by omega)
      exact⟨k,h0,by omega,h2⟩
theorem ZfZ{p:Prob}{x y:Int->Int}(h:∀j,0<=j->j<p.m->x j=y j):ZC p x p.m.toNat=ZC p y p.m.toNat:=Zi fun j j0 j1=>by
  rw [h j j0 (by omega)]
theorem VX{p:Prob}(hp:p.Ok){a:Int->Int}(h:∀j,0<=j->j<p.m->0<=a j)(hu:ZC p a p.m.toNat<=p.stock+p.kerf):FitsP p p.m a:=by
  refine⟨hp,rfl,fun j j0 j1=>⟨h j j0 j1,?_⟩,hu⟩
  have h1:=Xk (f:=fun i=>a i*(p.L i+p.kerf)) (n:=p.m.toNat) j0 (by omega) (fun i i0 i1=>by
    have h2:=hp.all i i0 (by omega)
    unfold Prob.each at h2
    exact Int.mul_nonneg (h i i0 (by omega)) (by have:=hp.k1;omega))
  have h2:=hp.all j j0 j1
  unfold Prob.each at h2
  have hk:=hp.k1;have hs:=hp.s2
  apply Classical.byContradiction;intro hn
  have h3:2001*(p.L j+p.kerf)<=a j*(p.L j+p.kerf):=Int.mul_le_mul_of_nonneg_right (by omega) (by omega)
  unfold ZC at hu
  omega
def ZA(p:Prob):Int:=Zd p.D p.m.toNat
theorem XQ{p:Prob}(hp:p.Ok):0<=ZA p/\ZA p<=20000:=by
  have h:=Ua (f:=p.D) (A:=1000) (n:=p.m.toNat) (fun i i0 i1=>by
    have he:=hp.all i i0 (by omega)
    unfold Prob.each at he
    omega)
  have:=hp.m2
  unfold ZA;omega
theorem ZcX{p:Prob}(i0:0<=i)(i1:i<p.m):ZA (p.less1 i)=ZA p-1:=by
  have h:=TA p.D (y:=p.D i-1) i0 (n:=p.m.toNat) (by omega)
  show Zd (upd p.D i (p.D i-1)) p.m.toNat=Zd p.D p.m.toNat-1
  rw [h];omega
theorem BFit.less{p:Prob}{n:Int}{bs:Int->Int->Int}(h:BFit p n bs):BFit (p.less1 i) n bs:=h
theorem BFit.zero{p:Prob}(hp:p.Ok)(n:Int):BFit p n (fun _ _=>0):=fun k k0 k1=>⟨fun j j0 j1=>⟨Int.le_refl _,by show(0:Int)<=2000;omega⟩,by
  have e:ZC p (fun _=>0) p.m.toNat=0:=by
    unfold ZC
    rw [Zi (g:=fun _=>0) fun i i0 i1=>by simp]
    exact ZJ _
  have:=hp.s1;have:=hp.k1
  dsimp only
  rw [e];omega⟩
end Go.Proofs.Gw
namespace Go.Proofs.YtkichmnjjblodaaGreat
open Go Go.RowKit Go.Proofs.Gw
theorem ZlH:Zc Tryz.prog 55=true:=by kernel_rfl
theorem Zby{vL vD:Value}{p:Prob}(w0:World)(h:PAt w0 vL vD p)(hp:p.Ok):
    Calls Tryz.prog 55 [.agg #[vL,vD,.int .i64 p.stock,.int .i64 p.kerf]].toArray w0 fun e w=>∃v,e= .returned v/\v= .int .i64 (ZA p)/\Sat w0 w []:=by
  have hm:=h.L.slh.n0;have hm1:=h.L.slh.n1;have hd:=h.D.slh.n0;have hd1:=h.D.slh.n1;have hs:=h.is;have hk:=h.ik
  have hpm:=hp.m1;have qH:=hp.m2;have hpd:=hp.d;have hs1:=hp.s1;have hs2:=hp.s2;have hk1:=hp.k1;have hk2:=hp.k2
  refine zenG Tryz.func55 Tryz.ntmps55 fun w hS=> ?_
  refine zsr<|zla (xbx (cs:= [_,_,_,_]) hS) ?_;rintro _ w ⟨g1,rfl,hS⟩
  refine(zP)<|zlz<|(zP)<|zx5<|(zP)<|zx6<|zlp (fun mm M w=>∃(s:Int) (i:Int),mm=((p.m-i).toNat)/\(0<=i)/\(i<=p.m)/\(s=Zd p.D i.toNat)/\(0<=s/\s<=1000*i)/\M= [(1,.pointer (some ⟨g1,0,none⟩)),(2,.int .i64 0),(3,.int .i64 s),(4,.int .i64 i)]/\Sat w0 w [.blk g1 [vL,vD,.int .i64 p.stock,.int .i64 p.kerf]]) ⟨0,0,rfl,(by omega),(by omega),?_,(by omega),rfl,hS⟩ ?_
  ·
   rfl
  clear hS w
  rintro mm M w ⟨s,i,rfl,h0,h1,hs9,hsb,rfl,hS⟩
  refine zsq<|zsr<|(zP)<|(zV (xfb 1 fd_24_1))<|(zV (xlb 0 pl_22 hS))<|(zV (xln Zb h.D.slh))<|(zP)<|zlt<|Zf ?_ ?_<;>intro hc
  ·
   refine zsk<|ztn<|zsq<|zbk<|zrg<|(zP)<|(zV (xfb 1 fd_24_1))<|(zV (xlb 0 pl_22 hS))<|(zP)<|(zV (xix (kk:=i) Zb h.D.slh))<|zlv (xlr (u:= .int .i64 (p.D i)) pl_3 (h.D.below hS.below)) ?_
   have hbv:=h.iD i
   have hei:=hp.all i h0 (by omega);unfold Prob.each at hei
   refine(zV (Zg (r:=s+p.D i)))<|(zP)<|zx10<|(zP)<|(zV (Zg (r:=i+1)))<|(zP)<|zln<|zlq ⟨s+p.D i,i+1,rfl,(by omega),(by omega),?_,(by omega),rfl,hS⟩
   ·
    rw [ZE _ h0,<-hs9]
  refine zx8<|(zP)<|(zP)<|zx1<|zf1 ⟨_,rfl,?_⟩
  obtain rfl:i=p.m:=by omega
  exact⟨congrArg (Value.int .i64) hs9,hS.nl⟩
theorem Zdl{vL vD:Value}{p:Prob}(w0:World)(h:PAt w0 vL vD p)(hp:p.Ok):
    Calls Tryz.prog 29 [.agg #[vL,vD,.int .i64 p.stock,.int .i64 p.kerf]].toArray w0 fun e w=>∃v,e= .returned v/\v=B (ZA p<=6/\p.m<=4)/\Sat w0 w []:=by
  have hm:=h.L.slh.n0;have hm1:=h.L.slh.n1;have hd:=h.D.slh.n0;have hd1:=h.D.slh.n1;have hs:=h.is;have hk:=h.ik
  have hpm:=hp.m1;have qH:=hp.m2;have hpd:=hp.d;have hs1:=hp.s1;have hs2:=hp.s2;have hk1:=hp.k1;have hk2:=hp.k2
  refine zenG Tryz.func29 Tryz.ntmps29 fun w hS=> ?_
  refine zsr<|zla (xbx (cs:= [_,_,_,_]) hS) ?_;rintro _ w ⟨g1,rfl,hS⟩
  refine(zP)<|zlz<|(zV (xls 0 st_24 hS))<|zlc (xc0 ZlH) (Zby (p:=p) w (h.below hS.below) hp) ?_;rintro _ w ⟨rfl,hS'⟩
  replace hS:=hS.cmp hS';clear hS'
  refine(zP)<|(zP)<|zlb 6 ?_ ?_<;>intro hc
  ·
   refine(zV (xfb 0 fd_24_0))<|(zV (xlb 0 pl_22 hS))<|(zV (xln Zb h.L.slh))<|(zP)<|(zP)<|(zP)<|zx1<|zf1 ⟨_,rfl,?_⟩
   exact⟨Zn (by omega),hS.nl⟩
  iterate 4 refine zlo ?_
  refine(zP)<|(zP)<|zx1<|zf1 ⟨_,rfl,?_⟩
  exact⟨Zj (by omega),hS.nl⟩
theorem Zd6{f:Int->Int}{i:Int}(hf:∀k,-9223372036854775808<=f k/\f k<=9223372036854775807)(h1:1<=f i):∀k,-9223372036854775808<=Gw.upd f i (f i-1) k/\Gw.upd f i (f i-1) k<=9223372036854775807:=fun k=>by
  have g1:=hf k;have g2:=hf i
  unfold Gw.upd;split<;>omega
end Go.Proofs.YtkichmnjjblodaaGreat
namespace Go.Proofs.YtkichmnjjblodaaGreat
open Go Go.RowKit Go.Proofs.Gw
theorem KR{p:Prob}{b wi i:Int}(hs:ZM p b wi)(i0:0<=i)(i1:i<Zl p b wi):(ZT p wi i).Ok:=by
  obtain⟨h1,_⟩:=Vs hs i0 i1
  refine ZbV hs.1.1 fun k k0 k1=> ?_
  have h2:=h1.rng k k0 (by rw [<-hs.1.1.d];exact k1)
  omega
theorem UF:∀(t:Tr) {p:Prob} {b:Int},wrT t p b=none->∀{L:List (Int->Int)},LFit p L->(∀j,0<=j->j<p.m->p.D j<=Xg L j)->b<L.length:=Tr.ind fun t ih p b h L hL hc=>by
  by_cases h0:t.n=0
  · by_cases hl:XW p b t.nl t.l
    · obtain⟨h1,h2,h3,h4⟩:=hl
      exact ZfJ h3 h1.2.2 h4 hL hc
    · rw [WT h0 hl] at h;cases h
  · by_cases hs:ZM p b t.s/\Zl p b t.s=t.n
    · rw [Vc h0 hs.1 hs.2] at h
      have hn:Zl p b t.s=(MX p t.s).length:=Ys hs.1
      obtain⟨hpo,hb1,⟨s0,s1⟩,hd,_⟩:=hs.1
      have hp:=hpo.1
      have he:=hp.all t.s s0 s1
      unfold Prob.each at he
      obtain⟨L1,a,L2,rfl,ha⟩:=Zd3 (j:=t.s) (Int.le_trans (by omega) (hc t.s s0 s1))
      obtain⟨i,i0,i1,hi⟩:=Rh (hL a (by simp)) s0 s1 ha (by omega)
      have hk:RS t p b i=none:=Zb4 h i i0 (by omega)
      have hok:=KR hs.1 i0 (by omega)
      have hL2:LFit p (L1++L2):=fun x hx=>hL x (by rcases List.mem_append.1 hx with hx|hx<;>simp [hx])
      have h5:=ih i i0 (by omega) hk (L:=L1++L2) (fun x hx=>by
          obtain⟨_,g2,g3,g4⟩:=hL2 x hx
          exact⟨hok,rfl,g3,g4⟩) (fun j j0 j1=>by
          have g1:=hc j j0 j1
          have g2:=hi j j0 j1
          have g3:=hL2.nn j0 j1
          rw [UV,Xg] at g1
          rw [UV] at g3⊢
          show p.D j-Yr (MX p t.s) i j<=_
          omega)
      rw [List.length_append] at h5⊢
      rw [List.length_cons]
      omega
    · rw [UE h0 hs] at h;cases h
theorem WB(f d:Int->Int):∀n:Nat,psum f d n=Zd (fun k=>f k*d k) n
  |0=>rfl
  | n+1=>by
    have:=WB f d n
    simp only [psum,Zd,this]
theorem ZcQ{p:Prob}{u:Int}{ln cnt:Int->Int}{pt:Int->Int->Int}(h:PlanOk p u ln pt cnt/\∀j,0<=j->j<p.m->p.D j<=Zu u pt cnt j):∃L,LFit p L/\(∀j,0<=j->j<p.m->p.D j<=Xg L j)/\(L.length:Int)=psum (fun _=>1) cnt u.toNat:=by
  obtain⟨⟨_,h1,h2⟩,h3⟩:=h
  obtain⟨L,g1,g2,g3⟩:=TJ (p:=p) (len:=ln) (pt:=pt) (cnt:=cnt) u.toNat fun i i0 i1=>by
    have:=h2 i i0 (by omega)
    exact⟨this.2.2,by omega⟩
  refine⟨L,g1,fun j j0 j1=> ?_,?_⟩
  · have:=h3 j j0 j1
    unfold Zu at this
    rw [g2];unfold XO
    rw [WB] at this;exact this
  · rw [g3,WB];exact Zi fun i _ _=>by rw [Int.one_mul]
end Go.Proofs.YtkichmnjjblodaaGreat
namespace Go.Proofs.Gw
open Go Go.RowKit
variable {w:Int}
def TpN(f:Int->Int):Nat->Int->Int
  |0=>f
  |d+1=>fun s=>TpN f d s+TpN f d (s+1)
theorem Tf{f:Int->Int}(h:∀s,0<=f s):∀(d:Nat) (s:Int),0<=TpN f d s
  |0,s=>h s
  | d+1,s=>by
    have:=Tf h d s;have:=Tf h d (s+1)
    simp only [TpN];omega
theorem UA(f:Int->Int)(a:Nat):∀(b:Nat),TpN (TpN f a) b=TpN f (a+b)
  |0=>rfl
  | b+1=>by
    funext s
    have:=UA f a b
    show TpN (TpN f a) b s+TpN (TpN f a) b (s+1)=TpN f (a+b) s+TpN f (a+b) (s+1)
    rw [this]
theorem Kk{f:Int->Int}(h:∀s,0<=f s)(s:Int):∀d:Nat,Zd (fun k=>f (s+k)) (d+1)<=TpN f d s
  |0=>by simp [Zd,TpN]
  | d +1=>by
    have h1:=Kk h s d
    have h2:f (s+1+d)<=TpN f d (s+1):=by
      have:=Kk h (s+1) d
      have h3:Zd (fun k=>f (s+1+k)) (d+1)=Zd (fun k=>f (s+1+k)) d+f (s+1+d):=rfl
      have h4:0<=Zd (fun k=>f (s+1+k)) d:=Z1 fun i _ _=>h _
      omega
    have h5:Zd (fun k=>f (s+k)) (d+1+1)=Zd (fun k=>f (s+k)) (d+1)+f (s+((d+1:Nat):Int)):=rfl
    have e:s+((d+1:Nat):Int)=s+1+d:=by omega
    rw [h5,e]
    simp only [TpN];omega
def YF{α:Type}(f:α->Int)(l:List α):Int:=(l.map f).sum
theorem Zc3{α:Type}(f:α->Int)(l m:List α):YF f (l++m)=YF f l+YF f m:=by simp [YF]
theorem K1{α:Type}(f:α->Int)(F:Int->List α)(lo:Int):∀c:Nat,YF f (dn F lo c)=Zd (fun k=>YF f (F (lo+k))) c
  |0=>rfl
  | c+1=>by
    have:=K1 f F lo c
    show YF f (F (lo+c)++dn F lo c)=Zd _ c+_
    rw [Zc3,this];exact Int.add_comm _ _
def tl(p:Prob)(i:Int):Nat:=(ZA p-Zd p.D i.toNat).toNat
theorem Wy{p:Prob}(hp:p.Ok):∀(c:Nat) {i:Int},0<=i->i+c<=p.m->Zd p.D i.toNat<=Zd p.D (i+c).toNat
  |0,i,_,_=>by simp
  | c+1,i,i0,h=>by
    have h1:=Wy hp c i0 (by omega)
    have h2:=ZE p.D (i:=i+c) (by omega)
    have he:=hp.all (i+c) (by omega) (by omega)
    unfold Prob.each at he
    rw [show i+((c+1:Nat):Int)=i+c+1 by omega,h2];omega
theorem Zf3{p:Prob}(hp:p.Ok){i:Int}(i0:0<=i)(i1:i<p.m):tl p i=tl p (i+1)+(p.D i).toNat:=by
  have h2:=ZE p.D i0
  have h3:=Wy hp (p.m-(i+1)).toNat (i:=i+1) (by omega) (by omega)
  rw [show i+1+((p.m-(i+1)).toNat:Int)=p.m by omega] at h3
  have he:=hp.all i i0 i1
  unfold Prob.each at he
  unfold tl ZA;omega
theorem Zia(p:Prob):tl p p.m=0:=by unfold tl ZA;omega
theorem Zf2(p:Prob):(tl p 0:Nat)=(ZA p).toNat:=by unfold tl;simp [Zd]
theorem WK {p:Prob} (hp:p.Ok) {w:Int} {f:Int->Int} (hf:∀s,0<=f s):∀(j:Nat) {i l:Int} {a:Int->Int},(p.m-i).toNat=j->0<=i->i<=p.m->0<=l->
    (w<i->YF (fun x=>f (Zd x p.m.toNat)) (exI p w i a l)<=TpN f (tl p i) (Zd a i.toNat))/\
    (i<=w->w<p.m->1<=p.D w->YF (fun x=>f (Zd x p.m.toNat)) (exI p w i a l)<=TpN f (tl p i-1) (Zd a i.toNat+1))
  | 0,i,l,a,hj,h0,h1,hl=>by
    obtain rfl:i=p.m:=by omega
    refine⟨fun _=> ?_,fun g1 g2=>by omega⟩
    rw [Zia]
    by_cases hm:ZaJ p a l
    · rw [Uw rfl hm];simp [YF,TpN]
    · rw [RZ rfl hm];simpa [YF,TpN] using hf _
  | j + 1,i,l,a,hj,h0,h1,hl=>by
    have he:=hp.all i h0 (by omega)
    unfold Prob.each at he
    have hk1:=hp.k1
    have dE:=Zf3 hp h0 (show i<p.m by omega)
    rw [XT h0 (by omega),K1]
    have jl:most p i l<=p.D i:=by unfold most;omega
    have qW:∀k,0<=k->k<=most p i l->0<=l-k*(p.L i+p.kerf):=fun k k0 k1=>by
      have:=(Xq hp h0 (by omega) hl k0 k1).2.2;omega
    have bc:∀k,Zd (upd a i k) (i+1).toNat=Zd a i.toNat+k:=fun k=>by
      rw [ZE _ h0,Zs]
      rw [Zi (g:=a) fun q q0 q1=>by rw [upd_ne _ _ (by omega)]]
    have y4:∀(g:Int->Int) (c:Nat) (d:Nat) (s:Int),(∀s,0<=g s)->(c:Int)<=d+1->Zd (fun k=>g (s+k)) c<=TpN g d s:=fun g c d s hg hc=>by
      refine Int.le_trans ?_ (Kk hg s d)
      have:∀n:Nat,c<=n->Zd (fun k=>g (s+k)) c<=Zd (fun k=>g (s+k)) n:=fun n=>by
        induction n with
        |zero=>intro h;rw [show c=0 by omega];exact Int.le_refl _
        | succ n ih=>
          intro h
          by_cases e:c=n+1
          · rw [e];exact Int.le_refl _
          · have:=ih (by omega);have:=hg (s+n);simp only [Zd];omega
      exact this (d+1) (by omega)
    refine⟨fun hw=> ?_,fun hw hwm hD=> ?_⟩
    · have hls:least w i=0:=by unfold least;rw [if_neg (by omega)]
      rw [hls,Int.sub_zero]
      have h5:Zd (fun k=>YF (fun x=>f (Zd x p.m.toNat)) (kid p w i a l (0+k))) (most p i l+1).toNat<=Zd (fun k=>TpN f (tl p (i+1)) (Zd a i.toNat+k)) (most p i l+1).toNat:=Z4 fun k k0 k1=>by
        have:=(WK hp (w:=w) hf j (i:=i+1) (l:=l-(0+k)*(p.L i+p.kerf)) (a:=upd a i (0+k)) (by omega) (by omega) (by omega) (qW (0+k) (by omega) (by omega))).1 (by omega)
        rw [bc,Int.zero_add] at this
        unfold kid;rw [Int.zero_add];exact this
      refine Int.le_trans h5 (Int.le_trans (y4 _ _ (p.D i).toNat _ (Tf hf _) (by omega)) ?_)
      rw [UA,<-dE];exact Int.le_refl _
    · by_cases e:w=i
      · subst e
        have hls:least w w=1:=by unfold least;rw [if_pos rfl]
        rw [hls]
        have h5:Zd (fun k=>YF (fun x=>f (Zd x p.m.toNat)) (kid p w w a l (1+k))) (most p w l+1-1).toNat<=Zd (fun k=>TpN f (tl p (w+1)) (Zd a w.toNat+1+k)) (most p w l+1-1).toNat:=Z4 fun k k0 k1=>by
          have:=(WK hp (w:=w) hf j (i:=w+1) (l:=l-(1+k)*(p.L w+p.kerf)) (a:=upd a w (1+k)) (by omega) (by omega) (by omega) (qW (1+k) (by omega) (by omega))).1 (by omega)
          rw [bc,show Zd a w.toNat+(1+k)=Zd a w.toNat+1+k by omega] at this
          unfold kid;exact this
        refine Int.le_trans h5 (Int.le_trans (y4 _ _ ((p.D w).toNat-1) _ (Tf hf _) (by omega)) ?_)
        rw [UA,show tl p (w+1)+((p.D w).toNat-1)=tl p w-1 by omega];exact Int.le_refl _
      · have hls:least w i=0:=by unfold least;rw [if_neg e]
        rw [hls,Int.sub_zero]
        have hw1:1<=tl p (i+1):=by
          have h7:=Wy hp (w-(i+1)).toNat (i:=i+1) (by omega) (by omega)
          rw [show i+1+((w-(i+1)).toNat:Int)=w by omega] at h7
          have h8:=ZE p.D (i:=w) (by omega)
          have h9:=Wy hp (p.m-(w+1)).toNat (i:=w+1) (by omega) (by omega)
          rw [show w+1+((p.m-(w+1)).toNat:Int)=p.m by omega] at h9
          unfold tl ZA;omega
        have h5:Zd (fun k=>YF (fun x=>f (Zd x p.m.toNat)) (kid p w i a l (0+k))) (most p i l+1).toNat<=Zd (fun k=>TpN f (tl p (i+1)-1) (Zd a i.toNat+1+k)) (most p i l+1).toNat:=Z4 fun k k0 k1=>by
          have:=(WK hp (w:=w) hf j (i:=i+1) (l:=l-(0+k)*(p.L i+p.kerf)) (a:=upd a i (0+k)) (by omega) (by omega) (by omega) (qW (0+k) (by omega) (by omega))).2 (by omega) hwm hD
          rw [bc,Int.zero_add,show Zd a i.toNat+k+1=Zd a i.toNat+1+k by omega] at this
          unfold kid;rw [Int.zero_add];exact this
        refine Int.le_trans h5 (Int.le_trans (y4 _ _ (p.D i).toNat _ (Tf hf _) (by omega)) ?_)
        rw [UA,show tl p (i+1)-1+(p.D i).toNat=tl p i-1 by omega];exact Int.le_refl _
theorem ZaK{p:Prob}(hp:p.Ok)(w0:0<=w)(w1:w<p.m)(hD:1<=p.D w){f:Int->Int}(hf:∀s,0<=f s):YF (fun x=>f (Zd x p.m.toNat)) (MX p w)<=TpN f ((ZA p).toNat-1) 1:=by
  have:=(WK hp hf _ (w:=w) (a:=fun _=>0) rfl (Int.le_refl 0) (by have:=hp.m1;omega) (show 0<=p.stock+p.kerf by have:=hp.s1;have:=hp.k1;omega)).2 w0 w1 hD
  rw [Zf2] at this
  simpa [MX,Zd] using this
def Gn(n:Int):Int:=if n<0 then 0 else [1,2,4,10,30,104,406].getD n.toNat 0
theorem Zh5(n:Int):0<=Gn n:=by
  unfold Gn;split
  · omega
  · rw [List.getD_eq_getElem?_getD]
    cases h: [(1:Int),2,4,10,30,104,406][n.toNat]? with
    |none=>simp
    | some x=>
      have:=List.mem_of_getElem? h
      simp at this;simp;omega
theorem six{P:Int->Prop}(h1:P 1)(h2:P 2)(h3:P 3)(h4:P 4)(h5:P 5)(h6:P 6):∀n:Int,1<=n->n<=6->P n:=fun n a b=>by
  have:n=1\/n=2\/n=3\/n=4\/n=5\/n=6:=by omega
  rcases this with rfl|rfl|rfl|rfl|rfl|rfl<;>assumption
theorem Zmh:∀n:Int,1<=n->n<=6->1+TpN (fun s=>Gn (n-s)) (n.toNat-1) 1<=Gn n:=six (by decide) (by decide) (by decide) (by decide) (by decide) (by decide)
theorem Kn:∀n:Int,0<=n->n<=6->1<=Gn n/\Gn n<=406:=fun n a b=>by
  by_cases e:n=0
  · subst e;decide
  · exact six (P:=fun n=>1<=Gn n/\Gn n<=406) (by decide) (by decide) (by decide) (by decide) (by decide) (by decide) n (by omega) b
theorem Zgo:∀n:Int,1<=n->n<=6->TpN (fun _=>1) (n.toNat-1) 1<=100:=six (by decide) (by decide) (by decide) (by decide) (by decide) (by decide)
theorem TV{α:Type}:∀l:List α,YF (fun _=>(1:Int)) l=l.length
  | []=>rfl
  |a::l=>by have:=TV l;simp only [YF,List.map_cons,List.sum_cons,List.length_cons] at*;omega
theorem ZfT{p:Prob}(hp:p.Ok)(w0:0<=w)(w1:w<p.m)(hD:1<=p.D w)(hn:ZA p<=6):((MX p w).length:Int)<=100/\1<=ZA p:=by
  have h1:1<=ZA p:=by
    have:=Xk (f:=p.D) (n:=p.m.toNat) w0 (by omega) (fun i i0 i1=>by
      have he:=hp.all i i0 (by omega)
      unfold Prob.each at he;omega)
    unfold ZA;omega
  refine⟨?_,h1⟩
  have h2:=ZaK hp w0 w1 hD (f:=fun _=>1) (fun _=>by omega)
  rw [TV] at h2
  exact Int.le_trans h2 (Zgo _ h1 hn)
theorem TU(f:(Int->Int)->Int):∀l:List (Int->Int),Zd (fun k=>f (Yr l k)) l.length=YF f l
  | []=>rfl
  | a ::l=>by
    rw [List.length_cons,WX]
    have e:Zd (fun i=>f (Yr (a::l) (i+1))) l.length=Zd (fun i=>f (Yr l i)) l.length:=Zi fun i i0 i1=>by
      unfold Yr;rw [show(i+1).toNat=i.toNat+1 by omega];rfl
    rw [e,TU f l];simp [YF,Yr]
end Go.Proofs.Gw
namespace Go.Proofs.Gw
open Go Go.RowKit
variable {w:World}
def Tr.fr2(E T:TypeId):Tr->Frame| .nil=>Frame.bun []| .mk s vK n kid vL nl l=>Frame.bun [.own vK 3 E n (Yu kid),.own vL 1 T nl (ints l),.sem (Frame.all n fun i=>(kid i).fr2 E T)]
def V5:Tr->Prop
  | .nil=>True
  | .mk s vK n kid vL nl l=>((-9223372036854775808<=s/\s<=9223372036854775807)/\56*n<=140737488351232/\∀k,-9223372036854775808<=l k/\l k<=9223372036854775807)/\∀i,0<=i->i<n->V5 (kid i)
theorem Tr.fr2_at{E T:TypeId}:∀t:Tr,V5 t->(t.fr2 E T).holds w->KAt w t/\LvAt w t:=Tr.ind fun t ih hr hf=>by
  cases t with
  |nil=>exact⟨trivial,trivial⟩
  | mk s vK n kid vL nl l=>
    have hf':(Frame.bun [.own vK 3 E n (Yu kid),.own vL 1 T nl (ints l),.sem (Frame.all n fun i=>(kid i).fr2 E T)]).holds w:=hf
    have g1:=hf'.1 _ (List.mem_cons_self ..)
    have g2:=hf'.1 _ (List.mem_cons_of_mem _ (List.mem_cons_self ..))
    have g3:=hf'.1 (.sem _) (List.mem_cons_of_mem _ (List.mem_cons_of_mem _ (List.mem_cons_self ..)))
    have hr':((-9223372036854775808<=s/\s<=9223372036854775807)/\56*n<=140737488351232/\∀k,-9223372036854775808<=l k/\l k<=9223372036854775807)/\∀i,0<=i->i<n->V5 (kid i):=hr
    obtain⟨⟨r1,r2,r3⟩,r4⟩:=hr'
    refine⟨⟨⟨g1.row,r2⟩,fun i i0 i1=>(ih i i0 i1 (r4 i i0 i1) (g3.1 i i0 i1)).1⟩,⟨⟨g2.row,r3⟩,Ent.holds.roomy g2,r1⟩,fun i i0 i1=>(ih i i0 i1 (r4 i i0 i1) (g3.1 i i0 i1)).2⟩
theorem Sat.tree2{w0:World}{l:List Ent}{E T:TypeId}{v vL:Value}{n nl:Int}{kid:Int->Tr}{f:Int->Int}(h:Sat w0 w (l++ [.own v 3 E n (Yu kid),.own vL 1 T nl (ints f),.sem (Frame.all n fun i=>(kid i).fr2 E T)]))(s:Int):Sat w0 w (l++ [.sem ((Tr.mk s v n kid vL nl f).fr2 E T)]):=by
  exact h.bundle (l2:= [.own v 3 E n (Yu kid),.own vL 1 T nl (ints f),.sem (Frame.all n fun i=>(kid i).fr2 E T)])
theorem Sat.tree0{w0:World}{l:List Ent}(h:Sat w0 w l)(E T:TypeId):Sat w0 w (l++ [.sem (Tr.nil.fr2 E T)]):=by
  refine h.comp (m:= [.sem (Tr.nil.fr2 E T)]) ⟨Below.refl _ _,?_,?_,List.pairwise_singleton _ _⟩
  · intro e he;obtain rfl:=List.mem_singleton.1 he;exact⟨fun e he=>(by cases he),List.Pairwise.nil⟩
  · intro e he g hg;obtain rfl:=List.mem_singleton.1 he;obtain⟨e,he,_⟩:=hg;cases he
end Go.Proofs.Gw
namespace Go.Proofs.YtkichmnjjblodaaGreat
open Go Go.RowKit Go.Proofs.Gw
variable {C b c e i lf m wi:Int} {cnt ln ln2 qd:Int->Int} {pt pt2:Int->Int->Int}
def PMt(p:Prob)(u:Int)(ln:Int->Int)(pt:Int->Int->Int)(cnt:Int->Int):Prop:=PlanOk p u ln pt cnt/\∀j,0<=j->j<p.m->p.D j<=Zu u pt cnt j
def brs(u:Int)(cnt:Int->Int):Int:=psum (fun _=>1) cnt u.toNat
def Ro(p:Prob):Prop:=p.Ok/\∀j,0<=j->j<p.m->p.D j<=0
theorem WV(p:Prob):psum (fun _=>1) p.D p.m.toNat=ZA p:=by
  rw [WB];exact Zi fun i _ _=>by rw [Int.one_mul]
theorem KY{p:Prob}(hp:p.Ok)(h:1<=ZA p):∃w,0<=w/\w<p.m/\1<=p.D w:=by
  obtain⟨k,k0,k1,k2⟩:=TB (f:=p.D) (n:=p.m.toNat) h
  exact⟨k,k0,by omega,k2⟩
theorem BestR.tot{p:Prob}{out:Us}(h:BestR p out e)(hok:p.Ok):(e=0->ZA p<=1000)/\(ZA p<=1000->e=0):=by
  have hc:∀{l:Us} {e:Int},FFitR p l e->(e=0->ZA p<=1000)/\(ZA p<=1000->e=0):=fun {l e} hf=>by
    have h1:=hf.1
    unfold ChkR at h1
    rw [WV] at h1
    rcases h1 with⟨g,_⟩|⟨_,g1,g2⟩|⟨_,g1,g2⟩
    · exact absurd hok g
    · exact⟨fun _=>by omega,fun _=>by omega⟩
    · exact⟨fun _=>by omega,fun _=>by omega⟩
  rcases h with⟨h1,h2,_⟩|⟨h1,l,h2,_⟩
  · exact hc h2
  · have:=hc h2;exact⟨fun _=>this.1 rfl,fun _=>h1⟩
theorem BestR.meets {p:Prob} {n:Int} (h:BestR p (plL n ln pt cnt) e) (hok:p.Ok) (he:e=0) (n0:0<=n):PMt p n ln pt cnt/\brs n cnt<=ZA p:=by
  have ht:=(BestR.tot h hok).1 he
  have hx:ExU p (plL n ln pt cnt):=by
    rcases h with⟨h1,_⟩|⟨_,l,h2,u,ml,mf,s,ec,u0,hc,h3⟩
    · exact absurd he h1
    · have hl:=h2.ex hok rfl
      rcases h3 with⟨_,h4⟩|⟨_,h3⟩
      · rw [h4];exact hl
      · rcases h3 with⟨h4,_⟩|⟨h4,_⟩|⟨_,x,f,y,g,hx,hy,h5⟩
        · omega
        · omega
        · rw [h5];exact Vq (Vq hl hx.ex) hy.ex
  obtain⟨⟨g1,g2,g3⟩,g4⟩:=hx.sound hok (by rw [WV];exact ht) n0
  refine⟨⟨⟨g1,g2,fun k k0 k1=>⟨(g3 k k0 k1).2.1,(g3 k k0 k1).2.2,(g3 k k0 k1).1⟩⟩,fun j j0 j1=> ?_⟩,?_⟩
  · have:=g4 j j0 j1
    rw [RQ] at this
    unfold Zu;omega
  · have h5:=hx.few
    rw [WV,Z3 _ n0] at h5
    exact h5
def Zk4(p:Prob)(b u:Int)(ln:Int->Int)(pt:Int->Int->Int)(cnt:Int->Int)(ok:Prop):Prop:=(ok->PMt p u ln pt cnt/\brs u cnt<=b)/\(ZA p<=b->ok)
theorem Rl{p:Prob}{y z:Int->Int}:∀(j:Nat),(∀i,0<=i->i<(j:Int)->y i=z i)->Tab p y j=Tab p z j
  |0,_=>rfl
  | j+1,h=>by
    funext c
    have:=Rl (p:=p) j fun i i0 i1=>h i i0 (by omega)
    simp only [Tab]
    rw [this,h j (by omega) (by omega)]
theorem Zdd{p:Prob}{n q:Int}{y z:Int->Int}(hn:n=p.m->∀i,0<=i->i<p.m->y i=z i)(h:Chk p n y q=0):Chk p n z q=0/\YS p n z q=YS p n y q:=by
  obtain⟨hp,hf,he,hw⟩:=Gw.Wc h
  have hyz:=hn he
  have hm:=hp.m1
  have h1:Chk p n z q=0:=by
    refine Zg0 hp ⟨hf.1,hf.2.1,fun k k0 k1=>by rw [<-hyz k k0 (by omega)];exact hf.2.2 k k0 k1⟩ he ?_
    unfold WS at hw⊢
    rw [<-Rl (y:=y) p.m.toNat fun i i0 i1=>hyz i i0 (by omega)]
    omega
  refine⟨h1,?_⟩
  rw [V3 h1,V3 h]
  unfold Bnd
  rw [VK,VK,Zi (f:=fun i=>p.D i*z i) (g:=fun i=>p.D i*y i) fun i i0 i1=>by rw [hyz i i0 (by omega)]]
def lfn(m q:Int)(y:Int->Int):Int->Int:=fun k=>if 0<=k/\k<=m then consf q y k else 0
def LfR(p:Prob)(b n:Int)(l:Int->Int)(ok:Prop):Prop:=(ok->XW p b n l/\n<=40/\∀k,ZP (l k))/\(b=0->1<=ZA p->ok)
def ZcC(p:Prob)(c:Ct)(m:Int):Prop:=m<0\/(Chk p c.n c.y c.q=0/\m=YS p c.n c.y c.q)
theorem W4{p:Prob}{b c b':Ct}{m':Int}(h:ZcC p b m)(ho:(b',m')=Wl p (b,m) c e):ZcC p b' m'/\m<=m'/\(e=0->Chk p c.n c.y c.q=0->YS p c.n c.y c.q<=m'):=by
  by_cases hc:e=0/\Chk p c.n c.y c.q=0/\m<YS p c.n c.y c.q
  · rw [<-TP hc.1 hc.2.1 hc.2.2] at ho
    obtain⟨rfl,rfl⟩:=Prod.mk.inj ho
    exact⟨.inr ⟨hc.2.1,rfl⟩,by omega,fun _ _=>Int.le_refl _⟩
  · rw [<-Vt hc] at ho
    obtain⟨rfl,rfl⟩:=Prod.mk.inj ho
    refine⟨h,Int.le_refl _,fun h1 h2=> ?_⟩
    apply Classical.byContradiction;intro h3
    exact hc ⟨h1,h2,by omega⟩
theorem TT{p:Prob}(hp:p.Ok):∀(j:Nat),(j:Int)<=p.m->∀c,0<=c->Tab p (fun k=>p.L k+p.kerf) j c<=c
  |0,_,c,hc=>hc
  | j+1,hj,c,hc=>by
    have h2:=hp.all j (by omega) (by omega)
    unfold Prob.each at h2
    have hk:=hp.k1
    simp only [Tab]
    obtain⟨n,h3,h4,h5⟩:=ZbB (Tab p (fun k=>p.L k+p.kerf) j) (p.L j+p.kerf) (p.L j+p.kerf) (p.D j).toNat c hc
    rw [h5]
    have:=TT hp j (by omega) (c-n*(p.L j+p.kerf)) (by omega)
    omega
theorem ZbU{p:Prob}(hp:p.Ok):Chk p (Vv p).n (Vv p).y (Vv p).q=0:=by
  have h1:=hp.s1;have h2:=hp.s2;have h3:=hp.k1;have h4:=hp.k2;have hm:=hp.m1
  refine Zg0 hp ⟨by show 1<=p.stock+p.kerf;omega,by show p.stock+p.kerf<=_;omega,fun k k0 k1=> ?_⟩ rfl ?_
  · have he:=hp.all k k0 k1
    unfold Prob.each at he
    show 0<=p.L k+p.kerf/\p.L k+p.kerf<=_
    omega
  · have:=TT hp p.m.toNat (by omega) (p.stock+p.kerf) (by omega)
    show¬p.stock+p.kerf<WS p fun k=>p.L k+p.kerf
    unfold WS;omega
theorem Zgs{p:Prob}(hp:p.Ok)(h:1<=ZA p):1<=YS p (Vv p).n (Vv p).y (Vv p).q:=by
  rw [V3 (ZbU hp)]
  obtain⟨w,w0,w1,w2⟩:=KY hp h
  have h1:=hp.s1;have h3:=hp.k1
  have h5:1<=Tot p.D (Vv p).y p.m.toNat:=by
    rw [VK]
    have:=Xk (f:=fun i=>p.D i*(p.L i+p.kerf)) (n:=p.m.toNat) w0 (by omega) fun i i0 i1=>by
      have he:=hp.all i i0 (by omega);unfold Prob.each at he
      exact Int.mul_nonneg (by omega) (by omega)
    have he:=hp.all w w0 w1
    unfold Prob.each at he
    have h6:1*1<=p.D w*(p.L w+p.kerf):=Int.mul_le_mul w2 (by omega) (by omega) (by omega)
    show 1<=Zd (fun i=>p.D i*(p.L i+p.kerf)) p.m.toNat
    omega
  show 1<=(Tot p.D (Vv p).y p.m.toNat+(p.stock+p.kerf)-1).tdiv (p.stock+p.kerf)
  rw [Int.tdiv_eq_ediv_of_nonneg (by omega)]
  exact(Int.le_ediv_iff_mul_le (by omega)).2 (by omega)
theorem DBestR.good{p:Prob}{c:Ct}(h:DBestR p c m e)(hp:p.Ok):e=0/\ZcC p c m/\(1<=ZA p->1<=m):=by
  rcases h with⟨g,_⟩|⟨_,he,c1,e1,c2,e2,c3,e3,h1,h2,h3,h4⟩
  · exact absurd hp g
  · refine⟨he,?_⟩
    obtain⟨b1,m1,ho1⟩:∃b m,(b,m)=Wl p (Ct.zer,-1) c1 e1:=⟨_,_,rfl⟩
    rw [<-ho1] at h4
    obtain⟨b2,m2,ho2⟩:∃b m,(b,m)=Wl p (b1,m1) c2 e2:=⟨_,_,rfl⟩
    rw [<-ho2] at h4
    have g1:=W4 (.inl (by omega)) ho1
    have g2:=W4 g1.1 ho2
    have g3:=W4 g2.1 h4
    refine⟨g3.1,fun hn=> ?_⟩
    rcases h2 with⟨g,_⟩|⟨_,rfl,rfl⟩
    · exact absurd hp g
    · have:=g2.2.2 rfl (ZbU hp)
      have:=Zgs hp hn
      omega
theorem Zgw {p:Prob} {n:Int} {c:Ct} (hpo:ZY p b) (h:ZcC p c m) (hb:b<m) (hn:n=c.n+1):XW p b n (lfn c.n c.q c.y)/\n<=40/\∀k,ZP (lfn c.n c.q c.y k):=by
  have hb0:=hpo.2.1
  rcases h with h|⟨h1,h2⟩
  · omega
  · obtain⟨hp,hf,he,_⟩:=Gw.Wc h1
    have hm1:=hp.m1;have hm2:=hp.m2
    have e0:lfn c.n c.q c.y 0=c.q:=by unfold lfn consf;rw [if_pos ⟨by omega,by omega⟩,if_pos (by omega)]
    have e1:∀k,0<=k->k<c.n->lfn c.n c.q c.y (k+1)=c.y k:=fun k k0 k1=>by
      unfold lfn consf;rw [if_pos ⟨by omega,by omega⟩,if_neg (by omega),show k+1-1=k by omega]
    have h3:=Zdd (z:=fun k=>lfn c.n c.q c.y (k+1)) (fun _ i i0 i1=>(e1 i i0 (by omega)).symm) h1
    refine⟨⟨hpo,by omega,?_,?_⟩,by omega,fun k=> ?_⟩
    · rw [e0,show n-1=c.n by omega];exact h3.1
    · rw [e0,show n-1=c.n by omega,h3.2];omega
    · unfold ZP
      by_cases hk:0<=k/\k<=c.n
      · by_cases hk0:k=0
        · rw [hk0,e0];have:=hf.1;have:=hf.2.1;omega
        · have:=e1 (k-1) (by omega) (by omega)
          rw [show k-1+1=k by omega] at this
          rw [this];have:=hf.2.2 (k-1) (by omega) (by omega);omega
      · unfold lfn;rw [if_neg hk];omega
def Wt(p:Prob)(b c:Int)(t:Tr)(u:Int)(ln:Int->Int)(pt:Int->Int->Int)(cnt:Int->Int)(ok:Prop)(lf:Int):Prop:=
  1<=c/\(ZA p<=6->c<=Gn (ZA p))/\(¬ok->Th t/\u=0/\(ZA p<=6->lf<0))/\
  (ok->(Th t/\PMt p u ln pt cnt/\brs u cnt<=b)\/(u=0/\wrT t p b=none/\(0<t.n\/0<t.nl)/\(t.ok/\V5 t)/\(ZA p<=6->t.nodes=c/\t.depth<=ZA p+1)))
theorem Yf:Th Tr.nil:=⟨rfl,rfl,rfl⟩
theorem Uq{p:Prob}(hp:p.Ok):ZA p<=6->1<=Gn (ZA p):=fun h=>(Kn _ (XQ hp).1 h).1
theorem Zga{p:Prob}(hp:p.Ok)(h:lf<0):Wt p b 1 .nil 0 ln pt cnt False lf:=
  ⟨Int.le_refl _,Uq hp,fun _=>⟨Yf,rfl,fun _=>h⟩,fun h=>h.elim⟩
theorem Zgc{p:Prob}{u:Int}{ok:Prop}(hp:p.Ok)(h:Zk4 p b u ln pt cnt ok)(ho:ok):Wt p b 1 .nil u ln pt cnt True lf:=
  ⟨Int.le_refl _,Uq hp,fun h=>absurd trivial h,fun _=> .inl ⟨Yf,h.1 ho⟩⟩
theorem ZdO{x:Int}(h:ZP x): -9223372036854775808<=x/\x<=9223372036854775807:=by unfold ZP at h;omega
theorem ZdJ{p:Prob}{nl:Int}{l:Int->Int}{vK vL:Value}{kid:Int->Tr}{ok:Prop}(hp:p.Ok)(h:LfR p b nl l ok)(ho:ok):Wt p b 1 (.mk 0 vK 0 kid vL nl l) 0 ln pt cnt True lf:=by
  obtain⟨h1,h2,h3⟩:=h.1 ho
  refine⟨Int.le_refl _,Uq hp,fun h=>absurd trivial h,fun _=> .inr ⟨rfl,XA rfl h1,.inr ?_,⟨⟨⟨by show ZP 0;unfold ZP;omega,by show(0:Int)<=100;omega,h2,.inl rfl,fun _=>rfl,fun k _ _=>h3 k⟩,fun i i0 i1=>by omega⟩,⟨⟨by omega,by omega,fun k=>ZdO (h3 k)⟩,fun i i0 i1=>by omega⟩⟩,fun hn=> ?_⟩⟩
  · have:=h1.2.1;show 0<nl;omega
  · have:=(XQ hp).1
    refine⟨rfl,?_⟩
    show IntKind.i64.wrap (0+1)<=_
    have:IntKind.i64.wrap (0+1)=1:=by decide
    omega
theorem KC{p:Prob}{u2 nl:Int}{l:Int->Int}{ok1 ok2:Prop}(hpo:ZY p b)(h1:Zk4 p b u2 ln2 pt2 qd ok1)(n1:¬ok1)(h2:LfR p b nl l ok2)(n2:¬ok2)(h3:∀wi,ZM p b wi->100<Zl p b wi):Wt p b 1 .nil 0 ln pt cnt False lf:=by
  have hp:=hpo.1
  refine⟨Int.le_refl _,Uq hp,fun _=>⟨Yf,rfl,fun hn=> ?_⟩,fun h=>h.elim⟩
  exfalso
  have h4:¬ZA p<=b:=fun h=>n1 (h1.2 h)
  have hb0:=hpo.2.1
  have h5:b≠0:=fun h=>n2 (h2.2 h (by omega))
  obtain⟨w,w0,w1,w2⟩:=KY hp (by omega)
  have h6:=(ZfT hp w0 w1 w2 hn).1
  have h7:ZM p b w:=⟨hpo,by omega,⟨w0,w1⟩,by omega,by omega⟩
  have:=h3 w h7
  rw [Ys h7] at this
  omega
theorem WF{p:Prob}(hs:ZM p b wi)(i0:0<=i)(i1:i<Zl p b wi):ZA (ZT p wi i)=ZA p-Zd (Yr (MX p wi) i) p.m.toNat/\1<=Zd (Yr (MX p wi) i) p.m.toNat:=by
  obtain⟨h1,h2⟩:=Vs hs i0 i1
  have e:Zd (fun j=>p.D j-Yr (MX p wi) i j) p.m.toNat+Zd (Yr (MX p wi) i) p.m.toNat=Zd p.D p.m.toNat:=by
    rw [<-Wx];exact Zi fun j _ _=>by omega
  have h3:=Xk (f:=Yr (MX p wi) i) (n:=p.m.toNat) hs.2.2.1.1 (by have:=hs.2.2.1.2;omega) fun j j0 j1=>(h1.rng j j0 (by omega)).1
  refine⟨?_,by omega⟩
  show Zd (fun j=>p.D j-Yr (MX p wi) i j) p.m.toNat=Zd p.D p.m.toNat-_
  omega
theorem KQ{p:Prob}(hs:ZM p b wi)(hn:ZA p<=6):1+Zd (fun k=>Gn (ZA (ZT p wi k))) (Zl p b wi).toNat<=Gn (ZA p):=by
  have hp:=hs.1.1
  obtain⟨w0,w1⟩:=hs.2.2.1
  have hD:1<=p.D wi:=by have he:=hp.all wi w0 w1;unfold Prob.each at he;have:=hs.2.2.2.1;omega
  have h1:=(ZfT hp w0 w1 hD hn).2
  have h2:=ZaK hp w0 w1 hD (f:=fun s=>Gn (ZA p-s)) fun s=>Zh5 _
  have h3:=Zmh _ h1 hn
  have h4:Zd (fun k=>Gn (ZA (ZT p wi k))) (Zl p b wi).toNat=YF (fun x=>Gn (ZA p-Zd x p.m.toNat)) (MX p wi):=by
    rw [<-TU,Ys hs,Int.toNat_natCast]
    exact Zi fun k k0 k1=>by rw [(WF hs k0 (by rw [Ys hs];exact k1)).1]
  omega
theorem ZcU{p:Prob}(hs:ZM p b wi)(hn:ZA p<=6)(i0:0<=i)(i1:i<=Zl p b wi):1+Zd (fun k=>Gn (ZA (ZT p wi k))) i.toNat<=Gn (ZA p):=by
  have h1:=KQ hs hn
  have h2:∀c:Nat,Zd (fun k=>Gn (ZA (ZT p wi k))) i.toNat<=Zd (fun k=>Gn (ZA (ZT p wi k))) (i.toNat+c):=fun c=>by
    induction c with
    |zero=>exact Int.le_refl _
    |succ c ih=>have:=Zh5 (ZA (ZT p wi ((i.toNat+c:Nat):Int)));show _<=Zd (fun k=>Gn (ZA (ZT p wi k))) (i.toNat+c)+Gn (ZA (ZT p wi ((i.toNat+c:Nat):Int)));omega
  have h3:=h2 (Zl p b wi-i).toNat
  rw [show i.toNat+(Zl p b wi-i).toNat=(Zl p b wi).toNat by omega] at h3
  omega
structure Upto (p:Prob) (b wi i C:Int) (kd:Int->Tr):Prop where
  one:1<=C
  few:ZA p<=6->C<=1+Zd (fun k=>Gn (ZA (ZT p wi k))) i.toNat
  all:∀k,0<=k->k<i->wrT (kd k) (ZT p wi k) (b-1)=none/\(kd k).ok/\V5 (kd k)
  cnt:ZA p<=6->VM (fun k=>(kd k).nodes) i.toNat=C/\0<=W6 (fun k=>(kd k).depth) i.toNat/\W6 (fun k=>(kd k).depth) i.toNat<=ZA p
theorem Upto.start{p:Prob}(hp:p.Ok)(kd:Int->Tr):Upto p b wi 0 1 kd:=
  ⟨Int.le_refl _,fun _=>by simp [Zd],fun k k0 k1=>by omega,fun _=>⟨rfl,Int.le_refl _,(XQ hp).1⟩⟩
theorem Upto.calls{p:Prob}{kd:Int->Tr}{t:Tr}{u:Int}{ok:Prop}(h:Upto p b wi i C kd)(hs:ZM p b wi)(i0:0<=i)(i1:i<Zl p b wi)(hc:Wt (ZT p wi i) (b-1) c t u ln pt cnt ok lf)(hn:ZA p<=6):C+c<=1+Zd (fun k=>Gn (ZA (ZT p wi k))) (i+1).toNat/\C+c<=Gn (ZA p):=by
  have h1:=WF hs i0 i1
  have h2:=hc.2.1 (by omega)
  have h3:=h.few hn
  have h4:=ZE (fun k=>Gn (ZA (ZT p wi k))) i0
  have h5:=ZcU hs hn (i:=i+1) (by omega) (by omega)
  omega
theorem Upto.next{p:Prob}{kd:Int->Tr}{t:Tr}{u:Int}{ok:Prop}(h:Upto p b wi i C kd)(hs:ZM p b wi)(i0:0<=i)(i1:i<Zl p b wi)(hc:Wt (ZT p wi i) (b-1) c t u ln pt cnt ok lf)(ho:ok)(hm:¬(0<u\/(t.n=0/\t.nl=0/\Ro (ZT p wi i)))):Upto p b wi (i+1) (C+c) (gsn kd i t):=by
  have h9:wrT t (ZT p wi i) (b-1)=none/\(t.ok/\V5 t)/\(ZA (ZT p wi i)<=6->t.nodes=c/\t.depth<=ZA (ZT p wi i)+1):=by
    rcases hc.2.2.2 ho with⟨g1,g2,g3⟩|⟨g1,g2,g3,g4,g5⟩
    · exfalso
      have hu:¬0<u:=fun hu=>hm (.inl hu)
      refine hm (.inr ⟨g1.2.2,g1.2.1,g2.1.1,fun j j0 j1=> ?_⟩)
      have:=g2.2 j j0 j1
      unfold Zu at this
      rw [show u.toNat=0 by omega] at this
      exact this
    · exact⟨g2,g4,g5⟩
  have hc1:=hc.1
  have h1:=h.one
  refine⟨by omega,fun hn=>(h.calls hs i0 i1 hc hn).1,fun k k0 k1=> ?_,fun hn=> ?_⟩
  · by_cases e:k<i
    · rw [Zv e];exact h.all k k0 e
    · rw [ZG e,show k=i by omega];exact⟨h9.1,h9.2.1⟩
  · obtain⟨q1,q2,q3⟩:=h.cnt hn
    have q4:=WF hs i0 i1
    obtain⟨q5,q6⟩:=h9.2.2 (by omega)
    have q7:=(h.calls hs i0 i1 hc hn).2
    have q8:=Kn (ZA p) (XQ hs.1.1).1 hn
    have e1:VM (fun k=>(gsn kd i t k).nodes) i.toNat=VM (fun k=>(kd k).nodes) i.toNat:=WW fun k k0 k1=>by rw [Zv (by omega)]
    have e2:W6 (fun k=>(gsn kd i t k).depth) i.toNat=W6 (fun k=>(kd k).depth) i.toNat:=W5 fun k k0 k1=>by rw [Zv (by omega)]
    rw [Tz _ i0,TS _ i0,e1,e2,q1,YP,q5]
    refine⟨I64.wrap (by unfold I64;omega),by omega,by omega⟩
theorem Zf8{p:Prob}{kd:Int->Tr}{t:Tr}{u:Int}{ok:Prop}(h:Upto p b wi i C kd)(hs:ZM p b wi)(i0:0<=i)(i1:i<Zl p b wi)(hc:Wt (ZT p wi i) (b-1) c t u ln pt cnt ok lf)(ho:¬ok):Wt p b (C+c) .nil 0 ln2 pt2 qd False lf:=by
  have h1:=h.one;have h2:=hc.1
  refine⟨by omega,fun hn=>(h.calls hs i0 i1 hc hn).2,fun _=>⟨Yf,rfl,fun hn=> ?_⟩,fun h=>h.elim⟩
  have:=WF hs i0 i1
  exact(hc.2.2.1 ho).2.2 (by omega)
theorem Zc7{p:Prob}{n:Int}{f:Int->Int}(hp:p.Ok)(h:FitsP (ZT p wi i) n f):FitsP p n f:=⟨hp,h.eq,h.all,h.used⟩
theorem Wj{f d g e:Int->Int}:∀n:Nat,(∀k,0<=k->k<(n:Int)->f k=g k/\d k=e k)->psum f d n=psum g e n
  |0,_=>rfl
  | n+1,h=>by
    have h1:=Wj n fun k k0 k1=>h k k0 (by omega)
    obtain⟨h2,h3⟩:=h n (by omega) (by omega)
    simp only [psum];rw [h1,h2,h3]
theorem ZdI {p:Prob} {kd:Int->Tr} {t:Tr} {u:Int} {ok:Prop} {x:Int->Int} (h:Upto p b wi i C kd) (hs:ZM p b wi) (i0:0<=i) (i1:i<Zl p b wi) (hc:Wt (ZT p wi i) (b-1) c t u ln pt cnt ok lf) (ho:ok) (hm:0<u\/(t.n=0/\t.nl=0/\Ro (ZT p wi i))) (u0:0<=u) {m9:Int} (hm9:m9=p.m) (hx:∀j,0<=j->j<p.m->x j=Yr (MX p wi) i j):Wt p b (C+c) .nil (u+1) (gsn ln u m9) (gsn pt u x) (snoc cnt u 1) True lf/\u<1000:=by
  subst hm9
  have h1:=h.one;have h2:=hc.1
  have hp:=hs.1.1
  obtain⟨m1,m2⟩:=Vs hs i0 i1
  have hb1:=hs.1.2.2
  have hpl:PMt (ZT p wi i) u ln pt cnt/\brs u cnt<=b-1:=by
    rcases hc.2.2.2 ho with⟨g1,g2,g3⟩|⟨g1,g2,g3,g4,g5⟩
    · exact⟨g2,g3⟩
    · exfalso;omega
  obtain⟨⟨⟨_,k1,k2⟩,k3⟩,k4⟩:=hpl
  have hub:u<=brs u cnt:=by
    have:∀n:Nat,(n:Int)<=u->(n:Int)<=psum (fun _=>1) cnt n:=fun n=>by
      induction n with
      |zero=>intro _;simp [psum]
      | succ n ih=>
        intro hn
        have a1:=ih (by omega)
        have a2:=(k2 n (by omega) (by omega)).1
        simp only [psum];omega
    have a3:=this u.toNat (by omega)
    unfold brs;omega
  have hfx:FitsP p p.m x:=by
    refine VX hp (fun j j0 j1=>by rw [hx j j0 j1];exact(m1.rng j j0 j1).1) ?_
    rw [ZfZ hx];exact m1.used
  have hmk:∀j,Zu (u+1) (gsn pt u x) (snoc cnt u 1) j=Zu u pt cnt j+x j:=fun j=>by
    rw [Xs u0]
    have e:Zu u (gsn pt u x) (snoc cnt u 1) j=Zu u pt cnt j:=Wj _ fun k k0 k1=>⟨by show gsn pt u x k j=_;rw [Zv (by omega)],Zq (by omega)⟩
    rw [e,YP,Zr (by omega)];omega
  have hbr:brs (u+1) (snoc cnt u 1)=brs u cnt+1:=by
    unfold brs
    rw [YE _ _ u0,Zr (by omega),Wj (g:=fun _=>1) (e:=cnt) u.toNat fun k k0 k1=>⟨rfl,Zq (by omega)⟩]
    omega
  refine⟨⟨by omega,fun hn=>(h.calls hs i0 i1 hc hn).2,fun h=>absurd trivial h,fun _=> .inl ⟨Yf,⟨⟨hp,by omega,fun k k0 k1=> ?_⟩,fun j j0 j1=> ?_⟩,by omega⟩⟩,by omega⟩
  · by_cases e:k<u
    · rw [Zv e,Zv e,Zq e]
      obtain⟨a1,a2,a3⟩:=k2 k k0 e
      exact⟨a1,a2,Zc7 hp a3⟩
    · rw [ZG e,ZG e,Zr e]
      exact⟨by omega,by omega,hfx⟩
  · rw [hmk,hx j j0 j1]
    have:=k3 j j0 j1
    have e:(ZT p wi i).D j=p.D j-Yr (MX p wi) i j:=rfl
    omega
theorem Zek{f:Int->Option (List Int)}:∀(c:Nat) (i:Int),(∀k,i<=k->k<i+c->f k=none)->fw f c i=none
  |0,_,_=>rfl
  | c+1,i,h=>by
    unfold fw
    rw [h i (by omega) (by omega)]
    exact Zek c (i+1) fun k k0 k1=>h k (by omega) (by omega)
theorem ZdM{p:Prob}(hs:ZM p b wi):1<=Zl p b wi:=by
  have hp:=hs.1.1
  obtain⟨w0,w1⟩:=hs.2.2.1
  have he:=hp.all wi w0 w1
  unfold Prob.each at he
  have hz:ZC p (fun _=>0) p.m.toNat=0:=by
    unfold ZC
    rw [Zi (g:=fun _=>0) fun i i0 i1=>by simp]
    exact ZJ _
  have h1:=Vd (p:=p) (f:=fun _=>0) w0 (n:=p.m.toNat) (by omega)
  have hf:FitsP p p.m (upd (fun _=>0) wi (0+1)):=VX hp (fun j j0 j1=>by by_cases e:j=wi;(rw [e,Gw.Zs];omega);(rw [Gw.upd_ne _ _ e];exact Int.le_refl _)) (by have h2:ZC p (Gw.upd (fun _=>0) wi (0+1)) p.m.toNat=ZC p (fun _=>0) p.m.toNat+(p.L wi+p.kerf):=h1;rw [h2,hz];omega)
  obtain⟨i,i0,i1,_⟩:=Rh hf w0 w1 (by rw [Zs];omega) (by have:=hs.2.2.2.1;omega)
  rw [Ys hs];omega
theorem ZdH{p:Prob}{kd:Int->Tr}{vK vL:Value}{l:Int->Int}(h:Upto p b wi (Zl p b wi) C kd)(hs:ZM p b wi)(hk:Zl p b wi<=100):Wt p b C (.mk wi vK (Zl p b wi) kd vL 0 l) 0 ln pt cnt True lf\/¬(∀k,-9223372036854775808<=l k/\l k<=9223372036854775807):=by
  by_cases hl:∀k,-9223372036854775808<=l k/\l k<=9223372036854775807
  · left
    have h1:=ZdM hs
    have hp:=hs.1.1
    obtain⟨w0,w1⟩:=hs.2.2.1
    have hm2:=hp.m2
    refine⟨h.one,fun hn=> ?_,fun h=>absurd trivial h,fun _=> .inr ⟨rfl,?_,.inl ?_,⟨⟨⟨?_,hk,?_,.inr rfl,fun h0=> ?_,fun k k0 k1=> ?_⟩,fun i i0 i1=>(h.all i i0 i1).2.1⟩,⟨⟨by omega,by omega,hl⟩,fun i i0 i1=>(h.all i i0 i1).2.2⟩⟩,fun hn=> ?_⟩⟩
    · have:=h.few hn;have:=KQ hs hn;omega
    · rw [Vc (t:= .mk wi vK (Zl p b wi) kd vL 0 l) (by show Zl p b wi≠0;omega) hs rfl]
      refine Zek _ _ fun k k0 k1=> ?_
      exact(h.all k k0 (by have k1':k<0+((Zl p b wi-0).toNat:Int):=k1;omega)).1
    · show 0<Zl p b wi;omega
    · show ZP wi;unfold ZP;omega
    · show(0:Int)<=40;omega
    · have h0':Zl p b wi=0:=h0;omega
    · have k1':k<(0:Int):=k1;omega
    · obtain⟨q1,q2,q3⟩:=h.cnt hn
      refine⟨q1,?_⟩
      show IntKind.i64.wrap (W6 (fun k=>(kd k).depth) (Zl p b wi).toNat+1)<=_
      rw [I64.wrap (by unfold I64;omega)];omega
  · exact .inr hl
theorem ZhL{p:Prob}{u:Int}{t:Tr}{ok:Prop}(h:Wt p b c t u ln pt cnt ok lf):u<=1000:=by
  by_cases ho:ok
  · rcases h.2.2.2 ho with⟨_,g,_⟩|⟨g,_⟩
    · exact g.1.2.1
    · omega
  · have:=(h.2.2.1 ho).2.1;omega
theorem ZcV{p:Prob}(hs:ZM p b wi)(i0:0<=i)(i1:i<Zl p b wi):ZY (ZT p wi i) (b-1):=⟨KR hs i0 i1,by have:=hs.2.1;omega,by have:=hs.1.2.2;omega⟩
theorem Zgb{p:Prob}{u:Int}{t:Tr}{ok:Prop}(h:Wt p b c t u ln pt cnt ok lf)(ho:ok)(hm:0<u\/(t.n=0/\t.nl=0/\Ro p)):PMt p u ln pt cnt/\brs u cnt<=b:=by
  rcases h.2.2.2 ho with⟨g1,g2,g3⟩|⟨g1,g2,g3,g4,g5⟩
  · exact⟨g2,g3⟩
  · exfalso;omega
theorem Zf9{p:Prob}{u:Int}{t:Tr}{ok:Prop}(h:Wt p b c t u ln pt cnt ok lf)(ho:ok)(hm:¬(0<u\/(t.n=0/\t.nl=0/\Ro p))):u=0/\wrT t p b=none/\(0<t.n\/0<t.nl)/\(t.ok/\V5 t)/\(ZA p<=6->t.nodes=c/\t.depth<=ZA p+1):=by
  rcases h.2.2.2 ho with⟨g1,g2,g3⟩|h
  · exfalso
    have hu:¬0<u:=fun hu=>hm (.inl hu)
    refine hm (.inr ⟨g1.2.2,g1.2.1,g2.1.1,fun j j0 j1=> ?_⟩)
    have:=g2.2 j j0 j1
    unfold Zu at this
    rw [show u.toNat=0 by omega] at this
    exact this
  · exact h
theorem ZdL{p:Prob}{u:Int}{t:Tr}{ok:Prop}(hp:p.Ok)(h:Wt p b c t u ln pt cnt ok (20000-c))(ho:¬ok):6<ZA p:=by
  apply Classical.byContradiction;intro hn
  have h1:=(h.2.2.1 ho).2.2 (by omega)
  have h2:=h.2.1 (by omega)
  have h3:=Kn _ (XQ hp).1 (show ZA p<=6 by omega)
  omega
theorem ZdK{p:Prob}{u:Int}{t:Tr}{ok:Prop}(hp:p.Ok)(h:Wt p b c t u ln pt cnt ok lf)(hf:(t.ok/\V5 t)/\(ZA p<=6->t.nodes=c/\t.depth<=ZA p+1))(hv:¬Ym t):6<ZA p:=by
  apply Classical.byContradiction;intro hn
  obtain⟨g1,g2⟩:=hf.2 (by omega)
  have h2:=h.2.1 (by omega)
  have h3:=Kn _ (XQ hp).1 (show ZA p<=6 by omega)
  exact hv ⟨hf.1.1,by omega,by omega⟩
theorem Zd0{p:Prob}{u n2:Int}(h:PMt p u ln pt cnt/\brs u cnt<=b)(hb:b<=1000)(hN:NormR (plL u ln pt cnt) (plL n2 ln2 pt2 qd))(u0:0<=u)(n0:0<=n2)(n1:n2<=u):PMt p n2 ln2 pt2 qd/\brs n2 qd<=b:=by
  obtain⟨⟨h1,h2⟩,h3⟩:=h
  have e1:brs n2 qd=brs u cnt:=by
    have:=hN.wsum (fun _=>1)
    rw [Z3 _ n0,Z3 _ u0] at this
    exact this
  have zF:∀x∈plL n2 ln2 pt2 qd,1<=x.2:=hN.pos fun x hx=>(W0 h1 x hx).1.1
  have hle:=(Zbk zF).2
  have e2:Gw.wsum (fun _=>1) (plL n2 ln2 pt2 qd)=brs n2 qd:=Z3 _ n0
  have hP:PlanOk p n2 ln2 pt2 qd:=Vp h1.1 (by have:=h1.2.1;omega) fun x hx=>by
    obtain⟨y,hy,he⟩:=hN.keys x hx
    have h5:=hle x hx
    refine⟨⟨zF x hx,by omega⟩,?_⟩
    rw [<-he];exact(W0 h1 y hy).2
  refine⟨⟨hP,fun j j0 j1=> ?_⟩,by omega⟩
  have h6:=h2 j j0 j1
  rw [h1.mk u0 j0 j1] at h6
  rw [hP.mk n0 j0 j1]
  unfold mkU at h6⊢
  rw [hN.wsum];exact h6
def RefR(p:Prob)(b:Int)(t:Tr)(u:Int)(ln:Int->Int)(pt:Int->Int->Int)(cnt:Int->Int)(e:Int):Prop:=
  (¬ZY p b/\Th t/\u=0/\e=1)\/(ZY p b/\6<ZA p/\Th t/\u=0/\e=9)\/(ZY p b/\e=0/\Th t/\PMt p u ln pt cnt/\brs u cnt<=b)\/
  (ZY p b/\e=0/\u=0/\Ym t/\V5 t/\wrT t p b=none/\(0<t.n\/0<t.nl))
def SolR6(p:Prob)(nb:Int)(t:Tr)(u:Int)(ln:Int->Int)(pt:Int->Int->Int)(cnt:Int->Int)(e:Int):Prop:=
  (¬p.Ok/\e=1/\nb=0/\Th t/\u=0)\/(p.Ok/\6<ZA p/\e=9/\nb=0/\Th t/\u=0)\/
  (p.Ok/\e=0/\PMt p u ln pt cnt/\brs u cnt=nb/\nb<=1000/\V5 t/\((nb=0/\Th t)\/(1<=nb/\Ym t/\wrT t p (nb-1)=none)))
theorem RefR.u{p:Prob}{b u e:Int}{t:Tr}{ln cnt:Int->Int}{pt:Int->Int->Int}(h:RefR p b t u ln pt cnt e):u<=1000:=by
  rcases h with⟨_,_,h,_⟩|⟨_,_,_,h,_⟩|⟨_,_,_,h,_⟩|⟨_,_,h,_⟩
  · omega
  · omega
  · exact h.1.2.1
  · omega
theorem RefR.err{p:Prob}{u:Int}{t:Tr}(h:RefR p b t u ln pt cnt e)(hp:ZY p b)(he:e≠0):6<ZA p:=by
  rcases h with⟨h,_⟩|⟨_,h,_⟩|⟨_,h,_⟩|⟨_,h,_⟩
  · exact absurd hp h
  · exact h
  · exact absurd h he
  · exact absurd h he
theorem RefR.plan{p:Prob}{u:Int}{t:Tr}(h:RefR p b t u ln pt cnt e)(he:e=0)(h1:¬0<t.n)(h2:¬0<t.nl):PMt p u ln pt cnt/\brs u cnt<=b:=by
  rcases h with⟨_,_,_,h⟩|⟨_,_,_,_,h⟩|⟨_,_,_,h3,h4⟩|⟨_,_,_,_,_,_,h⟩
  · omega
  · omega
  · exact⟨h3,h4⟩
  · omega
theorem RefR.tree{p:Prob}{u:Int}{t:Tr}(h:RefR p b t u ln pt cnt e)(he:e=0)(h1:0<t.n\/0<t.nl):Ym t/\V5 t/\wrT t p b=none:=by
  rcases h with⟨_,_,_,h⟩|⟨_,_,_,_,h⟩|⟨_,_,h3,_⟩|⟨_,_,_,h1,h2,h3,_⟩
  · omega
  · omega
  · have:=h3.2.1;have:=h3.2.2;omega
  · exact⟨h1,h2,h3⟩
theorem Zl9{p:Prob}{u:Int}(h:PMt p u ln pt cnt):0<=brs u cnt:=(TI h.1).1
end Go.Proofs.YtkichmnjjblodaaGreat
namespace Go.Proofs.YtkichmnjjblodaaGreat
open Go Go.RowKit Go.Proofs.Gw
theorem ZhX:Zc Tryz.prog 57=true:=by kernel_rfl
theorem Zkp{vL vD:Value}{p:Prob}{b:Int}(w0:World)(h:PAt w0 vL vD p)(hpo:ZY p b):
    Calls Tryz.prog 61 [.agg #[vL,vD,.int .i64 p.stock,.int .i64 p.kerf,.int .i64 b]].toArray w0 fun e w=>∃v,e= .returned v/\∃r u pv ln pt cnt ok,v= .tuple #[r,B ok]/\Zk4 p b u ln pt cnt ok/\Slh r u/\Sat w0 w [.own r 2 107 u (Ze pv cnt),.sem (Frame.rows 3 u pv ln pt)]:=by
  have hm:=h.L.slh.n0;have hm1:=h.L.slh.n1;have hd:=h.D.slh.n0;have hd1:=h.D.slh.n1;have hs:=h.is;have hk:=h.ik
  have hb1:=hpo.2.1;have hb2:=hpo.2.2
  refine zenG Tryz.func61 Tryz.ntmps61 fun w hS=> ?_
  refine zsr<|zla (xbx (cs:= [_,_,_,_,_]) hS) ?_;rintro _ w ⟨g1,rfl,hS⟩
  refine(zP)<|(zP)<|zlz<|(zV (xfb 0 fd_34_0))<|(zV (xlp 0 (ds:= [vL,vD,.int .i64 p.stock,.int .i64 p.kerf]) st_32 hS))<|zlc (xc0 ZhX) (ZfF (p:=p) w (h.below hS.below)) ?_;rintro _ w ⟨zN,yk,zn,zp,zy,zA,eK,rfl,qK,bH,dV,xD,hS'⟩
  replace hS:=(hS.comp hS').n3;clear hS'
  have cr:=fun k (k0:0<=k) (k1:k<yk)=>hS.slhIn 2 rfl k0 k1
  refine zs5 ?_
  refine zx7<|zdst [0,1,2] [0,1,2] 1000 mx_ hS ?_;clear hS;intro w hS
  refine(zDw 0 xmv)<|(zDw 1 xmv)<|(zDw 2 YK)<|(zDw 3 xmv)<|zdb 15 ?_ ?_<;>intro hc
  ·
   refine(zDw 4 xmv)<|(zDw 6 (xfb 4 fd_34_1))<|(zDl 7 (fun w hS=>(xlb 0 pl_3 hS)))<|zdc 5 (xc0 Zau) (VG (u:=yk) (pv:=zn) (ln:=zp) (pt:=zy) (cnt:=zA) w (⟨(hS.rowN 1 rfl),fun k k0 k1=>hS.rowIn 2 rfl k0 k1,fun k k0 k1=>hS.roomIn 2 rfl k0 k1⟩:VAt _ zN yk zn zp zy zA) (by omega) (fun k k0 k1=>by have h8:=bH k k0 k1;omega)) ?_;rintro _ w ⟨rfl,hS'⟩
   replace hS:=hS.cmp hS';clear hS'
   refine⟨⟨fun _=>hS,hS⟩,?_⟩
   refine(zDw 8 Y2)<|(zDw 9 xpt)<|(zDw 10 xas)<|(zDw 11 xas)<|zdd<|ztn<|zrt<|zf2 ⟨_,rfl,?_⟩
   have hmt:=qK.meets hpo.1 (by omega) xD.n0
   exact⟨_,_,_,_,_,_,_,rfl,⟨fun hq=>⟨hmt.1,hq⟩,fun hq=>Int.le_trans hmt.2 hq⟩,xD,hS.pk [1,2]⟩
  refine(zDo 4)<|(zDo 6)<|(zDo 7)<|(zDo 5)<|(zDo 8)<|(zDw 9 xpf)<|(zDw 10 xas)<|(zDw 11 xas)<|zdd<|ztn<|zrt<|zf2 ⟨_,rfl,?_⟩
  exact⟨_,_,_,_,_,_,False,by rw [Zz not_false],⟨fun h=>h.elim,fun hq=>by have h8:=(qK.tot hpo.1).2 (by have:=hpo.2.2;omega);omega⟩,xD,hS.pk [1,2]⟩
end Go.Proofs.YtkichmnjjblodaaGreat
namespace Go.Proofs.YtkichmnjjblodaaGreat
open Go Go.RowKit Go.Proofs.Gw
theorem Zly:Zc Tryz.prog 91=true:=by kernel_rfl
theorem ZlT{vL vD:Value}{p:Prob}{b:Int}(w0:World)(h:PAt w0 vL vD p)(hpo:ZY p b):
    Calls Tryz.prog 62 [.agg #[vL,vD,.int .i64 p.stock,.int .i64 p.kerf,.int .i64 b]].toArray w0 fun e w=>∃v,e= .returned v/\∃r n l ok,v= .tuple #[r,B ok]/\LfR p b n l ok/\Slh r n/\Sat w0 w [.own r 1 3 n (ints l)]:=by
  have hm:=h.L.slh.n0;have hm1:=h.L.slh.n1;have hd:=h.D.slh.n0;have hd1:=h.D.slh.n1;have hs:=h.is;have hk:=h.ik
  have hb1:=hpo.2.1;have hb2:=hpo.2.2
  refine zenG Tryz.func62 Tryz.ntmps62 fun w hS=> ?_
  refine zsr<|zla (xbx (cs:= [_,_,_,_,_]) hS) ?_;rintro _ w ⟨g1,rfl,hS⟩
  refine(zP)<|(zP)<|zlz<|(zV (xfb 0 fd_34_0))<|(zV (xlp 0 (ds:= [vL,vD,.int .i64 p.stock,.int .i64 p.kerf]) st_32 hS))<|zlc (xc0 Zly) (ZfE (p:=p) w (h.below hS.below)) ?_;rintro _ w ⟨gB,yD,jJ,kl,rfl,qK,cc,hS'⟩
  replace hS:=(hS.comp hS').n2;clear hS'
  refine zs4 ?_
  refine zla (xal (cs:= [_,_]) Ui hS) ?_;rintro _ w ⟨g2,rfl,hS⟩
  refine zle (xsw 2 st_98 hS (hd:=(Za cc.one (Za rfl Zh)))) ?_;clear hS;rintro w hS
  refine(zP)<|(zP)<|zx5<|(zP)<|(zP)<|(zP)<|zlb 16 ?_ ?_<;>intro hc
  ·
   iterate 4 refine zlo ?_
   refine(zP)<|zlt<|zct<|zsr ?_
   refine(zP)<|(zP)<|zx14<|zf2 ⟨_,rfl,?_⟩
   obtain⟨g1,g2,g3⟩:=qK.good hpo.1
   exact⟨_,0,fun _=>0,False,by rw [Zz not_false],⟨fun h=>h.elim,fun hb hn=>by have:=g3 hn;omega⟩,slh_nil,(hS.addnil 1 3 (ints fun _=>0)).sub (.cons _ (.cons _ (.cons _ (.cons_cons _ .slnil))))⟩
  refine(zP)<|(zV (xfb 4 fd_34_1))<|(zV (xlb 0 pl_3 hS))<|(zP)<|(zP)<|zlt<|Zf ?_ ?_<;>intro hc
  ·
   refine zsr<|(zP)<|(zP)<|zx14<|zf2 ⟨_,rfl,?_⟩
   obtain⟨g1,g2,g3⟩:=qK.good hpo.1
   exact⟨_,0,fun _=>0,False,by rw [Zz not_false],⟨fun h=>h.elim,fun hb hn=>by have:=g3 hn;omega⟩,slh_nil,(hS.addnil 1 3 (ints fun _=>0)).sub (.cons _ (.cons _ (.cons _ (.cons_cons _ .slnil))))⟩
  refine ZW<|(zV (xfb 1 fd_98_1))<|zlv (xlb 2 pl_3 hS) ?_
  have hgc:=(qK.good hpo.1).2.1.resolve_left (by omega)
  have hgn:=(Gw.Wc hgc.1).2.2.1;have hgm:=hpo.1.m2
  refine zla (xli (n:=1) (len:=1) (pv:= [(0,.int .i64 yD.q)]) (cs:= [.int .i64 yD.q]) (c:=ints (fun _=>yD.q)) Zb ZB hS) ?_;rintro v1 w ⟨hS,hv1⟩
  refine(zV (xfb 0 fd_98_0))<|(zV (xlb 2 pl_22 hS))<|zla (xap 3 (r:=yD.n+1) (f:=ints (consf yD.q yD.y)) Zb ZB hS (hS.rowN 1 rfl) (by exact Zdg _ _)) ?_;rintro v2 w ⟨hS,hv2⟩
  refine(zP)<|(zP)<|zx1<|zf2 ⟨_,rfl,?_⟩
  obtain⟨g1,g2,g3⟩:=qK.good hpo.1
  replace hS:=hS.recont 3 rfl (d:=ints (lfn yD.n yD.q yD.y)) (fun k k0 k1=>by unfold ints lfn;rw [if_pos ⟨k0,by omega⟩])
  exact⟨_,_,_,True,by rw [ZQ trivial],⟨fun _=>Zgw hpo g2 (by omega) (by omega),fun _ _=>trivial⟩,hv2,hS.pk [3]⟩
end Go.Proofs.YtkichmnjjblodaaGreat
namespace Go.Proofs.YtkichmnjjblodaaGreat
open Go Go.RowKit Go.Proofs.Gw
def Zmv(p:Prob)(b i:Int):Prop:= -1<=i/\(0<=i->ZM p b i/\Zl p b i<=100)/\(i<0->∀wi,ZM p b wi->100<Zl p b wi)
theorem ZcT{p:Prob}{b i:Int}(h:i<0):Zl p b i=0:=WE fun hs=>by have:=hs.2.2.1.1;omega
theorem Zko{vL vD:Value}{p:Prob}{b:Int}(w0:World)(h:PAt w0 vL vD p):
    Calls Tryz.prog 63 [.agg #[vL,vD,.int .i64 p.stock,.int .i64 p.kerf,.int .i64 b]].toArray w0 fun e w=>∃v,e= .returned v/\∃i r vv,v= .tuple #[.int .i64 i,r,B (0<=i)]/\Zmv p b i/\Slh r (Zl p b i)/\Sat w0 w [.own r 5 34 (Zl p b i) (ZS vv p.stock p.kerf (b-1)),.sem (Frame.rows 3 (2*Zl p b i) vv (fun _=>p.m) (gfn p (MX p i)))]:=by
  have hm:=h.L.slh.n0;have hm1:=h.L.slh.n1;have hd:=h.D.slh.n0;have hd1:=h.D.slh.n1;have hs:=h.is;have hk:=h.ik
  refine zenG Tryz.func63 Tryz.ntmps63 fun w hS=> ?_
  refine zsr<|zla (xbx (cs:= [_,_,_,_,_]) hS) ?_;rintro _ w ⟨g1,rfl,hS⟩
  refine(zP)<|(zP)<|(zP)<|zlz<|(zP)<|zlz<|(zP)<|zx5<|(zV (xfb 0 fd_34_0))<|(zV (xfb 1 fd_32_1))<|(zV (xlb 0 pl_22 hS))<|(zV (xln Zb h.D.slh))<|(zP)<|zx6 ?_
  replace hS:=(hS.addnil 5 34 (ZS (fun _=>Value.slice none 0 0) p.stock p.kerf (b-1))).addrows 3 (fun _=>Value.slice none 0 0) (fun _=>p.m) (gfn p (MX p (-1)))
  replace hS:=hS.rowsn 2 rfl (show(0:Int)=2*0 from rfl)
  refine zlp (fun mm M w=>∃(nB:Int) (vvB:Int->Value) (wB:Value) (j:Int) (i:Int),mm=((p.d-i).toNat)/\(0<=i)/\(i<=p.d)/\(-1<=j)/\(Slh wB nB)/\(nB=Zl p b j)/\(0<=j->ZM p b j/\Zl p b j<=100)/\(j<0->∀wi,0<=wi->wi<i->ZM p b wi->100<Zl p b wi)/\M= [(1,.pointer (some ⟨g1,0,none⟩)),(2,.int .i64 0),(3,.slice none 0 0),(4,.bool false),(5,.int .i64 j),(6,wB),(13,vD),(14,.int .i64 p.d),(15,.int .i64 i)]/\Sat w0 w [.blk g1 [vL,vD,.int .i64 p.stock,.int .i64 p.kerf,.int .i64 b],.own wB 5 34 nB (ZS vvB p.stock p.kerf (b-1)),.sem (Frame.rows 3 (2*nB) vvB (fun _=>p.m) (gfn p (MX p j)))]) ⟨0,(fun _=>Value.slice none 0 0),(.slice none 0 0),(-1),0,rfl,(by omega),(by omega),(by omega),?_,?_,?_,?_,rfl,hS⟩ ?_
  ·
   exact slh_nil
  ·
   exact(ZcT (by omega)).symm
  ·
   intro hh;omega
  ·
   intro hh wi w0 w1;omega
  clear hS w
  rintro mm M w ⟨nB,vvB,wB,j,i,rfl,h0,h1,hj,hwB,hnB,hsp,hno,rfl,hS⟩
  have hrB:∀k,0<=k->k<2*nB->Slh (vvB k) p.m:=fun k k0 k1=>hS.slhIn 2 rfl k0 k1
  refine zsr<|(zP)<|zx7<|Zf ?_ ?_<;>intro hc
  ·
   refine zx3<|(zP)<|(zV (xix (kk:=i) Zb h.D.slh))<|zlv (xlr (u:= .int .i64 (p.D i)) pl_3 (h.D.below hS.below)) ?_
   have hbv:=h.iD i
   refine(zP)<|(zP)<|zx5<|(zP)<|(zP)<|zlt<|Zf ?_ ?_<;>intro hc
   ·
    refine zxt<|ztx<|zbh<|ztn<|zrg<|(zV (Zg (r:=i+1)))<|(zP)<|zln<|zlq ⟨nB,vvB,wB,j,i+1,rfl,(by omega),(by omega),(by omega),?_,?_,?_,?_,rfl,hS⟩
    ·
     exact hwB
    ·
     first|exact hnB|rfl
    ·
     first|exact hsp|exact fun _=>⟨by assumption,by omega⟩
    ·
     first
     |(intro hh;omega)
     |(intro hh wi w0 w1 hs;rcases Int.lt_or_eq_of_le (show wi<=i by omega) with h9|h9;exact hno hh wi w0 h9 hs;rw [h9] at hs⊢;first|omega|exact absurd hs ‹¬ZM p b i›|exact absurd (by omega) hs.2.2.2.1)
   refine ZW<|(zV (xls 0 Yn hS))<|(zP)<|zlc (xc0 Zh1) (Zcp (p:=p) (b:=b) (wi:=i) w (h.below hS.below)) ?_;rintro _ w ⟨cW,bP,rfl,yH,hS'⟩
   replace hS:=(hS.comp hS').n5;clear hS'
   have gZ:∀k,0<=k->k<2*(Zl p b i)->Slh (bP k) p.m:=fun k k0 k1=>hS.slhIn 4 rfl k0 k1
   refine zs2 ?_
   have jQ:=yH.n0
   refine(zP)<|(zP)<|(zP)<|zlz<|(zP)<|(zP)<|zlb 29 ?_ ?_<;>intro hc
   ·
    refine(zP)<|(zV (xln Vi yH))<|(zP)<|(zP)<|(zP)<|zlb 34 ?_ ?_<;>intro hc
    ·
     refine(zP)<|(zP)<|(zP)<|zlb 37 ?_ ?_<;>intro hc
     ·
      iterate 5 refine zlo ?_
      refine(zP)<|(zP)<|zlt<|zct<|zrg ?_
      refine zs4 ?_
      refine zx10<|(zV (Zg (r:=i+1)))<|(zP)<|zln<|zlq ⟨(Zl p b i),bP,cW,i,i+1,rfl,(by omega),(by omega),(by omega),?_,?_,?_,?_,rfl,hS.pk [0,3,4]⟩
      ·
       exact yH
      ·
       first|exact hnB|rfl
      ·
       first|exact hsp|exact fun _=>⟨by assumption,by omega⟩
      ·
       first
       |(intro hh;omega)
       |(intro hh wi w0 w1 hs;rcases Int.lt_or_eq_of_le (show wi<=i by omega) with h9|h9;exact hno hh wi w0 h9 hs;rw [h9] at hs⊢;first|omega|exact absurd hs ‹¬ZM p b i›|exact absurd (by omega) hs.2.2.2.1)
     refine(zP)<|(zV (xln Vi yH))<|(zP)<|(zV (xln Vi hwB))<|(zP)<|(zP)<|(zP)<|zlt<|Zf ?_ ?_<;>intro hc
     ·
      refine zrg<|zs4 ?_
      refine zx10<|(zV (Zg (r:=i+1)))<|(zP)<|zln<|zlq ⟨(Zl p b i),bP,cW,i,i+1,rfl,(by omega),(by omega),(by omega),?_,?_,?_,?_,rfl,hS.pk [0,3,4]⟩
      ·
       exact yH
      ·
       first|exact hnB|rfl
      ·
       first|exact hsp|exact fun _=>⟨by assumption,by omega⟩
      ·
       first
       |(intro hh;omega)
       |(intro hh wi w0 w1 hs;rcases Int.lt_or_eq_of_le (show wi<=i by omega) with h9|h9;exact hno hh wi w0 h9 hs;rw [h9] at hs⊢;first|omega|exact absurd hs ‹¬ZM p b i›|exact absurd (by omega) hs.2.2.2.1)
     refine zx4<|(zV (Zg (r:=i+1)))<|(zP)<|zln<|zlq ⟨nB,vvB,wB,j,i+1,rfl,(by omega),(by omega),(by omega),?_,?_,?_,?_,rfl,hS.pk [0,1,2]⟩
     ·
      exact hwB
     ·
      first|exact hnB|rfl
     ·
      first|exact hsp|exact fun _=>⟨by assumption,by omega⟩
     ·
      first
      |(intro hh;omega)
      |(intro hh wi w0 w1 hs;rcases Int.lt_or_eq_of_le (show wi<=i by omega) with h9|h9;exact hno hh wi w0 h9 hs;rw [h9] at hs⊢;first|omega|exact absurd hs ‹¬ZM p b i›|exact absurd (by omega) hs.2.2.2.1)
    iterate 9 refine zlo ?_
    refine(zP)<|zlt<|zcf<|zsk<|zbn<|ztn<|zrg ?_
    refine(zV (Zg (r:=i+1)))<|(zP)<|zln<|zlq ⟨nB,vvB,wB,j,i+1,rfl,(by omega),(by omega),(by omega),?_,?_,?_,?_,rfl,hS.pk [0,1,2]⟩
    ·
     exact hwB
    ·
     first|exact hnB|rfl
    ·
     first|exact hsp|exact fun _=>⟨by assumption,by omega⟩
    ·
     first
     |(intro hh;omega)
     |(intro hh wi w0 w1 hs;rcases Int.lt_or_eq_of_le (show wi<=i by omega) with h9|h9;exact hno hh wi w0 h9 hs;rw [h9] at hs⊢;first|omega|exact absurd hs ‹¬ZM p b i›|exact absurd (by omega) hs.2.2.2.1)
   iterate 3 refine zlo ?_
   refine zs2 ?_
   iterate 9 refine zlo ?_
   refine(zP)<|zlt<|zcf<|zsk<|zbn<|ztn<|zrg ?_
   refine(zV (Zg (r:=i+1)))<|(zP)<|zln<|zlq ⟨nB,vvB,wB,j,i+1,rfl,(by omega),(by omega),(by omega),?_,?_,?_,?_,rfl,hS.pk [0,1,2]⟩
   ·
    exact hwB
   ·
    first|exact hnB|rfl
   ·
    first|exact hsp|exact fun _=>⟨by assumption,by omega⟩
   ·
    first
    |(intro hh;omega)
    |(intro hh wi w0 w1 hs;rcases Int.lt_or_eq_of_le (show wi<=i by omega) with h9|h9;exact hno hh wi w0 h9 hs;rw [h9] at hs⊢;first|omega|exact absurd hs ‹¬ZM p b i›|exact absurd (by omega) hs.2.2.2.1)
  refine zx8<|zs6 ?_
  refine(zP)<|zx1<|zf3 ⟨_,rfl,?_⟩
  subst hnB
  exact⟨_,_,_,rfl,⟨hj,hsp,fun hh wi hs=>hno hh wi hs.2.2.1.1 (by have:=hs.2.2.1.2;have:=hs.1.1.d;omega) hs⟩,hwB,hS.pk [1,2]⟩
end Go.Proofs.YtkichmnjjblodaaGreat
namespace Go.Proofs.YtkichmnjjblodaaGreat
open Go Go.RowKit Go.Proofs.Gw
theorem ZfY{w:World}{pv:Int->Value}{ln cnt:Int->Int}{pt:Int->Int->Int}:VAt w (.slice none 0 0) 0 pv ln pt cnt:=⟨Ur _ _ _,fun i i0 i1=>by omega,fun i i0 i1=>by omega⟩
theorem TQ{p:Prob}{ln cnt:Int->Int}{pt:Int->Int->Int}:(PlanOk p 0 ln pt cnt/\∀j,0<=j->j<p.m->p.D j<=Zu 0 pt cnt j)↔Ro p:=
  ⟨fun h=>⟨h.1.1,fun j j0 j1=>h.2 j j0 j1⟩,fun h=>⟨⟨h.1,by omega,fun k k0 k1=>by omega⟩,fun j j0 j1=>h.2 j j0 j1⟩⟩
theorem Zfh{vL vD:Value}{p:Prob}{b:Int}{s9 n9 nl9 u:Int}{vK vL9 vV:Value}(w0:World)(h:PAt w0 vL vD p)(hk9:Slh vK n9)(hl9:Slh vL9 nl9)(hv9:Slh vV u):
    Calls Tryz.prog 64 [.agg #[vL,vD,.int .i64 p.stock,.int .i64 p.kerf,.int .i64 b],.agg #[.int .i64 s9,vK,vL9],vV].toArray w0 fun e w=>∃v,e= .returned v/\v=B (0<u\/(n9=0/\nl9=0/\Ro p))/\Sat w0 w []:=by
  have hm:=h.L.slh.n0;have hm1:=h.L.slh.n1;have hd:=h.D.slh.n0;have hd1:=h.D.slh.n1;have hs:=h.is;have hk:=h.ik
  have hn9:=hk9.n0;have jV:=hl9.n0;have hu9:=hv9.n0
  refine zenG Tryz.func64 Tryz.ntmps64 fun w hS=> ?_
  refine zsr<|zla (xbx (cs:= [_,_,_,_,_]) hS) ?_;rintro _ w ⟨g1,rfl,hS⟩
  refine zla (xbx (cs:= [_,_,_]) hS) ?_;rintro _ w ⟨g2,rfl,hS⟩
  refine(zP)<|zlz<|(zP)<|(zV (xln ZR hv9))<|(zP)<|(zP)<|zlb 10 ?_ ?_<;>intro hc
  ·
   iterate 15 refine zlo ?_
   refine(zP)<|(zP)<|zx1<|zf1 ⟨_,rfl,?_⟩
   exact⟨Yy (.inl (by omega)),hS.nl⟩
  refine(zV (xfb 1 fd_54_1))<|(zV (xlb 1 XD hS))<|(zV (xln YM hk9))<|(zP)<|(zP)<|zlb 15 ?_ ?_<;>intro hc
  ·
   refine(zV (xfb 2 fd_54_2))<|(zV (xlb 1 pl_22 hS))<|(zV (xln Zb hl9))<|(zP)<|(zP)<|(zP)<|zlb 21 ?_ ?_<;>intro hc
   ·
    refine(zV (xfb 0 fd_34_0))<|(zV (xlp 0 (ds:= [vL,vD,.int .i64 p.stock,.int .i64 p.kerf]) st_32 hS))<|zlc (xc0 ZeM) (Ta (u:=0) (pv:=fun _=>undef) (ln:=fun _=>0) (pt:=fun _ _=>0) (cnt:=fun _=>0) (p:=p) w ZfY (h.below hS.below)) ?_;rintro _ w ⟨rfl,hS'⟩
    replace hS:=hS.cmp hS';clear hS'
    refine(zP)<|(zP)<|(zP)<|zx1<|zf1 ⟨_,rfl,?_⟩
    exact⟨Zn ⟨fun hh=> .inr ⟨by omega,by omega,TQ.1 hh⟩,fun hh=>by rcases hh with hh|⟨g1,g2,g3⟩;omega;exact TQ.2 g3⟩,hS.nl⟩
   iterate 3 refine zlo ?_
   refine(zP)<|(zP)<|(zP)<|zx1<|zf1 ⟨_,rfl,?_⟩
   exact⟨Zj (by rintro(hh|⟨g1,g2,g3⟩)<;>omega),hS.nl⟩
  iterate 4 refine zlo ?_
  refine zs2 ?_
  iterate 3 refine zlo ?_
  refine(zP)<|(zP)<|(zP)<|zx1<|zf1 ⟨_,rfl,?_⟩
  exact⟨Zj (by rintro(hh|⟨g1,g2,g3⟩)<;>omega),hS.nl⟩
end Go.Proofs.YtkichmnjjblodaaGreat
namespace Go.Proofs.YtkichmnjjblodaaGreat
open Go Go.RowKit Go.Proofs.Gw
variable {cnt:Int->Int} {pv:Int->Value}
theorem Zmq(w:World)(a:Addr)(n c:Nat):(binOp .eql 60 (.slice (some a) n c) (.slice none 0 0)).run Tryz.prog w= .ok (.bool false) w:=by kernel_rfl
theorem Zlq(w:World):(binOp .eql 60 (.slice none 0 0) (.slice none 0 0)).run Tryz.prog w= .ok (.bool true) w:=by kernel_rfl
theorem Zmj{L:List (Nat×Value)}{w:World}{o:Oper}{x y:Operand}{T':TypeId}{a:Addr}{n c:Nat}(ho:o.op= .binOp .eql 60 x y T':=by exact rfl)(hx:evL L x=some (.slice (some a) n c):=by exact rfl)(hy:evL L y=some (.slice none 0 0):=by exact rfl):Runs Tryz.prog L w o (.value (.bool false)) w:=fun ρ h=>by
  simp [execOp,ho,h _ _ hx,h _ _ hy,Zmq];rfl
theorem Zk7{L:List (Nat×Value)}{w:World}{o:Oper}{x y:Operand}{T':TypeId}(ho:o.op= .binOp .eql 60 x y T':=by exact rfl)(hx:evL L x=some (.slice none 0 0):=by exact rfl)(hy:evL L y=some (.slice none 0 0):=by exact rfl):Runs Tryz.prog L w o (.value (.bool true)) w:=fun ρ h=>by
  simp [execOp,ho,h _ _ hx,h _ _ hy,Zlq];rfl
theorem ZaS{n k:Int}(h1:∀k,0<=k->k<n->(pv k).oneCell'=true)(k0:0<=k)(k1:k<n*((2:Nat):Int)):(Ze pv cnt k).oneCell'=true:=by
  unfold Ze;split
  · exact h1 _ (by omega) (by omega)
  · rfl
theorem ZkS{g9 m9 c9:Nat}{n:Int}(w0:World)(hR:Row w0 (.slice (some ⟨g9,0,none⟩) m9 c9) 2 n (Ze pv cnt))(h1:∀k,0<=k->k<n->(pv k).oneCell'=true)(hn5:n<=1000000):
    Calls Tryz.prog 66 [(.slice (some ⟨g9,0,none⟩) m9 c9)].toArray w0 fun e w=>∃v,e= .returned v/\∃r,v=r/\Slh r n/\Sat w0 w [.own r 2 107 n (Ze pv cnt)]:=by
  have hn:=hR.slh.n0;have hn1:=hR.slh.n1
  refine zenG Tryz.func66 Tryz.ntmps66 fun w hS=> ?_
  refine zsr<|(zP)<|zx5<|(zP)<|(zV Zmj)<|zlt<|zcf<|zsk<|ztn<|zsr ?_
  refine zla (xl0 (c:=Ze pv cnt) ZR hS) ?_;rintro v1 w ⟨hS,hv1⟩
  refine(zP)<|zla (xap 0 (r:=n) (f:=Ze pv cnt) ZR Yj hS (hR.below hS.below) (by exact Zax _ _) (h1:=(fun k k0 k1=>ZaS h1 k0 k1))) ?_;rintro v2 w ⟨hS,hv2⟩
  refine(zP)<|zx1<|zf1 ⟨_,rfl,?_⟩
  exact⟨_,rfl,hv2,hS⟩
theorem ZkT(w0:World):
    Calls Tryz.prog 66 [.slice none 0 0].toArray w0 fun e w=>∃v,e= .returned v/\∃r,v=r/\Slh r 0/\Sat w0 w [.own r 2 107 0 (Ze pv cnt)]:=by
  refine zenG Tryz.func66 Tryz.ntmps66 fun w hS=> ?_
  refine zsr<|(zP)<|zx5<|(zP)<|(zV Zk7)<|zlt<|zct<|zsr ?_
  refine(zP)<|zx14<|zf1 ⟨_,rfl,?_⟩
  exact⟨_,rfl,slh_nil,(hS.sub .slnil).addnil 2 107 (Ze pv cnt)⟩
theorem Zl6{x:Value}{n:Int}(w0:World)(ho:(Ent.own x 2 107 n (Ze pv cnt)).holds w0)(h1:∀k,0<=k->k<n->(pv k).oneCell'=true)(hn:n<=1000000):Calls Tryz.prog 66 [x].toArray w0 fun e w=>∃v,e= .returned v/\∃r,v=r/\Slh r n/\Sat w0 w [.own r 2 107 n (Ze pv cnt)]:=by
  have qs:=ho.row
  obtain⟨hn0,hn1,⟨rfl,rfl⟩|⟨g,cap,cur,rfl,_⟩⟩:=ho
  · exact ZkT w0
  · exact ZkS w0 qs h1 hn
end Go.Proofs.YtkichmnjjblodaaGreat
namespace Go.Proofs.YtkichmnjjblodaaGreat
open Go Go.RowKit Go.Proofs.Gw
theorem ZhW:Zc Tryz.prog 60=true:=by kernel_rfl
theorem ZlG:Zc Tryz.prog 61=true:=by kernel_rfl
theorem ZlF:Zc Tryz.prog 62=true:=by kernel_rfl
theorem ZlE:Zc Tryz.prog 63=true:=by kernel_rfl
theorem ZhV:Zc Tryz.prog 64=true:=by kernel_rfl
theorem ZlD:Zc Tryz.prog 66=true:=by kernel_rfl
theorem Za1:ZI Tryz.prog 115=true:=by kernel_rfl
theorem Zkj (N:Nat):∀{F:Gw.Frame} {vL vD:Value} {p:Prob} {b lf:Int} {gl gs:Nat} (w0 w:World) (hS:Sat w0 w [.blk gl [.int .i64 lf],.blk gs [.func (.func 60) #[] #[.pointer (some ⟨gl,0,none⟩),.pointer (some ⟨gs,0,none⟩)]],.sem F]) (hP:∀w1,Below w0.heap.size w0 w1->F.holds w1->PAt w1 vL vD p) (hpo:ZY p b) (hlf:0<=lf/\lf<=20000) (hN:b.toNat<N),
    Calls Tryz.prog 60 [.agg #[vL,vD,.int .i64 p.stock,.int .i64 p.kerf,.int .i64 b],.pointer (some ⟨gl,0,none⟩),.pointer (some ⟨gs,0,none⟩)].toArray w fun e w=>∃v,e= .returned v/\∃t u pv ln pt cnt ok c vV,v= .tuple #[.agg #[.int .i64 (Tr.s t),t.vK,t.vL],vV,B ok]/\Wt p b c t u ln pt cnt ok (lf-c)/\(-1<=lf-c/\(ok->0<=lf-c))/\Slh t.vK t.n/\Slh t.vL t.nl/\Slh vV u/\Sat w0 w [.blk gl [.int .i64 (lf-c)],.blk gs [.func (.func 60) #[] #[.pointer (some ⟨gl,0,none⟩),.pointer (some ⟨gs,0,none⟩)]],.sem (t.fr2 54 3),.own vV 2 107 u (Ze pv cnt),.sem (Frame.rows 3 u pv ln pt),.sem F]:=by
  induction N with
  |zero=>intros;omega
  | succ N ih=>
    intro F vL vD p b lf gl gs w0 w hS hP hpo hlf hN
    have h:=hP w hS.below (hS.holds _ (List.mem_of_getElem? (i:=2) rfl))
    have hm:=h.L.slh.n0;have hm1:=h.L.slh.n1;have hd:=h.D.slh.n0;have hd1:=h.D.slh.n1;have hs:=h.is;have hk:=h.ik
    refine zenF Tryz.func60 Tryz.ntmps60 ?_
    refine zsr<|zla (xbx (cs:= [_,_,_,_,_]) hS) ?_;rintro _ w ⟨g1,rfl,hS⟩
    refine zla (xal (cs:= [_,_,_]) Wo hS) ?_;rintro _ w ⟨g2,rfl,hS⟩
    refine(zP)<|(zP)<|zx5<|(zV (xlb 0 pl_3 hS))<|(zV (Zp (r:=lf-1)))<|zle (xsb 0 pl_3 hS) ?_;clear hS;rintro w hS
    refine zlz<|(zV (xlb 0 pl_3 hS))<|(zP)<|zlt<|Zf ?_ ?_<;>intro hc
    ·
     refine zsr<|(zV (xany (v:= .agg #[.int .i64 0,.slice none 0 0,.slice none 0 0])))<|zle (xsw 4 st_54 hS) ?_;clear hS;rintro w hS
     refine(zP)<|(zP)<|zx14<|Xy 4 st_54 hS ⟨_,rfl,?_⟩
     replace hS:=hS.pk [0,1,2]
     replace hS:=hS.tree0 54 3
     replace hS:=(hS.addnil 2 107 (Ze (fun _=>Value.slice none 0 0) (fun _=>0))).addrows 3 (fun _=>Value.slice none 0 0) (fun _=>0) (fun _ _=>0)
     exact⟨.nil,0,_,_,_,_,False,1,(.slice none 0 0),(by rw [Zz not_false];rfl),(Zga hpo.1 (by omega)),⟨by omega,fun hh=>hh.elim⟩,slh_nil,slh_nil,slh_nil,hS.pk [0,1,3,4,5,2]⟩
    refine Xm<|(zV (xls 3 Yn hS))<|zlc (xc0 ZlG) (Zkp (p:=p) (b:=b) w (hP _ hS.below (hS.holds _ (List.mem_of_getElem? (i:=2) rfl))) hpo) ?_;rintro _ w ⟨cT,dh,gK,gS,jr,jA,br,rfl,aK,bT,hS'⟩
    replace hS:=(hS.comp hS').n7;clear hS'
    have fg:=fun k (k0:0<=k) (k1:k<dh)=>hS.slhIn 6 rfl k0 k1
    refine zs5 ?_
    refine zlz<|(zP)<|zlt<|Zf ?_ ?_<;>intro hc
    ·
     refine zsr<|(zV (xany (v:= .agg #[.int .i64 0,.slice none 0 0,.slice none 0 0])))<|(zP)<|zle (xsw 4 st_54 hS) ?_;clear hS;rintro w hS
     refine(zP)<|(zP)<|zx14<|Xy 4 st_54 hS ⟨_,rfl,?_⟩
     replace hS:=hS.pk [0,1,5,6,2]
     replace hS:=hS.tree0 54 3
     exact⟨.nil,_,_,_,_,_,True,1,cT,(by rw [ZQ trivial];rfl),(Zgc hpo.1 aK ‹br›),⟨by omega,fun _=>by omega⟩,slh_nil,slh_nil,bT,hS.pk [0,1,5,2,3,4]⟩
    refine Xm<|(zV (xls 3 Yn hS))<|zlc (xc0 ZlF) (ZlT (p:=p) (b:=b) w (hP _ hS.below (hS.holds _ (List.mem_of_getElem? (i:=2) rfl))) hpo) ?_;rintro _ w ⟨xi,di,eH,bq,rfl,aI,x4,hS'⟩
    replace hS:=(hS.comp hS').n8;clear hS'
    refine zs5 ?_
    refine zlz<|(zP)<|zlt<|Zf ?_ ?_<;>intro hc
    ·
     refine zsr<|(zP)<|zlv (xany (v:= .agg #[.int .i64 0,.slice none 0 0,xi]) (hr:=by obtain⟨_,_,_,_,rfl,_⟩:=x4;kernel_rfl)) ?_
     refine zle (xsw 4 st_54 hS (hd:=(Za rfl (Za rfl (Za x4.one Zh))))) ?_;clear hS;rintro w hS
     refine(zP)<|(zP)<|zx14<|Xy 4 st_54 hS ⟨_,rfl,?_⟩
     replace hS:=hS.pk [0,1,2,7]
     replace hS:=(hS.addnil 3 54 (Yu (fun _=> .nil))).addall (fun z9=>((fun _=>Tr.nil) z9).fr2 54 3)
     replace hS:=hS.pk [0,1,2,4,3,5]
     replace hS:=Sat.tree2 (l:= [_,_,_]) hS 0
     replace hS:=(hS.addnil 2 107 (Ze (fun _=>Value.slice none 0 0) (fun _=>0))).addrows 3 (fun _=>Value.slice none 0 0) (fun _=>0) (fun _ _=>0)
     exact⟨(.mk 0 (.slice none 0 0) 0 (fun _=> .nil) xi di eH),0,_,_,_,_,True,1,(.slice none 0 0),(by rw [ZQ trivial];rfl),(ZdJ hpo.1 aI ‹bq›),⟨by omega,fun _=>by omega⟩,slh_nil,x4,slh_nil,hS.pk [0,1,3,4,5,2]⟩
    refine ZW<|(zV (xls 3 Yn hS))<|zlc (xc0 ZlE) (Zko (p:=p) (b:=b) w (hP _ hS.below (hS.holds _ (List.mem_of_getElem? (i:=2) rfl)))) ?_;rintro _ w ⟨qv,zj,qR,rfl,zc,yW,hS'⟩
    replace hS:=(hS.comp hS').n10;clear hS'
    have yt:∀k,0<=k->k<2*(Zl p b qv)->Slh (qR k) p.m:=fun k k0 k1=>hS.slhIn 9 rfl k0 k1
    refine zs6 ?_
    refine(zP)<|zx5<|(zP)<|(zP)<|zlt<|Zf ?_ ?_<;>intro hc
    ·
     refine zsr<|(zV (xany (v:= .agg #[.int .i64 0,.slice none 0 0,.slice none 0 0])))<|zle (xsw 4 st_54 hS) ?_;clear hS;rintro w hS
     refine(zP)<|(zP)<|zx14<|Xy 4 st_54 hS ⟨_,rfl,?_⟩
     replace hS:=hS.pk [0,1,2]
     replace hS:=hS.tree0 54 3
     replace hS:=(hS.addnil 2 107 (Ze (fun _=>Value.slice none 0 0) (fun _=>0))).addrows 3 (fun _=>Value.slice none 0 0) (fun _=>0) (fun _ _=>0)
     exact⟨.nil,0,_,_,_,_,False,1,(.slice none 0 0),(by rw [Zz not_false];rfl),(KC hpo aK ‹¬br› aI ‹¬bq› (zc.2.2 (by omega))),⟨by omega,fun hh=>hh.elim⟩,slh_nil,slh_nil,slh_nil,hS.pk [0,1,3,4,5,2]⟩
    refine ZW<|(zP)<|(zV (xany (v:= .agg #[.int .i64 qv,.slice none 0 0,.slice none 0 0])))<|zla (xal (cs:= [_,_,_]) Wo hS) ?_;rintro _ w ⟨g3,rfl,hS⟩
    refine zle (xsw 10 st_54 hS) ?_;clear hS;rintro w hS
    refine zx5<|(zP)<|(zV (xln Vi yW))<|(zP)<|zx6 ?_
    have hsp:ZM p b qv:=(zc.2.1 (by omega)).1
    have hle:=(zc.2.1 (by omega)).2
    have jR:=yW.n0
    have j9:=hsp.2.1;have kc:=hpo.2.1;have kb:=hpo.2.2;have jT:=hpo.1.d;have jS:=hpo.1.m2
    replace hS:=hS.addnil 3 54 (Yu (fun _=> .nil))
    replace hS:=hS.addall (fun z9=>((fun _=>Tr.nil) z9).fr2 54 3)
    refine zlp (fun mm M w=>∃(C:Int) (kd:Int->Tr) (wK:Value) (i:Int),mm=((Zl p b qv-i).toNat)/\(0<=i)/\(i<=Zl p b qv)/\(Slh wK i)/\(Upto p b qv i C kd)/\(0<=lf-C)/\M= [(2,.pointer (some ⟨gs,0,none⟩)),(3,.pointer (some ⟨g1,0,none⟩)),(4,.pointer (some ⟨g2,0,none⟩)),(14,.pointer (some ⟨g3,0,none⟩)),(55,zj),(56,.int .i64 (Zl p b qv)),(57,.int .i64 i)]/\Sat w0 w [.blk gl [.int .i64 (lf-C)],.blk gs [.func (.func 60) #[] #[.pointer (some ⟨gl,0,none⟩),.pointer (some ⟨gs,0,none⟩)]],.sem F,.blk g1 [vL,vD,.int .i64 p.stock,.int .i64 p.kerf,.int .i64 b],.blk g2 [.int .i64 0,.slice none 0 0,.slice none 0 0],.blk g3 [.int .i64 qv,wK,.slice none 0 0],.own wK 3 54 i (Yu kd),.sem (Frame.all i (fun z9=>(kd z9).fr2 54 3)),.own zj 5 34 (Zl p b qv) (ZS qR p.stock p.kerf (b-1)),.sem (Frame.rows 3 (2*(Zl p b qv)) qR (fun _=>p.m) (gfn p (MX p qv)))]) ⟨1,(fun _=>Tr.nil),(.slice none 0 0),0,rfl,(by omega),(by omega),?_,?_,?_,rfl,hS.pk [0,1,2,3,4,10,11,12,8,9]⟩ ?_
    ·
     exact slh_nil
    ·
     exact Upto.start hpo.1 _
    ·
     omega
    clear hS w
    rintro mm M w ⟨C,kd,wK,i,rfl,h0,h1,hwK,hup,hlC,rfl,hS⟩
    have hc1:=hup.one
    refine zsr<|(zP)<|zx7<|Zf ?_ ?_<;>intro hc
    ·
     refine zx3<|(zV (xix (kk:=5*i) Vi yW))<|(zV (xlw (cs:= [(qR (2*i)),(qR (2*i+1)),.int .i64 p.stock,.int .i64 p.kerf,.int .i64 (b-1)]) Yn (hS.rowN 8 rfl) (T3 (q:=5*i) (i:=i) qR p.stock p.kerf (b-1) (by omega))))<|zla (xal (cs:= [_,_,_,_,_]) Zcd hS) ?_;rintro _ w ⟨g4,rfl,hS⟩
     refine zle (xsw 10 Yn hS (hd:=(Za (yt (2*i) (by omega) (by omega)).one (Za (yt (2*i+1) (by omega) (by omega)).one (Za rfl (Za rfl (Za rfl Zh))))))) ?_;clear hS;rintro w hS
     refine zlz<|(zV (xlb 1 Za1 hS))<|(zV (xls 10 Yn hS))<|zlc (xcc (vs:= [_]) ZhW) (ih (p:=(ZT p qv i)) (b:=(b-1)) (lf:=(lf-C)) w0 w (Sat.bundle (l1:= [_,_]) (hS.pk [0,1,2,3,4,5,6,7,8,9,10])) (fun w1 hb hF=>RM (vv:=qR) hsp (hP w1 hb (Zcv hF 0 rfl)) (VI hF 7 rfl (k:=2*i) (by omega) (by omega)) (VI hF 7 rfl (k:=2*i+1) (by omega) (by omega)) h0 (by omega)) (ZcV hsp h0 (by omega)) ⟨by omega,by omega⟩ (by omega)) ?_;rintro _ w ⟨tz1,uz1,zX,ba,aZ,zz,qO,cz1,aY,rfl,xd,zw,yy,yx,xm,hS⟩
     replace hS:=Sat.unbundle (l1:= [_,_,_,_,_]) (l3:= []) hS
     rw [show lf-C-cz1=lf-(C+cz1) by omega] at hS xd zw
     replace hS:=hS.pk [0,1,3,4,5,6,7,8,9,10,11,12,13,2]
     have fc:=fun j (j0:0<=j) (j1:j<uz1)=>hS.slhIn 3 rfl j0 j1
     have dB:=ZhL xd;have dC:=xm.n0
     refine zs4 ?_
     refine zla (xal (cs:= [_,_,_]) Wo hS) ?_;rintro _ w ⟨g5,rfl,hS⟩
     refine zle (xsw 14 st_54 hS (hd:=(Za rfl (Za yy.one (Za yx.one Zh))))) ?_;clear hS;rintro w hS
     refine(zP)<|(zP)<|zx5<|(zP)<|(zP)<|zlt<|Zf ?_ ?_<;>intro hc
     ·
      refine zsr<|(zV (xany (v:= .agg #[.int .i64 0,.slice none 0 0,.slice none 0 0])))<|zle (xsw 6 st_54 hS) ?_;clear hS;rintro w hS
      refine(zP)<|(zP)<|zlt<|zrt<|ztr<|zbr<|ztr<|ztr<|zbr<|ztr<|Xy 6 st_54 hS ⟨_,rfl,?_⟩
      replace hS:=hS.pk [0,1,4]
      replace hS:=hS.tree0 54 3
      replace hS:=(hS.addnil 2 107 (Ze (fun _=>Value.slice none 0 0) (fun _=>0))).addrows 3 (fun _=>Value.slice none 0 0) (fun _=>0) (fun _ _=>0)
      exact⟨.nil,0,_,_,_,_,False,C+cz1,(.slice none 0 0),(by rw [Zz not_false];rfl),(Zf8 hup hsp h0 (by omega) xd ‹¬qO›),⟨by omega,fun hh=>hh.elim⟩,slh_nil,slh_nil,slh_nil,hS.pk [0,1,3,4,5,2]⟩
     refine Xm<|(zV (xls 12 Yn hS))<|(zV (xls 14 st_54 hS))<|(zP)<|zlc (xc0 ZhV) (Zfh (p:=(ZT p qv i)) (b:=(b-1)) (u:=uz1) (n9:=tz1.n) (nl9:=tz1.nl) (s9:=tz1.s) w (RM (vv:=qR) hsp h (show Row _ _ 1 p.m _ from(hS.rowIn (k:=2*i) 11 rfl (by omega) (by omega))) (show Row _ _ 1 p.m _ from(hS.rowIn (k:=2*i+1) 11 rfl (by omega) (by omega))) (by omega) (by omega)) yy yx xm) ?_;rintro _ w ⟨rfl,hS'⟩
     replace hS:=hS.cmp hS';clear hS'
     refine zlt<|Zf ?_ ?_<;>intro hc
     ·
      refine zsr<|(zV (xfb 0 fd_34_0))<|(zV (xfb 1 fd_32_1))<|(zV (xlb 5 pl_22 hS))<|zlc (xc0 cl_65) (c_clone (n:=p.d) (f:=p.D) w (hP _ hS.below (hS.holds _ (List.mem_of_getElem? (i:=4) rfl))).D (by omega)) ?_;rintro vq1 w ⟨_,rfl,qa,hS'⟩
      replace hS:=(hS.comp hS').n16;clear hS'
      refine(zP)<|zx5<|(zV (xfb 0 fd_34_0))<|(zV (xfb 1 fd_32_1))<|(zV (xlb 12 pl_22 hS))<|(zV (xln Zb (yt (2*i+1) (by omega) (by omega))))<|(zP)<|zx6<|zlp (fun mm M w=>∃(fd:Int->Int) (n:Int),mm=((p.m-n).toNat)/\(0<=n)/\(n<=p.m)/\(∀k,0<=k->k<p.m->fd k=if k<n then Yr (MX p qv) i k else p.D k)/\M= [(2,.pointer (some ⟨gs,0,none⟩)),(3,.pointer (some ⟨g1,0,none⟩)),(4,.pointer (some ⟨g2,0,none⟩)),(14,.pointer (some ⟨g3,0,none⟩)),(17,.pointer (some ⟨g5,0,none⟩)),(18,aY),(20,vq1),(55,zj),(56,.int .i64 (Zl p b qv)),(57,.int .i64 i),(81,(qR (2*i+1))),(82,.int .i64 p.m),(83,.int .i64 n)]/\Sat w0 w [.blk gl [.int .i64 (lf-(C+cz1))],.blk gs [.func (.func 60) #[] #[.pointer (some ⟨gl,0,none⟩),.pointer (some ⟨gs,0,none⟩)]],.own aY 2 107 uz1 (Ze zX zz),.sem (Frame.rows 3 uz1 zX ba aZ),.sem F,.blk g1 [vL,vD,.int .i64 p.stock,.int .i64 p.kerf,.int .i64 b],.blk g2 [.int .i64 0,.slice none 0 0,.slice none 0 0],.blk g3 [.int .i64 qv,wK,.slice none 0 0],.own wK 3 54 i (Yu kd),.sem (Frame.all i (fun z9=>(kd z9).fr2 54 3)),.own zj 5 34 (Zl p b qv) (ZS qR p.stock p.kerf (b-1)),.sem (Frame.rows 3 (2*(Zl p b qv)) qR (fun _=>p.m) (gfn p (MX p qv))),.blk g4 [(qR (2*i)),(qR (2*i+1)),.int .i64 p.stock,.int .i64 p.kerf,.int .i64 (b-1)],.sem (tz1.fr2 54 3),.blk g5 [.int .i64 tz1.s,tz1.vK,tz1.vL],.own vq1 1 3 p.d (ints fd)]) ⟨p.D,0,rfl,(by omega),(by omega),?_,rfl,hS⟩ ?_
      ·
       intro k k0 k1;rw [if_neg (by omega)]
      clear hS w
      rintro mm M w ⟨fd,n,rfl,n0,n1,hfd,rfl,hS⟩
      refine zsr<|(zP)<|zx7<|Zf ?_ ?_<;>intro hc
      ·
       refine zx3<|(zP)<|(zV (xix (kk:=n) Zb (yt (2*i+1) (by omega) (by omega))))<|(zV (xlr (u:= .int .i64 ((gfn p (MX p qv)) (2*i+1) n)) pl_3 (show Row _ _ 1 p.m _ from(hS.rowIn (k:=2*i+1) 11 rfl (by omega) (by omega)))))<|(zP)<|(zP)<|zlt<|zrg<|(zP)<|(zP)<|(zV (xix (kk:=n) Zb qa))<|zlv (xlr (u:= .int .i64 (fd n)) pl_3 (hS.rowN 15 rfl)) ?_
       have hfi:=hfd n n0 (by omega)
       rw [if_neg (by omega)] at hfi
       have hgf:gfn p (MX p qv) (2*i+1) n=p.D n-Yr (MX p qv) i n:=congrFun (Zir p _ (i:=i) rfl) n
       have hr9:=(Vs hsp h0 (show i<Zl p b qv by omega)).1.rng n n0 (by omega)
       have he9:=hpo.1.all n n0 (by omega);unfold Prob.each at he9
       refine(zP)<|(zV (Zp (r:=fd n-((gfn p (MX p qv)) (2*i+1) n))))<|(zV (xix (kk:=n) Zb qa))<|zle (xso 15 pl_3 hS (Zx _ _ _)) ?_;clear hS;rintro w hS
       refine zx10<|(zV (Zg (r:=n+1)))<|(zP)<|zln<|zlq ⟨(upd fd n (fd n-((gfn p (MX p qv)) (2*i+1) n))),n+1,rfl,(by omega),(by omega),?_,rfl,hS⟩
       ·
        intro k k0 k1;unfold Gw.upd;by_cases e:k=n
        · rw [if_pos e,if_pos (by omega),e];omega
        · rw [if_neg e,hfd k k0 k1];by_cases e2:k<n
          · rw [if_pos e2,if_pos (by omega)]
          · rw [if_neg e2,if_neg (by omega)]
      refine zx8<|(zV (xany (v:= .agg #[.int .i64 0,.slice none 0 0,.slice none 0 0])))<|(zP)<|zlc (xc0 ZlD) (Zl6 w (hS.holds _ (List.mem_of_getElem? (i:=2) rfl)) (fun k k0 k1=>(hS.slhIn 3 rfl k0 k1).one) (by omega)) ?_;rintro gA w ⟨_,rfl,eX,hS'⟩
      replace hS:=(hS.comp hS').n17;clear hS'
      refine(zP)<|zlv (xany (v:= .agg #[vq1,.int .i64 1]) (hr:=by obtain⟨_,_,_,_,rfl,_⟩:=qa;kernel_rfl)) ?_
      refine zla (xli (n:=1) (len:=1) (pv:= [(0,.agg #[vq1,.int .i64 1])]) (cs:= [vq1,.int .i64 1]) (c:=Ze (fun _=>vq1) (fun _=>1)) ZR Yj hS (hf:=by obtain⟨_,_,_,_,rfl,_⟩:=qa;kernel_rfl)) ?_;rintro v1 w ⟨hS,hv1⟩
      refine zla (xap 16 (r:=uz1+1) ZR Yj hS (hS.rowN 17 rfl) (YZ _ _ _ _ _) (h1:=fun k _ _=>YU (fun _=>qa.one) k)) ?_;rintro v2 w ⟨hS,hv2⟩
      replace hS:=Sat.merge (l1:= [_,_,_]) (l2:= [_,_,_,_,_,_,_,_,_,_,_]) (l3:= [_,_]) hS (by omega)
      have xf:=fun k (k0:0<=k) (k1:k<uz1+1)=>hS.slhIn 3 rfl k0 k1
      refine zle (xsw 6 st_54 hS) ?_;clear hS;rintro w hS
      refine(zP)<|(zP)<|zlt<|zrt<|ztr<|zbr<|ztr<|ztr<|zbr<|ztr<|Xy 6 st_54 hS ⟨_,rfl,?_⟩
      have hq9:=zw.2 (by first|assumption|exact Classical.not_not.1 ‹_›)
      replace hS:=hS.pk [0,1,15,3,4]
      replace hS:=hS.tree0 54 3
      exact⟨.nil,_,_,_,_,_,True,C+cz1,v2,(by rw [ZQ trivial];rfl),(ZdI hup hsp h0 (by omega) xd (by first|assumption|exact Classical.not_not.1 ‹_›) (by assumption) xm.n0 hpo.1.d (fun j j0 j1=>by rw [hfd j j0 j1,if_pos (by omega)])).1,⟨by omega,fun _=>by omega⟩,slh_nil,slh_nil,hv2,hS.pk [0,1,5,2,3,4]⟩
     refine zsk<|ztn<|zrg<|(zV (xfb 1 fd_54_1))<|(zV (xlb 7 XD hS))<|(zV (xls 14 st_54 hS))<|zla (xli (n:=1) (len:=1) (pv:= [(0,.agg #[.int .i64 tz1.s,tz1.vK,tz1.vL])]) (cs:= [.int .i64 tz1.s,tz1.vK,tz1.vL]) (c:=XK (fun _=>tz1.s) (fun _=>tz1.vK) (fun _=>tz1.vL)) YM Wo hS (hf:=by have hz:=yy;revert hz;generalize tz1.vK=z;rintro⟨_,_,_,_,rfl,_⟩;show _=_;have hz:=yx;revert hz;generalize tz1.vL=z;rintro⟨_,_,_,_,rfl,_⟩;show _=_;kernel_rfl)) ?_;rintro v1 w ⟨hS,hv1⟩
     refine zla (xap 8 (r:=i+1) YM Wo hS (hS.rowN 15 rfl) (Zbs _ _ _) (h1:=fun k _ _=>ZaV (fun _=>yy.one) (fun _=>yx.one) k)) ?_;rintro v2 w ⟨hS,hv2⟩
     replace hS:=Sat.allsnoc (l1:= [_,_,_,_,_,_,_,_,_]) (l2:= [_,_,_]) (l3:= [_,_]) hS (by omega) (H:=fun z9=>(gsn kd i tz1 z9).fr2 54 3) (fun k k0 k1=>by(try dsimp only);rw [Zv k1]) (by(try dsimp only);rw [YP])
     refine(zV (xfb 1 fd_54_1))<|zle (xsb 7 XD hS (hv:=hv2.one)) ?_;clear hS;rintro w hS
     refine zx10<|(zV (Zg (r:=i+1)))<|(zP)<|zln<|zlq ⟨C+cz1,(gsn kd i tz1),v2,i+1,rfl,(by omega),(by omega),?_,?_,?_,rfl,hS.pk [0,1,4,5,6,7,8,9,10,11]⟩
     ·
      exact hv2
     ·
      exact hup.next hsp h0 (by omega) xd (by first|assumption|exact Classical.not_not.1 ‹_›) (by assumption)
     ·
      have h9:=zw.2 (by first|assumption|exact Classical.not_not.1 ‹_›);omega
    refine zx8<|(zV (xls 5 st_54 hS))<|zle (xsw 4 st_54 hS (hd:=(Za rfl (Za hwK.one (Za rfl Zh))))) ?_;clear hS;rintro w hS
    refine(zP)<|(zP)<|zx1<|Xy 4 st_54 hS ⟨_,rfl,?_⟩
    obtain rfl:i=Zl p b qv:=by omega
    replace hS:=hS.pk [0,1,2,6,7]
    replace hS:=hS.addnil 1 3 (ints (fun _=>0))
    replace hS:=hS.pk [0,1,2,3,5,4]
    replace hS:=Sat.tree2 (l:= [_,_,_]) hS qv
    replace hS:=(hS.addnil 2 107 (Ze (fun _=>Value.slice none 0 0) (fun _=>0))).addrows 3 (fun _=>Value.slice none 0 0) (fun _=>0) (fun _ _=>0)
    exact⟨(.mk qv wK (Zl p b qv) kd (.slice none 0 0) 0 (fun _=>0)),0,_,_,_,_,True,C,(.slice none 0 0),(by rw [ZQ trivial];rfl),((ZdH hup hsp hle).resolve_right (fun hh=>hh fun k=>⟨by show _<=(0:Int);omega,by show(0:Int)<=_;omega⟩)),⟨by omega,fun _=>by omega⟩,hwK,slh_nil,slh_nil,hS.pk [0,1,3,4,5,2]⟩
end Go.Proofs.YtkichmnjjblodaaGreat
