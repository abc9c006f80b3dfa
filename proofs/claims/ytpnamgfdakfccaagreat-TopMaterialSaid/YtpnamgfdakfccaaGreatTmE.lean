import Derived.Test.YtpnamgfdakfccaaGreatTmD
set_option linter.unusedVariables false
set_option linter.unusedSimpArgs false
set_option maxRecDepth 20000
set_option maxHeartbeats 4000000
namespace Go.Proofs.YtpnamgfdakfccaaGreat
open Go Go.RowKit Go.Proofs.Gw
theorem ZhK:Zd Om 15=true:=Oc
theorem Znj:Zd Om 151=true:=Oc
theorem ZmW:Zd Om 225=true:=Oc
theorem ZkT:ZN Om 29=some (Oh,1,24):=Oc
theorem ZhW{vV:Value}{u:Int}{pv:Int->Value}{ln:Of}{pt:Og}{cnt:Of}{vL vD:Value}{p:Prob}(w0:World)(hV:VAt w0 vV u pv ln pt cnt)(h:PAt w0 vL vD p):
   Calls Om 78 [.agg #[vL,vD,.int Oi p.stock,.int Oi p.kerf],vV].toArray w0 fun e w=>∃v,e= .returned v/\∃r n2 pv2 ln2 pt2 qf e,v= .tuple #[r,.int Oi e]/\TrimR p u ln pt cnt (plL n2 ln2 pt2 qf) e/\(∀k,0<=k->k<n2->1<=qf k/\qf k<=1000000000)/\n2<=1000000/\Slh r n2/\Sat w0 w [.own r 2 97 n2 (Ze pv2 qf),.sem (Frame.rows 3 n2 pv2 ln2 pt2)]:=by
 obtain⟨hm,hm1,hd,hd1,hs,hk⟩:=h.Oq
 have hu:=hV.row.slh.n0;have hu1:=hV.row.slh.n1
 refine ZjE Tryz.func78 Tryz.ntmps78 fun w hS=> ?_
 refine hsq<|hrz ?_
 refine zla (xbx (cs:= [_,_,_,_]) hS) ?_;rintro _ w ⟨g1,rfl,hS⟩
 refine(On)<|zln<|zh<|htn<|hsq<|hrz ?_
 refine(zV (xls 0 st_27 hS))<|(zP)<|zlc (xc0 Zev) (Tp (u:=u) (pv:=pv) (ln:=ln) (pt:=pt) (cnt:=cnt) (p:=p) w (hV.below hS.below) (h.below hS.below)) ?_;rintro _ w ⟨qD,ql,qe,zg,rfl,qY,qB,hS'⟩
 replace hS:=(hS.comp hS').n2;clear hS'
 refine(Oo)<|zla (xal (cs:= [_]) Yl hS) ?_;rintro _ w ⟨g2,rfl,hS⟩
 refine zle (xsb 2 pl_22 hS (hv:=qB.one)) ?_;clear hS;rintro w hS
 refine(zP)<|zln<|zh<|htn<|hsq<|hsq<|hrz ?_
 refine(On)<|zln<|zh<|htn ?_
 refine Y0 ?_ ?_<;>intro hc
 ·
  refine hsq<|hrz ?_
  refine(Oo)<|zln<|zh<|htn<|hrt<|ztr<|ZlH<|zf2 ⟨_,rfl,?_⟩
  have hmd:¬PlanOk p u ln pt cnt/\zg=1:=by rcases qY with⟨g1,_,g3⟩|⟨_,_,_,g4⟩;exact⟨g1,g3⟩;omega
  exact⟨_,0,fun _=>undef,fun _=>0,fun _ _=>0,fun _=>0,_,rfl,.inl ⟨hmd.1,rfl,Oa⟩,fun k k0 k1=>Oa,Oa,slh_nil,((hS.sub (.cons _ (.cons _ (.cons _ .slnil)))).addnil 2 97 (Ze (fun _=>undef) (fun _=>0))).addrows 3 (fun _=>undef) (fun _=>0) (fun _ _=>0)⟩
 refine hsk<|htn<|hsq<|hsq<|hrz ?_
 refine zlv (xls 0 st_27 hS) ?_
 obtain⟨qN,bN,zG⟩:PlanOk p u ln pt cnt/\ql=p.m/\qe=ZH u pt cnt:=by rcases qY with⟨_,_,g3⟩|⟨g1,g2,g3,_⟩;omega;exact⟨g1,g2,g3⟩
 have aZ:=qN.1.m1;have xb:=qN.1.m2;have hpd:=qN.1.d;have hu3:=qN.2.1
 refine(zP)<|zlc (xc0 ZhK) (Rk (u:=u) (pv:=pv) (ln:=ln) (pt:=pt) (cnt:=cnt) (p:=p) w (hV.below hS.below) (h.below hS.below)) ?_;rintro _ w ⟨rfl,hS'⟩
 replace hS:=hS.cmp hS';clear hS'
 refine(zP)<|zln<|zh<|htn ?_
 refine Y0 ?_ ?_<;>intro hc
 ·
  refine hsq<|hrz ?_
  refine(On)<|zln<|zh<|htn<|hrt<|ztr<|ZlH<|zf2 ⟨_,rfl,?_⟩
  exact⟨_,0,fun _=>undef,fun _=>0,fun _ _=>0,fun _=>0,_,rfl,.inr (.inl ⟨qN,fun hh=>‹¬(_/\_)› ⟨qN,hh⟩,rfl,rfl⟩),fun k k0 k1=>Oa,Oa,slh_nil,((hS.sub (.cons _ (.cons _ (.cons _ .slnil)))).addnil 2 97 (Ze (fun _=>undef) (fun _=>0))).addrows 3 (fun _=>undef) (fun _=>0) (fun _ _=>0)⟩
 refine hsk<|htn<|hsq<|hsq<|hrz ?_
 refine zlv (xlb 2 pl_22 hS) ?_
 have cB:∀j,0<=j->j<p.m->p.D j<=ZH u pt cnt j:=(Od ‹¬¬(_/\_)›).2
 refine(zV (xln Zb qB))<|(zP)<|zln<|zh<|htn<|hbk<|hlp (fun mm M w=>∃(fM:Of) (i:Int),mm=((ql-i).toNat)/\(0<=i)/\(i<=ql)/\(∀k,0<=k->k<p.m->fM k=if k<i then ZH u pt cnt k-p.D k else ZH u pt cnt k)/\M= [(1,vV),(2,Or g1),(4,Oh),(5,.int Oi 0),(6,Or g2),(27,.int Oi ql),(28,.int Oi i)]/\Sat w0 w [.blk g1 [vL,vD,.int Oi p.stock,.int Oi p.kerf],.own qD 1 3 ql (ints fM),.blk g2 [qD]]) ⟨qe,0,rfl,Oa,Oa,?_,rfl,hS⟩ ?_
 ·
  intro k k0 k1;rw [if_neg Oa,zG]
 clear hS w
 rintro mm M w ⟨fM,i,rfl,h0,h1,hf,rfl,hS⟩
 refine hsq<|hrz ?_
 refine(zP)<|zln<|zh<|htn<|hsq ?_
 refine Y0 ?_ ?_<;>intro hc
 ·
  refine hsk<|htn<|hsq<|hbk<|hsq<|hrz ?_
  refine zlv xmv ?_
  have hmi:=We qN.2.2 hu (Int.le_refl _) (j:=i) h0 Oa
  have hdi:=Rc qN.1 h0 (by omega:i<p.m)
  have hfi:=hf i h0 Oa
  rw [if_neg Oa] at hfi
  refine(zP)<|zln<|zh<|htn ?_
  refine hdst [0,1,2] [0,2] 11 mx_ hS ?_;clear hS;intro w hS
  refine(zDl 0 (fun w hS=>(xlb 1 pl_22 hS)))<|(zDw 1 xmv)<|(zDw 2 (xix (kk:=i) Zb qB))<|zdl 3 (fun w hS=>(xlr (u:= .int Oi (fM i)) pl_3 (hS.rowN 1 rfl))) ?_
  refine(zDw 4 (xfb 1 fd_27_1))<|(zDl 5 (fun w hS=>(xlb 0 pl_22 hS)))<|(zDw 6 xmv)<|(zDw 7 (xix (kk:=i) Zb h.D.slh))<|YF 8 (fun w hS=>(xlr (u:= .int Oi (p.D i)) pl_3 (h.D.below hS.below))) ?_
  have hbv:=h.iD i
  refine(zDw 9 (Zp (r:=fM i-p.D i)))<|(zDw 10 (xix (kk:=i) Zb qB))<|zde 11 (xso 1 pl_3 hS (ZD _ _ _)) ?_;clear hS;rintro w hS
  refine⟨⟨fun h=>absurd h (by decide),hS.pk [0,2]⟩,?_⟩
  refine zdd<|zh<|zbn<|htn<|hrz ?_
  refine(zV (Zh (r:=i+1)))<|(zP)<|zln<|zh<|hlq ⟨(upd fM i (fM i-p.D i)),i+1,rfl,Oa,Oa,?_,rfl,hS⟩
  ·
   intro k k0 k1;unfold upd;by_cases e:k=i
   · rw [if_pos e,if_pos Oa,e];omega
   · rw [if_neg e,hf k k0 k1];by_cases e2:k<i
     · rw [if_pos e2,if_pos Oa]
     · rw [if_neg e2,if_neg Oa]
 refine hxt<|ztx<|ztx<|zbh<|htn<|hsq<|hrz ?_
 refine zla (xal (cs:= [_]) ZkT hS) ?_;rintro _ w ⟨g3,rfl,hS⟩
 refine zln<|zh<|htn<|hsq<|hsq<|hrz ?_
 refine(zP)<|zlc (xc0 Zeu) (Za4 (u:=u) (pv:=pv) (ln:=ln) (pt:=pt) (cnt:=cnt) w (hV.below hS.below) Oa (fun k k0 k1=>by have h9:=(qN.2.2 k k0 k1).2.2.eq;omega) (fun k k0 k1=>by have h9:=qN.2.2 k k0 k1;exact⟨h9.1,h9.2.1⟩)) ?_;rintro xH w ⟨_,qH,xu,x9,yb,xD,rfl,xq,xt,yH,x5,xM,hS'⟩
 replace hS:=(hS.comp hS').n6;clear hS'
 have yq:=fun k (k0:0<=k) (k1:k<qH)=>hS.slhIn 5 rfl k0 k1
 have hfM:∀k,0<=k->k<p.m->fM k=ZH u pt cnt k-p.D k:=fun k k0 k1=>by rw [hf k k0 k1,if_pos Oa]
 have ji:=fun k k0 k1=>(yq k k0 k1).n0
 have qR:=Ze6 qN xq ji
 have mu:=Ze7 hu xt qN xq
 refine zlc (xc0 Znj) (Zia (u:=qH) (pv:=xu) (ln:=x9) (pt:=yb) (cnt:=xD) w (⟨(hS.rowN 4 rfl),fun k k0 k1=>hS.rowIn 5 rfl k0 k1,fun k k0 k1=>hS.roomIn 5 rfl k0 k1⟩:VAt _ xH qH xu x9 yb xD)) ?_;rintro _ w ⟨g4,rfl,hS'⟩
 replace hS:=(hS.comp hS').n7;clear hS'
 refine zln<|zh<|htn<|hbk ?_
 replace hS:=hS.addnil 2 97 (Ze (fun _=>Oh) (fun _=>0))
 replace hS:=hS.addrows 3 (fun _=>Oh) (fun _=>p.m) (fun _ _=>0)
 refine ZoN (St:=TSt) (X:=BX) (Tt:=Unit) (fun s=> [.blk g1 [vL,vD,.int Oi p.stock,.int Oi p.kerf],.blk g2 [qD],.own qD 1 3 ql (ints s.M),.blk g3 [s.vO],.own s.vO 2 97 s.n (Ze s.vv s.C),.sem (Frame.rows 3 s.n s.vv (fun _=>p.m) s.P)]) (fun t=> []) (fun _=> .ret) (⟨[],fM,Oh,0,fun _=> Oh,fun _ _=>0,fun _=>0⟩:TSt) (fun x M es=>M= [(1,vV),(2,Or g1),(4,Oh),(5,.int Oi 0),(6,Or g2),(27,.int Oi ql),(28,.int Oi i),(29,B (i<ql)),(9,Or g3),(43,vV),(44,xH),(45,.func (.func 225) #[] #[Or g4]),(46,x.v),(10,x.v)]/\es= [.own x.v 1 3 x.n (ints x.f)]) (Zkz (gq:=g4) (fun s=>s.h) (TInv p (lst p.m fM)) (⟨[],fM,Oh,0,fun _=> Oh,fun _ _=>0,fun _=>0⟩:TSt) rfl ⟨rfl,slh_nil,fun k k0 k1=>by have h9:=hfM k k0 k1;have h8:=cB k k0 k1;have h7:=We qN.2.2 hu (Int.le_refl _) k0 k1;have h6:=(Rc qN.1 k0 k1).1;have h5:=qN.2.1;show 0<=fM k/\fM k<=_;omega,by simp,fun k k0 k1=>by(have k1:k<0:=k1);omega⟩ w0 xM yq (fun k k0 k1=>by have:=(qR k k0 k1).1;omega) (fun k k0 k1=>by have:=x5 k k0 k1;omega)) (hS.pk [0,2,1,3,7,8,6,4,5]) ZmW (fun _=>rfl) (fun _=> .inl rfl) ?_ ?_ ?_ ?_
 ·
  intro lq s x rest w qs qK hrr hS
  refine hrz ?_
  refine(zP)<|zln<|zh<|ZgR ⟨rfl,rfl⟩ hS
 ·
  rintro lq s x _ _ rest w qs ⟨rfl,rfl⟩ qK hrr hS
  obtain⟨hIv,hxv,xg,i,i0,i1,hxn,hxf⟩:=qs
  obtain⟨hIp,hlO,hMr,hnh,hC1⟩:=hIv
  have hrO:=fun k (k0:0<=k) (k1:k<s.n)=>hS.slhIn 5 rfl k0 k1
  obtain⟨hfn,hfr⟩:=qR i i0 i1
  rw [<-hxn] at hfn
  rw [<-hxf] at hfr
  have hsn:=hlO.n0
  refine hbk<|hsq<|hsq<|hrz ?_
  refine(zP)<|(zV (xln Zb hxv))<|(zP)<|zln<|zh<|htn<|hbk<|hlp (fun mm M w=>∃(fa:Of) (fm2:Of) (j:Int),mm=((x.n-j).toNat)/\(0<=j)/\(j<=x.n)/\(∀k,0<=k->k<p.m->fa k=if k<j then x.f k-min (x.f k) (s.M k) else x.f k)/\(∀k,0<=k->k<p.m->fm2 k=if k<j then s.M k-min (x.f k) (s.M k) else s.M k)/\M= [(4,Oh),(5,.int Oi 0),(6,Or g2),(9,Or g3),(10,x.v),(48,.int Oi x.n),(49,.int Oi j)]/\Sat w0 w [.blk g1 [vL,vD,.int Oi p.stock,.int Oi p.kerf],.blk g2 [qD],.own qD 1 3 ql (ints fm2),.blk g3 [s.vO],.own s.vO 2 97 s.n (Ze s.vv s.C),.sem (Frame.rows 3 s.n s.vv (fun _=>p.m) s.P),.blk g4 [xH],.own xH 2 97 qH (Ze xu xD),.sem (Frame.rows 3 qH xu x9 yb),.sem qK,.own x.v 1 3 x.n (ints fa)]) ⟨x.f,s.M,0,rfl,Oa,Oa,?_,?_,rfl,hS⟩ ?_
  ·
   intro k k0 k1;rw [if_neg Oa]
  ·
   intro k k0 k1;rw [if_neg Oa]
  clear hS w
  rintro mm M w ⟨fa,fm2,j,rfl,j0,j1,hfa,an,rfl,hS⟩
  refine hsq<|hrz ?_
  refine(zP)<|zln<|zh<|htn<|hsq ?_
  refine Y0 ?_ ?_<;>intro hc
  ·
   refine hsk<|htn<|hsq<|hbk<|hsq<|hrz ?_
   refine zlv xmv ?_
   have hxj:=hfr j j0 Oa
   have hMj:=hMr j j0 Oa
   have jw:=hfa j j0 Oa
   have ju:=an j j0 Oa
   rw [if_neg Oa] at jw ju
   refine(zP)<|zln<|zh<|htn<|hsq ?_
   refine hdst [0,1,2,3,4,5,6,7,8,9,10] [0,1,2,3,4,5,6,7,8,9,10] 1000 mx_ hS ?_;clear hS;intro w hS
   refine(zDw 0 xmv)<|(zDw 1 xmv)<|(zDw 2 (xix (kk:=j) Zb hxv))<|(zDl 3 (fun w hS=>(xlr (u:= .int Oi (fa j)) pl_3 (hS.rowN 10 rfl))))<|(zDl 4 (fun w hS=>(xlb 1 pl_22 hS)))<|(zDw 5 xmv)<|(zDw 6 (xix (kk:=j) Zb qB))<|(zDl 7 (fun w hS=>(xlr (u:= .int Oi (fm2 j)) pl_3 (hS.rowN 2 rfl))))<|(zDw 8 (Rr (r:=(min (fa j) (fm2 j)))))<|(zDw 9 xas)<|zdd<|zh<|htn<|hsq<|hrz ?_
   refine(On)<|(zV (xix (kk:=j) Zb hxv))<|(zV (xlr (u:= .int Oi (fa j)) pl_3 (hS.rowN 10 rfl)))<|(zP)<|(zV (Zp (r:=fa j-(min (fa j) (fm2 j)))))<|(zV (xix (kk:=j) Zb hxv))<|zle (xso 10 pl_3 hS (ZD _ _ _)) ?_;clear hS;rintro w hS
   refine zln<|zh<|htn<|hrz ?_
   refine(zV (xlb 1 pl_22 hS))<|(zP)<|(zV (xix (kk:=j) Zb qB))<|(zV (xlr (u:= .int Oi (fm2 j)) pl_3 (hS.rowN 2 rfl)))<|(zP)<|(zV (Zp (r:=fm2 j-(min (fa j) (fm2 j)))))<|(zV (xix (kk:=j) Zb qB))<|zle (xso 2 pl_3 hS (ZD _ _ _)) ?_;clear hS;rintro w hS
   refine zln<|zh<|zbn<|htn<|hrz ?_
   refine(zV (Zh (r:=j+1)))<|(zP)<|zln<|zh<|hlq ⟨(upd fa j (fa j-(min (fa j) (fm2 j)))),(upd fm2 j (fm2 j-(min (fa j) (fm2 j)))),j+1,rfl,Oa,Oa,?_,?_,rfl,hS⟩
   ·
    intro k k0 k1;unfold upd;by_cases e:k=j
    · rw [if_pos e,if_pos Oa,e];omega
    · rw [if_neg e,hfa k k0 k1];by_cases e2:k<j
      · rw [if_pos e2,if_pos Oa]
      · rw [if_neg e2,if_neg Oa]
   ·
    intro k k0 k1;unfold upd;by_cases e:k=j
    · rw [if_pos e,if_pos Oa,e];omega
    · rw [if_neg e,an k k0 k1];by_cases e2:k<j
      · rw [if_pos e2,if_pos Oa]
      · rw [if_neg e2,if_neg Oa]
  refine hxt<|ztx<|ztx<|zbh<|htn<|hsq<|hrz ?_
  refine(zP)<|zlc (xc0 U2) (Zku (n:=x.n) (f:=fa) w (hS.rowN 10 rfl)) ?_;rintro _ w ⟨rfl,hS'⟩
  replace hS:=hS.cmp hS';clear hS'
  refine zln<|zh<|htn ?_
  refine Y0 ?_ ?_<;>intro hc
  ·
   refine hrz ?_
   refine(zV (xlb 3 pl_29 hS))<|(zP)<|zlv (xany (v:= .agg #[x.v,.int Oi 1]) (hr:=by have hz:=hxv;revert hz;generalize x.v=z;rintro⟨_,_,_,_,rfl,_⟩;show _=_;kernel_rfl)) ?_
   refine zla (xli (n:=1) (len:=1) (pv:= [(0,.agg #[x.v,.int Oi 1])]) (cs:= [x.v,.int Oi 1]) (c:=Ze (fun _=>x.v) (fun _=>1)) ZR Y8 hS (hf:=by have hz:=hxv;revert hz;generalize x.v=z;rintro⟨_,_,_,_,rfl,_⟩;show _=_;kernel_rfl)) ?_;rintro v1 w ⟨hS,hv1⟩
   refine zla (xap 4 (r:=s.n+1) ZR Y8 hS (hS.rowN 11 rfl) (Xn _ _ _ _ _) (h1:=fun k _ _=>Xe (fun _=>hxv.one) k)) ?_;rintro v2 w ⟨hS,hv2⟩
   replace hS:=Sat.merge (l1:= [_,_,_,_,_]) (l2:= [_,_,_,_]) (l3:= [_]) hS Oa
   have xp:=fun k (k0:0<=k) (k1:k<s.n+1)=>hS.slhIn 5 rfl k0 k1
   refine zle (xsb 3 pl_29 hS (hv:=hv2.one)) ?_;clear hS;rintro w hS
   refine zln<|zh<|zbn ?_
   rw [hfn,Kj] at hS
   refine Zdg ⟨s.h++ [lst x.n x.f],fm2,v2,s.n+1,gsn s.vv s.n x.v,gsn s.P s.n fa,(snoc s.C s.n 1)⟩ ⟨rfl,(by rw [hfn];exact TInv.yes (a2:=fa) hIp hsn (fun k k0 k1=>(hfa k k0 k1).trans (if_pos Oa)) (fun k k0 k1=>(an k k0 k1).trans (if_pos Oa)) (by obtain⟨k,k0,k1,k2⟩:=hc;exact⟨k,k0,Oa,k2⟩) (fun k k0 k1=>Zq k1) (ZB Oa) (fun k k0 k1=>Zs k1) (Zt Oa)),hv2,(fun k k0 k1=>by have h9:=hMr k k0 k1;have h8:=hfr k k0 k1;have h7:=an k k0 k1;rw [if_pos Oa] at h7;show 0<=fm2 k/\fm2 k<=_;omega),by(show s.n+1<=((s.h++ [lst x.n x.f]).length:Int));rw [List.length_append];simp;omega,(ZeY hC1)⟩ (hS.pk [0,1,2,3,4,5,6,7,8,9])
  refine hsk<|zbn<|Zdg ⟨s.h++ [lst x.n x.f],fm2,s.vO,s.n,s.vv,s.P,s.C⟩ ⟨rfl,(by rw [hfn];exact TInv.no (a2:=fa) hIp (fun k k0 k1=>(hfa k k0 k1).trans (if_pos Oa)) (fun k k0 k1=>(an k k0 k1).trans (if_pos Oa)) (fun⟨k,k0,k1,k2⟩=>hc ⟨k,k0,Oa,k2⟩)),hlO,(fun k k0 k1=>by have h9:=hMr k k0 k1;have h8:=hfr k k0 k1;have h7:=an k k0 k1;rw [if_pos Oa] at h7;show 0<=fm2 k/\fm2 k<=_;omega),by(show s.n<=((s.h++ [lst x.n x.f]).length:Int));rw [List.length_append];simp;omega,hC1⟩ (hS.pk [0,1,2,3,4,5,6,7,8,9])
 ·
  intro Dk s rest w qt hS
  obtain⟨⟨hIp,hlO,hMr,hnh,hC1⟩,hh⟩:=qt
  have hrO:=fun k (k0:0<=k) (k1:k<s.n)=>hS.slhIn 5 rfl k0 k1
  have hsn:=hlO.n0
  have kz:s.n<=1000000:=by
    have h9:=Za6 (ln:=x9) (pt:=yb) (u:=qH) (cnt:=xD) xt (fun k k0 k1=>by have:=x5 k k0 k1;omega) (qH-1-(-1)).toNat Oa
    rw [hh] at hnh
    unfold dwn at hnh
    rw [show(qH-(qH-1-(-1)).toNat).toNat=0 by omega] at h9
    simp only [psum] at h9
    omega
  refine zbn<|htn<|hsq<|hrz ?_
  refine(zV (xlb 3 pl_29 hS))<|zlc (xc0 Zeu) (Za4 (u:=s.n) (pv:=s.vv) (ln:=(fun _=>p.m)) (pt:=s.P) (cnt:=s.C) w (⟨(hS.rowN 4 rfl),fun k k0 k1=>hS.rowIn 5 rfl k0 k1,fun k k0 k1=>hS.roomIn 5 rfl k0 k1⟩:VAt _ s.vO s.n s.vv (fun _=>p.m) s.P s.C) Oa (fun k k0 k1=>Oa) (fun k k0 k1=>by have h9:=hC1 k k0 k1;omega)) ?_;rintro kM w ⟨_,ew,kP,gE,jK,jR,rfl,fc,kx,kw,fh,eL,hS'⟩
  replace hS:=(hS.comp hS').n13;clear hS'
  have kt:=fun k (k0:0<=k) (k1:k<ew)=>hS.slhIn 12 rfl k0 k1
  refine(On)<|zln<|zh<|htn<|hrt<|Zdh 10 hS fun w hS=>zf2 ⟨_,rfl,?_⟩
  have hmf:lst p.m fM=lst p.m (fun j=>ZH u pt cnt j-p.D j):=Yj fun k k0 k1=>hfM k k0 k1
  have hTR:NormR (Un (lst p.m fun j=>ZH u pt cnt j-p.D j) (UL (plL qH x9 yb xD))).2 (plL ew gE jK jR):=by
    rw [<-ZfK _ _ _ xt,<-hh,<-hmf,<-hIp];exact fc
  exact⟨_,_,_,_,_,_,0,rfl,.inr (.inr ⟨qN,cB,rfl,_,xq,hTR⟩),fun k k0 k1=>by have:=fh k k0 k1;omega,Oa,eL,hS.pk [11,12]⟩
 ·
  intro Dk t rest w qt hS
  exact qt.elim
end Go.Proofs.YtpnamgfdakfccaaGreat
namespace Go.Proofs.Gw
open Go Go.RowKit
section
variable {P:Program} {L:List (Nat×Value)} {w w0:World} {o:Oper} {x y z:Operand} {T T':TypeId} {l:List Ent} {E:TypeId}
theorem U8{n:Int}{zv z0 z1:Value}{b:Nat}(ho:o.op= .call {callee:= .builtin .append,args:= #[x,y],argTypes:= #[T,T']})(ht:Zu P T=some (E,2))(hk:P.underlying T'=some (.int .i64))(he:ZN P E=some (zv,2,b))(hz:zv.cells= #[z0,z1])(hb0:1<=b)
   (hx:evL L x=some Oh) (hy:evL L y=some (.int Oi n)) (h1:1<=n) (hb:b*n<=140737488355328) (hS:Sat w0 w l):
   ∃u w',Runs P L w o (.value u) w'/\Sat w0 w' (l++ [.own u 2 E n (fun k=>if k%2=0 then z0 else z1)])/\Slh u n:=by
 obtain⟨hut,_⟩:=Zr ht
 obtain⟨i,hi,hzz,hsz,hby⟩:=Yq he
 have hle:n<=b*n:=by
   have:=Int.mul_le_mul_of_nonneg_right (show(1:Int)<=b by omega) (show 0<=n by omega)
   omega
 have hw:IntKind.i64.wrap n=n:=by rw [IntKind.wrap_i64];omega
 have h48:¬(281474976710656<n*(i.bytes:Int)):=by rw [hby,Int.mul_comm];omega
 have hn0:¬n<0:=Oa
 have hbn:((n.toNat*i.bytes:Nat):Int)=b*n:=by rw [Int.natCast_mul,hby,Int.toNat_of_nonneg Oa,Int.mul_comm]
 have yY:¬(281474976710656<Builtin.nextslicecap n.toNat 0*i.bytes):=by rw [nextslicecap_zero Oa];omega
 have h63:¬(9223372036854775807<(n.toNat:Int)):=Oa
 have hnz:¬n.toNat=0:=Oa
 have bc:¬n.toNat*i.size=0:=by rw [hsz];omega
 have hr:∀ty,(Builtin.append_ #[T,T'] ty #[Oh,.int Oi n]).run P w= .ok (.slice (some ⟨w.heap.size,0,none⟩) n.toNat (grownCap w n.toNat 0 E)) (w.drew.alloc (.cells (Builtin.zeroCells zv.cells n.toNat++Builtin.zeroCells zv.cells (grownCap w n.toNat 0 E-n.toNat)) E)):=fun ty=>by
   simp [Builtin.append_,run_underlying hut,run_underlying hk,sizeOf,typeInfo,zeroValue,hi,hzz,asInt,asIntOf,hw,hn0,h48,hnz,yY,h63,Question.forced,newRow,grownCap,Builtin.firstCells,bc]
   rw [if_neg Oa,if_neg Oa]
 have hge:=grownCap_ge w n.toNat 0 E
 have hmx:=grownCap_le_maxLen w n.toNat 0 E (by unfold maxLen;omega)
 have hE:(Ent.own (.slice (some ⟨w.heap.size,0,none⟩) n.toNat (grownCap w n.toNat 0 E)) 2 E n (fun k=>if k%2=0 then z0 else z1)).holds (w.drew.alloc (.cells (Builtin.zeroCells zv.cells n.toNat++Builtin.zeroCells zv.cells (grownCap w n.toNat 0 E-n.toNat)) E)):=by
   refine⟨by omega,Oa,.inr ⟨_,_,_,rfl,by have:=heap_alloc_new w.drew (.cells (Builtin.zeroCells zv.cells n.toNat++Builtin.zeroCells zv.cells (grownCap w n.toNat 0 E-n.toNat)) E);simpa using this,hge,hmx,?_,fun k hk=> ?_⟩⟩
   · simp [Builtin.zeroCells,hz];omega
   · have hk2:k<n.toNat*2:=Oa
     rw [Array.getElem?_append_left (by simp [Builtin.zeroCells,hz];omega)]
     rcases Nat.mod_two_eq_zero_or_one k with hm|hm
     · simp [Builtin.zeroCells,hz,hk2,hm];intro hh;omega
     · simp [Builtin.zeroCells,hz,hk2,hm];intro hh;omega
 refine⟨_,_,fun ρ h=> ?_,hS.draw.alloc _ hE (fun g hg=>by simp [Ent.has,Value.ownBlock] at hg;simp [hg]),hE.row.slh⟩
 simp [execOp,ho,resolve,invoke,builtin,h _ _ hx,h _ _ hy,hr]
end
theorem Zcx(p q:Int->Value)(c d:Of)(n:Int):cat (n*2) (Ze p c) (Ze q d)=Ze (cat n p q) (cat n c d):=by
 funext k
 unfold cat Ze
 by_cases h:k<n*2
 · have h2:k/2<n:=Oa
   simp only [if_pos h,if_pos h2]
 · have h2:¬k/2<n:=Oa
   have h3:(k-n*2)/2=k/2-n:=Oa
   have h4:(k-n*2)%2=k%2:=Oa
   simp only [if_neg h,if_neg h2,h3,h4]
end Go.Proofs.Gw
namespace Go.Proofs.YtpnamgfdakfccaaGreat
open Go Go.RowKit Go.Proofs.Gw
theorem Zhp:ZN Om 27=some (.agg #[Oh,Oh,.int Oi 0,.int Oi 0],4,64):=Oc
def Yz(p:Prob)(f:Of):Of:=fun k=>if 0<=k/\k<p.m then max 0 (p.D k-f k) else 0
theorem Zfd{p:Prob}(hp:p.Ok){f:Of}(hf:∀k,0<=k->k<p.m->0<=f k):∀k,-9223372036854775808<=Yz p f k/\Yz p f k<=9223372036854775807:=fun k=>by
 unfold Yz
 by_cases h:0<=k/\k<p.m
 · rw [if_pos h];have:=Rc hp h.1 h.2;have:=hf k h.1 h.2;omega
 · rw [if_neg h];omega
structure NUt (w:World) (v:Value) (n:Int) (vv:Int->Value) (ln:Of) (pvs:Int->Int->Value) (cns:Og):Prop where
  row:Row w v 1 n vv
  p:∀i,0<=i->i<n->Row w (vv i) 2 (ln i) (Ze (pvs i) (cns i))
  one:∀i,0<=i->i<n->∀k,0<=k->k<ln i->(pvs i k).oneCell'=true
theorem Zbq{pv:Int->Value}{cnt:Of}{n:Int}(h:∀k,0<=k->k<n->(pv k).oneCell'=true):∀k,0<=k->k<n*2->(Ze pv cnt k).oneCell'=true:=fun k k0 k1=>by
 unfold Ze
 split
 · exact h _ Oa Oa
 · rfl
theorem NUt.below{w w':World}{v:Value}{n:Int}{vv:Int->Value}{ln:Of}{pvs:Int->Int->Value}{cns:Og}(h:NUt w v n vv ln pvs cns)(hb:Below w.heap.size w w'):NUt w' v n vv ln pvs cns:=⟨h.row.below hb,fun i a b=>(h.p i a b).below hb,h.one⟩
def Za1(ln:Of)(f:Int->Int->Value):Nat->Int->Value
  |0=>fun _=>undef
  |k+1=>cat (tot ln k) (Za1 ln f k) (f k)
theorem catG_next(ln:Of)(f:Int->Int->Value){i:Int}(h:0<=i):Za1 ln f (i+1).toNat=cat (tot ln i.toNat) (Za1 ln f i.toNat) (f i):=by
 rw [show(i+1).toNat=i.toNat+1 by omega,Za1,Int.toNat_of_nonneg h]
theorem ZpY{w:World}{v a b:Value}{n m:Int}{pa pb:Int->Value}{ca cb:Of}(h:Row w v 1 2 (ZX a b))(ha:Row w a 2 n (Ze pa ca))(hb:Row w b 2 m (Ze pb cb))(ha1:∀k,0<=k->k<n->(pa k).oneCell'=true)(hb1:∀k,0<=k->k<m->(pb k).oneCell'=true):NUt w v 2 (ZX a b) (ZX n m) (ZX pa pb) (ZX ca cb):=
 ⟨h, fun i i0 i1=>by
   by_cases e:i=0
   · subst e;exact ha
   · obtain rfl:i=1:=Oa
     exact hb,fun i i0 i1=>by
   by_cases e:i=0
   · subst e;exact ha1
   · obtain rfl:i=1:=Oa
     exact hb1⟩
theorem Zif{vL vD:Value}{p:Prob}{vA:Value}{f:Of}(w0:World)(h:PAt w0 vL vD p)(hok:p.Ok)(hA:Row w0 vA 1 p.m (ints f))(hfb:∀k,0<=k->k<p.m->0<=f k/\f k<=2000000000):
   Calls Om 80 [.agg #[vL,vD,.int Oi p.stock,.int Oi p.kerf],vA].toArray w0 fun e w=>∃v,e= .returned v/\∃vL2 vD2,v= .agg #[vL2,vD2,.int Oi p.stock,.int Oi p.kerf]/\Slh vL2 p.m/\Slh vD2 p.d/\Sat w0 w [.own vL2 1 3 p.m (ints p.L),.own vD2 1 3 p.d (ints (Yz p f))]:=by
 obtain⟨hm,hm1,hd,hd1,hs,hk⟩:=h.Oq
 have aZ:=hok.m1;have xb:=hok.m2;have hpd:=hok.d
 refine zenG Tryz.func80 Tryz.ntmps80 fun w hS=> ?_
 refine zsr<|zla (xbx (cs:= [_,_,_,_]) hS) ?_;rintro _ w ⟨g1,rfl,hS⟩
 refine zla (xal (cs:= [_,_,_,_]) Zhp hS) ?_;rintro _ w ⟨g2,rfl,hS⟩
 refine zx7<|zdst [0,1] [1] 7 mx_ hS ?_;clear hS;intro w hS
 refine(zDw 0 (xfb 0 fd_27_0))<|zdl 1 (fun w hS=>(xlb 0 pl_22 hS)) ?_
 refine(zDw 3 (xfb 1 fd_27_1))<|zdl 4 (fun w hS=>(xlb 0 pl_22 hS)) ?_
 refine zdc 2 (xc0 cl_66) (c_clone (n:=p.m) (f:=p.L) w (h.L.below hS.below) Oa) ?_;rintro vq1 w ⟨_,rfl,qb,hS'⟩
 replace hS:=(hS.comp hS').n3;clear hS'
 refine⟨⟨fun _=>hS.pk [0,1],hS.pk [1]⟩,?_⟩
 refine(zDw 6 (xfb 0 fd_27_0))<|zdc 5 (xc0 cl_66) (c_clone (n:=p.d) (f:=p.D) w (h.D.below hS.below) Oa) ?_;rintro vq2 w ⟨_,rfl,qg,hS'⟩
 replace hS:=(hS.comp hS').n4;clear hS'
 refine⟨⟨fun _=>hS.pk [0,1],hS.pk [1]⟩,?_⟩
 refine zde 7 (xsb 0 pl_22 hS (hv:=qb.one)) ?_;clear hS;rintro w hS
 refine⟨⟨fun h=>absurd h (by decide),hS.pk [1]⟩,?_⟩
 refine(zDw 8 (xfb 1 fd_27_1))<|zde 9 (xsb 0 pl_22 hS (hv:=qg.one)) ?_;clear hS;rintro w hS
 refine⟨⟨fun h=>absurd h (by decide),hS.pk [1]⟩,?_⟩
 refine zdd<|ztn<|zsq<|zsr ?_
 refine(zP)<|(zV (xln Zb hA.slh))<|(zP)<|zx6<|zlp (fun mm M w=>∃(g:Of) (i:Int),mm=((p.m-i).toNat)/\(0<=i)/\(i<=p.m)/\(∀k,0<=k->k<p.m->g k=if k<i then max 0 (p.D k-f k) else p.D k)/\M= [(2,Or g1),(4,Or g2),(15,vA),(16,.int Oi p.m),(17,.int Oi i)]/\Sat w0 w [.blk g1 [vq1,vq2,.int Oi p.stock,.int Oi p.kerf],.blk g2 [Oh,Oh,.int Oi 0,.int Oi 0],.own vq1 1 3 p.m (ints p.L),.own vq2 1 3 p.d (ints g)]) ⟨p.D,0,rfl,Oa,Oa,?_,rfl,hS⟩ ?_
 ·
  intro k k0 k1;rw [if_neg Oa]
 clear hS w
 rintro mm M w ⟨g,i,rfl,h0,h1,hg,rfl,hS⟩
 refine zsr<|(zP)<|zx7<|Zf ?_ ?_<;>intro hc
 ·
  refine zx3<|(zP)<|(zV (xix (kk:=i) Zb hA.slh))<|zlv (xlr (u:= .int Oi (f i)) pl_3 (hA.below hS.below)) ?_
  have hdi:=Rc hok h0 (by omega:i<p.m)
  have hfi:=hfb i h0 Oa
  have hgi:=hg i h0 Oa
  rw [if_neg Oa] at hgi
  refine(On)<|zlt<|zdst [0,1,2,3] [0,1,2] 12 mx_ hS ?_;clear hS;intro w hS
  refine(zDw 0 (xfb 1 fd_27_1))<|(zDl 1 (fun w hS=>(xlb 0 pl_22 hS)))<|(zDw 2 xmv)<|(zDw 3 (xfb 1 fd_27_1))<|(zDl 4 (fun w hS=>(xlb 0 pl_22 hS)))<|(zDw 5 xmv)<|(zDw 6 (xix (kk:=i) Zb qg))<|zdl 7 (fun w hS=>(xlr (u:= .int Oi (g i)) pl_3 (hS.rowN 3 rfl))) ?_
  refine(zDw 8 xmv)<|(zDw 9 (Zp (r:=g i-(f i))))<|(zDw 10 (ZfS (r:=(max 0 (g i-(f i))))))<|(zDw 11 (xix (kk:=i) Zb qg))<|zde 12 (xso 3 pl_3 hS (ZD _ _ _)) ?_;clear hS;rintro w hS
  refine⟨⟨fun h=>absurd h (by decide),hS.pk [0,1,2]⟩,?_⟩
  refine zdd<|zbn<|ztn<|zrg ?_
  refine(zV (Zh (r:=i+1)))<|(zP)<|zln<|zlq ⟨(upd g i (max 0 (g i-(f i)))),i+1,rfl,Oa,Oa,?_,rfl,hS⟩
  ·
   intro k k0 k1;unfold upd;by_cases e:k=i
   · rw [if_pos e,if_pos Oa,e];omega
   · rw [if_neg e,hg k k0 k1];by_cases e2:k<i
     · rw [if_pos e2,if_pos Oa]
     · rw [if_neg e2,if_neg Oa]
 refine zx8<|(zV (xls 0 st_27 hS))<|zle (xsw 1 st_27 hS (hd:=(Za qb.one (Za qg.one (Za rfl (Za rfl Zi)))))) ?_;clear hS;rintro w hS
 refine zx1<|zfc 1 st_27 hS ⟨_,rfl,?_⟩
 have hin:i=p.m:=Oa
 replace hS:=hS.recont 3 rfl (d:=ints (Yz p f)) (fun k k0 k1=>congrArg (Value.int .i64) (by rw [hg k k0 Oa,if_pos Oa];unfold Yz;rw [if_pos ⟨k0,Oa⟩]))
 exact⟨_,_,rfl,qb,qg,hS.pk [2,3]⟩
theorem Znh:Zd Om 153=true:=Oc
theorem TE:Zu Om 234=some (29,1):=Oc
theorem Zkq{n:Int}(w0:World)(h0:0<=n)(h1:n<=100000000):
   Calls Om 153 [Oh,.int Oi n].toArray w0 fun e w=>∃v,e= .returned v/\∃r,v=r/\Slh r 0/\Sat w0 w [.own r 2 97 0 (Ze (fun _=>Oh) (fun _=>0))]:=by
 refine zenG Tryz.func153 Tryz.ntmps153 fun w hS=> ?_
 refine zsr<|(zP)<|zx5<|(zP)<|(zV (xkf Yc))<|zlt<|zcf<|zsk<|ztn<|zsq<|zsr ?_
 refine(On)<|KP rfl rfl rfl (WB rfl ZR rfl) ?_
 refine(zP)<|(zV (xln ZR slh_nil))<|(zV (Zp (r:=0)))<|(zV (Zp (r:=n)))<|(zP)<|zlz<|(On)<|zlt<|Zf ?_ ?_<;>intro hc
 ·
  refine zrg<|(On)<|KP rfl rfl rfl (WB rfl ZR rfl) ?_
  refine(zV (xany (v:=Oh)))<|(zP)<|KQ rfl rfl rfl (U8 rfl ZR Tryz.underlying3 Y8 rfl Oa rfl rfl Oa Oa hS) ?_;rintro v1 w ⟨hS,hv1⟩
  refine(zP)<|(zV (xln ZR slh_nil))<|KP rfl rfl rfl (V7 rfl ZR rfl rfl hv1) ?_
  replace hS:=hS.cut 0 rfl (Ze (fun _=>Oh) (fun _=>0))
  refine(zP)<|zlz<|(On)<|zx1<|Oj ?_
  exact⟨_,rfl,(Zes hv1),hS⟩
 refine ZV<|(On)<|zx1<|Oj ?_
 exact⟨_,rfl,slh_nil,(hS.sub .slnil).addnil 2 97 (Ze (fun _=>Oh) (fun _=>0))⟩
theorem ZfI{v:Value}{n:Int}{vv:Int->Value}{ln:Of}{pvs:Int->Int->Value}{cns:Og}(w0:World)(hM:NUt w0 v n vv ln pvs cns)(ht:∀k,0<=k->k<=n->tot ln k.toNat<=10000000):
   Calls Om 79 [v].toArray w0 fun e w=>∃v,e= .returned v/\∃r,v=r/\Slh r (tot ln n.toNat)/\Sat w0 w [.own r 2 97 (tot ln n.toNat) (Ze (Za1 ln pvs n.toNat) (Vq ln cns n.toNat))]:=by
 have hn:=hM.row.slh.n0;have hn1:=hM.row.slh.n1
 refine zenG Tryz.func79 Tryz.ntmps79 fun w hS=> ?_
 refine zsr<|(zP)<|zlz<|(zP)<|zx5<|(zP)<|(zV (xln TE hM.row.slh))<|(zP)<|zx6<|zlp (fun mm M w=>∃(s:Int) (i:Int),mm=((n-i).toNat)/\(0<=i)/\(i<=n)/\(s=tot ln i.toNat)/\(0<=s)/\M= [(0,v),(2,Oh),(3,.int Oi s),(9,v),(10,.int Oi n),(11,.int Oi i)]/\Sat w0 w []) ⟨0,0,rfl,Oa,Oa,?_,Oa,rfl,hS⟩ ?_
 ·
  rfl
 clear hS w
 rintro mm M w ⟨s,i,rfl,h0,h1,hs,hs0,rfl,hS⟩
 refine zsr<|(zP)<|zx7<|Zf ?_ ?_<;>intro hc
 ·
  refine zx3<|(zV (xix (kk:=i) TE hM.row.slh))<|zlv (xlr (u:=(vv i)) pl_29 (hM.row.below hS.below)) ?_
  have hl:=(hM.p i h0 Oa).slh.n0;have ht1:=ht (i+1) Oa Oa;rw [Xq ln h0] at ht1
  refine(zP)<|zlz<|(On)<|(zV (xln ZR (hM.p i Oa Oa).slh))<|(zV (Zh (r:=s+(ln i))))<|(zP)<|zlz<|(zP)<|(zV (xkf Yc))<|zlt<|zcf<|zsk<|zbn<|ztn<|zrg ?_
  refine(zV (Zh (r:=i+1)))<|(zP)<|zln<|zlq ⟨s+(ln i),i+1,rfl,Oa,Oa,?_,Oa,rfl,hS⟩
  ·
   rw [Xq ln h0,hs]
 refine zx8<|zlv xmv ?_
 have hin:i=n:=Oa
 have ht2:=ht n hn (Int.le_refl _);rw [<-hin] at ht2
 refine zlc (xc0 Znh) (Zkq (n:=s) w Oa Oa) ?_;rintro vq1 w ⟨_,rfl,qb,hS'⟩
 replace hS:=(hS.comp hS').n1;clear hS'
 refine(zP)<|zx5<|(zP)<|(zV (xln TE hM.row.slh))<|(zP)<|zx6<|zlp (fun mm M w=>∃(m:Int) (gq:Int->Value) (gc:Of) (j:Int) (vb:Value),mm=((n-j).toNat)/\(0<=j)/\(j<=n)/\(m=tot ln j.toNat)/\(0<=m)/\(∀k,0<=k->k<m->gq k=Za1 ln pvs j.toNat k)/\(∀k,0<=k->k<m->gc k=Vq ln cns j.toNat k)/\(Slh vb m)/\M= [(2,Oh),(6,vb),(25,v),(26,.int Oi n),(27,.int Oi j)]/\Sat w0 w [.own vb 2 97 m (Ze gq gc)]) ⟨0,(fun _=>Oh),(fun _=>0),0,vq1,rfl,Oa,Oa,?_,Oa,?_,?_,?_,rfl,hS⟩ ?_
 ·
  rfl
 ·
  intro k k0 k1;omega
 ·
  intro k k0 k1;omega
 ·
  exact qb
 clear hS w
 rintro mm M w ⟨m,gq,gc,j,vb,rfl,h0,h1,hm,hm0,hg,hc9,hvb,rfl,hS⟩
 refine zsr<|(zP)<|zx7<|Zf ?_ ?_<;>intro hc
 ·
  refine zx3<|(zV (xix (kk:=j) TE hM.row.slh))<|zlv (xlr (u:=(vv j)) pl_29 (hM.row.below hS.below)) ?_
  have hl:=(hM.p j h0 Oa).slh.n0;have ht1:=ht (j+1) Oa Oa;rw [Xq ln h0] at ht1
  refine(zP)<|zlt<|zrg<|(On)<|zla (xap 0 (r:=m+(ln j)) (f:=Ze (cat m gq (pvs j)) (cat m gc (cns j))) ZR Y8 hS ((hM.p j Oa Oa).below hS.below) (by exact Zcx _ _ _ _ _) (h1:=(Zbq (hM.one j Oa Oa)))) ?_;rintro v1 w ⟨hS,hv1⟩
  refine(zP)<|zx10<|(zV (Zh (r:=j+1)))<|(zP)<|zln<|zlq ⟨m+(ln j),(cat m gq (pvs j)),(cat m gc (cns j)),j+1,v1,rfl,Oa,Oa,?_,Oa,?_,?_,?_,rfl,hS⟩
  ·
   rw [Xq ln h0,hm]
  ·
   intro k k0 k1;rw [catG_next ln pvs h0,<-hm];unfold cat;by_cases e:k<m
   · rw [if_pos e,if_pos e];exact hg k k0 e
   · rw [if_neg e,if_neg e]
  ·
   intro k k0 k1;rw [catN_next ln cns h0,<-hm];unfold cat;by_cases e:k<m
   · rw [if_pos e,if_pos e];exact hc9 k k0 e
   · rw [if_neg e,if_neg e]
  ·
   exact hv1
 refine zx8<|(On)<|zx1<|Oj ?_
 obtain rfl:j=n:=Oa
 subst hm
 replace hS:=hS.recont 0 rfl (d:=Ze (Za1 ln pvs j.toNat) (Vq ln cns j.toNat)) (fun k k0 k1=>by unfold Ze;rw [hg _ Oa Oa,hc9 _ Oa Oa])
 exact⟨_,rfl,hvb,hS⟩
theorem ZmX:Zd Om 224=true:=Oc
theorem Tk:Zv Om 56 0=some 0:=Oc
def ZfO(p:Prob)(u:Int)(ml:Of)(mf:Og)(s:So):Prop:=Yr s/\s.n=u/\u<=60/\(∀k,0<=k->k<u->Z6 p (ml k) (mf k)/\(s.X k).tdiv s.den<=1000)/\∀j,0<=j->j<p.m->p.D j*s.den<=ZH u mf s.X j
theorem Zfa{m u:Int}{X:Of}{mf:Og}(h:∀k,0<=k->k<u->(∀j,0<=j->j<m->0<=mf k j/\mf k j<=1000)/\0<=X k/\X k<=1073741824):∀{i:Int},0<=i->i<=u->∀{j:Int},0<=j->j<m->0<=ZH i mf X j/\ZH i mf X j<=1073741824000*i:=by
 intro i i0
 obtain⟨n,rfl⟩:=Int.eq_ofNat_of_zero_le i0
 induction n with
 |zero=>intro _ j _ _;exact⟨Int.le_refl _,by show(0:Int)<=_;omega⟩
 | succ n ih=>
   intro hi j j0 j1
   have h1:=ih Oa Oa j0 j1
   obtain⟨h2,h3,h4⟩:=h n Oa Oa
   have h5:=h2 j j0 j1
   have h6:=WR h5.1 h5.2 h3 h4
   have h7:=XL (pt:=mf) (cnt:=X) (i:=(n:Int)) (j:=j) Oa
   rw [show((n+1:Nat):Int)=(n:Int)+1 by omega,h7];omega
theorem Tx{a d:Int}(h:0<=a)(hd:1<=d):0<=a.tmod d/\a.tmod d<d:=by
 rw [Int.tmod_eq_emod_of_nonneg h]
 exact⟨Int.emod_nonneg _ Oa,Int.emod_lt_of_pos _ Oa⟩
theorem VV{p:Prob}{n:Int}{f:Of}(h:Z6 p n f):n=p.m/\∀j,0<=j->j<p.m->0<=f j/\f j<=1000:=by
 have he:=h.1.eq
 refine⟨he,fun j j0 j1=> ?_⟩
 have h1:=h.1.all j j0 j1
 have h2:=h.2 j j0 Oa
 have h3:=Rc h.1.ok j0 j1
 omega
theorem ZfF{vL vD:Value}{p:Prob}{vM:Value}{u:Int}{mv:Int->Value}{ml:Of}{mf:Og}{vX vY:Value}{s:So}(w0:World)(h:PAt w0 vL vD p)(hok:p.Ok)(hM:MAt w0 vM u mv ml mf)(hX:Row w0 vX 1 s.n (ints s.X))(hY:Row w0 vY 1 s.m (ints s.Y))(xA:s.n<=1000):
   Calls Om 149 [.agg #[vL,vD,.int Oi p.stock,.int Oi p.kerf],.agg #[vM,vX,vY,.int Oi s.val,.int Oi s.den]].toArray w0 fun e w=>∃v,e= .returned v/\v=B (ZfO p u ml mf s)/\Sat w0 w []:=by
 obtain⟨hm,hm1,hd,hd1,hs,hk⟩:=h.Oq
 have hu:=hM.row.slh.n0;have hu1:=hM.row.slh.n1;have hn:=hX.slh.n0;have hn1:=hX.slh.n1
 refine zenG Tryz.func149 Tryz.ntmps149 fun w hS=> ?_
 refine zsr<|zla (xbx (cs:= [_,_,_,_]) hS) ?_;rintro _ w ⟨g1,rfl,hS⟩
 refine zla (xbx (cs:= [_,_,_,_,_]) hS) ?_;rintro _ w ⟨g2,rfl,hS⟩
 refine(zP)<|zlz<|(zV (xfb 1 fd_56_1))<|(zV (xlp 1 (ds:= [vX,vY,.int Oi s.val,.int Oi s.den]) ZT hS))<|zla (xal (cs:= [_,_,_,_]) Ua hS) ?_;rintro _ w ⟨g3,rfl,hS⟩
 refine zle (xsw 2 ZT hS (hd:=(Za hX.slh.one (Za hY.slh.one (Za rfl (Za rfl Zi)))))) ?_;clear hS;rintro w hS
 refine zx5<|(zV (xls 2 ZT hS))<|zlc (xc0 ZmX) (Zfx (s:=s) w (hX.below hS.below) (hY.below hS.below) Oa) ?_;rintro _ w ⟨zm,cR,bS,rfl,xQ,hS'⟩
 replace hS:=hS.cmp hS';clear hS'
 refine(Oo)<|zla (xal (cs:= [_,_]) Zho hS) ?_;rintro _ w ⟨g4,rfl,hS⟩
 refine zle (xsw 3 TC hS) ?_;clear hS;rintro w hS
 refine(zP)<|zlz<|(Oo)<|zlb 24 ?_ ?_<;>intro hc;rotate_left
 refine(zV (xfb 0 fd_54_0))<|(zV (xlb 2 pl_22 hS))<|(zV (xln Zb hX.slh))<|(zV (xfb 0 Tk))<|(zV (xlb 1 ZM hS))<|(zV (xln Zk hM.row.slh))<|(Oo)<|zlb 33 ?_ ?_<;>intro hc;rotate_left
 refine(zV (xfb 0 fd_54_0))<|(zV (xlb 2 pl_22 hS))<|(zV (xln Zb hX.slh))<|(On)<|zlt<|Zf ?_ ?_<;>intro hc
 ·
  refine zsr<|(zP)<|zx14<|Oj ?_
  refine⟨Zj ?_,hS.nl⟩
  rintro⟨g1,g2,g3,g4,g5⟩
  first
  |(rcases xQ with⟨q1,_⟩|⟨_,_,_,q4⟩;exact absurd g1 q1;omega)
  |omega
  |(have h9:=g4 k hk0 Oa;first|exact absurd h9.1 ‹_›|(have:=h9.2;omega))
  |(have h9:=g5 i hi0 Oa;have h8:=hf i hi0 Oa;rw [show k=u by omega] at h8;omega)
 refine ZV<|zlv (xfb 0 fd_27_0) ?_
 have hsd:Yr s:=by rcases xQ with⟨_,_,_,q4⟩|⟨q1,_⟩;omega;exact q1
 obtain⟨⟨d1,d2⟩,⟨d3,d4⟩,d5⟩:=id hsd
 have aZ:=hok.m1;have xb:=hok.m2;have hpd:=hok.d
 refine(zV (xlb 0 pl_22 hS))<|(zV (xln Zb h.L.slh))<|zla (xmk Zb ZJ hS) ?_;rintro v1 w ⟨hS,hv1⟩
 refine(zP)<|zx5<|(zV (xfb 0 Tk))<|(zV (xlb 1 ZM hS))<|(zV (xln Zk hM.row.slh))<|(zP)<|zx6<|zlp (fun mm M w=>∃(f:Of) (k:Int),mm=((u-k).toNat)/\(0<=k)/\(k<=u)/\(∀i,0<=i->i<k->Z6 p (ml i) (mf i)/\(s.X i).tdiv s.den<=1000)/\(∀j,0<=j->j<p.m->f j=ZH k mf s.X j)/\M= [(2,Or g1),(5,Or g3),(8,v1),(44,vM),(45,.int Oi u),(46,.int Oi k)]/\Sat w0 w [.blk g1 [vL,vD,.int Oi p.stock,.int Oi p.kerf],.blk g2 [vM,vX,vY,.int Oi s.val,.int Oi s.den],.blk g3 [vX,vY,.int Oi s.val,.int Oi s.den],.blk g4 [.int Oi zm,.int Oi cR],.own v1 1 3 p.m (ints f)]) ⟨(fun _=>0),0,rfl,Oa,Oa,?_,?_,rfl,hS⟩ ?_
 ·
  intro i i0 i1;omega
 ·
  intro j _ _;rfl
 clear hS w
 rintro mm M w ⟨f,k,rfl,hk0,hk1,qa,hf,rfl,hS⟩
 refine zsr<|(zP)<|zx7<|Zf ?_ ?_<;>intro hc
 ·
  refine zx3<|(zP)<|(zV (xix (kk:=k) Zk hM.row.slh))<|zlv (xlr (u:=(mv k)) pl_22 (hM.row.below hS.below)) ?_
  have mz:=d5 k hk0 Oa
  have hqd:=YU (a:=s.X k) (d:=s.den) (A:=1073741824) Oa Oa
  refine(On)<|zlt<|zsq<|zsq<|zdst [0,1,2,3,4] [0,1,2,3,4] 1000 mx_ hS ?_;clear hS;intro w hS
  refine(zDl 0 (fun w hS=>(xls 0 st_27 hS)))<|(zDw 1 xmv)<|zdc 2 (xc0 ZhI) (KD (p:=p) w (h.below hS.below) ((hM.p k Oa Oa).below hS.below)) ?_;rintro _ w ⟨rfl,hS'⟩
  replace hS:=hS.cmp hS';clear hS'
  refine⟨⟨fun _=>hS,hS⟩,?_⟩
  refine(zDw 3 YI)<|(zDw 4 xmv)<|zdb 55 ?_ ?_<;>intro hc
  ·
   refine(zDo 5)<|(zDo 6)<|(zDo 7)<|(zDo 8)<|(zDo 9)<|(zDo 10)<|(zDo 11)<|(zDo 12)<|(zDo 13)<|(zDw 14 xpt)<|zdd<|ztn<|zct<|zsr ?_
   refine(zP)<|zlt<|zrt<|ztr<|zbr<|ztr<|ztr<|zbr<|ztr<|Oj ?_
   refine⟨Zj ?_,hS.nl⟩
   rintro⟨g1,g2,g3,g4,g5⟩
   first
   |(rcases xQ with⟨q1,_⟩|⟨_,_,_,q4⟩;exact absurd g1 q1;omega)
   |omega
   |(have h9:=g4 k hk0 Oa;first|exact absurd h9.1 ‹_›|(have:=h9.2;omega))
   |(have h9:=g5 i hi0 Oa;have h8:=hf i hi0 Oa;rw [show k=u by omega] at h8;omega)
  refine(zDw 5 (xfb 0 fd_54_0))<|(zDl 6 (fun w hS=>(xlb 2 pl_22 hS)))<|(zDw 7 xmv)<|(zDw 8 (xix (kk:=k) Zb hX.slh))<|(zDl 9 (fun w hS=>(xlr (u:= .int Oi (s.X k)) pl_3 (hX.below hS.below))))<|(zDw 10 (xfb 3 fd_54_3))<|(zDl 11 (fun w hS=>(xlb 2 pl_3 hS)))<|(zDw 12 (Uk (r:=(Int.tdiv (s.X k) s.den))))<|(zDw 13 Yw)<|(zDw 14 xpf)<|zdd<|ztn ?_
  refine Zf ?_ ?_<;>intro hc
  ·
   refine zsr<|(zP)<|zlt<|zrt<|ztr<|zbr<|ztr<|ztr<|zbr<|ztr<|Oj ?_
   refine⟨Zj ?_,hS.nl⟩
   rintro⟨g1,g2,g3,g4,g5⟩
   first
   |(rcases xQ with⟨q1,_⟩|⟨_,_,_,q4⟩;exact absurd g1 q1;omega)
   |omega
   |(have h9:=g4 k hk0 Oa;first|exact absurd h9.1 ‹_›|(have:=h9.2;omega))
   |(have h9:=g5 i hi0 Oa;have h8:=hf i hi0 Oa;rw [show k=u by omega] at h8;omega)
  refine ZV<|zlv xmv ?_
  have hpk:Z6 p (ml k) (mf k):=by first|assumption|exact Od ‹_›
  have hrk:=VV hpk
  have hXk:=d5 k hk0 Oa
  refine(zV (xln Zb (hM.p k Oa Oa).slh))<|(zP)<|zx6<|zlp (fun mm M w=>∃(f2:Of) (j:Int),mm=((ml k-j).toNat)/\(0<=j)/\(j<=ml k)/\(∀q,0<=q->q<p.m->f2 q=(if q<j then ZH (k+1) mf s.X q else ZH k mf s.X q))/\M= [(2,Or g1),(5,Or g3),(8,v1),(9,.int Oi k),(44,vM),(45,.int Oi u),(46,.int Oi k),(66,(mv k)),(67,.int Oi (ml k)),(68,.int Oi j)]/\Sat w0 w [.blk g1 [vL,vD,.int Oi p.stock,.int Oi p.kerf],.blk g2 [vM,vX,vY,.int Oi s.val,.int Oi s.den],.blk g3 [vX,vY,.int Oi s.val,.int Oi s.den],.blk g4 [.int Oi zm,.int Oi cR],.own v1 1 3 p.m (ints f2)]) ⟨f,0,rfl,Oa,Oa,?_,rfl,hS⟩ ?_
  ·
   intro q q0 q1;rw [if_neg Oa];exact hf q q0 q1
  clear hS w
  rintro mm M w ⟨f2,j,rfl,hj0,hj1,hf2,rfl,hS⟩
  refine zsr<|(zP)<|zx7<|Zf ?_ ?_<;>intro hc
  ·
   refine zx3<|(zP)<|(zV (xix (kk:=j) Zb (hM.p k Oa Oa).slh))<|zlv (xlr (u:= .int Oi ((mf k) j)) pl_3 ((hM.p k Oa Oa).below hS.below)) ?_
   have hrj:=hrk.2 j hj0 Oa
   have hxj:=WR hrj.1 hrj.2 hXk.1 hXk.2
   have hmr:=Zfa (m:=p.m) (u:=k) (fun i i0 i1=>⟨(VV (qa i i0 i1).1).2,d5 i i0 Oa⟩) hk0 (Int.le_refl _) (j:=j) hj0 Oa
   have hfj:=hf2 j hj0 Oa
   rw [if_neg Oa] at hfj
   refine(On)<|zlt<|zdst [0,1,2,3,4] [0,1,2,3] 13 mx_ hS ?_;clear hS;intro w hS
   refine(zDw 0 xmv)<|(zDw 1 xmv)<|(zDw 2 (xix (kk:=j) Zb hv1))<|zdl 3 (fun w hS=>(xlr (u:= .int Oi (f2 j)) pl_3 (hS.rowN 4 rfl))) ?_
   refine(zDw 4 xmv)<|(zDw 5 (xfb 0 fd_54_0))<|(zDl 6 (fun w hS=>(xlb 2 pl_22 hS)))<|(zDw 7 xmv)<|(zDw 8 (xix (kk:=k) Zb hX.slh))<|(zDl 9 (fun w hS=>(xlr (u:= .int Oi (s.X k)) pl_3 (hX.below hS.below))))<|(zDw 10 (Yi (r:=(((mf k) j)*(s.X k))) (e:=rfl)))<|(zDw 11 (Zh (r:=f2 j+(((mf k) j)*(s.X k)))))<|(zDw 12 (xix (kk:=j) Zb hv1))<|zde 13 (xso 4 pl_3 hS (ZD _ _ _)) ?_;clear hS;rintro w hS
   refine⟨⟨fun h=>absurd h (by decide),hS.pk [0,1,2,3]⟩,?_⟩
   refine zdd<|zbn<|ztn<|zrg ?_
   refine(zV (Zh (r:=j+1)))<|(zP)<|zln<|zlq ⟨(upd f2 j (f2 j+(((mf k) j)*(s.X k)))),j+1,rfl,Oa,Oa,?_,rfl,hS⟩
   ·
    intro q q0 q1;unfold upd;by_cases e:q=j
    · rw [if_pos e,if_pos Oa,e,XL hk0];omega
    · rw [if_neg e,hf2 q q0 q1];by_cases e2:q<j
      · rw [if_pos e2,if_pos Oa]
      · rw [if_neg e2,if_neg Oa]
  refine zxt<|ztx<|ztx<|zbh<|zbn<|ztn<|zrg<|(zV (Zh (r:=k+1)))<|(zP)<|zln<|zlq ⟨f2,k+1,rfl,Oa,Oa,?_,?_,rfl,hS⟩
  ·
   intro i i0 i1;rcases Int.lt_or_eq_of_le (show i<=k by omega) with h9|h9
   · exact qa i i0 h9
   · rw [h9];exact⟨hpk,Oa⟩
  ·
   intro q q0 q1;rw [hf2 q q0 q1,if_pos Oa]
 refine zx18<|(zP)<|(zV (xln Zb hv1))<|(zP)<|zx6<|zlp (fun mm M w=>∃(i:Int),mm=((p.m-i).toNat)/\(0<=i)/\(i<=p.m)/\(∀j,0<=j->j<i->p.D j*s.den<=f j)/\M= [(2,Or g1),(5,Or g3),(88,v1),(89,.int Oi p.m),(90,.int Oi i)]/\Sat w0 w [.blk g1 [vL,vD,.int Oi p.stock,.int Oi p.kerf],.blk g2 [vM,vX,vY,.int Oi s.val,.int Oi s.den],.blk g3 [vX,vY,.int Oi s.val,.int Oi s.den],.blk g4 [.int Oi zm,.int Oi cR],.own v1 1 3 p.m (ints f)]) ⟨0,rfl,Oa,Oa,?_,rfl,hS⟩ ?_
 ·
  intro j j0 j1;omega
 clear hS w
 rintro mm M w ⟨i,rfl,hi0,hi1,hge,rfl,hS⟩
 refine zsr<|(zP)<|zx7<|Zf ?_ ?_<;>intro hc
 ·
  refine zx3<|(zP)<|(zV (xix (kk:=i) Zb hv1))<|zlv (xlr (u:= .int Oi (f i)) pl_3 (hS.rowN 4 rfl)) ?_
  have hdd:=Rc hok hi0 (by omega:i<p.m)
  have hdm:=WR hdd.1 hdd.2 (show 0<=s.den by omega) d2
  refine(On)<|zx7<|zdst [0,1,2,3,4] [0,1,2,3,4] 1000 mx_ hS ?_;clear hS;intro w hS
  refine(zDw 0 xmv)<|(zDw 1 (xfb 1 fd_27_1))<|(zDl 2 (fun w hS=>(xlb 0 pl_22 hS)))<|(zDw 3 xmv)<|(zDw 4 (xix (kk:=i) Zb h.D.slh))<|YF 5 (fun w hS=>(xlr (u:= .int Oi (p.D i)) pl_3 (h.D.below hS.below))) ?_
  have hbv:=h.iD i
  refine(zDw 6 (xfb 3 fd_54_3))<|(zDl 7 (fun w hS=>(xlb 2 pl_3 hS)))<|(zDw 8 (Yi (r:=((p.D i)*s.den)) (e:=rfl)))<|(zDw 9 Yc)<|zdd<|ztn ?_
  refine Zf ?_ ?_<;>intro hc
  ·
   refine zsr<|(zP)<|zx2<|Oj ?_
   refine⟨Zj ?_,hS.nl⟩
   rintro⟨g1,g2,g3,g4,g5⟩
   first
   |(rcases xQ with⟨q1,_⟩|⟨_,_,_,q4⟩;exact absurd g1 q1;omega)
   |omega
   |(have h9:=g4 k hk0 Oa;first|exact absurd h9.1 ‹_›|(have:=h9.2;omega))
   |(have h9:=g5 i hi0 Oa;have h8:=hf i hi0 Oa;rw [show k=u by omega] at h8;omega)
  refine zx4<|(zV (Zh (r:=i+1)))<|(zP)<|zln<|zlq ⟨i+1,rfl,Oa,Oa,?_,rfl,hS⟩
  ·
   intro j j0 j1;rcases Int.lt_or_eq_of_le (show j<=i by omega) with h9|h9
   · exact hge j j0 h9
   · rw [h9];omega
 refine zx8<|(zP)<|zx1<|Oj ?_
 exact⟨Yn ⟨hsd,Oa,Oa,fun k k0 k1=>qa k k0 Oa,fun j j0 j1=>by have h9:=hge j j0 Oa;have h8:=hf j j0 j1;rw [show k=u by omega] at h8;omega⟩,hS.nl⟩
 all_goals
  refine zOps ?_
  refine zlt<|zct<|zsr ?_
  refine zOps ?_
  refine zx14<|Oj ?_
  refine⟨Zj ?_,hS.nl⟩
  rintro⟨g1,g2,g3,g4,g5⟩
  first
  |(rcases xQ with⟨q1,_⟩|⟨_,_,_,q4⟩;exact absurd g1 q1;omega)
  |omega
  |(have h9:=g4 k hk0 Oa;first|exact absurd h9.1 ‹_›|(have:=h9.2;omega))
  |(have h9:=g5 i hi0 Oa;have h8:=hf i hi0 Oa;rw [show k=u by omega] at h8;omega)
theorem Znl:Zd Om 149=true:=Oc
theorem Znk:Zd Om 150=true:=Oc
theorem Zg1 (s:So) (ml:Of) (mf:Og):∀n:Nat,∀k,0<=k->k<flN s n->∃q:Nat,q<n/\s.den<=s.X q/\flL s ml n k=ml q/\flG s mf n k=mf q/\flC s n k=(s.X q).tdiv s.den
 |0,k,k0,k1=>by simp [flN] at k1;omega
 | n + 1,k,k0,k1=>by
   simp only [flN,flL,flG,flC] at k1⊢
   by_cases h:s.den<=s.X n
   · rw [if_pos h] at k1⊢
     rw [if_pos h,if_pos h]
     by_cases e:k<flN s n
     · obtain⟨q,h1,h2,h3,h4,h5⟩:=Zg1 s ml mf n k k0 e
       exact⟨q,Oa,h2,by rw [Zq e];exact h3,by rw [Zq e];exact h4,by rw [Zs e];exact h5⟩
     · exact⟨n,Oa,h,ZB e,ZB e,Zt e⟩
   · rw [if_neg h] at k1⊢
     rw [if_neg h,if_neg h]
     obtain⟨q,h1,h2,h3,h4,h5⟩:=Zg1 s ml mf n k k0 k1
     exact⟨q,Oa,h2,h3,h4,h5⟩
def WholeR(p:Prob)(u:Int)(ml:Of)(mf:Og)(s:So)(n:Int)(ln:Of)(pt:Og)(cnt:Of)(e:Int):Prop:=
  (¬(p.Ok/\ZfO p u ml mf s)/\n=0/\e=1)\/(p.Ok/\ZfO p u ml mf s/\ZiN p e/\e≠0/\n=0)\/
  (p.Ok/\ZfO p u ml mf s/\ZiN p 0/\e=0/\n=flN s u.toNat/\ln=flL s ml u.toNat/\pt=flG s mf u.toNat/\cnt=flC s u.toNat)
theorem WholeR.ok{p:Prob}{u n:Int}{ml ln cnt:Of}{mf pt:Og}{s:So}{e:Int}(h:WholeR p u ml mf s n ln pt cnt e)(he:e=0)(hu:0<=u):p.Ok/\ZfO p u ml mf s/\psum (fun _=>1) p.D p.m.toNat<=1000/\n<=60/\PlanOk p n ln pt cnt/\0<=n:=by
 rcases h with⟨_,_,h⟩|⟨_,_,_,h,_⟩|⟨h1,h2,h3,_,h4,h5,h6,h7⟩
 · omega
 · exact absurd he h
 · have hr:=Zaz s u.toNat
   have hu6:=h2.2.2.1
   refine⟨h1,h2,?_,Oa,⟨h1,Oa,fun k k0 k1=> ?_⟩,Oa⟩
   · rcases h3 with⟨h,_⟩|⟨_,_,h⟩|⟨_,h,_⟩
     · exact absurd h1 h
     · omega
     · exact h
   · rw [h4] at k1
     obtain⟨q,q1,q2,q3,q4,q5⟩:=Zg1 s ml mf u.toNat k k0 k1
     rw [h5,h6,h7,q3,q4,q5]
     obtain⟨g1,g2⟩:=h2.2.2.2.1 q Oa Oa
     have hd:=h2.1.1
     refine⟨?_,g2,g1.1⟩
     rw [Int.tdiv_eq_ediv_of_nonneg Oa]
     exact(Int.le_ediv_iff_mul_le Oa).2 Oa
theorem ZgH{p:Prob}(hok:p.Ok){f:Of}(hf:∀k,0<=k->k<p.m->0<=f k):(⟨p.m,p.L,p.d,Yz p f,p.stock,p.kerf⟩:Prob).Ok:=by
 refine⟨hok.m1,hok.m2,hok.d,hok.s1,hok.s2,hok.k1,hok.k2,fun i i0 i1=> ?_⟩
 have he:=hok.all i i0 i1
 have h1:=Rc hok i0 i1
 have h2:=hf i i0 i1
 unfold Prob.each at he⊢
 have e:Yz p f i=max 0 (p.D i-f i):=if_pos ⟨i0,i1⟩
 show _/\_
 dsimp only
 rw [e]
 omega
theorem UA{p:Prob}(hok:p.Ok){f:Of}(hf:∀k,0<=k->k<p.m->0<=f k):∀n:Nat,(n:Int)<=p.m->psum (fun _=>1) (Yz p f) n<=psum (fun _=>1) p.D n
 |0,_=>Int.le_refl _
 | n+1,hn=>by
   have h1:=UA hok hf n Oa
   have h2:=hf n Oa Oa
   have h3:=Rc hok (k:=(n:Int)) Oa Oa
   have e:Yz p f n=max 0 (p.D n-f n):=if_pos ⟨by omega,Oa⟩
   simp only [psum,e]
   omega
theorem ZeA{vL vD:Value}{p:Prob}{vM:Value}{u:Int}{mv:Int->Value}{ml:Of}{mf:Og}{vX vY:Value}{s:So}(w0:World)(h:PAt w0 vL vD p)(hM:MAt w0 vM u mv ml mf)(hX:Row w0 vX 1 s.n (ints s.X))(hY:Row w0 vY 1 s.m (ints s.Y))(xA:s.n<=1000):
   Calls Om 77 [.agg #[vL,vD,.int Oi p.stock,.int Oi p.kerf],.agg #[vM,vX,vY,.int Oi s.val,.int Oi s.den]].toArray w0 fun e w=>∃v,e= .returned v/\∃r n pv ln pt cnt e,v= .tuple #[r,.int Oi e]/\WholeR p u ml mf s n ln pt cnt e/\Slh r n/\Sat w0 w [.own r 2 97 n (Ze pv cnt),.sem (Frame.rows 3 n pv ln pt)]:=by
 obtain⟨hm,hm1,hd,hd1,hs,hk⟩:=h.Oq
 have hu:=hM.row.slh.n0;have hu1:=hM.row.slh.n1;have hn:=hX.slh.n0;have hn1:=hX.slh.n1
 refine zenG Tryz.func77 Tryz.ntmps77 fun w hS=> ?_
 refine zsr<|zla (xbx (cs:= [_,_,_,_]) hS) ?_;rintro _ w ⟨g1,rfl,hS⟩
 refine zla (xbx (cs:= [_,_,_,_,_]) hS) ?_;rintro _ w ⟨g2,rfl,hS⟩
 refine(On)<|zx5<|(zV (xls 0 st_27 hS))<|zlc (xc0 XP) (Ya (p:=p) w (h.below hS.below)) ?_;rintro _ w ⟨rfl,hS'⟩
 replace hS:=hS.cmp hS';clear hS'
 refine(On)<|zlb 12 ?_ ?_<;>intro hc
 ·
  iterate 4 refine zlo ?_
  refine(zP)<|zlt<|zct<|zsr ?_
  refine(On)<|zx14<|zf2 ⟨_,rfl,?_⟩
  exact⟨_,0,fun _=>undef,fun _=>0,fun _ _=>0,fun _=>0,1,rfl,.inl ⟨by first|exact fun hh=>absurd hh.1 ‹¬p.Ok›|exact fun hh=>absurd hh.2 ‹_›,rfl,rfl⟩,slh_nil,((hS.sub (.cons _ (.cons _ .slnil))).addnil 2 97 (Ze (fun _=>undef) (fun _=>0))).addrows 3 (fun _=>undef) (fun _=>0) (fun _ _=>0)⟩
 refine(zV (xls 0 st_27 hS))<|(zV (xls 1 XH hS))<|zlc (xc0 Znl) (ZfF (p:=p) (u:=u) (ml:=ml) (mf:=mf) (s:=s) w (h.below hS.below) Oe (hM.below hS.below) (hX.below hS.below) (hY.below hS.below) xA) ?_;rintro _ w ⟨rfl,hS'⟩
 replace hS:=hS.cmp hS';clear hS'
 refine(On)<|zlt<|Zf ?_ ?_<;>intro hc
 ·
  refine zsr<|(On)<|zx14<|zf2 ⟨_,rfl,?_⟩
  exact⟨_,0,fun _=>undef,fun _=>0,fun _ _=>0,fun _=>0,1,rfl,.inl ⟨by first|exact fun hh=>absurd hh.1 ‹¬p.Ok›|exact fun hh=>absurd hh.2 ‹_›,rfl,rfl⟩,slh_nil,((hS.sub (.cons _ (.cons _ .slnil))).addnil 2 97 (Ze (fun _=>undef) (fun _=>0))).addrows 3 (fun _=>undef) (fun _=>0) (fun _ _=>0)⟩
 refine zsk<|ztn<|zsq<|zsr<|(zV (xls 0 st_27 hS))<|zlc (xc0 ZkY) (ZeF (p:=p) w (h.below hS.below)) ?_;rintro _ w ⟨dP,rfl,ap,hS'⟩
 replace hS:=hS.cmp hS';clear hS'
 have xc:p.Ok:=by first|assumption|exact Od ‹_›
 have xl:ZfO p u ml mf s:=by first|assumption|exact Od ‹_›
 have xT:=xc
 refine(zP)<|zlz<|(On)<|zlt<|Zf ?_ ?_<;>intro hc
 ·
  refine zsr<|(Oo)<|zx14<|zf2 ⟨_,rfl,?_⟩
  exact⟨_,0,fun _=>undef,fun _=>0,fun _ _=>0,fun _=>0,_,rfl,.inr (.inl ⟨xc,xl,ap,Oa,rfl⟩),slh_nil,((hS.sub (.cons _ (.cons _ .slnil))).addnil 2 97 (Ze (fun _=>undef) (fun _=>0))).addrows 3 (fun _=>undef) (fun _=>0) (fun _ _=>0)⟩
 refine ZV<|zlv (xfb 0 Tk) ?_
 have hml:=fun k k0 k1=>(show ml k<=100000 by have:=(VV (xl.2.2.2.1 k k0 k1).1).1;have:=xc.m2;omega)
 have hun:=xl.2.1
 refine(zV (xlb 1 ZM hS))<|(zV (xfb 1 fd_56_1))<|(zV (xlp 1 (ds:= [vX,vY,.int Oi s.val,.int Oi s.den]) ZT hS))<|zlc (xc0 Znk) (ZfE (u:=u) (ml:=ml) (mf:=mf) (s:=s) w (hM.below hS.below) (hX.below hS.below) (hY.below hS.below) Oa (fun k k0 k1=>by have:=hml k k0 k1;omega)) ?_;rintro _ w ⟨jZ,fT,kD,kE,kF,kH,kG,rfl,dI,c8,hS'⟩
 replace hS:=(hS.comp hS').n4;clear hS'
 have jr:=fun k (k0:0<=k) (k1:k<fT)=>hS.slhIn 3 rfl k0 k1
 refine zs5 ?_
 refine zlz<|(Oo)<|zx1<|zf2 ⟨_,rfl,?_⟩
 have hfl:=dI.resolve_left fun hh=>hh.1 ⟨xl.1,xl.2.1.symm⟩
 exact⟨_,_,_,_,_,_,0,rfl,.inr (.inr ⟨xc,xl,(by rw [show(0:Int)=dP by omega];exact ap),rfl,hfl.2.2.1,hfl.2.2.2.1,hfl.2.2.2.2.1,hfl.2.2.2.2.2.1⟩),c8,hS.pk [2,3]⟩
theorem ZkW:Zd Om 77=true:=Oc
theorem ZkV:Zd Om 78=true:=Oc
theorem Zpa:Zd Om 79=true:=Oc
theorem ZkU:Zd Om 80=true:=Oc
theorem Zox{w:World}{v a b:Value}(h:Row w v 1 2 (fun k=> [a,b].getD k.toNat undef)):Row w v 1 2 (ZX a b):=⟨h.1,fun k hk=>by
 have:=h.2 k hk
 rcases k with _|_|k
 · exact this
 · exact this
 · simp at hk;omega⟩
theorem VAt.cat{w:World}{v v1 v2:Value}{n1 n2:Int}{pv1 pv2:Int->Value}{ln1 ln2 c1 c2:Of}{pt1 pt2:Og}(hr:Row w v 2 (n1+n2) (Ze (cat n1 pv1 pv2) (cat n1 c1 c2)))(h1:VAt w v1 n1 pv1 ln1 pt1 c1)(h2:VAt w v2 n2 pv2 ln2 pt2 c2)(n10:0<=n1):VAt w v (n1+n2) (cat n1 pv1 pv2) (cat n1 ln1 ln2) (cat n1 pt1 pt2) (cat n1 c1 c2):=by
 refine⟨hr,fun i i0 i1=> ?_,fun i i0 i1=> ?_⟩
 · unfold Gw.cat
   by_cases h:i<n1
   · rw [if_pos h,if_pos h,if_pos h];exact h1.p i i0 h
   · rw [if_neg h,if_neg h,if_neg h];exact h2.p (i-n1) Oa Oa
 · unfold Gw.cat
   by_cases h:i<n1
   · rw [if_pos h];exact h1.room i i0 h
   · rw [if_neg h];exact h2.room (i-n1) Oa Oa
theorem Zpt(n m:Int)(p q:Int->Value){k:Int}(k0:0<=k)(k1:k<n+m):Za1 (ZX n m) (ZX p q) 2 k=cat n p q k:=by
 simp only [Za1,tot,ZX,Gw.cat]
 by_cases h:k<n
 · simp [h];omega
 · simp [h]
theorem KA(n m:Int)(p q:Of){k:Int}(k0:0<=k)(k1:k<n+m):Vq (ZX n m) (ZX p q) 2 k=cat n p q k:=by
 simp only [Vq,tot,ZX,Gw.cat]
 by_cases h:k<n
 · simp [h];omega
 · simp [h]
def DownR(p:Prob)(u:Int)(ml:Of)(mf:Og)(s:So)(out:Us)(e:Int):Prop:=
  (e≠0/\out= []/\∃n ln pt cnt,WholeR p u ml mf s n ln pt cnt e)\/(∃n1 ln1 pt1 y3 n2 ln2 pt2 qf,WholeR p u ml mf s n1 ln1 pt1 y3 0/\0<=n1/\0<=n2/\NormR (Rx (YR p.m (p.stock+p.kerf) (szP p) (pcsTo (Yz p (ZH n1 pt1 y3)) p.m 0))) (plL n2 ln2 pt2 qf)/\TrimR p (n1+n2) (cat n1 ln1 ln2) (cat n1 pt1 pt2) (cat n1 y3 qf) out e)
theorem Zn1{vL vD:Value}{p:Prob}{vM:Value}{u:Int}{mv:Int->Value}{ml:Of}{mf:Og}{vX vY:Value}{s:So}(w0:World)(h:PAt w0 vL vD p)(hM:MAt w0 vM u mv ml mf)(hX:Row w0 vX 1 s.n (ints s.X))(hY:Row w0 vY 1 s.m (ints s.Y))(xA:s.n<=1000):
   Calls Om 38 [.agg #[vL,vD,.int Oi p.stock,.int Oi p.kerf],.agg #[vM,vX,vY,.int Oi s.val,.int Oi s.den]].toArray w0 fun e w=>∃v,e= .returned v/\∃r n pv ln pt cnt e,v= .tuple #[r,.int Oi e]/\DownR p u ml mf s (plL n ln pt cnt) e/\(∀k,0<=k->k<n->1<=cnt k/\cnt k<=1000000000)/\n<=1000000/\Slh r n/\Sat w0 w [.own r 2 97 n (Ze pv cnt),.sem (Frame.rows 3 n pv ln pt)]:=by
 obtain⟨hm,hm1,hd,hd1,hs,hk⟩:=h.Oq
 have hu:=hM.row.slh.n0;have hu1:=hM.row.slh.n1;have hn:=hX.slh.n0;have hn1:=hX.slh.n1
 refine zenG Tryz.func38 Tryz.ntmps38 fun w hS=> ?_
 refine zsr<|zla (xbx (cs:= [_,_,_,_]) hS) ?_;rintro _ w ⟨g1,rfl,hS⟩
 refine zla (xbx (cs:= [_,_,_,_,_]) hS) ?_;rintro _ w ⟨g2,rfl,hS⟩
 refine(On)<|zlz<|(zV (xls 0 st_27 hS))<|(zV (xls 1 XH hS))<|zlc (xc0 ZkW) (ZeA (p:=p) (u:=u) (ml:=ml) (mf:=mf) (s:=s) w (h.below hS.below) (hM.below hS.below) (hX.below hS.below) (hY.below hS.below) xA) ?_;rintro _ w ⟨q9,qd,qG,xk,qT,qI,bC,rfl,xw,zp,hS'⟩
 replace hS:=(hS.comp hS').n4;clear hS'
 have aW:=fun k (k0:0<=k) (k1:k<qd)=>hS.slhIn 3 rfl k0 k1
 refine zs5 ?_
 refine zx5<|(On)<|zlt<|Zf ?_ ?_<;>intro hc
 ·
  refine zsr<|(Oo)<|zx14<|zf2 ⟨_,rfl,?_⟩
  exact⟨_,0,fun _=>undef,fun _=>0,fun _ _=>0,fun _=>0,_,rfl,.inl ⟨by omega,rfl,_,_,_,_,xw⟩,fun k k0 k1=>Oa,Oa,slh_nil,((hS.sub (.cons _ (.cons _ (.cons _ (.cons _ .slnil))))).addnil 2 97 (Ze (fun _=>undef) (fun _=>0))).addrows 3 (fun _=>undef) (fun _=>0) (fun _ _=>0)⟩
 refine ZV<|zlv (xls 0 st_27 hS) ?_
 obtain⟨xc,xl,aS,fj,ba,bf⟩:=xw.ok Oa hu
 have xT:=xc
 refine(zP)<|zlc (xc0 Zev) (Tp (u:=qd) (pv:=qG) (ln:=xk) (pt:=qT) (cnt:=qI) (p:=p) w (⟨(hS.rowN 2 rfl),fun k k0 k1=>hS.rowIn 3 rfl k0 k1,fun k k0 k1=>hS.roomIn 3 rfl k0 k1⟩:VAt _ q9 qd qG xk qT qI) (h.below hS.below)) ?_;rintro _ w ⟨qD,ql,qe,zg,rfl,qY,qB,hS'⟩
 replace hS:=(hS.comp hS').n5;clear hS'
 obtain⟨bN,zG⟩:ql=p.m/\qe=ZH qd qT qI:=by rcases qY with⟨g1,_⟩|⟨_,g2,g3,_⟩;exact absurd ba g1;exact⟨g2,g3⟩
 have bp:∀k,0<=k->k<p.m->0<=qe k/\qe k<=2000000000:=fun k k0 k1=>by rw [zG];have h9:=We ba.2.2 bf (Int.le_refl _) k0 k1;omega
 have ao:=fun k (k0:0<=k) (k1:k<p.m)=>(bp k k0 k1).1
 have htl:=UA xc ao p.m.toNat (by have:=xc.m1;omega)
 refine zs5 ?_
 refine zx7<|zdst [0,1,2,3,4] [0,1,2,3,4] 1000 mx_ hS ?_;clear hS;intro w hS
 refine(zDl 0 (fun w hS=>(xls 0 st_27 hS)))<|(zDw 1 xmv)<|(zDl 2 (fun w hS=>(xls 0 st_27 hS)))<|(zDw 3 xmv)<|zdc 4 (xc0 ZkU) (Zif (p:=p) (f:=qe) w (h.below hS.below) xc (bN▸(hS.rowN 4 rfl)) bp) ?_;rintro _ w ⟨xr,xj,rfl,yi,yM,hS'⟩
 replace hS:=(hS.comp hS').n7;clear hS'
 refine⟨⟨fun _=>hS.pk [0,1,2,3,4],hS.pk [0,1,2,3,4]⟩,?_⟩
 refine zdc 5 (xc0 ZkX) (Rl (p:=(⟨p.m,p.L,p.d,(Yz p qe),p.stock,p.kerf⟩:Prob)) w (⟨(hS.rowN 5 rfl),(hS.rowN 6 rfl),h.iL,(Zfd xc ao),(by(try dsimp only);omega),(by(try dsimp only);omega)⟩:PAt _ _ _ (⟨p.m,p.L,p.d,(Yz p qe),p.stock,p.kerf⟩:Prob)) (ZgH xc ao) (by show psum (fun _=>1) (Yz p _) p.m.toNat<=1000;omega)) ?_;rintro xH w ⟨_,qH,xu,x9,yb,xD,rfl,xq,xt,yH,x5,xM,hS'⟩
 replace hS:=(hS.comp hS').n9;clear hS'
 have yq:=fun k (k0:0<=k) (k1:k<qH)=>hS.slhIn 8 rfl k0 k1
 refine⟨⟨fun _=>hS.pk [0,1,2,3,4],hS.pk [0,1,2,3,4]⟩,?_⟩
 refine zda 6 (xli (n:=2) (len:=2) (pv:= [(0,q9),(1,xH)]) (cs:= [q9,xH]) (c:=fun k=>([(q9:Value),(xH:Value)]).getD k.toNat undef) TE ZkT hS (hf:=by obtain⟨_,_,_,_,rfl,_⟩:=zp;obtain⟨_,_,_,_,rfl,_⟩:=xM;kernel_rfl)) ?_;rintro v1 w ⟨hS,hv1⟩
 refine⟨⟨fun _=>hS.pk [0,1,2,3,4],hS.pk [0,1,2,3,4]⟩,?_⟩
 have hna:=ZpY (w:=w) (n:=qd) (m:=qH) (pa:=qG) (pb:=xu) (ca:=qI) (cb:=xD) (Zox (hS.rowN 9 rfl)) (hS.rowN 2 rfl) (hS.rowN 7 rfl) (fun k k0 k1=>(aW k k0 k1).one) (fun k k0 k1=>(yq k k0 k1).one)
 have htt:∀k:Int,0<=k->k<=2->tot (ZX qd qH) k.toNat<=10000000:=fun k k0 k1=>by
   have:k=0\/k=1\/k=2:=Oa
   rcases this with rfl|rfl|rfl
   · simp [tot]
   · simp [tot,ZX];omega
   · have e2:=ZiS qd qH;rw [show(2:Int).toNat=2 from rfl,e2];omega
 refine zdc 7 (xc0 Zpa) (ZfI w hna htt) ?_;rintro vq1 w ⟨_,rfl,qb,hS'⟩
 rw [show(2:Int).toNat=2 from rfl,ZiS] at qb hS'
 replace hS':=hS'.recont 0 rfl (d:=Ze (cat qd qG xu) (cat qd qI xD)) (fun k k0 k1=>by unfold Ze;rw [Zpt _ _ _ _ Oa Oa,KA _ _ _ _ Oa Oa])
 replace hS:Sat w0 w [.blk g1 [vL,vD,.int Oi p.stock,.int Oi p.kerf],.blk g2 [vM,vX,vY,.int Oi s.val,.int Oi s.den],.own q9 2 97 qd (Ze qG qI),.sem (Frame.rows 3 qd qG xk qT),.own qD 1 3 ql (ints qe),.own xr 1 3 p.m (ints p.L),.own xj 1 3 p.d (ints (Yz p qe)),.own xH 2 97 qH (Ze xu xD),.sem (Frame.rows 3 qH xu x9 yb),.own v1 1 29 2 (fun k=>([(q9:Value),(xH:Value)]).getD k.toNat undef),.own vq1 2 97 (qd+qH) (Ze (cat qd qG xu) (cat qd qI xD))]:=hS.comp hS'
 clear hS'
 refine⟨⟨fun _=>hS.pk [0,1,2,3,4],hS.pk [0,1,2,3,4]⟩,?_⟩
 refine zdc 8 (xc0 ZkV) (ZhW (u:=(qd+qH)) (pv:=(cat qd qG xu)) (ln:=(cat qd xk x9)) (pt:=(cat qd qT yb)) (cnt:=(cat qd qI xD)) (p:=p) w (VAt.cat (hS.rowN 10 rfl) (⟨(hS.rowN 2 rfl),fun k k0 k1=>hS.rowIn 3 rfl k0 k1,fun k k0 k1=>hS.roomIn 3 rfl k0 k1⟩:VAt _ q9 qd qG xk qT qI) (⟨(hS.rowN 7 rfl),fun k k0 k1=>hS.rowIn 8 rfl k0 k1,fun k k0 k1=>hS.roomIn 8 rfl k0 k1⟩:VAt _ xH qH xu x9 yb xD) Oa) (h.below hS.below)) ?_;rintro _ w ⟨dS,aE,eu,eE,fR,f9,fZ,rfl,zu,zx,zw,zq,hS'⟩
 replace hS:=(hS.comp hS').n13;clear hS'
 have dt:=fun k (k0:0<=k) (k1:k<aE)=>hS.slhIn 12 rfl k0 k1
 refine⟨⟨fun _=>hS.pk [0,1,2,3,4],hS.pk [0,1,2,3,4]⟩,?_⟩
 refine(zDw 9 xex)<|(zDw 10 xex)<|(zDw 11 xas)<|(zDw 12 xas)<|zdd<|ztn<|zrt<|zf2 ⟨_,rfl,?_⟩
 exact⟨_,_,_,_,_,_,_,rfl,.inr ⟨_,_,_,_,_,_,_,_,(by rw [show(0:Int)=bC by omega];exact xw),bf,xt,(by rw [<-zG];exact xq),zu⟩,zx,zw,zq,hS.pk [11,12]⟩
variable {a b nm:Int} {gs:Nat} {vd:Value}
theorem Zng:Zd Om 154=true:=Oc
theorem ZhH:Zd Om 227=true:=Oc
theorem ZaX:Zd Om 228=true:=Oc
theorem ZmD:Zd Om 283=true:=Oc
theorem Zdw:Zd Om 309=true:=Oc
theorem Zet:Zd Om 82=true:=Oc
theorem ZdF{n:Int}{s:Of}{F:Gw.Frame}{m:Int}(w0 w:World)(hS:Sat w0 w [.own vd 1 3 n (ints s),.sem F])(hsl:Slh vd n)(hn8:n<=100000000)(a0:0<=a)(m0:0<=m)(ab:a+m<=b)(bn:b+m<=n):
   Calls Om 309 [vd,.int Oi a,.int Oi b,.int Oi m,.func (.func 82) #[] #[(Or gs)]].toArray w fun e w=>∃v,e= .returned v/\v= .tuple #[]/\Sat w0 w [.own vd 1 3 n (ints (swr s a b m)),.sem F]:=by
 refine zenF Tryz.func309 Tryz.ntmps309 ?_
 refine zsr<|(zP)<|zx6<|zlp (fun mm M w=>∃(t:Of) (i:Int),mm=((m-i).toNat)/\(0<=i)/\(i<=m)/\(t=swr s a b i)/\M= [(0,vd),(1,.int Oi a),(2,.int Oi b),(3,.int Oi m),(10,.int Oi i)]/\Sat w0 w [.own vd 1 3 n (ints t),.sem F]) ⟨s,0,rfl,Oa,Oa,?_,rfl,hS⟩ ?_
 ·
  exact(Zbs s a b).symm
 clear hS w
 rintro mm M w ⟨t,i,rfl,i0,i1,ht,rfl,hS⟩
 refine zsq<|zsr<|(Oo)<|zlt<|Zf ?_ ?_<;>intro hc
 ·
  refine zsk<|ztn<|zsq<|zbk<|zdst [0,1] [1] 21 mx_ hS ?_;clear hS;intro w hS
  refine(zDw 0 xmv)<|(zDw 1 xmv)<|(zDw 2 xmv)<|(zDw 3 (Zh (r:=a+i)))<|(zDw 4 xmv)<|(zDw 5 xmv)<|(zDw 6 xmv)<|(zDw 7 (Zh (r:=b+i)))<|(zDw 8 xmv)<|(zDw 9 xmv)<|(zDw 10 xmv)<|(zDw 11 (Zh (r:=b+i)))<|(zDw 12 (xix (kk:=b+i) Zb hsl))<|zdl 13 (fun w hS=>(xlr (u:= .int Oi (t (b+i))) pl_3 (hS.rowN 0 rfl))) ?_
  refine(zDw 14 xmv)<|(zDw 15 xmv)<|(zDw 16 xmv)<|(zDw 17 (Zh (r:=a+i)))<|(zDw 18 (xix (kk:=a+i) Zb hsl))<|zdl 19 (fun w hS=>(xlr (u:= .int Oi (t (a+i))) pl_3 (hS.rowN 0 rfl))) ?_
  refine(zDw 20 (xix (kk:=a+i) Zb hsl))<|zde 21 (xso 0 pl_3 hS rfl) ?_;clear hS;rintro w hS
  refine⟨⟨fun h=>absurd h (by decide),hS.pk [1]⟩,?_⟩
  refine(zDw 22 (xix (kk:=b+i) Zb hsl))<|zde 23 (xso 0 pl_3 hS (V4 t (a+i) (b+i))) ?_;clear hS;rintro w hS
  refine⟨⟨fun h=>absurd h (by decide),hS.pk [1]⟩,?_⟩
  refine zdd<|zbn<|ztn<|zrg ?_
  refine(zP)<|(zV (Zh (r:=i+1)))<|(zP)<|zln<|zlq ⟨swp t (a+i) (b+i),i+1,rfl,Oa,Oa,?_,rfl,hS⟩
  ·
   rw [ht];exact Zbt i0 Oa Oa Oa
 refine zxt<|ztx<|ztx<|zbh<|XD ⟨_,rfl,?_⟩
 obtain rfl:i=m:=Oa
 subst ht
 exact⟨rfl,hS⟩
theorem ZnD{n:Int}{s:Of}{F:Gw.Frame}{m:Int}(w0 w:World)(hS:Sat w0 w [.own vd 1 3 n (ints s),.sem F])(hsl:Slh vd n)(hn8:n<=100000000)(a0:0<=a)(am:a<m)(mb:m<b)(bn:b<=n):
   Calls Om 283 [vd,.int Oi a,.int Oi m,.int Oi b,.func (.func 82) #[] #[(Or gs)]].toArray w fun e w=>∃v,e= .returned v/\v= .tuple #[]/\Sat w0 w [.own vd 1 3 n (ints (rot s a m b)),.sem F]:=by
 refine zenF Tryz.func283 Tryz.ntmps283 ?_
 refine zsr<|(On)<|(zV (Zp (r:=m-a)))<|(zP)<|zlz<|(On)<|(zV (Zp (r:=b-m)))<|(zP)<|zlt<|zsq<|zbk<|zlp (fun mm M w=>∃(t:Of) (i:Int) (j:Int),mm=((i+j).toNat)/\(1<=i)/\(1<=j)/\(a<=m-i)/\(m+j<=b)/\(rot t (m-i) m (m+j)=rot s a m b)/\M= [(0,vd),(2,.int Oi m),(4,.func (.func 82) #[] #[(Or gs)]),(10,.int Oi i),(11,.int Oi j)]/\Sat w0 w [.own vd 1 3 n (ints t),.sem F]) ⟨s,m-a,b-m,rfl,Oa,Oa,Oa,Oa,?_,rfl,hS⟩ ?_
 ·
  rw [show m-(m-a)=a by omega,show m+(b-m)=b by omega]
 clear hS w
 rintro mm M w ⟨t,i,j,rfl,i0,j0,ia,jb,hr,rfl,hS⟩
 refine zsq<|zsr<|(Oo)<|zlt<|Zf ?_ ?_<;>intro hc
 ·
  refine zsk<|ztn<|zbk<|zsr<|(Oo)<|zlt<|Zf ?_ ?_<;>intro hc
  ·
   refine zsr<|(Oo)<|(zV (Zp (r:=m-i)))<|(Oo)<|zlc (xc0 Zdw) (ZdF (s:=t) (a:=m-i) (b:=m) (m:=j) w0 w hS hsl hn8 Oa Oa Oa Oa) ?_;rintro _ w ⟨rfl,hS⟩
   refine zlt<|zrg<|(On)<|(zV (Zp (r:=i-j)))<|(zP)<|zln<|zbn<|zlq ⟨(swr t (m-i) m j),i-j,j,rfl,Oa,Oa,Oa,Oa,?_,rfl,hS⟩
   ·
    first|(rw [<-hr,show m-(i-j)=m-i+j by omega];exact VT Oa Oa)|(rw [<-hr,show m+(j-i)=m+j-i by omega];exact W9 Oa Oa)
  refine zsr<|(Oo)<|(zV (Zp (r:=m-i)))<|(On)<|(zV (Zh (r:=m+j)))<|(zP)<|(zV (Zp (r:=m+j-i)))<|(On)<|zlc (xc0 Zdw) (ZdF (s:=t) (a:=m-i) (b:=m+j-i) (m:=i) w0 w hS hsl hn8 Oa Oa Oa Oa) ?_;rintro _ w ⟨rfl,hS⟩
  refine zlt<|zrg<|(On)<|(zV (Zp (r:=j-i)))<|(zP)<|zln<|zbn<|zlq ⟨(swr t (m-i) (m+j-i) i),i,j-i,rfl,Oa,Oa,Oa,Oa,?_,rfl,hS⟩
  ·
   first|(rw [<-hr,show m-(i-j)=m-i+j by omega];exact VT Oa Oa)|(rw [<-hr,show m+(j-i)=m+j-i by omega];exact W9 Oa Oa)
 refine zxt<|ztx<|ztx<|zbh<|ztn<|zrg<|(Oo)<|(zV (Zp (r:=m-i)))<|(Oo)<|zlc (xc0 Zdw) (ZdF (s:=t) (a:=m-i) (b:=m) (m:=i) w0 w hS hsl hn8 Oa Oa Oa Oa) ?_;rintro _ w ⟨rfl,hS⟩
 refine zln<|XD ⟨_,rfl,?_⟩
 have hz:(swr t (m-i) m i)=rot s a m b:=by
   rw [<-hr,show j=i by omega];exact ZbH Oa
 rw [hz] at hS
 exact⟨rfl,hS⟩
theorem Zim {n:Int} {s:Of} {lt:Int->Int->Prop} {F:Gw.Frame} (w0 w:World) (hS:Sat w0 w [.own vd 1 3 n (ints s),.sem F]) (hsl:Slh vd n) (hn8:n<=100000000) (qx:∀(w:World) (x y:Int),0<=x->x<nm->0<=y->y<nm->Below w0.heap.size w0 w->F.holds w->Calls Om 82 [.int Oi x,.int Oi y,(Or gs)].toArray w fun e w'=>∃v,e= .returned v/\∃c:Int,v= .int Oi c/\(c<0↔lt x y)/\Sat w w' []) (hd:∀k,0<=k->k<n->0<=s k/\s k<nm) (hw:Swo lt) (a0:0<=a) (ab:a<=b) (bn:b<=n) (qQ:U9 a b s):
   Calls Om 227 [vd,.int Oi a,.int Oi b,.func (.func 82) #[] #[(Or gs)]].toArray w fun e w=>∃v,e= .returned v/\v= .tuple #[]/\∃t:Of,PermOn a b s t/\Srt (Tie lt) a b t/\Sat w0 w [.own vd 1 3 n (ints t),.sem F]:=by
 refine zenF Tryz.func227 Tryz.ntmps227 ?_
 refine zsr<|(zP)<|(zV (Zh (r:=a+1)))<|(zP)<|zx6<|zlp (fun mm M w=>∃(t:Of) (i:Int),mm=((b-i).toNat)/\(a+1<=i)/\(i<=b\/i=a+1)/\(PermOn a i s t)/\(Srt (Tie lt) a i t)/\(∀k,0<=k->k<n->0<=t k/\t k<nm)/\M= [(0,vd),(1,.int Oi a),(2,.int Oi b),(3,.func (.func 82) #[] #[(Or gs)]),(8,.int Oi i)]/\Sat w0 w [.own vd 1 3 n (ints t),.sem F]) ⟨s,a+1,rfl,Oa,Oa,?_,?_,?_,rfl,hS⟩ ?_
 ·
  exact .refl _ _ _
 ·
  intro p q p0 pq q1;omega
 ·
  exact hd
 clear hS w
 rintro mm M w ⟨t,i,rfl,i0,i1,hp,hs,hd1,rfl,hS⟩
 refine zsq<|zsr<|(Oo)<|zlt<|Zf ?_ ?_<;>intro hc
 ·
  refine zx3<|(On)<|zx6<|zlp (fun mm M w=>∃(t2:Of) (j:Int),mm=((j-a).toNat)/\(a<=j)/\(j<=i)/\(Ins lt a i j t t2)/\(∀k,0<=k->k<n->0<=t2 k/\t2 k<nm)/\M= [(0,vd),(1,.int Oi a),(2,.int Oi b),(3,.func (.func 82) #[] #[(Or gs)]),(8,.int Oi i),(9,.int Oi j)]/\Sat w0 w [.own vd 1 3 n (ints t2),.sem F]) ⟨t,i,rfl,Oa,Oa,?_,?_,rfl,hS⟩ ?_
  ·
   exact Ins.start Oa hs (Zd9 hp qQ Oa)
  ·
   exact hd1
  clear hS w
  rintro mm M w ⟨t2,j,rfl,j0,j1,hI,hd2,rfl,hS⟩
  refine zsq<|zsq<|zdst [0,1] [0,1] 1000 mx_ hS ?_;clear hS;intro w hS
  refine(zDw 0 xmv)<|(zDw 1 xmv)<|(zDw 2 Yw)<|(zDw 3 xmv)<|zdb 21 ?_ ?_<;>intro hc
  ·
   refine(zDw 4 xmv)<|(zDw 5 xmv)<|(zDw 6 xmv)<|(zDw 7 (xix (kk:=j) Zb hsl))<|(zDl 8 (fun w hS=>(xlr (u:= .int Oi (t2 j)) pl_3 (hS.rowN 0 rfl))))<|(zDw 9 xmv)<|(zDw 10 xmv)<|(zDw 11 (Zp (r:=j-1)))<|(zDw 12 (xix (kk:=j-1) Zb hsl))<|(zDl 13 (fun w hS=>(xlr (u:= .int Oi (t2 (j-1))) pl_3 (hS.rowN 0 rfl))))<|zdc 14 (xcc (vs:= [_,_]) Zet) (qx w (t2 j) (t2 (j-1)) (hd2 j Oa Oa).1 (hd2 j Oa Oa).2 (hd2 (j-1) Oa Oa).1 (hd2 (j-1) Oa Oa).2 hS.below (hS.holds _ (List.mem_of_getElem? (i:=1) rfl))) ?_;rintro _ w ⟨c1,rfl,hc1,hS'⟩
   replace hS:=hS.cmp hS';clear hS'
   refine⟨⟨fun _=>hS,hS⟩,?_⟩
   refine(zDw 15 Yc)<|(zDw 16 xpt)<|zdd<|ztn ?_
   refine Zf ?_ ?_<;>intro hc
   ·
    refine zsk<|ztn<|zsq<|zbk<|zdst [0,1] [1] 15 mx_ hS ?_;clear hS;intro w hS
    refine(zDw 0 xmv)<|(zDw 1 xmv)<|(zDw 2 xmv)<|(zDw 3 xmv)<|(zDw 4 (Zp (r:=j-1)))<|(zDw 5 xmv)<|(zDw 6 xmv)<|(zDw 7 (Zp (r:=j-1)))<|(zDw 8 (xix (kk:=j-1) Zb hsl))<|zdl 9 (fun w hS=>(xlr (u:= .int Oi (t2 (j-1))) pl_3 (hS.rowN 0 rfl))) ?_
    refine(zDw 10 xmv)<|(zDw 11 xmv)<|(zDw 12 (xix (kk:=j) Zb hsl))<|zdl 13 (fun w hS=>(xlr (u:= .int Oi (t2 j)) pl_3 (hS.rowN 0 rfl))) ?_
    refine(zDw 14 (xix (kk:=j) Zb hsl))<|zde 15 (xso 0 pl_3 hS rfl) ?_;clear hS;rintro w hS
    refine⟨⟨fun h=>absurd h (by decide),hS.pk [1]⟩,?_⟩
    refine(zDw 16 (xix (kk:=j-1) Zb hsl))<|zde 17 (xso 0 pl_3 hS (V4 t2 j (j-1))) ?_;clear hS;rintro w hS
    refine⟨⟨fun h=>absurd h (by decide),hS.pk [1]⟩,?_⟩
    refine zdd<|zbn<|ztn<|zrg ?_
    refine(zP)<|(zV (Zp (r:=j-1)))<|(zP)<|zln<|zlq ⟨swp t2 j (j-1),j-1,rfl,Oa,Oa,?_,?_,rfl,hS⟩
    ·
     exact hI.step Oa Oa (hc1.1 ‹c1<0›)
    ·
     exact(Tz (lo:=a) (hi:=n) Oa Oa Oa Oa).dom a0 (.inl Oa) hd2
   refine zxt<|ztx<|ztx<|zbh<|zbn<|ztn<|zrg<|(zP)<|(zV (Zh (r:=i+1)))<|(zP)<|zln<|zlq ⟨t2,i+1,rfl,Oa,Oa,?_,?_,?_,rfl,hS⟩
   ·
    exact(hp.mono Oa Oa).trans hI.perm
   ·
    exact hI.fin hw Oa Oa (by first|exact .inl Oa|exact .inr fun h=>absurd (hc1.2 h) ‹¬c1<0›)
   ·
    exact hd2
  refine(zDo 4)<|(zDo 5)<|(zDo 6)<|(zDo 7)<|(zDo 8)<|(zDo 9)<|(zDo 10)<|(zDo 11)<|(zDo 12)<|(zDo 13)<|(zDo 14)<|(zDo 15)<|(zDw 16 xpf)<|zdd<|ztn<|zcf<|zxt<|ztx<|ztx<|zbh<|zbn<|ztn<|zrg ?_
  refine(zP)<|(zV (Zh (r:=i+1)))<|(zP)<|zln<|zlq ⟨t2,i+1,rfl,Oa,Oa,?_,?_,?_,rfl,hS⟩
  ·
   exact(hp.mono Oa Oa).trans hI.perm
  ·
   exact hI.fin hw Oa Oa (by first|exact .inl Oa|exact .inr fun h=>absurd (hc1.2 h) ‹¬c1<0›)
  ·
   exact hd2
 refine zxt<|ztx<|ztx<|zbh<|XD ⟨_,rfl,?_⟩
 refine⟨rfl,t,?_,?_,hS⟩
 · by_cases hab:i<=b
   · exact hp.mono Oa Oa
   · obtain⟨p_,q_,e1,e2,e3⟩:=hp
     exact⟨p_,q_,e1,fun k hk=>by
       by_cases hka:k=a
       · subst hka
         apply Classical.byContradiction;intro hne
         have h5:=e2 (p_ k) Oa
         have h6:=congrArg q_ h5
         rw [(e1 _).2,(e1 _).2] at h6;exact hne h6
       · exact e2 k Oa,e3⟩
 · exact hs.mono Oa Oa
theorem ZhY {n:Int} {lt:Int->Int->Prop} {F:Gw.Frame} (hsl:Slh vd n) (hn8:n<=100000000) (hw:Swo lt) (N:Nat):∀{s:Of} {a m b:Int} (w0 w:World) (hS:Sat w0 w [.own vd 1 3 n (ints s),.sem F]) (qx:∀(w:World) (x y:Int),0<=x->x<nm->0<=y->y<nm->Below w0.heap.size w0 w->F.holds w->Calls Om 82 [.int Oi x,.int Oi y,(Or gs)].toArray w fun e w'=>∃v,e= .returned v/\∃c:Int,v= .int Oi c/\(c<0↔lt x y)/\Sat w w' []) (hd:∀k,0<=k->k<n->0<=s k/\s k<nm) (a0:0<=a) (am:a<m) (mb:m<b) (bn:b<=n) (h1:Srt (Tie lt) a m s) (h2:Srt (Tie lt) m b s) (hp:Parted a m b s) (hN:(b-a).toNat<N),
   Calls Om 228 [vd,.int Oi a,.int Oi m,.int Oi b,.func (.func 82) #[] #[(Or gs)]].toArray w fun e w=>∃v,e= .returned v/\v= .tuple #[]/\∃t:Of,PermOn a b s t/\Srt (Tie lt) a b t/\Sat w0 w [.own vd 1 3 n (ints t),.sem F]:=by
 induction N with
 |zero=>intros;omega
 | succ N ih=>
   intro s a m b w0 w hS qx hd a0 am mb bn h1 h2 hp hN
   refine zenF Tryz.func228 Tryz.ntmps228 ?_
   refine zsq<|zsr<|(On)<|(zV (Zp (r:=m-a)))<|(zP)<|zlt<|Zf ?_ ?_<;>intro hc
   ·
    refine zsr<|(On)<|zlz<|(On)<|zlt<|zsq<|zbk<|zlp (fun mm M w=>∃(i:Int) (j:Int),mm=((j-i).toNat)/\(m<=i)/\(i<=j)/\(j<=b)/\(i=a+1\/lt (s (i-1)) (s a))/\(j=b\/¬lt (s j) (s a))/\M= [(0,vd),(1,.int Oi a),(2,.int Oi m),(3,.int Oi b),(4,.func (.func 82) #[] #[(Or gs)]),(10,.int Oi i),(11,.int Oi j)]/\Sat w0 w [.own vd 1 3 n (ints s),.sem F]) ⟨m,b,rfl,Oa,Oa,Oa,?_,?_,rfl,hS⟩ ?_
    ·
     exact .inl Oa
    ·
     exact .inl rfl
    clear hS w
    rintro mm M w ⟨i,j,rfl,i0,ij,j1,hi,hj,rfl,hS⟩
    refine zsq<|zsr<|(Oo)<|zlt<|Zf ?_ ?_<;>intro hc
    ·
     refine zsk<|ztn<|zbk<|zsr<|(On)<|(zV (Zh (r:=i+j)))<|(zV (xcv Rt X7))<|(zV (US (r:=((i+j)/2))))<|(zV (xcv Ws Zau))<|(zP)<|zx7<|zdst [0,1] [0,1] 1000 mx_ hS ?_;clear hS;intro w hS
     refine(zDw 0 xmv)<|(zDw 1 xmv)<|(zDw 2 xmv)<|(zDw 3 (xix (kk:=((i+j)/2)) Zb hsl))<|(zDl 4 (fun w hS=>(xlr (u:= .int Oi (s ((i+j)/2))) pl_3 (hS.rowN 0 rfl))))<|(zDw 5 xmv)<|(zDw 6 xmv)<|(zDw 7 (xix (kk:=a) Zb hsl))<|(zDl 8 (fun w hS=>(xlr (u:= .int Oi (s a)) pl_3 (hS.rowN 0 rfl))))<|zdc 9 (xcc (vs:= [_,_]) Zet) (qx w (s ((i+j)/2)) (s a) (hd ((i+j)/2) Oa Oa).1 (hd ((i+j)/2) Oa Oa).2 (hd a Oa Oa).1 (hd a Oa Oa).2 hS.below (hS.holds _ (List.mem_of_getElem? (i:=1) rfl))) ?_;rintro _ w ⟨c1,rfl,hc1,hS'⟩
     replace hS:=hS.cmp hS';clear hS'
     refine⟨⟨fun _=>hS,hS⟩,?_⟩
     refine(zDw 10 Yc)<|zdd<|ztn ?_
     refine Zf ?_ ?_<;>intro hc
     ·
      refine zrg<|(zP)<|(zV (Zh (r:=((i+j)/2)+1)))<|(zP)<|zln<|zbn<|zlq ⟨((i+j)/2)+1,j,rfl,Oa,Oa,Oa,?_,?_,rfl,hS⟩
      ·
       first|exact hi|(right;rw [show(i+j)/2+1-1=(i+j)/2 by omega];exact hc1.1 ‹c1<0›)
      ·
       first|exact hj|exact .inr fun h=>absurd (hc1.2 h) ‹¬c1<0›
     refine zrg<|(On)<|zln<|zbn<|zlq ⟨i,((i+j)/2),rfl,Oa,Oa,Oa,?_,?_,rfl,hS⟩
     ·
      first|exact hi|(right;rw [show(i+j)/2+1-1=(i+j)/2 by omega];exact hc1.1 ‹c1<0›)
     ·
      first|exact hj|exact .inr fun h=>absurd (hc1.2 h) ‹¬c1<0›
    refine zx18<|(On)<|zx6<|zlp (fun mm M w=>∃(t:Of) (k:Int),mm=((i-1-k).toNat)/\(a<=k)/\(k<=i-1)/\(t=rot s a (a+1) (k+1))/\M= [(0,vd),(1,.int Oi a),(2,.int Oi m),(3,.int Oi b),(4,.func (.func 82) #[] #[(Or gs)]),(10,.int Oi i),(13,.int Oi k)]/\Sat w0 w [.own vd 1 3 n (ints t),.sem F]) ⟨s,a,rfl,Oa,Oa,?_,rfl,hS⟩ ?_
    ·
     exact(ZbD s a).symm
    clear hS w
    rintro mm M w ⟨t,k,rfl,k0,k1,ht,rfl,hS⟩
    refine zsq<|zsr<|(On)<|(zV (Zp (r:=i-1)))<|(zP)<|zlt<|Zf ?_ ?_<;>intro hc
    ·
     refine zsk<|ztn<|zsq<|zbk<|zdst [0,1] [1] 15 mx_ hS ?_;clear hS;intro w hS
     refine(zDw 0 xmv)<|(zDw 1 xmv)<|(zDw 2 xmv)<|(zDw 3 xmv)<|(zDw 4 (Zh (r:=k+1)))<|(zDw 5 xmv)<|(zDw 6 xmv)<|(zDw 7 (Zh (r:=k+1)))<|(zDw 8 (xix (kk:=k+1) Zb hsl))<|zdl 9 (fun w hS=>(xlr (u:= .int Oi (t (k+1))) pl_3 (hS.rowN 0 rfl))) ?_
     refine(zDw 10 xmv)<|(zDw 11 xmv)<|(zDw 12 (xix (kk:=k) Zb hsl))<|zdl 13 (fun w hS=>(xlr (u:= .int Oi (t k)) pl_3 (hS.rowN 0 rfl))) ?_
     refine(zDw 14 (xix (kk:=k) Zb hsl))<|zde 15 (xso 0 pl_3 hS rfl) ?_;clear hS;rintro w hS
     refine⟨⟨fun h=>absurd h (by decide),hS.pk [1]⟩,?_⟩
     refine(zDw 16 (xix (kk:=k+1) Zb hsl))<|zde 17 (xso 0 pl_3 hS (V4 t k (k+1))) ?_;clear hS;rintro w hS
     refine⟨⟨fun h=>absurd h (by decide),hS.pk [1]⟩,?_⟩
     refine zdd<|zbn<|ztn<|zrg ?_
     refine(zP)<|(zV (Zh (r:=k+1)))<|(zP)<|zln<|zlq ⟨swp t k (k+1),k+1,rfl,Oa,Oa,?_,rfl,hS⟩
     ·
      rw [ht];exact ZbE Oa
    refine zxt<|ztx<|ztx<|zbh<|ztn<|zrt<|ztr<|zf0 ⟨_,rfl,?_⟩
    have hki:k+1=i:=Oa
    rw [hki] at ht
    refine⟨rfl,t,?_,?_,hS⟩
    · rw [ht];exact(Ys Oa Oa).mono Oa Oa
    · rw [ht];obtain rfl:m=a+1:=Oa
      exact R8 hw h2 (fun j j0 j1=>hp a j Oa Oa j0 j1) Oa Oa hi (by rw [show i=j by omega];exact hj)
   refine zsk<|ztn<|zsq<|zsr<|(On)<|(zV (Zp (r:=b-m)))<|(zP)<|zlt<|Zf ?_ ?_<;>intro hc
   ·
    refine zsr<|(On)<|zlz<|(On)<|zlt<|zsq<|zbk<|zlp (fun mm M w=>∃(i:Int) (j:Int),mm=((j-i).toNat)/\(a<=i)/\(i<=j)/\(j<=m)/\(i=a\/¬lt (s m) (s (i-1)))/\(j=m\/lt (s m) (s j))/\M= [(0,vd),(1,.int Oi a),(2,.int Oi m),(3,.int Oi b),(4,.func (.func 82) #[] #[(Or gs)]),(14,.int Oi i),(15,.int Oi j)]/\Sat w0 w [.own vd 1 3 n (ints s),.sem F]) ⟨a,m,rfl,Oa,Oa,Oa,?_,?_,rfl,hS⟩ ?_
    ·
     exact .inl rfl
    ·
     exact .inl rfl
    clear hS w
    rintro mm M w ⟨i,j,rfl,i0,ij,j1,hi,hj,rfl,hS⟩
    refine zsq<|zsr<|(Oo)<|zlt<|Zf ?_ ?_<;>intro hc
    ·
     refine zsk<|ztn<|zbk<|zsr<|(On)<|(zV (Zh (r:=i+j)))<|(zV (xcv Rt X7))<|(zV (US (r:=((i+j)/2))))<|(zV (xcv Ws Zau))<|(zP)<|zx7<|zdst [0,1] [0,1] 1000 mx_ hS ?_;clear hS;intro w hS
     refine(zDw 0 xmv)<|(zDw 1 xmv)<|(zDw 2 xmv)<|(zDw 3 (xix (kk:=m) Zb hsl))<|(zDl 4 (fun w hS=>(xlr (u:= .int Oi (s m)) pl_3 (hS.rowN 0 rfl))))<|(zDw 5 xmv)<|(zDw 6 xmv)<|(zDw 7 (xix (kk:=((i+j)/2)) Zb hsl))<|(zDl 8 (fun w hS=>(xlr (u:= .int Oi (s ((i+j)/2))) pl_3 (hS.rowN 0 rfl))))<|zdc 9 (xcc (vs:= [_,_]) Zet) (qx w (s m) (s ((i+j)/2)) (hd m Oa Oa).1 (hd m Oa Oa).2 (hd ((i+j)/2) Oa Oa).1 (hd ((i+j)/2) Oa Oa).2 hS.below (hS.holds _ (List.mem_of_getElem? (i:=1) rfl))) ?_;rintro _ w ⟨c1,rfl,hc1,hS'⟩
     replace hS:=hS.cmp hS';clear hS'
     refine⟨⟨fun _=>hS,hS⟩,?_⟩
     refine(zDw 10 Yc)<|(zDw 11 YI)<|zdd<|ztn ?_
     refine Zf ?_ ?_<;>intro hc
     ·
      refine zrg<|(zP)<|(zV (Zh (r:=((i+j)/2)+1)))<|(zP)<|zln<|zbn<|zlq ⟨((i+j)/2)+1,j,rfl,Oa,Oa,Oa,?_,?_,rfl,hS⟩
      ·
       first|exact hi|(right;rw [show(i+j)/2+1-1=(i+j)/2 by omega];exact fun h=>absurd (hc1.2 h) ‹¬c1<0›)
      ·
       first|exact hj|exact .inr (hc1.1 (Od ‹_›))
     refine zrg<|(On)<|zln<|zbn<|zlq ⟨i,((i+j)/2),rfl,Oa,Oa,Oa,?_,?_,rfl,hS⟩
     ·
      first|exact hi|(right;rw [show(i+j)/2+1-1=(i+j)/2 by omega];exact fun h=>absurd (hc1.2 h) ‹¬c1<0›)
     ·
      first|exact hj|exact .inr (hc1.1 (Od ‹_›))
    refine zx18<|(On)<|zx6<|zlp (fun mm M w=>∃(t:Of) (k:Int),mm=((k-i).toNat)/\(i<=k)/\(k<=m)/\(t=rot s k m (m+1))/\M= [(0,vd),(1,.int Oi a),(2,.int Oi m),(3,.int Oi b),(4,.func (.func 82) #[] #[(Or gs)]),(14,.int Oi i),(17,.int Oi k)]/\Sat w0 w [.own vd 1 3 n (ints t),.sem F]) ⟨s,m,rfl,Oa,Oa,?_,rfl,hS⟩ ?_
    ·
     exact(ZbB s m).symm
    clear hS w
    rintro mm M w ⟨t,k,rfl,k0,k1,ht,rfl,hS⟩
    refine zsq<|zsr<|(Oo)<|zlt<|Zf ?_ ?_<;>intro hc
    ·
     refine zsk<|ztn<|zsq<|zbk<|zdst [0,1] [1] 15 mx_ hS ?_;clear hS;intro w hS
     refine(zDw 0 xmv)<|(zDw 1 xmv)<|(zDw 2 xmv)<|(zDw 3 xmv)<|(zDw 4 (Zp (r:=k-1)))<|(zDw 5 xmv)<|(zDw 6 xmv)<|(zDw 7 (Zp (r:=k-1)))<|(zDw 8 (xix (kk:=k-1) Zb hsl))<|zdl 9 (fun w hS=>(xlr (u:= .int Oi (t (k-1))) pl_3 (hS.rowN 0 rfl))) ?_
     refine(zDw 10 xmv)<|(zDw 11 xmv)<|(zDw 12 (xix (kk:=k) Zb hsl))<|zdl 13 (fun w hS=>(xlr (u:= .int Oi (t k)) pl_3 (hS.rowN 0 rfl))) ?_
     refine(zDw 14 (xix (kk:=k) Zb hsl))<|zde 15 (xso 0 pl_3 hS rfl) ?_;clear hS;rintro w hS
     refine⟨⟨fun h=>absurd h (by decide),hS.pk [1]⟩,?_⟩
     refine(zDw 16 (xix (kk:=k-1) Zb hsl))<|zde 17 (xso 0 pl_3 hS (V4 t k (k-1))) ?_;clear hS;rintro w hS
     refine⟨⟨fun h=>absurd h (by decide),hS.pk [1]⟩,?_⟩
     refine zdd<|zbn<|ztn<|zrg ?_
     refine(zP)<|(zV (Zp (r:=k-1)))<|(zP)<|zln<|zlq ⟨swp t k (k-1),k-1,rfl,Oa,Oa,?_,rfl,hS⟩
     ·
      rw [ht];exact ZbC Oa
    refine zxt<|ztx<|ztx<|zbh<|ztn<|zrt<|ztr<|zf0 ⟨_,rfl,?_⟩
    have hki:k=i:=Oa
    rw [hki] at ht
    refine⟨rfl,t,?_,?_,hS⟩
    · rw [ht];exact(Ys Oa Oa).mono Oa Oa
    · rw [ht];obtain rfl:b=m+1:=Oa
      exact TT hw h1 (fun i i0 i1=>hp i m i0 i1 Oa Oa) Oa Oa hi (by rw [show i=j by omega];exact hj)
   refine ZV<|(On)<|(zV (Zh (r:=a+b)))<|(zV (xcv Rt X7))<|(zV (US (r:=((a+b)/2))))<|(zV (xcv Ws Zau))<|(zP)<|zlz<|(On)<|(zV (Zh (r:=((a+b)/2)+m)))<|(zP)<|zlz<|(On)<|zx7 ?_
   refine VI (fun M w=>∃(mid:Int) (s0:Int) (r0:Int),(mid=((a+b)/2))/\((mid<m/\s0=mid+m-b/\r0=mid)\/(m<=mid/\s0=a/\r0=m))/\M= [(0,vd),(1,.int Oi a),(2,.int Oi m),(3,.int Oi b),(4,.func (.func 82) #[] #[(Or gs)]),(25,.int Oi m),(26,.int Oi a),(27,.int Oi (m-a)),(28,B (m-a=1)),(77,.int Oi b),(78,.int Oi m),(79,.int Oi (b-m)),(80,B (b-m=1)),(129,.int Oi a),(130,.int Oi b),(131,.int Oi (a+b)),(132,.int .u64 (a+b)),(133,.int .u64 ((a+b)/2)),(134,.int Oi ((a+b)/2)),(18,.int Oi mid),(135,.int Oi ((a+b)/2)),(136,.int Oi m),(137,.int Oi (((a+b)/2)+m)),(19,.int Oi (mid+m)),(20,.int Oi s0),(21,.int Oi r0)]/\Sat w0 w [.own vd 1 3 n (ints s),.sem F]) ?_ ?_
   ·
    refine zsr<|(Oo)<|zlt<|Zf ?_ ?_<;>intro hc
    ·
     refine zsr<|(On)<|(zV (Zp (r:=((a+b)/2)+m-b)))<|(zP)<|zlt<|zrg<|(On)<|zln<|zgj ⟨((a+b)/2),(((a+b)/2)+m-b),((a+b)/2),rfl,Oa,rfl,hS⟩
    refine zsr<|(On)<|zlt<|zrg<|(On)<|zln<|zgj ⟨((a+b)/2),a,m,rfl,Oa,rfl,hS⟩
   clear hS w;rintro M w ⟨mid,s0,r0,jg,hq,rfl,hS⟩
   refine ztn<|zsr<|(zP)<|(zV (Zp (r:=mid+m-1)))<|(zP)<|zlt<|zsq<|zbk<|zlp (fun mm M w=>∃(x:Int) (y:Int),mm=((y-x).toNat)/\(s0<=x)/\(x<=y)/\(y<=r0)/\(x=s0\/¬lt (s (mid+m-x)) (s (x-1)))/\(y=r0\/lt (s (mid+m-y-1)) (s y))/\M= [(0,vd),(1,.int Oi a),(2,.int Oi m),(3,.int Oi b),(4,.func (.func 82) #[] #[(Or gs)]),(18,.int Oi mid),(19,.int Oi (mid+m)),(20,.int Oi x),(21,.int Oi y),(22,.int Oi (mid+m-1))]/\Sat w0 w [.own vd 1 3 n (ints s),.sem F]) ⟨s0,r0,rfl,Oa,Oa,Oa,?_,?_,rfl,hS⟩ ?_
   ·
    exact .inl rfl
   ·
    exact .inl rfl
   clear hS w
   rintro mm M w ⟨x,y,rfl,x0,xy,y1,hx,hy,rfl,hS⟩
   refine zsq<|zsr<|(Oo)<|zlt<|Zf ?_ ?_<;>intro hc
   ·
    refine zsk<|ztn<|zbk<|zsr<|(On)<|(zV (Zh (r:=x+y)))<|(zV (xcv Rt X7))<|(zV (US (r:=((x+y)/2))))<|(zV (xcv Ws Zau))<|(zP)<|zx7<|zdst [0,1] [0,1] 1000 mx_ hS ?_;clear hS;intro w hS
    refine(zDw 0 xmv)<|(zDw 1 xmv)<|(zDw 2 xmv)<|(zDw 3 xmv)<|(zDw 4 (Zp (r:=mid+m-((x+y)/2)-1)))<|(zDw 5 (xix (kk:=mid+m-((x+y)/2)-1) Zb hsl))<|(zDl 6 (fun w hS=>(xlr (u:= .int Oi (s (mid+m-((x+y)/2)-1))) pl_3 (hS.rowN 0 rfl))))<|(zDw 7 xmv)<|(zDw 8 xmv)<|(zDw 9 (xix (kk:=((x+y)/2)) Zb hsl))<|(zDl 10 (fun w hS=>(xlr (u:= .int Oi (s ((x+y)/2))) pl_3 (hS.rowN 0 rfl))))<|zdc 11 (xcc (vs:= [_,_]) Zet) (qx w (s (mid+m-((x+y)/2)-1)) (s ((x+y)/2)) (hd (mid+m-((x+y)/2)-1) Oa Oa).1 (hd (mid+m-((x+y)/2)-1) Oa Oa).2 (hd ((x+y)/2) Oa Oa).1 (hd ((x+y)/2) Oa Oa).2 hS.below (hS.holds _ (List.mem_of_getElem? (i:=1) rfl))) ?_;rintro _ w ⟨c1,rfl,hc1,hS'⟩
    replace hS:=hS.cmp hS';clear hS'
    refine⟨⟨fun _=>hS,hS⟩,?_⟩
    refine(zDw 12 Yc)<|(zDw 13 YI)<|zdd<|ztn ?_
    refine Zf ?_ ?_<;>intro hc
    ·
     refine zrg<|(zP)<|(zV (Zh (r:=((x+y)/2)+1)))<|(zP)<|zln<|zbn<|zlq ⟨((x+y)/2)+1,y,rfl,Oa,Oa,Oa,?_,?_,rfl,hS⟩
     ·
      first|exact hx|(right;rw [show mid+m-((x+y)/2+1)=mid+m-(x+y)/2-1 by omega,show(x+y)/2+1-1=(x+y)/2 by omega];exact fun h=>absurd (hc1.2 h) ‹¬c1<0›)
     ·
      first|exact hy|exact .inr (hc1.1 (Od ‹_›))
    refine zrg<|(On)<|zln<|zbn<|zlq ⟨x,((x+y)/2),rfl,Oa,Oa,Oa,?_,?_,rfl,hS⟩
    ·
     first|exact hx|(right;rw [show mid+m-((x+y)/2+1)=mid+m-(x+y)/2-1 by omega,show(x+y)/2+1-1=(x+y)/2 by omega];exact fun h=>absurd (hc1.2 h) ‹¬c1<0›)
    ·
     first|exact hy|exact .inr (hc1.1 (Od ‹_›))
   refine zx8<|(On)<|(zV (Zp (r:=mid+m-x)))<|(zP)<|zx7 ?_
   refine VI (fun M w=>∃(t:Of),(t=rot s x m (mid+m-x))/\M= [(0,vd),(1,.int Oi a),(2,.int Oi m),(3,.int Oi b),(4,.func (.func 82) #[] #[(Or gs)]),(18,.int Oi mid),(19,.int Oi (mid+m)),(20,.int Oi x),(21,.int Oi y),(22,.int Oi (mid+m-1)),(149,.int Oi x),(150,.int Oi y),(151,B (x<y)),(175,.int Oi (mid+m)),(176,.int Oi x),(177,.int Oi (mid+m-x)),(24,.int Oi (mid+m-x))]/\Sat w0 w [.own vd 1 3 n (ints t),.sem F]) ?_ ?_
   ·
    refine zsr<|zs4 ?_
    refine zlb 181 ?_ ?_<;>intro hc
    ·
     refine zs4 ?_
     refine zlt<|Zf ?_ ?_<;>intro hc
     ·
      refine zrg<|zs5 ?_
      refine zlc (xc0 ZmD) (ZnD (s:=s) (a:=x) (m:=m) (b:=mid+m-x) w0 w hS hsl hn8 Oa Oa Oa Oa) ?_;rintro _ w ⟨rfl,hS⟩
      refine zln<|zgj ⟨(rot s x m (mid+m-x)),rfl,rfl,hS⟩
     refine zsk<|zgj ⟨s,(VS Oa Oa Oa).symm,rfl,hS⟩
    iterate 3 refine zlo ?_
    refine(zP)<|zlt<|zcf<|zsk<|zgj ⟨s,(VS Oa Oa Oa).symm,rfl,hS⟩
   clear hS w;rintro M w ⟨t,ht,rfl,hS⟩
   have hdt:=(Ys (a:=s) (lo:=x) (c:=m) (hi:=mid+m-x) Oa Oa).dom (n:=n) (N:=nm) Oa (.inl Oa) hd
   rw [<-ht] at hdt
   have hH:=V1 hw h1 h2 hp (s:=x) (mid:=mid) (e:=mid+m-x) Oa Oa Oa Oa Oa (by rcases hq with hq|hq<;>rcases hx with hx|hx<;>first|exact .inl Oa|exact .inr (.inl Oa)|exact .inr (.inr hx)) (by rcases hq with hq|hq<;>rcases hy with hy|hy<;>first|exact .inl Oa|exact .inr (.inl Oa)|(refine .inr (.inr ?_);rw [show x=y by omega];exact hy))
   rw [<-ht] at hH
   refine ztn<|zsq<| ?_
   refine VI (fun M w=>∃(t1:Of),(PermOn a mid t t1)/\(Srt (Tie lt) a mid t1)/\(∀k,0<=k->k<n->0<=t1 k/\t1 k<nm)/\M= [(0,vd),(1,.int Oi a),(2,.int Oi m),(3,.int Oi b),(4,.func (.func 82) #[] #[(Or gs)]),(18,.int Oi mid),(19,.int Oi (mid+m)),(20,.int Oi x),(21,.int Oi y),(22,.int Oi (mid+m-1)),(149,.int Oi x),(150,.int Oi y),(151,B (x<y)),(175,.int Oi (mid+m)),(176,.int Oi x),(177,.int Oi (mid+m-x)),(24,.int Oi (mid+m-x))]/\Sat w0 w [.own vd 1 3 n (ints t1),.sem F]) ?_ ?_
   ·
    refine zsr<|zs4 ?_
    refine zlb 195 ?_ ?_<;>intro hc
    ·
     refine zs4 ?_
     refine zlt<|Zf ?_ ?_<;>intro hc
     ·
      refine zrg<|zs5 ?_
      refine zlc (xc0 ZaX) (ih (s:=t) (a:=a) (m:=x) (b:=mid) w0 w hS qx hdt Oa Oa Oa Oa (hH.l1) (hH.l2) (hH.pl) Oa) ?_;rintro _ w ⟨rfl,u1,qr,xd,hS⟩
      have xX:=qr.dom Oa (.inl Oa) hdt
      refine zln<|zgj ⟨u1,qr,xd,xX,rfl,hS⟩
     refine zsk<|zgj ⟨t,(.refl _ _ _),(hH.left (by first|omega|(rintro⟨h3,h4⟩;omega)) Oa Oa),hdt,rfl,hS⟩
    iterate 3 refine zlo ?_
    refine(zP)<|zlt<|zcf<|zsk<|zgj ⟨t,(.refl _ _ _),(hH.left (by first|omega|(rintro⟨h3,h4⟩;omega)) Oa Oa),hdt,rfl,hS⟩
   clear hS w;rintro M w ⟨t1,hq1,hq2,br,rfl,hS⟩
   have hH2:Halves lt a a mid (mid+m-x) b t1:=Halves.after hH hq1 hq2 Oa Oa
   refine ztn<|zsr<|zs4 ?_
   refine zlb 209 ?_ ?_<;>intro hc
   ·
    refine zs4 ?_
    refine zlt<|Zf ?_ ?_<;>intro hc
    ·
     refine zrg<|zs5 ?_
     refine zlc (xc0 ZaX) (ih (s:=t1) (a:=mid) (m:=mid+m-x) (b:=b) w0 w hS qx br Oa Oa Oa Oa (hH2.r1) (hH2.r2) (hH2.pr) Oa) ?_;rintro _ w ⟨rfl,u1,qr,xd,hS⟩
     have xX:=qr.dom Oa (.inl Oa) br
     refine zln<|XD ⟨_,rfl,?_⟩
     refine⟨rfl,u1,((((Ys (a:=s) (lo:=x) (c:=m) (hi:=mid+m-x) Oa Oa).mono Oa Oa:PermOn a b s _)).trans (ht▸hq1.mono Oa Oa)).trans (qr.mono Oa Oa),?_,hS⟩
     exact hH.join hw Oa Oa hq1 hq2 qr xd
    refine zsk<|XD ⟨_,rfl,?_⟩
    refine⟨rfl,t1,(((Ys (a:=s) (lo:=x) (c:=m) (hi:=mid+m-x) Oa Oa).mono Oa Oa:PermOn a b s _)).trans (ht▸hq1.mono Oa Oa),?_,hS⟩
    exact hH.join hw Oa Oa hq1 hq2 (.refl _ _ _) (hH2.right (by first|omega|(rintro⟨h3,h4⟩;omega)) Oa Oa)
   iterate 3 refine zlo ?_
   refine(zP)<|zlt<|zcf<|zsk<|XD ⟨_,rfl,?_⟩
   refine⟨rfl,t1,(((Ys (a:=s) (lo:=x) (c:=m) (hi:=mid+m-x) Oa Oa).mono Oa Oa:PermOn a b s _)).trans (ht▸hq1.mono Oa Oa),?_,hS⟩
   exact hH.join hw Oa Oa hq1 hq2 (.refl _ _ _) (hH2.right (by first|omega|(rintro⟨h3,h4⟩;omega)) Oa Oa)
theorem Zfz{n:Int}{s:Of}{lt:Int->Int->Prop}{F:Gw.Frame}(w0 w:World)(hS:Sat w0 w [.own vd 1 3 n (ints s),.sem F])(hsl:Slh vd n)(hn8:n<=100000000)(qx:∀(w:World) (x y:Int),0<=x->x<nm->0<=y->y<nm->Below w0.heap.size w0 w->F.holds w->Calls Om 82 [.int Oi x,.int Oi y,(Or gs)].toArray w fun e w'=>∃v,e= .returned v/\∃c:Int,v= .int Oi c/\(c<0↔lt x y)/\Sat w w' [])(hd:∀k,0<=k->k<n->0<=s k/\s k<nm)(hw:Swo lt)(qQ:U9 0 n s):
   Calls Om 154 [vd,.int Oi n,.func (.func 82) #[] #[(Or gs)]].toArray w fun e w=>∃v,e= .returned v/\v= .tuple #[]/\∃t:Of,PermOn 0 n s t/\Srt (Tie lt) 0 n t/\Sat w0 w [.own vd 1 3 n (ints t),.sem F]:=by
 have hn0:=hsl.n0
 refine zenF Tryz.func154 Tryz.ntmps154 ?_
 refine zsr<|(zP)<|zlz<|(Oo)<|zlt<|zsq<|zbk<|zlp (fun mm M w=>∃(t:Of) (a:Int) (b:Int),mm=((n-a).toNat)/\(0<=a)/\(a<=n)/\(b=a+20)/\((20:Int)∣a)/\(PermOn 0 a s t)/\(Runs_ lt 20 n 0 a t)/\(∀k,0<=k->k<n->0<=t k/\t k<nm)/\M= [(0,vd),(1,.int Oi n),(2,.func (.func 82) #[] #[(Or gs)]),(6,.int Oi 20),(7,.int Oi a),(8,.int Oi b)]/\Sat w0 w [.own vd 1 3 n (ints t),.sem F]) ⟨s,0,20,rfl,Oa,Oa,Oa,?_,?_,?_,?_,rfl,hS⟩ ?_
 ·
  exact Int.dvd_zero 20
 ·
  exact .refl _ _ _
 ·
  intro c c0 c1;omega
 ·
  exact hd
 clear hS w
 rintro mm M w ⟨t,a,b,rfl,a0,a1,hb,hda,hp,hr,hd1,rfl,hS⟩
 refine zsq<|zsr<|(Oo)<|zlt<|Zf ?_ ?_<;>intro hc
 ·
  refine zsk<|ztn<|zbk<|zsr<|zs4 ?_
  refine zlc (xc0 ZhH) (Zim (s:=t) (a:=a) (b:=b) w0 w hS hsl hn8 qx hd1 hw Oa Oa Oa (Vh hp qQ Oa Oa Oa)) ?_;rintro _ w ⟨rfl,u1,qr,xd,hS⟩
  have xX:=qr.dom Oa (.inl Oa) hd1
  refine zlz<|(On)<|zlt<|zrg<|(On)<|(zV (Zh (r:=b+20)))<|(zP)<|zln<|zbn<|zlq ⟨u1,b,b+20,rfl,Oa,Oa,Oa,?_,?_,?_,?_,rfl,hS⟩
  ·
   rw [hb];exact Int.dvd_add hda (Int.dvd_refl 20)
  ·
   exact(hp.mono Oa Oa).trans (qr.mono Oa Oa)
  ·
   exact Wu Oa qQ hr a0 hda hp qr xd (.inl ⟨hb,Oa⟩) Oa
  ·
   exact xX
 refine zx8<|zs4 ?_
 refine zlc (xc0 ZhH) (Zim (s:=t) (a:=a) (b:=n) w0 w hS hsl hn8 qx hd1 hw Oa Oa Oa (Vh hp qQ Oa Oa Oa)) ?_;rintro _ w ⟨rfl,u1,qr,xd,hS⟩
 have xX:=qr.dom Oa (.inl Oa) hd1
 refine zx6<|zlp (fun mm M w=>∃(t2:Of) (z:Int),mm=((n-z).toNat)/\(20<=z)/\(z<=2*n+20)/\(PermOn 0 n s t2)/\(Runs_ lt z n 0 n t2)/\(∀k,0<=k->k<n->0<=t2 k/\t2 k<nm)/\M= [(0,vd),(1,.int Oi n),(2,.func (.func 82) #[] #[(Or gs)]),(6,.int Oi z)]/\Sat w0 w [.own vd 1 3 n (ints t2),.sem F]) ⟨u1,20,rfl,Oa,Oa,?_,?_,?_,rfl,hS⟩ ?_
 ·
  exact(hp.mono Oa Oa).trans (qr.mono Oa Oa)
 ·
  exact Wu Oa qQ hr a0 hda hp qr xd (.inr ⟨rfl,Oa⟩) Oa
 ·
  exact xX
 clear hS w
 rintro mm M w ⟨t2,z,rfl,z0,z1,hp2,hr2,hd2,rfl,hS⟩
 refine zsq<|zsr<|(Oo)<|zlt<|Zf ?_ ?_<;>intro hc
 ·
  refine zsk<|ztn<|zbk<|zsr<|(zP)<|(zV (Yi (r:=2*z)))<|(On)<|zlt<|zsq<|zbk<|zlp (fun mm M w=>∃(t3:Of) (a3:Int) (b3:Int),mm=((n-a3).toNat)/\(0<=a3)/\(a3<=n)/\(b3=a3+2*z)/\(2*z∣a3)/\(PermOn 0 n s t3)/\(Runs_ lt (2*z) n 0 a3 t3)/\(Runs_ lt z n a3 n t3)/\(∀k,0<=k->k<n->0<=t3 k/\t3 k<nm)/\M= [(0,vd),(1,.int Oi n),(2,.func (.func 82) #[] #[(Or gs)]),(6,.int Oi z),(7,.int Oi a3),(8,.int Oi b3)]/\Sat w0 w [.own vd 1 3 n (ints t3),.sem F]) ⟨t2,0,2*z,rfl,Oa,Oa,Oa,?_,?_,?_,?_,?_,rfl,hS⟩ ?_
  ·
   exact Int.dvd_zero _
  ·
   exact hp2
  ·
   intro c c0 c1;omega
  ·
   exact hr2
  ·
   exact hd2
  clear hS w
  rintro mm M w ⟨t3,a3,b3,rfl,a30,a31,hb3,xi,hp3,hA,hB,hd3,rfl,hS⟩
  refine zsq<|zsr<|(Oo)<|zlt<|Zf ?_ ?_<;>intro hc
  ·
   refine zsk<|ztn<|zbk<|zsr<|zs4 ?_
   refine(zV (Zh (r:=a3+z)))<|zs2 ?_
   have hk:=VO (lt:=lt) (z:=z) (n:=n) (a:=a3) (b:=b3) (t:=t3) Oa a30 (Int.dvd_trans (Int.dvd_mul_left 2 z) xi) hB Oa Oa Oa
   refine zlc (xc0 ZaX) (ZhY (nm:=nm) (lt:=lt) hsl hn8 hw _ (s:=t3) (a:=a3) (m:=a3+z) (b:=b3) w0 w hS qx hd3 Oa Oa Oa Oa hk.1 hk.2.1 hk.2.2 (Nat.lt_succ_self _)) ?_;rintro _ w ⟨rfl,u2,qX,yk,hS⟩
   have yX:=qX.dom Oa (.inl Oa) hd3
   refine zlz<|(On)<|zlt<|zrg<|(On)<|(zV (Yi (r:=2*z)))<|(zV (Zh (r:=b3+2*z)))<|(zP)<|zln<|zbn<|zlq ⟨u2,b3,b3+2*z,rfl,Oa,Oa,Oa,?_,?_,?_,?_,?_,rfl,hS⟩
   ·
    rw [hb3];exact Int.dvd_add xi (Int.dvd_refl _)
   ·
    exact hp3.trans (qX.mono Oa Oa)
   ·
    exact(Yo Oa a30 xi hA hB qX yk (.inl ⟨hb3,Oa⟩) Oa).1
   ·
    exact(Yo Oa a30 xi hA hB qX yk (.inl ⟨hb3,Oa⟩) Oa).2
   ·
    exact yX
  refine zx18<|(On)<|(zV (Zh (r:=a3+z)))<|(zP)<|zlz<|(Oo)<|zlt<|Zf ?_ ?_<;>intro hc
  ·
   refine zrg<|zs5 ?_
   have hk:=VO (lt:=lt) (z:=z) (n:=n) (a:=a3) (b:=n) (t:=t3) Oa a30 (Int.dvd_trans (Int.dvd_mul_left 2 z) xi) hB Oa Oa Oa
   refine zlc (xc0 ZaX) (ZhY (nm:=nm) (lt:=lt) hsl hn8 hw _ (s:=t3) (a:=a3) (m:=a3+z) (b:=n) w0 w hS qx hd3 Oa Oa Oa Oa hk.1 hk.2.1 hk.2.2 (Nat.lt_succ_self _)) ?_;rintro _ w ⟨rfl,u2,qX,yk,hS⟩
   have yX:=qX.dom Oa (.inl Oa) hd3
   refine zlt<|zrg<|(zP)<|(zV (Yi (r:=2*z)))<|(zP)<|zln<|zbn<|zlq ⟨u2,2*z,rfl,Oa,Oa,?_,?_,?_,rfl,hS⟩
   ·
    first|exact hp3.trans (qX.mono Oa Oa)|exact hp3
   ·
    first|exact(Yo Oa a30 xi hA hB qX yk (.inr ⟨rfl,Oa⟩) Oa).1|exact VP Oa a30 xi hA hB Oa Oa
   ·
    first|exact yX|exact hd3
  refine zsk<|ztn<|zrg<|(zP)<|(zV (Yi (r:=2*z)))<|(zP)<|zln<|zbn<|zlq ⟨t3,2*z,rfl,Oa,Oa,?_,?_,?_,rfl,hS⟩
  ·
   first|exact hp3.trans (qX.mono Oa Oa)|exact hp3
  ·
   first|exact(Yo Oa a30 xi hA hB qX yk (.inr ⟨rfl,Oa⟩) Oa).1|exact VP Oa a30 xi hA hB Oa Oa
  ·
   first|exact yX|exact hd3
 refine zxt<|ztx<|ztx<|zbh<|XD ⟨_,rfl,?_⟩
 exact⟨rfl,t2,hp2,ZbG hr2 Oa,hS⟩
theorem Zh0{n:Int}{s:Of}{lt:Int->Int->Prop}{F:Gw.Frame}(w0 w:World)(hS:Sat w0 w [.own vd 1 3 n (ints s),.sem F])(hsl:Slh vd n)(hn8:n<=100000000)(qx:∀(w:World) (x y:Int),0<=x->x<nm->0<=y->y<nm->Below w0.heap.size w0 w->F.holds w->Calls Om 82 [.int Oi x,.int Oi y,(Or gs)].toArray w fun e w'=>∃v,e= .returned v/\∃c:Int,v= .int Oi c/\(c<0↔lt x y)/\Sat w w' [])(hd:∀k,0<=k->k<n->0<=s k/\s k<nm)(hw:Swo lt)(qQ:U9 0 n s):
   Calls Om 81 [vd,.func (.func 82) #[] #[(Or gs)]].toArray w fun e w=>∃v,e= .returned v/\v= .tuple #[]/\∃t:Of,PermOn 0 n s t/\Srt (Tie lt) 0 n t/\Sat w0 w [.own vd 1 3 n (ints t),.sem F]:=by
 refine zenF Tryz.func81 Tryz.ntmps81 ?_
 refine zrg<|(On)<|(zV (xln Zb hsl))<|(zP)<|zlc (xc0 Zng) (Zfz (s:=s) w0 w hS hsl hn8 qx hd hw qQ) ?_;rintro _ w ⟨rfl,u1,qr,xd,hS⟩
 refine zln<|XD ⟨_,rfl,?_⟩
 exact⟨rfl,u1,qr,xd,hS⟩
end Go.Proofs.YtpnamgfdakfccaaGreat
namespace Go.Proofs.YtpnamgfdakfccaaGreat
open Go Go.RowKit Go.Proofs.Gw
theorem Zj8{x y:Int}{vX vY:Value}{s:So}{gs:Nat}(w0:World)(hG:(Ent.blk gs [vX,vY,.int Oi s.val,.int Oi s.den]).holds w0)(hX:Row w0 vX 1 s.n (ints s.X))(hY:Row w0 vY 1 s.m (ints s.Y))(hsd:Yr s)(x0:0<=x)(x1:x<s.n)(y0:0<=y)(y1:y<s.n):
   Calls Om 82 [.int Oi x,.int Oi y,Or gs].toArray w0 fun e w=>∃v,e= .returned v/\∃c:Int,v= .int Oi c/\(c<0↔(s.X y).tmod s.den<(s.X x).tmod s.den)/\Sat w0 w []:=by
 obtain⟨⟨d1,d2⟩,⟨d3,d4⟩,d5⟩:=id hsd
 have hxx:=d5 x x0 x1;have hxy:=d5 y y0 y1
 have hq1:=Tx (a:=s.X x) (d:=s.den) hxx.1 Oa;have hq2:=Tx (a:=s.X y) (d:=s.den) hxy.1 Oa
 refine zenG Tryz.func82 Tryz.ntmps82 fun w hS=> ?_
 refine zsr<|(zP)<|zx7<|zdst [] [] 1000 mx_ hS ?_;clear hS;intro w hS
 refine(zDw 0 (xfb 0 fd_54_0))<|(zDl 1 (fun w hS=>(xlf pl_22 (Ent.holds.cell hG (o:=0) rfl) hS)))<|(zDw 2 xmv)<|(zDw 3 (xix (kk:=y) Zb hX.slh))<|(zDl 4 (fun w hS=>(xlr (u:= .int Oi (s.X y)) pl_3 (hX.below hS.below))))<|(zDw 5 (xfb 3 fd_54_3))<|(zDl 6 (fun w hS=>(xlf pl_3 (Ent.holds.cell hG (o:=3) rfl) hS)))<|(zDw 7 (ZfQ (r:=(Int.tmod (s.X y) s.den))))<|(zDw 8 (xfb 0 fd_54_0))<|(zDl 9 (fun w hS=>(xlf pl_22 (Ent.holds.cell hG (o:=0) rfl) hS)))<|(zDw 10 xmv)<|(zDw 11 (xix (kk:=x) Zb hX.slh))<|(zDl 12 (fun w hS=>(xlr (u:= .int Oi (s.X x)) pl_3 (hX.below hS.below))))<|(zDw 13 (xfb 3 fd_54_3))<|YF 14 (fun w hS=>(xlf pl_3 (Ent.holds.cell hG (o:=3) rfl) hS)) ?_
 refine(zDw 15 (ZfQ (r:=(Int.tmod (s.X x) s.den))))<|(zDw 16 (Zp (r:=(Int.tmod (s.X y) s.den)-(Int.tmod (s.X x) s.den))))<|(zDw 17 xas)<|zdd<|ztn<|zrt<|Oj ?_
 exact⟨_,rfl,Oa,hS⟩
variable {i j m:Int} {g t:Of}
def frN(s:So):Nat->Int
  |0=>0
  |k+1=>if(s.X k).tmod s.den=0 then frN s k else frN s k+1
def frF(s:So):Nat->Int->Int
  |0=>fun _=>0
  |k+1=>if(s.X k).tmod s.den=0 then frF s k else snoc (frF s k) (frN s k) k
theorem Zca(s:So)(h:0<=i):frN s (i+1).toNat=if(s.X i).tmod s.den=0 then frN s i.toNat else frN s i.toNat+1:=by
 obtain⟨k,rfl⟩:=Int.eq_ofNat_of_zero_le h;rw [show((k:Int)+1).toNat=k+1 by omega,Int.toNat_natCast];rfl
theorem Zcb(s:So)(h:0<=i):frF s (i+1).toNat=if(s.X i).tmod s.den=0 then frF s i.toNat else snoc (frF s i.toNat) (frN s i.toNat) i:=by
 obtain⟨k,rfl⟩:=Int.eq_ofNat_of_zero_le h;rw [show((k:Int)+1).toNat=k+1 by omega,Int.toNat_natCast];rfl
theorem ZgZ (s:So):∀n:Nat,0<=frN s n/\frN s n<=n/\(∀k,0<=k->k<frN s n->0<=frF s n k/\frF s n k<n/\(s.X (frF s n k)).tmod s.den≠0)/\U9 0 (frN s n) (frF s n)/\∀q,0<=q->q<(n:Int)->(s.X q).tmod s.den≠0->∃k,0<=k/\k<frN s n/\frF s n k=q
 |0=>⟨by simp [frN],by simp [frN],fun k k0 k1=>by simp [frN] at k1;omega,fun i j i0 ij j1=>by simp [frN] at j1;omega,fun q q0 q1=>Oa⟩
 | n + 1 =>by
   obtain⟨h1,h2,h3,h4,h5⟩:=ZgZ s n
   simp only [frN,frF]
   by_cases h:(s.X n).tmod s.den=0
   · rw [if_pos h,if_pos h]
     refine⟨h1,Oa,fun k k0 k1=> ?_,h4,fun q q0 q1 hq=> ?_⟩
     · have:=h3 k k0 k1;exact⟨this.1,Oa,this.2.2⟩
     · by_cases e:q=n
       · rw [e] at hq;exact absurd h hq
       · exact h5 q q0 Oa hq
   · rw [if_neg h,if_neg h]
     refine⟨by omega,Oa,fun k k0 k1=> ?_,fun i j i0 ij j1=> ?_,fun q q0 q1 hq=> ?_⟩
     · by_cases e:k<frN s n
       · rw [Zs e];have:=h3 k k0 e;exact⟨this.1,Oa,this.2.2⟩
       · rw [Zt e];exact⟨by omega,Oa,h⟩
     · by_cases e:j<frN s n
       · rw [Zs e,Zs (show i<frN s n by omega)];exact h4 i j i0 ij e
       · rw [Zt e,Zs (show i<frN s n by omega)];have:=h3 i i0 Oa;omega
     · by_cases e:q=n
       · exact⟨frN s n,h1,Oa,by rw [Zt Oa,e]⟩
       · obtain⟨k,k0,k1,hk⟩:=h5 q q0 Oa hq
         exact⟨k,k0,Oa,by rw [Zs k1];exact hk⟩
def ZfV(a r:List Int):Bool:=(List.zipWith (fun x y=>if 0<x/\0<y then(1:Int) else 0) a r).any fun x=>decide (0<x)
def ZdP(m:Int)(mf:Og)(st:List Int×Us)(k:Int):List Int×Us:=
  if ZfV (lst m (mf k)) st.1 then(List.zipWith (fun x y=>max 0 (y-x)) (lst m (mf k)) st.1,st.2++ [(lst m (mf k),1)]) else st
def K1(m:Int)(mf:Og)(r0:List Int)(L0:Us)(h:List Int):List Int×Us:=h.foldl (ZdP m mf) (r0,L0)
theorem ZgD{n:Int}{f:Of}(n0:0<=n):lst (n+1) f=lst n f++ [f n]:=by
 unfold lst
 rw [show(n+1).toNat=n.toNat+1 by omega,List.range_succ,List.map_append,List.map_singleton,Int.toNat_of_nonneg n0]
theorem RH(m:Int)(mf:Og)(r0:List Int)(L0:Us)(j0:0<=j):K1 m mf r0 L0 (lst (j+1) t)=ZdP m mf (K1 m mf r0 L0 (lst j t)) (t j):=by
 rw [ZgD j0];simp [K1]
theorem RI{f:Of}:ZfV (lst m f) (lst m g)=true↔∃i,0<=i/\i<m/\0<f i/\0<g i:=by
 unfold ZfV
 rw [XT,Ui]
 constructor
 · rintro⟨k,k0,k1,h⟩
   refine⟨k,k0,k1,?_⟩
   by_cases hh:0<f k/\0<g k
   · exact hh
   · rw [if_neg hh] at h;omega
 · rintro⟨k,k0,k1,h⟩
   exact⟨k,k0,k1,by rw [if_pos h];omega⟩
theorem uNo{n:Int}{mf:Og}{r0:List Int}{L0:Us}{ln cnt:Of}{pt:Og}(j0:0<=j)(h:(lst m g,plL n ln pt cnt)=K1 m mf r0 L0 (lst j t))(hn:¬∃i,0<=i/\i<m/\0<mf (t j) i/\0<g i):(lst m g,plL n ln pt cnt)=K1 m mf r0 L0 (lst (j+1) t):=by
 rw [RH _ _ _ _ j0,<-h]
 unfold ZdP
 rw [if_neg fun hh=>hn (RI.1 hh)]
theorem Zov{n:Int}{mf:Og}{r0:List Int}{L0:Us}{g2 ln cnt ln2 qf:Of}{pt pt2:Og}(j0:0<=j)(n0:0<=n)(h:(lst m g,plL n ln pt cnt)=K1 m mf r0 L0 (lst j t))(hn:∃i,0<=i/\i<m/\0<mf (t j) i/\0<g i)(hg:∀k,0<=k->k<m->g2 k=max 0 (g k-mf (t j) k))
   (h1:∀k,0<=k->k<n->ln2 k=ln k/\qf k=cnt k/\pt2 k=pt k) (h2:ln2 n=m) (h3:qf n=1) (h4:pt2 n=mf (t j)):(lst m g2,plL (n+1) ln2 pt2 qf)=K1 m mf r0 L0 (lst (j+1) t):=by
 rw [RH _ _ _ _ j0,<-h]
 unfold ZdP
 dsimp only
 rw [if_pos (RI.2 hn),XT,TO n0 h1 h2 h3 h4,Yj (f:=g2) (g:=fun k=>max 0 (g k-mf (t j) k)) hg]
def UpR (p:Prob) (u:Int) (ml:Of) (mf:Og) (s:So) (out:Us) (e:Int):Prop:=
  (e≠0/\out= []/\∃n ln pt cnt,WholeR p u ml mf s n ln pt cnt e)\/(∃n1 ln1 pt1 y3 t n ln pt cnt,WholeR p u ml mf s n1 ln1 pt1 y3 0/\0<=n1/\0<=n/\PermOn 0 (frN s u.toNat) (frF s u.toNat) t/\Srt (Tie fun x y=>(s.X y).tmod s.den<(s.X x).tmod s.den) 0 (frN s u.toNat) t/\
    plL n ln pt cnt=(K1 p.m mf (lst p.m (Yz p (ZH n1 pt1 y3))) (plL n1 ln1 pt1 y3) (lst (frN s u.toNat) t)).2/\TrimR p n ln pt cnt out e)
theorem K0{mf:Of}{us us2:Prop}(i0:0<=i)(h:us↔∃q,0<=q/\q<i/\0<mf q/\0<g q)(h2:us2↔(us\/(0<mf i/\0<g i))):us2↔∃q,0<=q/\q<i+1/\0<mf q/\0<g q:=by
 rw [h2,h]
 constructor
 · rintro(⟨q,q0,q1,q2⟩|hh)
   · exact⟨q,q0,Oa,q2⟩
   · exact⟨i,i0,Oa,hh⟩
 · rintro⟨q,q0,q1,q2⟩
   by_cases e:q=i
   · subst e;exact .inr q2
   · exact .inl ⟨q,q0,Oa,q2⟩
theorem ZfX(s:So):Swo (fun x y=>(s.X y).tmod s.den<(s.X x).tmod s.den):=
 ⟨fun x y h=>Oa,fun x y z h k=>Oa,fun x y z h k=>Oa⟩
end Go.Proofs.YtpnamgfdakfccaaGreat
namespace Go.Proofs.YtpnamgfdakfccaaGreat
open Go Go.RowKit Go.Proofs.Gw
theorem Zo8:Zd Om 81=true:=Oc
theorem Zqc{vL vD:Value}{p:Prob}{vM:Value}{u:Int}{mv:Int->Value}{ml:Of}{mf:Og}{vX vY:Value}{s:So}(w0:World)(h:PAt w0 vL vD p)(hM:MAt w0 vM u mv ml mf)(hX:Row w0 vX 1 s.n (ints s.X))(hY:Row w0 vY 1 s.m (ints s.Y))(xA:s.n<=1000):
   Calls Om 39 [.agg #[vL,vD,.int Oi p.stock,.int Oi p.kerf],.agg #[vM,vX,vY,.int Oi s.val,.int Oi s.den]].toArray w0 fun e w=>∃v,e= .returned v/\∃r n pv ln pt cnt e,v= .tuple #[r,.int Oi e]/\UpR p u ml mf s (plL n ln pt cnt) e/\(∀k,0<=k->k<n->1<=cnt k/\cnt k<=1000000000)/\n<=1000000/\Slh r n/\Sat w0 w [.own r 2 97 n (Ze pv cnt),.sem (Frame.rows 3 n pv ln pt)]:=by
 obtain⟨hm,hm1,hd,hd1,hs,hk⟩:=h.Oq
 have hu:=hM.row.slh.n0;have hu1:=hM.row.slh.n1;have hn:=hX.slh.n0;have hn1:=hX.slh.n1
 refine zenG Tryz.func39 Tryz.ntmps39 fun w hS=> ?_
 refine zsr<|zla (xbx (cs:= [_,_,_,_]) hS) ?_;rintro _ w ⟨g1,rfl,hS⟩
 refine zla (xbx (cs:= [_,_,_,_,_]) hS) ?_;rintro _ w ⟨g2,rfl,hS⟩
 refine(On)<|zlz<|(zV (xls 0 st_27 hS))<|(zV (xls 1 XH hS))<|zlc (xc0 ZkW) (ZeA (p:=p) (u:=u) (ml:=ml) (mf:=mf) (s:=s) w (h.below hS.below) (hM.below hS.below) (hX.below hS.below) (hY.below hS.below) xA) ?_;rintro _ w ⟨q9,qd,qG,xk,qT,qI,bC,rfl,xw,zp,hS'⟩
 replace hS:=(hS.comp hS').n4;clear hS'
 have aW:=fun k (k0:0<=k) (k1:k<qd)=>hS.slhIn 3 rfl k0 k1
 refine zs5 ?_
 refine zx5<|(On)<|zlt<|Zf ?_ ?_<;>intro hc
 ·
  refine zsr<|(Oo)<|zx14<|zf2 ⟨_,rfl,?_⟩
  exact⟨_,0,fun _=>undef,fun _=>0,fun _ _=>0,fun _=>0,_,rfl,.inl ⟨by omega,rfl,_,_,_,_,xw⟩,fun k k0 k1=>Oa,Oa,slh_nil,((hS.sub (.cons _ (.cons _ (.cons _ (.cons _ .slnil))))).addnil 2 97 (Ze (fun _=>undef) (fun _=>0))).addrows 3 (fun _=>undef) (fun _=>0) (fun _ _=>0)⟩
 refine ZV<|zlv (xls 0 st_27 hS) ?_
 obtain⟨xc,xl,aS,fj,ba,bf⟩:=xw.ok Oa hu
 have xT:=xc
 have hsd:=xl.1
 obtain⟨⟨d1,d2⟩,⟨d3,d4⟩,d5⟩:=id hsd
 have hun:=xl.2.1
 have hu6:=xl.2.2.1
 have aZ:=xc.m1;have xb:=xc.m2;have hpd:=xc.d
 refine(zP)<|zlc (xc0 Zev) (Tp (u:=qd) (pv:=qG) (ln:=xk) (pt:=qT) (cnt:=qI) (p:=p) w (⟨(hS.rowN 2 rfl),fun k k0 k1=>hS.rowIn 3 rfl k0 k1,fun k k0 k1=>hS.roomIn 3 rfl k0 k1⟩:VAt _ q9 qd qG xk qT qI) (h.below hS.below)) ?_;rintro _ w ⟨qD,ql,qe,zg,rfl,qY,qB,hS'⟩
 replace hS:=(hS.comp hS').n5;clear hS'
 obtain⟨bN,zG⟩:ql=p.m/\qe=ZH qd qT qI:=by rcases qY with⟨g1,_⟩|⟨_,g2,g3,_⟩;exact absurd ba g1;exact⟨g2,g3⟩
 have bp:∀k,0<=k->k<p.m->0<=qe k/\qe k<=2000000000:=fun k k0 k1=>by rw [zG];have h9:=We ba.2.2 bf (Int.le_refl _) k0 k1;omega
 have ao:=fun k (k0:0<=k) (k1:k<p.m)=>(bp k k0 k1).1
 have htl:=UA xc ao p.m.toNat (by have:=xc.m1;omega)
 refine zs5 ?_
 refine zlz<|(zV (xls 0 st_27 hS))<|(zP)<|zlc (xc0 ZkU) (Zif (p:=p) (f:=qe) w (h.below hS.below) xc (bN▸(hS.rowN 4 rfl)) bp) ?_;rintro _ w ⟨xr,xj,rfl,yi,yM,hS'⟩
 replace hS:=(hS.comp hS').n7;clear hS'
 refine(zV (xany (v:=xj)))<|(zP)<|zlz<|(zV (xfb 1 fd_56_1))<|(zV (xlp 1 (ds:= [vX,vY,.int Oi s.val,.int Oi s.den]) ZT hS))<|zla (xal (cs:= [_,_,_,_]) Ua hS) ?_;rintro _ w ⟨g3,rfl,hS⟩
 refine zle (xsw 7 ZT hS (hd:=(Za hX.slh.one (Za hY.slh.one (Za rfl (Za rfl Zi)))))) ?_;clear hS;rintro w hS
 refine zlz<|(zP)<|zx5<|(zV (xfb 0 fd_54_0))<|(zV (xlb 7 pl_22 hS))<|(zV (xln Zb hX.slh))<|(zP)<|zx6 ?_
 replace hS:=hS.addnil 1 3 (ints (fun _=>0))
 refine zlp (fun mm M w=>∃(nO:Int) (fO:Of) (i:Int) (vO:Value),mm=((s.n-i).toNat)/\(0<=i)/\(i<=s.n)/\(nO=frN s i.toNat)/\(fO=frF s i.toNat)/\(0<=nO/\nO<=i)/\(Slh vO nO)/\M= [(2,Or g1),(3,Or g2),(4,Oh),(5,.int Oi 0),(6,q9),(10,xj),(11,Or g3),(12,vO),(45,vX),(46,.int Oi s.n),(47,.int Oi i)]/\Sat w0 w [.blk g1 [vL,vD,.int Oi p.stock,.int Oi p.kerf],.blk g2 [vM,vX,vY,.int Oi s.val,.int Oi s.den],.own q9 2 97 qd (Ze qG qI),.sem (Frame.rows 3 qd qG xk qT),.own qD 1 3 ql (ints qe),.own xr 1 3 p.m (ints p.L),.own xj 1 3 p.d (ints (Yz p qe)),.blk g3 [vX,vY,.int Oi s.val,.int Oi s.den],.own vO 1 3 nO (ints fO)]) ⟨0,(fun _=>0),0,Oh,rfl,Oa,Oa,?_,?_,Oa,?_,rfl,hS⟩ ?_
 ·
  rfl
 ·
  rfl
 ·
  exact slh_nil
 clear hS w
 rintro mm M w ⟨nO,fO,i,vO,rfl,h0,h1,hfN,hfF,hnO,hvO,rfl,hS⟩
 refine zsr<|(zP)<|zx7<|Zf ?_ ?_<;>intro hc
 ·
  refine zx3<|(zP)<|(zV (xix (kk:=i) Zb hX.slh))<|zlv (xlr (u:= .int Oi (s.X i)) pl_3 (hX.below hS.below)) ?_
  have hXi:=d5 i h0 Oa
  have hti:=Tx hXi.1 d1
  refine(On)<|zlz<|(zP)<|(zV (xfb 3 fd_54_3))<|(zV (xlb 7 pl_3 hS))<|(zV (ZfQ (r:=(Int.tmod (s.X i) s.den))))<|(zP)<|zlt<|Zf ?_ ?_<;>intro hc
  ·
   refine zrg<|(On)<|zla (xli (n:=1) (len:=1) (pv:= [(0,.int Oi i)]) (cs:= [.int Oi i]) (c:=ints (fun _=>i)) Zb ZJ hS) ?_;rintro v1 w ⟨hS,hv1⟩
   refine zla (xap 8 (r:=nO+1) Zb ZJ hS (hS.rowN 9 rfl) (Wl _ _ _)) ?_;rintro v2 w ⟨hS,hv2⟩
   refine(zP)<|zx10<|(zV (Zh (r:=i+1)))<|(zP)<|zln<|zlq ⟨nO+1,(snoc fO nO i),i+1,v2,rfl,Oa,Oa,?_,?_,Oa,?_,rfl,hS.pk [0,1,2,3,4,5,6,7,8]⟩
   ·
    rw [Zca s h0,<-hfN];first|rw [if_pos Oa]|rw [if_neg Oa]
   ·
    rw [Zcb s h0,<-hfN,<-hfF];first|rw [if_pos Oa]|rw [if_neg Oa]
   ·
    exact hv2
  refine zx4<|(zV (Zh (r:=i+1)))<|(zP)<|zln<|zlq ⟨nO,fO,i+1,vO,rfl,Oa,Oa,?_,?_,Oa,?_,rfl,hS⟩
  ·
   rw [Zca s h0,<-hfN];first|rw [if_pos Oa]|rw [if_neg Oa]
  ·
   rw [Zcb s h0,<-hfN,<-hfF];first|rw [if_pos Oa]|rw [if_neg Oa]
  ·
   exact hvO
 refine zx8<|zlv xmv ?_
 have hiN:i=u:=Oa
 rw [hiN] at hfN hfF
 obtain⟨hr1,hr2,hr3,hr4,hr5⟩:=ZgZ s u.toNat
 have hdO:∀k,0<=k->k<nO->0<=fO k/\fO k<s.n:=fun k k0 k1=>by rw [hfF];have:=hr3 k k0 Oa;omega
 have hIO:U9 0 nO fO:=by rw [hfN,hfF];exact hr4
 refine(zV xmf)<|zlc (xc0 Zo8) (Zh0 (gs:=g3) (vd:=vO) (n:=nO) (nm:=s.n) (s:=fO) (lt:=fun x y=>(s.X y).tmod s.den<(s.X x).tmod s.den) (F:=Frame.bun [.blk g1 [vL,vD,.int Oi p.stock,.int Oi p.kerf],.blk g2 [vM,vX,vY,.int Oi s.val,.int Oi s.den],.own q9 2 97 qd (Ze qG qI),.sem (Frame.rows 3 qd qG xk qT),.own qD 1 3 ql (ints qe),.own xr 1 3 p.m (ints p.L),.own xj 1 3 p.d (ints (Yz p qe)),.blk g3 [vX,vY,.int Oi s.val,.int Oi s.den]]) w0 w (Sat.bundle (l1:= [_]) (hS.pk [8,0,1,2,3,4,5,6,7])) hvO Oa (fun w x y x0 x1 y0 y1 hb hF=>Zj8 w (hF.1 _ (List.mem_of_getElem? (i:=7) rfl)) (hX.below hb) (hY.below hb) hsd x0 x1 y0 y1) hdO (ZfX s) hIO) ?_;rintro _ w ⟨rfl,t1,aj,dl,hS⟩
 replace hS:=Sat.unbundle (l1:= [_]) (l3:= []) hS
 refine zx5<|zlv xmv ?_
 have htd:∀k,0<=k->k<nO->0<=t1 k/\t1 k<s.n:=fun k k0 k1=>by obtain⟨q,q0,q1,q2⟩:=aj.fr k0 k1;rw [show t1 k=fO q from q2];exact hdO q q0 q1
 have hlf:∀k,0<=k->k<p.m->0<=Yz p qe k/\Yz p qe k<=1000:=fun k k0 k1=>by have h9:=Rc xc k0 k1;have h8:=ao k k0 k1;unfold Yz;rw [if_pos ⟨k0,k1⟩];omega
 refine(zV (xln Zb hvO))<|(zP)<|zx6<|zlp (fun mm M w=>∃(nC:Int) (wv:Int->Value) (lC:Of) (gC:Og) (cC:Of) (gR:Of) (j:Int) (wC:Value),mm=((nO-j).toNat)/\(0<=j)/\(j<=nO)/\(0<=nC)/\(nC<=60+j)/\((lst p.m gR,plL nC lC gC cC)=K1 p.m mf (lst p.m (Yz p qe)) (plL qd xk qT qI) (lst j t1))/\(∀k,0<=k->k<p.m->0<=gR k/\gR k<=1000)/\(Slh wC nC)/\M= [(2,Or g1),(3,Or g2),(4,Oh),(5,.int Oi 0),(6,wC),(10,xj),(65,vO),(66,.int Oi nO),(67,.int Oi j)]/\Sat w0 w [.own vO 1 3 nO (ints t1),.blk g1 [vL,vD,.int Oi p.stock,.int Oi p.kerf],.blk g2 [vM,vX,vY,.int Oi s.val,.int Oi s.den],.own wC 2 97 nC (Ze wv cC),.sem (Frame.rows 3 nC wv lC gC),.own qD 1 3 ql (ints qe),.own xr 1 3 p.m (ints p.L),.own xj 1 3 p.d (ints gR),.blk g3 [vX,vY,.int Oi s.val,.int Oi s.den]]) ⟨qd,qG,xk,qT,qI,(Yz p qe),0,q9,rfl,Oa,Oa,Oa,Oa,?_,?_,?_,rfl,hS⟩ ?_
 ·
  rfl
 ·
  exact hlf
 ·
  exact zp
 clear hS w
 rintro mm M w ⟨nC,wv,lC,gC,cC,gR,j,wC,rfl,j0,j1,dz,me,hUr,hGR,hwC,rfl,hS⟩
 have xp:=fun k (k0:0<=k) (k1:k<nC)=>hS.slhIn 4 rfl k0 k1
 refine zsr<|(zP)<|zx7<|Zf ?_ ?_<;>intro hc
 ·
  refine zx3<|(zV (xix (kk:=j) Zb hvO))<|zlv (xlr (u:= .int Oi (t1 j)) pl_3 (hS.rowN 0 rfl)) ?_
  have htj:=htd j j0 Oa
  obtain⟨hmk,hak⟩:=VV (xl.2.2.2.1 (t1 j) htj.1 Oa).1
  refine(zP)<|zlz<|(zV (xfb 0 Tk))<|(zV (xlb 2 ZM hS))<|(zP)<|(zV (xix (kk:=(t1 j)) Zk hM.row.slh))<|(zV (xlr (u:=(mv (t1 j))) pl_22 (hM.row.below hS.below)))<|(zP)<|zlz<|(zP)<|zx5<|(zP)<|(zV (xln Zb (hM.p (t1 j) Oa Oa).slh))<|(zP)<|zx6<|zlp (fun mm M w=>∃(useful:Prop) (i2:Int),mm=((ml (t1 j)-i2).toNat)/\(0<=i2)/\(i2<=ml (t1 j))/\(useful↔∃q,0<=q/\q<i2/\0<mf (t1 j) q/\0<gR q)/\M= [(2,Or g1),(3,Or g2),(4,Oh),(5,.int Oi 0),(6,wC),(10,xj),(17,(mv (t1 j))),(18,B (useful)),(65,vO),(66,.int Oi nO),(67,.int Oi j),(76,(mv (t1 j))),(77,.int Oi (ml (t1 j))),(78,.int Oi i2)]/\Sat w0 w [.own vO 1 3 nO (ints t1),.blk g1 [vL,vD,.int Oi p.stock,.int Oi p.kerf],.blk g2 [vM,vX,vY,.int Oi s.val,.int Oi s.den],.own wC 2 97 nC (Ze wv cC),.sem (Frame.rows 3 nC wv lC gC),.own qD 1 3 ql (ints qe),.own xr 1 3 p.m (ints p.L),.own xj 1 3 p.d (ints gR),.blk g3 [vX,vY,.int Oi s.val,.int Oi s.den]]) ⟨False,0,rfl,Oa,Oa,?_,rfl,hS⟩ ?_ (hM:=by repeat' first|exact KO|refine zpk rfl ?_|refine zpk (congrArg some (ZA not_false).symm) ?_|refine zpk (congrArg some (ZQ trivial).symm) ?_)
  ·
   exact⟨fun h=>h.elim,fun⟨q,q0,q1,_⟩=>Oa⟩
  clear hS w
  rintro mm M w ⟨useful,i2,rfl,i20,i21,hus,rfl,hS⟩
  refine zsr<|(zP)<|zx7<|Zf ?_ ?_<;>intro hc
  ·
   refine zx3<|(zP)<|(zV (xix (kk:=i2) Zb (hM.p (t1 j) Oa Oa).slh))<|zlv (xlr (u:= .int Oi ((mf (t1 j)) i2)) pl_3 ((hM.p (t1 j) Oa Oa).below hS.below)) ?_
   have haq:=hak i2 i20 Oa
   refine(On)<|zlt<|zrg<|(On)<|zlb 84 ?_ ?_<;>intro hc
   ·
    iterate 9 refine zlo ?_
    refine(On)<|zx10<|(zV (Zh (r:=i2+1)))<|(zP)<|zln<|zlq ⟨True,i2+1,rfl,Oa,Oa,?_,rfl,hS⟩ (hM:=by repeat' first|exact KO|refine zpk rfl ?_|refine zpk (congrArg some (ZA not_false).symm) ?_|refine zpk (congrArg some (ZQ trivial).symm) ?_)
    ·
     refine K0 i20 hus ?_
     first
     |exact⟨fun _=> .inl ‹useful›,fun _=>trivial⟩
     |exact⟨fun h9=> .inr ⟨‹0<mf (t1 j) i2›,h9⟩,fun h9=>h9.elim (fun h8=>absurd h8 ‹¬useful›) (·.2)⟩
     |exact⟨fun h9=>h9.elim,fun h9=>h9.elim (fun h8=>absurd h8 ‹¬useful›) (fun h8=>absurd h8.1 ‹¬0<mf (t1 j) i2›)⟩
   refine(Oo)<|zlb 87 ?_ ?_<;>intro hc
   ·
    refine(On)<|(zV (xix (kk:=i2) Zb yM))<|(zV (xlr (u:= .int Oi (gR i2)) pl_3 (hS.rowN 7 rfl)))<|zs4 ?_
    refine zx10<|(zV (Zh (r:=i2+1)))<|(zP)<|zln<|zlq ⟨0<gR i2,i2+1,rfl,Oa,Oa,?_,rfl,hS⟩
    ·
     refine K0 i20 hus ?_
     first
     |exact⟨fun _=> .inl ‹useful›,fun _=>trivial⟩
     |exact⟨fun h9=> .inr ⟨‹0<mf (t1 j) i2›,h9⟩,fun h9=>h9.elim (fun h8=>absurd h8 ‹¬useful›) (·.2)⟩
     |exact⟨fun h9=>h9.elim,fun h9=>h9.elim (fun h8=>absurd h8 ‹¬useful›) (fun h8=>absurd h8.1 ‹¬0<mf (t1 j) i2›)⟩
   iterate 5 refine zlo ?_
   refine(Oo)<|zx10<|(zV (Zh (r:=i2+1)))<|(zP)<|zln<|zlq ⟨False,i2+1,rfl,Oa,Oa,?_,rfl,hS⟩ (hM:=by repeat' first|exact KO|refine zpk rfl ?_|refine zpk (congrArg some (ZA not_false).symm) ?_|refine zpk (congrArg some (ZQ trivial).symm) ?_)
   ·
    refine K0 i20 hus ?_
    first
    |exact⟨fun _=> .inl ‹useful›,fun _=>trivial⟩
    |exact⟨fun h9=> .inr ⟨‹0<mf (t1 j) i2›,h9⟩,fun h9=>h9.elim (fun h8=>absurd h8 ‹¬useful›) (·.2)⟩
    |exact⟨fun h9=>h9.elim,fun h9=>h9.elim (fun h8=>absurd h8 ‹¬useful›) (fun h8=>absurd h8.1 ‹¬0<mf (t1 j) i2›)⟩
  refine zx18<|(On)<|zlt<|Zf ?_ ?_<;>intro hc
  ·
   refine zxt<|ztx<|zbh<|ztn<|zrg<|(zV (Zh (r:=j+1)))<|(zP)<|zln<|zlq ⟨nC,wv,lC,gC,cC,gR,j+1,wC,rfl,Oa,Oa,Oa,Oa,?_,?_,?_,rfl,hS⟩
   ·
    first|exact uNo j0 hUr (fun⟨q,q0,q1,q2⟩=>absurd (hus.2 ⟨q,q0,Oa,q2⟩) ‹_›)|exact Zov j0 dz hUr (by obtain⟨q,q0,q1,q2⟩:=hus.1 Oe;exact⟨q,q0,Oa,q2⟩) (fun k k0 k1=>(hg4 k k0 k1).trans (if_pos Oa)) (fun k k0 k1=>⟨Zq k1,Zs k1,Zq k1⟩) ((ZB Oa).trans hmk) (Zt Oa) (ZB Oa)
   ·
    first|exact hGR|(intro k k0 k1;have h9:=hg4 k k0 k1;rw [if_pos Oa] at h9;have h8:=hGR k k0 k1;have h7:=hak k k0 k1;omega)
   ·
    exact hwC
  refine ZV<|(On)<|zlc (xc0 cl_66) (c_clone (n:=(ml (t1 j))) (f:=(mf (t1 j))) w ((hM.p (t1 j) Oa Oa).below hS.below) Oa) ?_;rintro vq1 w ⟨_,rfl,qb,hS'⟩
  replace hS:=(hS.comp hS').n10;clear hS'
  refine zlv (xany (v:= .agg #[vq1,.int Oi 1]) (hr:=by obtain⟨_,_,_,_,rfl,_⟩:=qb;kernel_rfl)) ?_
  refine zla (xli (n:=1) (len:=1) (pv:= [(0,.agg #[vq1,.int Oi 1])]) (cs:= [vq1,.int Oi 1]) (c:=Ze (fun _=>vq1) (fun _=>1)) ZR Y8 hS (hf:=by obtain⟨_,_,_,_,rfl,_⟩:=qb;kernel_rfl)) ?_;rintro v3 w ⟨hS,hv3⟩
  refine zla (xap 3 (r:=nC+1) ZR Y8 hS (hS.rowN 10 rfl) (Xn _ _ _ _ _) (h1:=fun k _ _=>Xe (fun _=>qb.one) k)) ?_;rintro v4 w ⟨hS,hv4⟩
  replace hS:=Sat.merge (l1:= [_,_,_,_]) (l2:= [_,_,_,_]) (l3:= [_]) hS Oa
  have za:=fun k (k0:0<=k) (k1:k<nC+1)=>hS.slhIn 4 rfl k0 k1
  refine(zP)<|zlz<|(zP)<|(zV (xln Zb (hM.p (t1 j) Oa Oa).slh))<|(zP)<|zx6<|zlp (fun mm M w=>∃(g4:Of) (i4:Int),mm=((ml (t1 j)-i4).toNat)/\(0<=i4)/\(i4<=ml (t1 j))/\(∀k,0<=k->k<p.m->g4 k=if k<i4 then max 0 (gR k-mf (t1 j) k) else gR k)/\M= [(2,Or g1),(3,Or g2),(4,Oh),(5,.int Oi 0),(6,v4),(10,xj),(65,vO),(66,.int Oi nO),(67,.int Oi j),(104,(mv (t1 j))),(105,.int Oi (ml (t1 j))),(106,.int Oi i4)]/\Sat w0 w [.own vO 1 3 nO (ints t1),.blk g1 [vL,vD,.int Oi p.stock,.int Oi p.kerf],.blk g2 [vM,vX,vY,.int Oi s.val,.int Oi s.den],.own v4 2 97 (nC+1) (Ze (gsn wv nC vq1) (snoc cC nC 1)),.sem (Frame.rows 3 (nC+1) (gsn wv nC vq1) (gsn lC nC (ml (t1 j))) (gsn gC nC (mf (t1 j)))),.own qD 1 3 ql (ints qe),.own xr 1 3 p.m (ints p.L),.own xj 1 3 p.d (ints g4),.blk g3 [vX,vY,.int Oi s.val,.int Oi s.den],.own v3 2 97 1 (Ze (fun _=>vq1) (fun _=>1))]) ⟨gR,0,rfl,Oa,Oa,?_,rfl,hS⟩ ?_
  ·
   intro k k0 k1;rw [if_neg Oa]
  clear hS w
  rintro mm M w ⟨g4,i4,rfl,i40,i41,hg4,rfl,hS⟩
  refine zsr<|(zP)<|zx7<|Zf ?_ ?_<;>intro hc
  ·
   refine zx3<|(zP)<|(zV (xix (kk:=i4) Zb (hM.p (t1 j) Oa Oa).slh))<|zlv (xlr (u:= .int Oi ((mf (t1 j)) i4)) pl_3 ((hM.p (t1 j) Oa Oa).below hS.below)) ?_
   have haq:=hak i4 i40 Oa
   have hgq:=hGR i4 i40 Oa
   have hgi:=hg4 i4 i40 Oa
   rw [if_neg Oa] at hgi
   refine(On)<|zlt<|zrg<|zs4 ?_
   refine(zV (xix (kk:=i4) Zb yM))<|(zV (xlr (u:= .int Oi (g4 i4)) pl_3 (hS.rowN 7 rfl)))<|(zP)<|(zV (Zp (r:=g4 i4-((mf (t1 j)) i4))))<|(zV (ZfS (r:=(max 0 (g4 i4-((mf (t1 j)) i4))))))<|(zV (xix (kk:=i4) Zb yM))<|zle (xso 7 pl_3 hS (ZD _ _ _)) ?_;clear hS;rintro w hS
   refine zx10<|(zV (Zh (r:=i4+1)))<|(zP)<|zln<|zlq ⟨(upd g4 i4 (max 0 (g4 i4-((mf (t1 j)) i4)))),i4+1,rfl,Oa,Oa,?_,rfl,hS⟩
   ·
    intro k k0 k1;unfold upd;by_cases e:k=i4
    · rw [if_pos e,if_pos Oa,e];omega
    · rw [if_neg e,hg4 k k0 k1];by_cases e2:k<i4
      · rw [if_pos e2,if_pos Oa]
      · rw [if_neg e2,if_neg Oa]
  refine zxt<|ztx<|ztx<|zbh<|zbn<|ztn<|zrg<|(zV (Zh (r:=j+1)))<|(zP)<|zln<|zlq ⟨nC+1,gsn wv nC vq1,gsn lC nC (ml (t1 j)),gsn gC nC (mf (t1 j)),(snoc cC nC 1),g4,j+1,v4,rfl,Oa,Oa,Oa,Oa,?_,?_,?_,rfl,hS.pk [0,1,2,3,4,5,6,7,8]⟩
  ·
   first|exact uNo j0 hUr (fun⟨q,q0,q1,q2⟩=>absurd (hus.2 ⟨q,q0,Oa,q2⟩) ‹_›)|exact Zov j0 dz hUr (by obtain⟨q,q0,q1,q2⟩:=hus.1 Oe;exact⟨q,q0,Oa,q2⟩) (fun k k0 k1=>(hg4 k k0 k1).trans (if_pos Oa)) (fun k k0 k1=>⟨Zq k1,Zs k1,Zq k1⟩) ((ZB Oa).trans hmk) (Zt Oa) (ZB Oa)
  ·
   first|exact hGR|(intro k k0 k1;have h9:=hg4 k k0 k1;rw [if_pos Oa] at h9;have h8:=hGR k k0 k1;have h7:=hak k k0 k1;omega)
  ·
   exact hv4
 refine zx8<|(zV (xls 1 st_27 hS))<|(zP)<|zlc (xc0 ZkV) (ZhW (u:=nC) (pv:=wv) (ln:=lC) (pt:=gC) (cnt:=cC) (p:=p) w (⟨(hS.rowN 3 rfl),fun k k0 k1=>hS.rowIn 4 rfl k0 k1,fun k k0 k1=>hS.roomIn 4 rfl k0 k1⟩:VAt _ wC nC wv lC gC cC) (h.below hS.below)) ?_;rintro _ w ⟨dS,aE,eu,eE,fR,f9,fZ,rfl,zu,zx,zw,zq,hS'⟩
 replace hS:=(hS.comp hS').n11;clear hS'
 have dt:=fun k (k0:0<=k) (k1:k<aE)=>hS.slhIn 10 rfl k0 k1
 refine zs4 ?_
 refine zx1<|zf2 ⟨_,rfl,?_⟩
 have hjN:j=frN s u.toNat:=Oa
 rw [hjN] at hUr
 exact⟨_,_,_,_,_,_,_,rfl,.inr ⟨_,_,_,_,_,_,_,_,_,(by rw [show(0:Int)=bC by omega];exact xw),bf,dz,(by rw [<-hfN,<-hfF];exact aj),(by rw [<-hfN];exact dl),(by rw [<-zG,<-hUr]),zu⟩,zx,zw,zq,hS.pk [9,10]⟩
variable {cnt ln:Of} {pt:Og}
theorem Vx{F G c d:Of}:∀{m:Nat},(∀k:Nat,k<m->F k=G k/\c k=d k)->psum F c m=psum G d m
 |0,_=>rfl
 |m+1,h=>by simp only [psum];rw [Vx fun k hk=>h k Oa,(h m Oa).1,(h m Oa).2]
theorem XN{n:Int}{f:Of}{j:Int}(j0:0<=j)(j1:j<n):(lst n f).getD j.toNat 0=f j:=by
 rw [List.getD_eq_getElem?_getD,lst_get,Int.toNat_of_nonneg j0,if_pos j1];rfl
theorem Zb3{m:Int}{l:List Int}(h:l.length=m.toNat):l=lst m fun k=>l.getD k.toNat 0:=by
 apply List.ext_getElem?
 intro k
 rw [lst_get]
 by_cases hk:(k:Int)<m
 · rw [if_pos hk,List.getD_eq_getElem?_getD,Int.toNat_natCast,List.getElem?_eq_getElem Oa];rfl
 · rw [if_neg hk];simp;omega
def mkU(j:Int)(L:Us):Int:=wsum (fun l=>l.getD j.toNat 0) L
theorem Zjo{n:Int}(n0:0<=n){j:Int}(j0:0<=j)(hl:∀k,0<=k->k<n->j<ln k):ZH n pt cnt j=mkU j (plL n ln pt cnt):=by
 unfold mkU ZH
 rw [Z7 _ n0]
 exact Vx fun k hk=>⟨(XN j0 (hl k Oa Oa)).symm,rfl⟩
theorem Zgk{p:Prob}{u:Int}(h:PlanOk p u ln pt cnt):∀x∈plL u ln pt cnt,1<=x.2:=fun x hx=>by
 obtain⟨j,hj⟩:=List.mem_iff_getElem?.1 hx
 rw [plL_get] at hj
 split at hj
 · injection hj with hj;rw [<-hj];exact(h.2.2 j Oa (by assumption)).1
 · cases hj
def Zbg(p:Prob)(l:List Int):Prop:=∃f,FitsP p p.m f/\l=lst p.m f
theorem U0{p:Prob}{n m:Int}{f g:Of}(h:FitsP p n f)(hn:n=m)(he:∀k,0<=k->k<p.m->g k=f k):FitsP p m g:=by
 subst hn
 refine⟨h.ok,h.eq,fun i i0 i1=>by rw [he i i0 i1];exact h.all i i0 i1,?_⟩
 have hm:=h.ok.m1
 have e:ZL p g p.m.toNat=ZL p f p.m.toNat:=Zg fun i i0 i1=>by rw [he i i0 Oa]
 rw [e];exact h.used
theorem ZbN{p:Prob}{n:Int}(hok:p.Ok)(hn:n<=1000)(hl:∀k,0<=k->k<n->0<=ln k)(hL:∀x∈plL n ln pt cnt,(1<=x.2/\x.2<=1000)/\Zbg p x.1):PlanOk p n ln pt cnt:=by
 refine⟨hok,hn,fun k k0 k1=> ?_⟩
 have hm:(lst (ln k) (pt k),cnt k)∈plL n ln pt cnt:=List.mem_iff_getElem?.2 ⟨k.toNat,by rw [plL_get,Int.toNat_of_nonneg k0,if_pos k1]⟩
 obtain⟨⟨h1,h2⟩,f,h3,h4⟩:=hL _ hm
 have hm1:=hok.m1
 obtain⟨q1,q2⟩:=(Uz (hl k k0 k1) Oa).1 h4
 exact⟨h1,h2,U0 h3 q1.symm fun i i0 i1=>q2 i i0 Oa⟩
theorem Vy{p:Prob}{n:Int}(h:PlanOk p n ln pt cnt):∀x∈plL n ln pt cnt,(1<=x.2/\x.2<=1000)/\Zbg p x.1:=fun x hx=>by
 obtain⟨j,hj⟩:=List.mem_iff_getElem?.1 hx
 rw [plL_get] at hj
 split at hj
 · injection hj with hj
   obtain⟨h1,h2,h3⟩:=h.2.2 j Oa (by assumption)
   rw [<-hj]
   exact⟨⟨h1,h2⟩,pt j,U0 h3 h3.eq fun _ _ _=>rfl,by have:=h3.eq;dsimp only;rw [this]⟩
 · cases hj
end Go.Proofs.YtpnamgfdakfccaaGreat
namespace Go.Proofs.YtpnamgfdakfccaaGreat
open Go Go.RowKit Go.Proofs.Gw
variable {j:Int}
theorem KM{p:Prob}{qc:List Int}{s:Us}(hok:p.Ok)(h:FFOk p.m (p.stock+p.kerf) (szP p) qc s){b:List Int×Int}(hb:b∈s)(j0:0<=j)(j1:j<p.m):0<=b.1.getD j.toNat 0/\b.1.getD j.toNat 0<=p.stock+p.kerf:=by
 obtain⟨h2,h3,h4⟩:=h.ok _ hb
 have h5:=h.nn _ hb
 have h6:=Zak h5 (sz:=szP p) (fun k hk=>(ZcZ hok Oa Oa).1) (j:=j.toNat) Oa
 refine⟨?_,Oa⟩
 rw [List.getD_eq_getElem?_getD,List.getElem?_eq_getElem Oa]
 exact h5 _ (List.getElem_mem _)
theorem RV(p:Prob)(d:Of):∀n:Nat,psum (szP p) d n=ZL p d n
 |0=>rfl
 | n +1=>by
   have h1:ZL p d (n+1)=ZL p d n+d n*(p.L n+p.kerf):=by
     have:=ZF (fun i=>d i*(p.L i+p.kerf)) (i:=(n:Int)) Oa
     rw [show((n:Int)+1).toNat=n+1 by omega,Int.toNat_natCast] at this
     exact this
   rw [h1,psum,RV p d n,Int.mul_comm]
theorem Zd6{a b A B:Int}(a0:0<=a)(a1:a<=A)(b0:0<=b)(b1:b<=B):0<=a*b/\a*b<=A*B:=
 ⟨Int.mul_nonneg a0 b0,Int.mul_le_mul a1 b1 b0 Oa⟩
theorem VW{p:Prob}{n:Int}{ln cnt:Of}{pt:Og}(hok:p.Ok)(hn:n<=1000)(hL:∀x∈plL n ln pt cnt,(1<=x.2/\x.2<=1000)/\Zbg p x.1):PlanOk p n ln pt cnt:=by
 refine ZbN hok hn (fun k k0 k1=> ?_) hL
 obtain⟨_,f,h3,h4⟩:=hL (lst (ln k) (pt k),cnt k) (List.mem_iff_getElem?.2 ⟨k.toNat,by rw [plL_get,Int.toNat_of_nonneg k0,if_pos k1]⟩)
 have h5:=congrArg List.length h4
 dsimp only at h5
 rw [YY,YY] at h5
 have:=hok.m1
 omega
theorem PlanOk.mk{p:Prob}{n:Int}{ln cnt:Of}{pt:Og}(h:PlanOk p n ln pt cnt)(n0:0<=n)(j0:0<=j)(j1:j<p.m):ZH n pt cnt j=mkU j (plL n ln pt cnt):=
 Zjo n0 j0 fun k k0 k1=>by have:=(h.2.2 k k0 k1).2.2.eq;omega
theorem ZdM{f g:List Int->Int}:∀{L:Us},(∀x∈L,0<=x.2)->(∀x∈L,f x.1<=g x.1)->wsum f L<=wsum g L
 | [],_,_=>Int.le_refl _
 | x::L,h,k=>by
   have h1:=ZdM (f:=f) (g:=g) (L:=L) (fun y hy=>h y (by simp [hy])) fun y hy=>k y (by simp [hy])
   have h2:=Int.mul_le_mul_of_nonneg_right (k x (by simp)) (h x (by simp))
   simp only [wsum];omega
theorem Zdu:∀{L:Us},(∀x∈L,1<=x.2)->(L.length:Int)<=wsum (fun _=>1) L/\∀x∈L,x.2<=wsum (fun _=>1) L
 | [],_=>⟨by simp [wsum],by simp⟩
 | y ::L,h=>by
   obtain⟨h1,h2⟩:=Zdu (L:=L) fun x hx=>h x (by simp [hx])
   have h3:=h y (by simp)
   simp only [wsum]
   refine⟨by rw [List.length_cons];push_cast;omega,fun x hx=> ?_⟩
   rcases List.mem_cons.1 hx with e|e
   · rw [e];have:(0:Int)<=L.length:=Oa
     omega
   · have:=h2 x e;omega
theorem ZlQ{p:Prob}{qc:List Int}{s:Us}(hok:p.Ok)(h:FFOk p.m (p.stock+p.kerf) (szP p) qc s){b:List Int×Int}(hb:b∈s):Zbg p b.1:=by
 obtain⟨h2,h3,h4⟩:=h.ok _ hb
 have h5:=h.nn _ hb
 have hm:=hok.m1
 have hl:=Zb3 (m:=p.m) h2
 have e:Wv (szP p) b.1=ZL p (fun k=>b.1.getD k.toNat 0) p.m.toNat:=by
   rw [hl,RU _ _ Oa,RV]
   refine Zg fun i i0 i1=> ?_
   dsimp only
   rw [<-hl]
 refine⟨fun k=>b.1.getD k.toNat 0,⟨hok,rfl,fun i i0 i1=> ?_,Oa⟩,hl⟩
 obtain⟨g1,g2⟩:=KM hok h hb i0 i1
 refine⟨g1,?_⟩
 have h6:(b.1.getD i.toNat 0)*(1+p.kerf)<=p.stock+p.kerf:=by
   have hs:=hok.all i i0 i1
   unfold Prob.each at hs
   have h7:(b.1.getD i.toNat 0)*(p.L i+p.kerf)<=ZL p (fun k=>b.1.getD k.toNat 0) p.m.toNat:=Xf (f:=fun i=>b.1.getD i.toNat 0*(p.L i+p.kerf)) i0 Oa fun k k0 k1=>by
     have hk:=hok.all k k0 Oa
     unfold Prob.each at hk
     exact Int.mul_nonneg (KM hok h hb k0 Oa).1 (by have:=hok.k1;omega)
   have h8:=Int.mul_le_mul_of_nonneg_left (show 1+p.kerf<=p.L i+p.kerf by omega) g1
   omega
 have hk1:=hok.k1
 have hs2:=hok.s2
 refine Classical.byContradiction fun hc=> ?_
 have h9:=Int.mul_le_mul_of_nonneg_right (show(2001:Int)<=b.1.getD i.toNat 0 by omega) (show 0<=1+p.kerf by omega)
 omega
def Zdf(j:Int):Of:=fun k=>if k=j then 1 else 0
theorem TN{d:Of}{j:Int}(j0:0<=j):∀n:Nat,psum (Zdf j) d n=if j<(n:Int) then d j else 0
 |0=>by rw [if_neg Oa];rfl
 | n +1=>by
   simp only [psum]
   rw [TN j0 n]
   unfold Zdf
   by_cases h:(n:Int)=j
   · rw [if_neg Oa,if_pos h,if_pos Oa,h];omega
   · rw [if_neg h]
     by_cases h2:j<(n:Int)
     · rw [if_pos h2,if_pos Oa];omega
     · rw [if_neg h2,if_neg Oa];omega
theorem Zgj{m:Int}{l:List Int}(hl:l.length=m.toNat)(j0:0<=j)(j1:j<m):Wv (Zdf j) l=l.getD j.toNat 0:=by
 have h:=Zb3 (m:=m) hl
 have h1:Wv (Zdf j) l=Wv (Zdf j) (lst m fun k=>l.getD k.toNat 0):=by rw [<-h]
 rw [h1,RU _ _ Oa,TN j0,if_pos Oa]
theorem Zg2{p:Prob}{d:Of}(hok:p.Ok)(hd:∀k,0<=k->k<p.m->0<=d k){N:Us}(hN:NormR (Rx (YR p.m (p.stock+p.kerf) (szP p) (pcsTo d p.m 0))) N):
   (∀x∈N,1<=x.2/\Zbg p x.1)/\wsum (fun _=>1) N<=psum (fun _=>1) d p.m.toNat/\∀j,0<=j->j<p.m->mkU j N=d j:=by
 have hm:=hok.m1
 obtain⟨hp1,hp2⟩:=TP (d:=d) (m:=p.m) (i:=p.m) (c:=0) hd Oa Oa Oa (fun h=>Oa) fun _=>rfl
 have hF:=Zei hok hp1
 have qk:∀x∈Rx (YR p.m (p.stock+p.kerf) (szP p) (pcsTo d p.m 0)),∃b∈YR p.m (p.stock+p.kerf) (szP p) (pcsTo d p.m 0),x=(b.1,1):=fun x hx=>by
   unfold Rx at hx
   obtain⟨b,hb,rfl⟩:=List.mem_map.1 hx
   exact⟨b,hb,rfl⟩
 refine⟨fun x hx=>⟨hN.pos (fun y hy=>by obtain⟨b,_,rfl⟩:=qk y hy;exact Int.le_refl _) x hx,?_⟩,?_,fun j j0 j1=> ?_⟩
 · obtain⟨y,hy,e⟩:=hN.keys x hx
   obtain⟨b,hb,rfl⟩:=qk y hy
   rw [<-e];exact ZlQ (b:=b) hok hF hb
 · rw [hN.wsum,Ul]
   have h1:=hF.ln
   have h2:((YR p.m (p.stock+p.kerf) (szP p) (pcsTo d p.m 0)).map fun _=>(1:Int)).sum=(YR p.m (p.stock+p.kerf) (szP p) (pcsTo d p.m 0)).length:=by
     generalize YR p.m (p.stock+p.kerf) (szP p) (pcsTo d p.m 0)=l
     induction l with
     |nil=>rfl
     |cons a l ih=>rw [List.map_cons,List.sum_cons,ih,List.length_cons];push_cast;omega
   omega
 · unfold mkU
   rw [hN.wsum,Ul]
   have h1:=hF.ct (Zdf j)
   rw [R3 _ _ Oa Oa hd,TN j0,if_pos Oa] at h1
   have h2:((YR p.m (p.stock+p.kerf) (szP p) (pcsTo d p.m 0)).map fun b=>b.1.getD j.toNat 0)=(YR p.m (p.stock+p.kerf) (szP p) (pcsTo d p.m 0)).map fun b=>Wv (Zdf j) b.1:=
     List.map_congr_left fun b hb=>(Zgj (hF.ok b hb).1 j0 j1).symm
   rw [h2,h1];omega
end Go.Proofs.YtpnamgfdakfccaaGreat
namespace Go.Proofs.YtpnamgfdakfccaaGreat
open Go Go.RowKit Go.Proofs.Gw
variable {e:Int}
structure ExU (p:Prob) (N:Us):Prop where
  pat:∀x∈N,1<=x.2/\Zbg p x.1
  few:wsum (fun _=>1) N<=psum (fun _=>1) p.D p.m.toNat
  mks:∀j,0<=j->j<p.m->mkU j N=p.D j
theorem FFitR.ex{p:Prob}{N:Us}(hok:p.Ok)(h:FFitR p N e)(he:e=0):ExU p N:=by
 obtain⟨h1,h2,h3⟩:=Zg2 hok (fun k k0 k1=>(Rc hok k0 k1).1) (h.2.1 he)
 exact⟨h1,h2,h3⟩
theorem ZcB(f:List Int->Int):∀{N:Us},(∀x∈N,0<=x.2)->((UL N).map f).sum=wsum f N
 | [],_=>rfl
 | u ::N,h=>by
   have h1:=ZcB f (N:=N) fun x hx=>h x (by simp [hx])
   have h2:=h u (by simp)
   unfold UL at h1⊢
   rw [List.reverse_cons,List.flatMap_append,List.map_append,List.sum_append,h1]
   simp only [List.flatMap_cons,List.flatMap_nil,List.append_nil,List.map_replicate,wsum]
   have h3:∀n:Nat,(List.replicate n (f u.1)).sum=f u.1*n:=fun n=>by
     induction n with
     |zero=>simp
     |succ n ih=>rw [List.replicate_succ,List.sum_cons,ih];push_cast;rw [Int.mul_add];omega
   rw [h3,Int.toNat_of_nonneg h2];omega
theorem Ziv{N:Us}:∀a∈UL N,∃x∈N,a=x.1:=fun a ha=>by
 unfold UL at ha
 obtain⟨x,hx,h⟩:=List.mem_flatMap.1 ha
 exact⟨x,List.mem_reverse.1 hx,(List.mem_replicate.1 h).2⟩
theorem Zdt{m:Int}{j:Int}(j0:0<=j)(j1:j<m):∀(h:List (List Int)),(∀a∈h,∃f:Of,(∀k,0<=k->k<m->0<=f k)/\a=lst m f)->0<=(h.map fun a=>a.getD j.toNat 0).sum
 | [],_=>by simp
 | a::h,ha=>by
   have h1:=Zdt j0 j1 h fun b hb=>ha b (by simp [hb])
   obtain⟨f,hf,rfl⟩:=ha a (by simp)
   have:=hf j j0 j1
   rw [List.map_cons,List.sum_cons,XN j0 j1];omega
theorem Ty {m:Int}:∀(h:List (List Int)) (M:Of) (L:Us),(∀a∈h,∃f:Of,(∀k,0<=k->k<m->0<=f k)/\a=lst m f)->(∀k,0<=k->k<m->0<=M k)->
   (∃M':Of,(h.foldl WN (lst m M,L)).1=lst m M'/\∀j,0<=j->j<m->M' j=max 0 (M j-(h.map fun a=>a.getD j.toNat 0).sum)/\mkU j (h.foldl WN (lst m M,L)).2=mkU j L+(h.map fun a=>a.getD j.toNat 0).sum-(M j-M' j))/\
   ∀x∈(h.foldl WN (lst m M,L)).2,x∈L\/∃(f g:Of),lst m f∈h/\x=(lst m g,1)/\(∀k,0<=k->k<m->0<=g k/\g k<=f k)/\∃k,0<=k/\k<m/\0<g k
 | [],M,L,_,hM=>⟨⟨M,rfl,fun j j0 j1=>by have:=hM j j0 j1;simp only [List.foldl_nil,List.map_nil,List.sum_nil];omega⟩,fun x hx=> .inl hx⟩
 | a :: h, M,L,ha,hM=>by
   obtain⟨f,hf,rfl⟩:=ha a (by simp)
   have e1:tM (lst m f) (lst m M)=lst m fun k=>M k-min (f k) (M k):=XT _ _ _ _
   have e2:tA (lst m f) (lst m M)=lst m fun k=>f k-min (f k) (M k):=XT _ _ _ _
   have hM1:∀k,0<=k->k<m->0<=M k-min (f k) (M k):=fun k k0 k1=>Oa
   have ha1:∀a∈h,∃f:Of,(∀k,0<=k->k<m->0<=f k)/\a=lst m f:=fun b hb=>ha b (by simp [hb])
   rw [List.foldl_cons]
   by_cases hn:(lst m fun k=>f k-min (f k) (M k)).any (fun x=>decide (0<x))=true
   · have e:WN (lst m M,L) (lst m f)=(lst m fun k=>M k-min (f k) (M k),L++ [(lst m fun k=>f k-min (f k) (M k),1)]):=by
       unfold WN;dsimp only;rw [e1,e2,if_pos hn]
     rw [e]
     obtain⟨⟨M',h1,h2⟩,h3⟩:=Ty h (fun k=>M k-min (f k) (M k)) (L++ [(lst m fun k=>f k-min (f k) (M k),1)]) ha1 hM1
     refine⟨⟨M',h1,fun j j0 j1=> ?_⟩,fun x hx=> ?_⟩
     · obtain⟨g1,g2⟩:=h2 j j0 j1
       rw [List.map_cons,List.sum_cons,XN j0 j1]
       have g3:mkU j (L++ [(lst m fun k=>f k-min (f k) (M k),1)])=mkU j L+(f j-min (f j) (M j)):=by
         unfold mkU;rw [WK];simp only [wsum];rw [XN j0 j1];omega
       rw [g3] at g2
       have:=hf j j0 j1;have:=hM j j0 j1;have:=Zdt j0 j1 h ha1
       omega
     · rcases h3 x hx with h4|⟨f',g,h4,h5⟩
       · rcases List.mem_append.1 h4 with h4|h4
         · exact .inl h4
         · obtain⟨k,k0,k1,hk⟩:=Ui.1 hn
           exact .inr ⟨f,_,by simp,by simpa using h4,fun k k0 k1=>by have:=hf k k0 k1;have:=hM k k0 k1;omega,k,k0,k1,hk⟩
       · exact .inr ⟨f',g,by simp [h4],h5⟩
   · have e:WN (lst m M,L) (lst m f)=(lst m fun k=>M k-min (f k) (M k),L):=by
       unfold WN;dsimp only;rw [e1,e2,if_neg hn]
     rw [e]
     obtain⟨⟨M',h1,h2⟩,h3⟩:=Ty h (fun k=>M k-min (f k) (M k)) L ha1 hM1
     refine⟨⟨M',h1,fun j j0 j1=> ?_⟩,fun x hx=> ?_⟩
     · obtain⟨g1,g2⟩:=h2 j j0 j1
       rw [List.map_cons,List.sum_cons,XN j0 j1]
       have hz:¬0<f j-min (f j) (M j):=fun hh=>hn (Ui.2 ⟨j,j0,j1,hh⟩)
       have:=hf j j0 j1;have:=hM j j0 j1;have:=Zdt j0 j1 h ha1
       omega
     · rcases h3 x hx with h4|⟨f',g,h4,h5⟩
       · exact .inl h4
       · exact .inr ⟨f',g,by simp [h4],h5⟩
theorem RW(d:Of):∀n:Nat,psum (fun k=>d k) (fun _=>1) n=psum (fun _=>1) d n
 |0=>rfl
 |n+1=>by simp only [psum];rw [RW d n];omega
theorem Zbk(f g:List Int->Int):∀L:Us,wsum (fun l=>f l+g l) L=wsum f L+wsum g L
 | []=>rfl
 |x::L=>by simp only [wsum];rw [Zbk f g L,Int.add_mul];omega
theorem RD:∀L:Us,wsum (fun _=>0) L=0
 | []=>rfl
 |x::L=>by simp only [wsum];rw [RD L];omega
theorem ZdL(L:Us):∀n:Nat,wsum (fun l=>psum (fun k=>l.getD k.toNat 0) (fun _=>1) n) L=psum (fun k=>mkU k L) (fun _=>1) n
 |0=>RD L
 | n +1=>by
   have h:=Zbk (fun l=>psum (fun k=>l.getD k.toNat 0) (fun _=>1) n) (fun l=>l.getD n 0) L
   simp only [psum]
   rw [ZdL L n] at h
   have e:(fun l:List Int=>psum (fun k=>l.getD k.toNat 0) (fun _=>1) n+l.getD (n:Int).toNat 0*1)=fun l=>psum (fun k=>l.getD k.toNat 0) (fun _=>1) n+l.getD n 0:=by
     funext l;rw [Int.toNat_natCast];omega
   rw [e,h]
   unfold mkU
   rw [Int.toNat_natCast];omega
theorem Zg3{p:Prob}{n:Int}{f g:Of}(h:FitsP p n f)(hn:n=p.m)(hg:∀k,0<=k->k<p.m->0<=g k/\g k<=f k):FitsP p p.m g:=by
 refine⟨h.ok,rfl,fun i i0 i1=>by have:=h.all i i0 i1;have:=hg i i0 i1;omega,Int.le_trans (Z1 fun i i0 i1=> ?_) h.used⟩
 have hm:=h.ok.m1
 have h1:=hg i i0 Oa
 have h2:=h.ok.all i i0 Oa
 unfold Prob.each at h2
 exact Int.mul_le_mul_of_nonneg_right h1.2 (by have:=h.ok.k1;omega)
theorem TrimR.ex {p:Prob} {u:Int} {ln cnt:Of} {pt:Og} {out:Us} (h:TrimR p u ln pt cnt out e) (he:e=0) (u0:0<=u):ExU p out:=by
 rcases h with⟨_,_,h⟩|⟨_,_,_,h⟩|⟨h1,h2,_,N,hN,hO⟩
 · omega
 · omega
 · have hok:=h1.1
   have hm:=hok.m1
   have ak:=fun x hx=>hN.pos (Zgk h1) x hx
   have fG:∀x∈N,Zbg p x.1:=fun x hx=>by
     obtain⟨y,hy,ey⟩:=hN.keys x hx
     rw [<-ey];exact(Vy h1 y hy).2
   have fL:∀a∈UL N,Zbg p a:=fun a ha=>by
     obtain⟨x,hx,rfl⟩:=Ziv a ha
     exact fG x hx
   have fk:∀j,0<=j->j<p.m->ZH u pt cnt j=((UL N).map fun a=>a.getD j.toNat 0).sum:=fun j j0 j1=>by
     rw [ZcB _ fun x hx=>by have:=ak x hx;omega,h1.mk u0 j0 j1]
     exact(hN.wsum _).symm
   obtain⟨⟨M',_,hc⟩,xU⟩:=Ty (m:=p.m) (UL N) (fun j=>ZH u pt cnt j-p.D j) [] (fun a ha=>by
     obtain⟨f,hf,rfl⟩:=fL a ha
     exact⟨f,fun k k0 k1=>(hf.all k k0 k1).1,rfl⟩) fun k k0 k1=>by have:=h2 k k0 k1;omega
   have hT:∀x∈(Un (lst p.m fun j=>ZH u pt cnt j-p.D j) (UL N)).2,1<=x.2/\Zbg p x.1/\(∀k,0<=k->k<p.m->0<=x.1.getD k.toNat 0)/\∃k,0<=k/\k<p.m/\0<x.1.getD k.toNat 0:=fun x hx=>by
     rcases xU x hx with h|⟨f,g,hf,rfl,hg,k,k0,k1,hk⟩
     · cases h
     · obtain⟨f',hf',ef⟩:=fL _ hf
       have e1:=((Uz Oa Oa).1 ef).2
       refine⟨Int.le_refl _,⟨g,Zg3 hf' rfl fun k k0 k1=>by have:=hg k k0 k1;rw [<-e1 k k0 k1];exact this,rfl⟩,fun k k0 k1=> ?_,k,k0,k1,?_⟩
       · dsimp only;rw [XN k0 k1];exact(hg k k0 k1).1
       · dsimp only;rw [XN k0 k1];exact hk
   have hmk:∀j,0<=j->j<p.m->mkU j (Un (lst p.m fun j=>ZH u pt cnt j-p.D j) (UL N)).2=p.D j:=fun j j0 j1=>by
     obtain⟨g1,g2⟩:=hc j j0 j1
     rw [<-fk j j0 j1] at g1 g2
     have g3:mkU j ([]:Us)=0:=rfl
     have hd:=(Rc hok j0 j1).1
     unfold Un
     have:=h2 j j0 j1
     omega
   refine⟨fun x hx=>⟨hO.pos (fun y hy=>(hT y hy).1) x hx,?_⟩,?_,fun j j0 j1=> ?_⟩
   · obtain⟨y,hy,ey⟩:=hO.keys x hx
     rw [<-ey];exact(hT y hy).2.1
   · rw [hO.wsum]
     refine Int.le_trans (ZdM (g:=fun l=>psum (fun k=>l.getD k.toNat 0) (fun _=>1) p.m.toNat) (fun x hx=>by have:=(hT x hx).1;omega) fun x hx=> ?_) ?_
     · obtain⟨_,_,h3,k,k0,k1,hk⟩:=hT x hx
       have h4:=Vc (d:=fun _=>1) (f:=fun k=>x.1.getD k.toNat 0) (i:=(k+1).toNat) (n:=p.m.toNat) Oa fun q hq=>by have:=h3 q Oa Oa;omega
       rw [YO _ _ k0] at h4
       have h5:=Vc (d:=fun _=>1) (f:=fun k=>x.1.getD k.toNat 0) (i:=0) (n:=k.toNat) Oa fun q hq=>by have:=h3 q Oa Oa;omega
       have h6:psum (fun k=>x.1.getD k.toNat 0) (fun _=>1) 0=0:=rfl
       omega
     · rw [ZdL,<-RW]
       refine Int.le_of_eq (Vx fun k hk=>⟨hmk k Oa Oa,rfl⟩)
   · unfold mkU;rw [hO.wsum];exact hmk j j0 j1
theorem Zaq(pt:Og)(cnt:Of)(j:Int):∀n:Nat,X8 pt cnt n j=psum (fun k=>pt k j) cnt n
 |0=>rfl
 | n+1=>by
   have:=ZF (fun i=>pt i j*cnt i) (i:=(n:Int)) Oa
   rw [show((n:Int)+1).toNat=n+1 by omega,Int.toNat_natCast] at this
   unfold X8
   rw [this]
   have h:=Zaq pt cnt j n
   unfold X8 at h
   rw [h];rfl
theorem ExU.sound{p:Prob}{n:Int}{ln cnt:Of}{pt:Og}(h:ExU p (plL n ln pt cnt))(hok:p.Ok)(ht:psum (fun _=>1) p.D p.m.toNat<=1000)(n0:0<=n):SoundP p n ln pt cnt/\∀j,0<=j->j<p.m->X8 pt cnt n.toNat j=p.D j:=by
 obtain⟨h1,h2⟩:=Zdu (L:=plL n ln pt cnt) fun x hx=>(h.pat x hx).1
 have h3:=h.few
 rw [plL_len] at h1
 have hP:PlanOk p n ln pt cnt:=VW hok Oa fun x hx=>⟨⟨(h.pat x hx).1,by have:=h2 x hx;omega⟩,(h.pat x hx).2⟩
 refine⟨⟨hok,Oa,fun i i0 i1=> ?_⟩,fun j j0 j1=> ?_⟩
 · obtain⟨g1,g2,g3⟩:=hP.2.2 i i0 i1
   exact⟨g3,g1,g2⟩
 · rw [Zaq]
   have:=hP.mk n0 j0 j1
   unfold ZH at this
   rw [this];exact h.mks j j0 j1
theorem DownR.ex{p:Prob}{u:Int}{ml:Of}{mf:Og}{s:So}{out:Us}{e:Int}(h:DownR p u ml mf s out e)(he:e=0):ExU p out:=by
 rcases h with⟨h,_⟩|⟨n1,ln1,pt1,y3,n2,ln2,pt2,qf,hw,n10,n20,hN,hT⟩
 · exact absurd he h
 · exact hT.ex he Oa
theorem UpR.ex{p:Prob}{u:Int}{ml:Of}{mf:Og}{s:So}{out:Us}{e:Int}(h:UpR p u ml mf s out e)(he:e=0):ExU p out:=by
 rcases h with⟨h,_⟩|⟨n1,ln1,pt1,y3,t,n,ln,pt,cnt,hw,n10,n0,hp,_,hU,hT⟩
 · exact absurd he h
 · exact hT.ex he n0
end Go.Proofs.YtpnamgfdakfccaaGreat
namespace Go.Proofs.YtpnamgfdakfccaaGreat
open Go Go.RowKit Go.Proofs.Gw
variable {ml:Of} {mf:Og}
theorem Kz:Zd Om 14=true:=Oc
theorem Zex:Zd Om 16=true:=Oc
theorem Zpk:Zd Om 37=true:=Oc
theorem ZoX:ZN Om 94=some (.nilFunc,1,8):=Oc
theorem Zoy:ZG Om 94=true:=Oc
theorem Zf9:Zu Om 95=some (94,1):=Oc
def VX(b x:Us)(e:Int):Us:=if e=0/\wsum (fun _=>1) x<wsum (fun _=>1) b then x else b
def ZiF(i:Int)(p:Prob)(u:Int)(ml:Of)(mf:Og)(s:So)(out:Us)(e:Int):Prop:=if i=0 then DownR p u ml mf s out e else UpR p u ml mf s out e
def BRun(p:Prob)(u:Int)(ml:Of)(mf:Og)(s:So)(l:Us)(i:Int)(cur:Us):Prop:=
  (i=0/\cur=l)\/(i=1/\∃x e,DownR p u ml mf s x e/\cur=VX l x e)\/(i=2/\∃x e y f,DownR p u ml mf s x e/\UpR p u ml mf s y f/\cur=VX (VX l x e) y f)
theorem BRun.next{p:Prob}{u:Int}{s:So}{l cur x:Us}{i e:Int}(h:BRun p u ml mf s l i cur)(i2:i<2)(hx:ZiF i p u ml mf s x e):BRun p u ml mf s l (i+1) (VX cur x e):=by
 unfold ZiF at hx
 rcases h with⟨rfl,rfl⟩|⟨rfl,y,f,h1,rfl⟩|⟨h,_⟩
 · exact .inr (.inl ⟨rfl,x,e,by simpa using hx,rfl⟩)
 · exact .inr (.inr ⟨rfl,y,f,x,e,h1,by simpa using hx,rfl⟩)
 · omega
def BestR(p:Prob)(out:Us)(e:Int):Prop:=
  (e≠0/\FFitR p [] e/\out= [])\/(e=0/\∃l,FFitR p l 0/\∃u ml mf s ec,0<=u/\ColR p u ml mf s ec/\((ec≠0/\out=l)\/(ec=0/\BRun p u ml mf s l 2 out)))
theorem ColR.n60{p:Prob}{u:Int}{s:So}{e:Int}(h:ColR p u ml mf s e)(he:e=0)(u0:0<=u):u<=60/\s.n<=60:=by
 have hk:=(h.okS u0 he).1.n
 rcases h with⟨_,_,_,h⟩|⟨_,h,_⟩|⟨_,_,_,h1,_⟩
 · omega
 · exact absurd he h
 · have:=h1.few.2.1;omega
theorem Zmr(i:Int):Zd Om (if i=0 then 38 else 39)=true:=by split<;>kernel_rfl
theorem Zpu(i:Int){vL vD:Value}{p:Prob}{vM:Value}{u:Int}{mv:Int->Value}{vX vY:Value}{s:So}(w0:World)(h:PAt w0 vL vD p)(hM:MAt w0 vM u mv ml mf)(hX:Row w0 vX 1 s.n (ints s.X))(hY:Row w0 vY 1 s.m (ints s.Y))(xA:s.n<=1000):
   Calls Om (if i=0 then 38 else 39) [.agg #[vL,vD,.int Oi p.stock,.int Oi p.kerf],.agg #[vM,vX,vY,.int Oi s.val,.int Oi s.den]].toArray w0 fun e w=>∃v,e= .returned v/\∃r n pv ln pt cnt e,v= .tuple #[r,.int Oi e]/\ZiF i p u ml mf s (plL n ln pt cnt) e/\(∀k,0<=k->k<n->1<=cnt k/\cnt k<=1000000000)/\n<=1000000/\Slh r n/\Sat w0 w [.own r 2 97 n (Ze pv cnt),.sem (Frame.rows 3 n pv ln pt)]:=by
 by_cases hi:i=0
 · rw [if_pos hi]
   refine(Zn1 w0 h hM hX hY xA).mono fun e w he=> ?_
   unfold ZiF;simp only [if_pos hi];exact he
 · rw [if_neg hi]
   refine(Zqc w0 h hM hX hY xA).mono fun e w he=> ?_
   unfold ZiF;simp only [if_neg hi];exact he
theorem ZdI{vL vD:Value}{p:Prob}(w0:World)(h:PAt w0 vL vD p):
   Calls Om 13 [.agg #[vL,vD,.int Oi p.stock,.int Oi p.kerf]].toArray w0 fun e w=>∃v,e= .returned v/\∃r n pv ln pt cnt e,v= .tuple #[r,.int Oi e]/\BestR p (plL n ln pt cnt) e/\(∀k,0<=k->k<n->1<=cnt k/\cnt k<=1000000000)/\n<=1000000/\Slh r n/\Sat w0 w [.own r 2 97 n (Ze pv cnt),.sem (Frame.rows 3 n pv ln pt)]:=by
 obtain⟨hm,hm1,hd,hd1,hs,hk⟩:=h.Oq
 refine zenG Tryz.func13 Tryz.ntmps13 fun w hS=> ?_
 refine zsr<|zla (xbx (cs:= [_,_,_,_]) hS) ?_;rintro _ w ⟨g1,rfl,hS⟩
 refine(On)<|zlz<|(zV (xls 0 st_27 hS))<|zlc (xc0 Zpk) (Zn0 (p:=p) w (h.below hS.below)) ?_;rintro _ w ⟨dU,aF,ev,cm,cL,cP,cN,rfl,yW,bo,jt,aN,hS'⟩
 replace hS:=(hS.comp hS').n3;clear hS'
 have gV:=fun k (k0:0<=k) (k1:k<aF)=>hS.slhIn 2 rfl k0 k1
 refine zs5 ?_
 refine zx5<|(On)<|zlt<|Zf ?_ ?_<;>intro hc
 ·
  refine zsr<|(Oo)<|zx14<|zf2 ⟨_,rfl,?_⟩
  exact⟨_,0,fun _=>undef,fun _=>0,fun _ _=>0,fun _=>0,_,rfl,.inl ⟨by omega,(by rw [<-yW.2.2 Oa];exact yW),rfl⟩,fun k k0 k1=>Oa,Oa,slh_nil,((hS.sub (.cons _ (.cons _ (.cons _ .slnil)))).addnil 2 97 (Ze (fun _=>undef) (fun _=>0))).addrows 3 (fun _=>undef) (fun _=>0) (fun _ _=>0)⟩
 refine ZV<|(zV (xls 0 st_27 hS))<|zlc (xc0 Zex) (Ue (p:=p) w (h.below hS.below)) ?_;rintro _ w ⟨yF,yC,yg,xY,xJ,xK,xL,qz,zK,rfl,qu,qq,xz,qV,hS'⟩
 replace hS:=(hS.comp hS').n7;clear hS'
 have zz:=fun k (k0:0<=k) (k1:k<xJ)=>hS.slhIn 4 rfl k0 k1
 refine(Oo)<|zla (xal (cs:= [_,_,_,_,_]) Zcq hS) ?_;rintro _ w ⟨g2,rfl,hS⟩
 refine zle (xsw 7 XH hS (hd:=(Za qq.one (Za xz.one (Za qV.one (Za rfl (Za rfl Zi))))))) ?_;clear hS;rintro w hS
 refine(zP)<|zx5<|(On)<|zlt<|Zf ?_ ?_<;>intro hc
 ·
  refine zsr<|(Oo)<|zx14<|zf2 ⟨_,rfl,?_⟩
  exact⟨_,_,_,_,_,_,0,rfl,.inr ⟨rfl,_,(by rw [show(0:Int)=cN by omega];exact yW),_,_,_,_,_,qq.n0,qu,.inl ⟨by omega,rfl⟩⟩,fun k k0 k1=>by have:=bo k k0 k1;omega,Oa,aN,hS.pk [1,2]⟩
 refine zsk<|ztn<|zsq<|zsr<|zla (xli (n:=2) (len:=2) (pv:= [(0,.func (.func 38) #[] #[]),(1,.func (.func 39) #[] #[])]) (cs:= [.func (.func 38) #[] #[],.func (.func 39) #[] #[]]) (c:=(fun k=>Value.func (.func (if k=0 then 38 else 39)) #[] #[])) Zf9 ZoX hS) ?_;rintro v1 w ⟨hS,hv1⟩
 refine(zV (xln Zf9 hv1))<|(zP)<|zx6<|zlp (fun mm M w=>∃(nC:Int) (wv:Int->Value) (lC:Of) (gC:Og) (cC:Of) (i:Int) (wC:Value),mm=((2-i).toNat)/\(0<=i)/\(i<=2)/\(∀k,0<=k->k<nC->1<=cC k/\cC k<=1000000000)/\(nC<=1000000)/\(BRun p xJ xK xL qz (plL aF cm cL cP) i (plL nC lC gC cC))/\(Slh wC nC)/\M= [(1,Or g1),(2,Oh),(3,.int Oi 0),(4,wC),(6,Or g2),(27,v1),(28,.int Oi 2),(29,.int Oi i)]/\Sat w0 w [.blk g1 [vL,vD,.int Oi p.stock,.int Oi p.kerf],.own wC 2 97 nC (Ze wv cC),.sem (Frame.rows 3 nC wv lC gC),.own yF 1 22 xJ yC,.sem (Frame.rows 3 xJ yC xK xL),.own yg 1 3 qz.n (ints qz.X),.own xY 1 3 qz.m (ints qz.Y),.blk g2 [yF,yg,xY,.int Oi qz.val,.int Oi qz.den],.own v1 1 94 2 (fun k=>Value.func (.func (if k=0 then 38 else 39)) #[] #[])]) ⟨aF,ev,cm,cL,cP,0,dU,rfl,Oa,Oa,?_,Oa,?_,?_,rfl,hS⟩ ?_
 ·
  intro k k0 k1;have:=bo k k0 k1;omega
 ·
  exact .inl ⟨rfl,rfl⟩
 ·
  exact aN
 clear hS w
 rintro mm M w ⟨nC,wv,lC,gC,cC,i,wC,rfl,i0,i1,hcB,hnB,hBR,hwC,rfl,hS⟩
 have xp:=fun k (k0:0<=k) (k1:k<nC)=>hS.slhIn 2 rfl k0 k1
 obtain⟨gI,kg⟩:=qu.n60 Oa qq.n0
 refine zsr<|(zP)<|zx7<|Zf ?_ ?_<;>intro hc
 ·
  refine zx3<|(zV (xix (kk:=i) Zf9 hv1))<|(zV (xlr (u:= .func (.func (if i=0 then 38 else 39)) #[] #[]) Zoy (hS.rowN 8 rfl)))<|(zP)<|zlz<|(zP)<|(zV (xls 0 st_27 hS))<|(zV (xls 7 XH hS))<|zlc (xc0 (Zmr i)) (Zpu i (p:=p) (u:=xJ) (ml:=xK) (mf:=xL) (s:=qz) w (h.below hS.below) (⟨(hS.rowN 3 rfl),fun k k0 k1=>hS.rowIn 4 rfl k0 k1,fun k k0 k1=>hS.roomIn 4 rfl k0 k1⟩:MAt _ yF xJ yC xK xL) (hS.rowN 5 rfl) (hS.rowN 6 rfl) Oa) ?_;rintro _ w ⟨bU,zS,aD,aJ,bB,bD,kI,rfl,zA,ze,ku,yN,hS'⟩
  replace hS:=(hS.comp hS').n11;clear hS'
  have gT:=fun k (k0:0<=k) (k1:k<zS)=>hS.slhIn 10 rfl k0 k1
  refine zs5 ?_
  refine zlz<|(Oo)<|zlb 42 ?_ ?_<;>intro hc
  ·
   refine(zP)<|zlc (xc0 Kz) (Vn (u:=zS) (pv:=aD) (ln:=aJ) (pt:=bB) (cnt:=bD) w (⟨(hS.rowN 9 rfl),fun k k0 k1=>hS.rowIn 10 rfl k0 k1,fun k k0 k1=>hS.roomIn 10 rfl k0 k1⟩:VAt _ bU zS aD aJ bB bD) Oa (fun k k0 k1=>by first|(have h8:=hcB k k0 k1;omega)|(have h8:=ze k k0 k1;omega))) ?_;rintro _ w ⟨rfl,hS'⟩
   replace hS:=hS.cmp hS';clear hS'
   refine(zP)<|zlc (xc0 Kz) (Vn (u:=nC) (pv:=wv) (ln:=lC) (pt:=gC) (cnt:=cC) w (⟨(hS.rowN 1 rfl),fun k k0 k1=>hS.rowIn 2 rfl k0 k1,fun k k0 k1=>hS.roomIn 2 rfl k0 k1⟩:VAt _ wC nC wv lC gC cC) Oa (fun k k0 k1=>by first|(have h8:=hcB k k0 k1;omega)|(have h8:=ze k k0 k1;omega))) ?_;rintro _ w ⟨rfl,hS'⟩
   replace hS:=hS.cmp hS';clear hS'
   refine(On)<|zlt<|Zf ?_ ?_<;>intro hc
   ·
    refine zrg<|(On)<|zx10<|(zV (Zh (r:=i+1)))<|(zP)<|zln<|zlq ⟨zS,aD,aJ,bB,bD,i+1,bU,rfl,Oa,Oa,?_,Oa,?_,?_,rfl,hS.pk [0,9,10,3,4,5,6,7,8]⟩
    ·
     first|exact hcB|exact ze
    ·
     have hnx:=hBR.next Oa zA
     unfold VX at hnx
     rw [Z7 _ yN.n0,Z7 _ hwC.n0] at hnx
     first|(rw [if_pos ⟨by omega,by assumption⟩] at hnx;exact hnx)|(rw [if_neg (by first|(intro hh;exact absurd hh.1 Oa)|(intro hh;exact absurd hh.2 (by assumption))|(rintro⟨q1,q2⟩;omega))] at hnx;exact hnx)
    ·
     exact yN
   refine zx4<|(zV (Zh (r:=i+1)))<|(zP)<|zln<|zlq ⟨nC,wv,lC,gC,cC,i+1,wC,rfl,Oa,Oa,?_,Oa,?_,?_,rfl,hS.pk [0,1,2,3,4,5,6,7,8]⟩
   ·
    first|exact hcB|exact ze
   ·
    have hnx:=hBR.next Oa zA
    unfold VX at hnx
    rw [Z7 _ yN.n0,Z7 _ hwC.n0] at hnx
    first|(rw [if_pos ⟨by omega,by assumption⟩] at hnx;exact hnx)|(rw [if_neg (by first|(intro hh;exact absurd hh.1 Oa)|(intro hh;exact absurd hh.2 (by assumption))|(rintro⟨q1,q2⟩;omega))] at hnx;exact hnx)
   ·
    exact hwC
  iterate 5 refine zlo ?_
  refine(zP)<|zlt<|zcf<|zsk<|zbn<|ztn<|zrg ?_
  refine(zV (Zh (r:=i+1)))<|(zP)<|zln<|zlq ⟨nC,wv,lC,gC,cC,i+1,wC,rfl,Oa,Oa,?_,Oa,?_,?_,rfl,hS.pk [0,1,2,3,4,5,6,7,8]⟩
  ·
   first|exact hcB|exact ze
  ·
   have hnx:=hBR.next Oa zA
   unfold VX at hnx
   rw [Z7 _ yN.n0,Z7 _ hwC.n0] at hnx
   first|(rw [if_pos ⟨by omega,by assumption⟩] at hnx;exact hnx)|(rw [if_neg (by first|(intro hh;exact absurd hh.1 Oa)|(intro hh;exact absurd hh.2 (by assumption))|(rintro⟨q1,q2⟩;omega))] at hnx;exact hnx)
  ·
   exact hwC
 refine zx8<|(Oo)<|zx1<|zf2 ⟨_,rfl,?_⟩
 exact⟨_,_,_,_,_,_,0,rfl,.inr ⟨rfl,_,(by rw [show(0:Int)=cN by omega];exact yW),_,_,_,_,_,qq.n0,qu,.inr ⟨by omega,by rw [show(2:Int)=i by omega];exact hBR⟩⟩,hcB,Oa,hwC,hS.pk [1,2]⟩
end Go.Proofs.YtpnamgfdakfccaaGreat
namespace Go.Proofs.YtpnamgfdakfccaaGreat
open Go Go.RowKit Go.Proofs.Gw
theorem ZbO{p:Prob}{b x:Us}{e:Int}(hb:ExU p b)(hx:e=0->ExU p x):ExU p (VX b x e):=by
 unfold VX
 by_cases h:e=0/\wsum (fun _=>1) x<wsum (fun _=>1) b
 · rw [if_pos h];exact hx h.1
 · rw [if_neg h];exact hb
variable {y:Of} {vD vy:Value}
theorem Znp:Zd Om 144=true:=Oc
theorem Zpl:Zd Om 36=true:=Oc
theorem Zpc:Zd Om 73=true:=Oc
theorem Zpb:Zd Om 74=true:=Oc
theorem fd_43_0:Zv Om 43 0=some 0:=Oc
theorem fd_43_1:Zv Om 43 1=some 1:=Oc
theorem st_43:Zx Om 43=some 2:=Oc
def out(n:Int):Prop:=n<0\/1073741824<n
theorem ZpB(n:Int)(w0:World):
   Calls Om 144 [.int Oi n].toArray w0 fun e w=>∃v,e= .returned v/\v=B (out n)/\Sat w0 w []:=by
 refine zenG Tryz.func144 Tryz.ntmps144 fun w hS=> ?_
 refine zsr<|(zP)<|zlz<|(Oo)<|zlb 5 ?_ ?_<;>intro hc
 ·
  refine(zO)<|(zO)<|(On)<|zx1<|Oj ?_
  exact⟨Yn (by unfold out;omega),hS⟩
 refine zs4 ?_
 refine zx1<|Oj ?_
 exact⟨Zm (by unfold out;omega),hS⟩
theorem Zkn{s:Value}{n:Int}{f:Of}(w0:World)(h:Row w0 s 1 n (ints f)):
   Calls Om 147 [s,.func (.func 144) #[] #[]].toArray w0 fun e w=>∃v,e= .returned v/\∃r:Int,v= .int Oi r/\((r= -1/\∀k,0<=k->k<n->¬out (f k))\/(0<=r/\r<n/\out (f r)))/\Sat w0 w []:=by
 have hn:=h.slh.n0;have hn1:=h.slh.n1
 refine zenG Tryz.func147 Tryz.ntmps147 fun w hS=> ?_
 refine zsr<|(zP)<|zx5<|(zP)<|(zV (xln Zb h.slh))<|(zP)<|zx6<|zlp (fun mm M w=>∃(i:Int),mm=((n-i).toNat)/\(0<=i)/\(i<=n)/\(∀k,0<=k->k<i->¬out (f k))/\M= [(0,s),(1,.func (.func 144) #[] #[]),(7,.int Oi n),(8,.int Oi i)]/\Sat w0 w []) ⟨0,rfl,Oa,Oa,?_,rfl,hS⟩ ?_
 ·
  intro k h0 h1;omega
 clear hS w
 rintro mm M w ⟨i,rfl,h0,h1,qa,rfl,hS⟩
 refine zsr<|(zP)<|zx7<|Zf ?_ ?_<;>intro hc
 ·
  refine zx3<|(On)<|zlz<|(Oo)<|(zV (xix (kk:=i) Zb h.slh))<|(zV (xlr (u:= .int Oi (f i)) pl_3 (h.below hS.below)))<|zlc (xc0 Znp) (ZpB (f i) w) ?_;rintro _ w ⟨rfl,hS'⟩
  replace hS:=hS.cmp hS';clear hS'
  refine zlt<|Zf ?_ ?_<;>intro hc
  ·
   refine zsr<|(On)<|zx2<|Oj ?_
   exact⟨i,rfl,.inr ⟨by omega,Oa,‹out _›⟩,hS⟩
  refine zx4<|(zV (Zh (r:=i+1)))<|(zP)<|zln<|zlq ⟨i+1,rfl,Oa,Oa,?_,rfl,hS⟩
  ·
   intro k h0' h1';rcases Int.lt_or_eq_of_le (show k<=i by omega) with hk|hk;exact qa k h0' hk;rw [hk];assumption
 refine zx8<|(zP)<|zx1<|Oj ?_
 exact⟨-1,rfl,.inl ⟨rfl,fun k h0 h1=>qa k h0 Oa⟩,hS⟩
theorem Zkv{s:Value}{n:Int}{f:Of}(w0:World)(h:Row w0 s 1 n (ints f)):
   Calls Om 90 [s,.func (.func 144) #[] #[]].toArray w0 fun e w=>∃v,e= .returned v/\v=B (∃k,0<=k/\k<n/\out (f k))/\Sat w0 w []:=by
 refine zenG Tryz.func90 Tryz.ntmps90 fun w hS=> ?_
 refine zsr<|(zP)<|zlz<|(On)<|zlc (xc0 WX) (Zkn w (h.below hS.below)) ?_;rintro _ w ⟨r1,rfl,hr1,hS'⟩
 replace hS:=hS.cmp hS';clear hS'
 refine(On)<|zx1<|Oj ?_
 exact⟨Zm (by
  rcases hr1 with⟨h1,h2⟩|⟨h1,h2,h3⟩
  · exact⟨fun h=>Oa,fun⟨k,h4,h5,h6⟩=>absurd h6 (h2 k h4 h5)⟩
  · exact⟨fun _=>⟨_,h1,h2,h3⟩,fun _=>h1⟩),hS⟩
theorem Zin{n q:Int}(w0:World)(h:Row w0 vy 1 n (ints y))(hq: -9223372036854775808<=q/\q<=9223372036854775807):
   Calls Om 73 [.agg #[vy,.int Oi q]].toArray w0 fun e w=>∃v,e= .returned v/\v=B (Formed n y q)/\Sat w0 w []:=by
 refine zenG Tryz.func73 Tryz.ntmps73 fun w hS=> ?_
 refine zsr<|zla (xbx (cs:= [_,_]) hS) ?_;rintro _ w ⟨g1,rfl,hS⟩
 refine(zP)<|zlz<|(zV (xfb 1 fd_43_1))<|(zV (xlb 0 pl_3 hS))<|(On)<|zlb 6 ?_ ?_<;>intro hc
 ·
  refine(zV (xfb 1 fd_43_1))<|(zV (xlb 0 pl_3 hS))<|(Oo)<|zlb 11 ?_ ?_<;>intro hc
  ·
   refine(zV (xfb 0 fd_43_0))<|(zV (xlb 0 pl_22 hS))<|zlc (xc0 U2) (Zkv w (h.below hS.below)) ?_;rintro _ w ⟨rfl,hS'⟩
   replace hS:=hS.cmp hS';clear hS'
   refine(Oo)<|zx1<|Oj ?_
   exact⟨Zm (by constructor;intro h4;exact⟨by omega,Oa,fun k h1 h2=>by have:¬out (y k):=fun h5=>h4 ⟨k,h1,h2,h5⟩;unfold out at this;omega⟩;rintro⟨h1,h2,h3⟩ ⟨k,h4,h5,h6⟩;have:=h3 k h4 h5;unfold out at h6;omega),hS.nl⟩
  iterate 4 refine zlo ?_
  refine(On)<|zx1<|Oj ?_
  exact⟨Zj (by intro h;obtain⟨h1,h2,h3⟩:=h;omega),hS.nl⟩
 iterate 3 refine zlo ?_
 refine zs2 ?_
 iterate 4 refine zlo ?_
 refine(On)<|zx1<|Oj ?_
 exact⟨Zj (by intro h;obtain⟨h1,h2,h3⟩:=h;omega),hS.nl⟩
theorem ZfG{vL:Value}{p:Prob}{n:Int}(w0:World)(h:PAt w0 vL vD p)(hp:p.Ok)(hY:Row w0 vy 1 n (ints y))(hn:n=p.m)(hy:VH p y):
   Calls Om 74 [.agg #[vL,vD,.int Oi p.stock,.int Oi p.kerf],vy].toArray w0 fun e w=>∃v,e= .returned v/\v= .int Oi (WI p y)/\Sat w0 w []:=by
 subst hn;have hm:=hp.m1;have hm2:=hp.m2;have hd:=hp.d;have hs1:=hp.s1;have hs2:=hp.s2;have hk1:=hp.k1;have hk2:=hp.k2
 refine zenG Tryz.func74 Tryz.ntmps74 fun w hS=> ?_
 refine zsr<|zla (xbx (cs:= [_,_,_,_]) hS) ?_;rintro _ w ⟨g1,rfl,hS⟩
 refine(zP)<|zlz<|(zV (xfb 2 fd_27_2))<|(zV (xlb 0 pl_3 hS))<|(zV (xfb 3 fd_27_3))<|(zV (xlb 0 pl_3 hS))<|(zV (Zh (r:=p.stock+p.kerf)))<|(zV (Zh (r:=p.stock+p.kerf+1)))<|zla (xmk Zb ZJ hS) ?_;rintro v1 w ⟨hS,hv1⟩
 refine(zP)<|zx5<|(zV (xfb 0 fd_27_0))<|(zV (xlb 0 pl_22 hS))<|(zV (xln Zb h.L.slh))<|(zP)<|zx6<|zlp (fun mm M w=>∃(i:Int) (f:Of),mm=((p.m-i).toNat)/\(0<=i)/\(i<=p.m)/\(∀j,0<=j->j<=p.stock+p.kerf->f j=Tab p y i.toNat j)/\M= [(1,vy),(2,Or g1),(4,.int Oi 0),(5,v1),(18,vL),(19,.int Oi p.m),(20,.int Oi i)]/\Sat w0 w [.blk g1 [vL,vD,.int Oi p.stock,.int Oi p.kerf],.own v1 1 3 (p.stock+p.kerf+1) (ints f)]) ⟨0,(fun _=>0),rfl,Oa,Oa,?_,rfl,hS⟩ ?_
 ·
  intro j _ _;rfl
 clear hS w
 rintro mm M w ⟨i,f,rfl,h0,h1,hf,rfl,hS⟩
 refine zsr<|(zP)<|zx7<|Zf ?_ ?_<;>intro hc
 ·
  refine zx3<|zlv xmv ?_
  have he:=hp.all i Oa Oa;unfold Prob.each at he;have hyi:=hy i Oa Oa
  refine(zV (xix (kk:=i) Zb h.L.slh))<|zlv (xlr (u:= .int Oi (p.L i)) pl_3 (h.L.below hS.below)) ?_
  have hbv:=h.iL i
  refine(On)<|zlz<|(zP)<|(zV (xfb 3 fd_27_3))<|(zV (xlb 0 pl_3 hS))<|(zV (Zh (r:=p.L i+p.kerf)))<|(zP)<|zx7<|zdst [0,1] [0,1] 1000 mx_ hS ?_;clear hS;intro w hS
  refine(zDw 0 (xfb 1 fd_27_1))<|(zDl 1 (fun w hS=>(xlb 0 pl_22 hS)))<|(zDw 2 xmv)<|(zDw 3 (xix (kk:=i) Zb h.D.slh))<|YF 4 (fun w hS=>(xlr (u:= .int Oi (p.D i)) pl_3 (h.D.below hS.below))) ?_
  have hbv:=h.iD i
  refine(zDw 5 xmv)<|(zDw 6 (xln Zb hv1))<|(zDw 7 (Zp (r:=p.stock+p.kerf)))<|(zDw 8 xmv)<|zDrv 9 (Uk (r:=(Int.tdiv (p.stock+p.kerf) (p.L i+p.kerf))) (hn:=Oa) (hr:=(by have hq:=YD (a:=p.stock+p.kerf) (b:=p.L i+p.kerf) Oa Oa;unfold I64;omega))) ?_
  have hq:=YD (a:=p.stock+p.kerf) (b:=p.L i+p.kerf) Oa Oa
  refine(zDw 10 (Rr (r:=(min (p.D i) (Int.tdiv (p.stock+p.kerf) (p.L i+p.kerf))))))<|(zDw 11 xmv)<|zdd<|ztn<|zbk<|zlp (fun mm M w=>∃(k:Int) (f2:Of),mm=((min (p.D i) (Int.tdiv (p.stock+p.kerf) (p.L i+p.kerf))-k).toNat)/\(0<=k)/\(k<=min (p.D i) (Int.tdiv (p.stock+p.kerf) (p.L i+p.kerf)))/\(∀j,0<=j->j<=p.stock+p.kerf->f2 j=R (Tab p y i.toNat) (p.L i+p.kerf) (y i) k.toNat j)/\M= [(1,vy),(2,Or g1),(4,.int Oi 0),(5,v1),(6,.int Oi i),(8,.int Oi (p.L i+p.kerf)),(18,vL),(19,.int Oi p.m),(20,.int Oi i),(39,.int Oi (min (p.D i) (Int.tdiv (p.stock+p.kerf) (p.L i+p.kerf)))),(40,.int Oi k)]/\Sat w0 w [.blk g1 [vL,vD,.int Oi p.stock,.int Oi p.kerf],.own v1 1 3 (p.stock+p.kerf+1) (ints f2)]) ⟨0,f,rfl,Oa,Oa,?_,rfl,hS⟩ ?_
  ·
   intro j hj0 hj1;rw [hf j hj0 hj1];rfl
  clear hS w
  rintro mm M w ⟨k,f2,rfl,k0,k1,hf2,rfl,hS⟩
  refine zsr<|(zP)<|zx7<|Zf ?_ ?_<;>intro hc
  ·
   refine zx3<|(zP)<|(zV (xln Zb hv1))<|(zV (Zp (r:=p.stock+p.kerf)))<|(zP)<|zx6<|zlp (fun mm M w=>∃(c:Int) (f3:Of),mm=((c-(p.L i+p.kerf)+1).toNat)/\(p.L i+p.kerf-1<=c)/\(c<=p.stock+p.kerf)/\(∀j,c<j->j<=p.stock+p.kerf->f3 j=R (Tab p y i.toNat) (p.L i+p.kerf) (y i) (k.toNat+1) j)/\(∀j,0<=j->j<=c->f3 j=R (Tab p y i.toNat) (p.L i+p.kerf) (y i) k.toNat j)/\M= [(1,vy),(2,Or g1),(4,.int Oi 0),(5,v1),(6,.int Oi i),(8,.int Oi (p.L i+p.kerf)),(9,.int Oi c),(18,vL),(19,.int Oi p.m),(20,.int Oi i),(39,.int Oi (min (p.D i) (Int.tdiv (p.stock+p.kerf) (p.L i+p.kerf)))),(40,.int Oi k)]/\Sat w0 w [.blk g1 [vL,vD,.int Oi p.stock,.int Oi p.kerf],.own v1 1 3 (p.stock+p.kerf+1) (ints f3)]) ⟨p.stock+p.kerf,f2,rfl,Oa,Oa,?_,?_,rfl,hS⟩ ?_
   ·
    intro j hj0 hj1;omega
   ·
    intro j hj0 hj1;exact hf2 j hj0 Oa
   clear hS w
   rintro mm M w ⟨c,f3,rfl,c0,c1,ha3,hb3,rfl,hS⟩
   refine zsq<|zsr<|(Oo)<|zlt<|Zf ?_ ?_<;>intro hc
   ·
    refine zsk<|ztn<|zsq<|zbk<|zdst [0,1] [0] 19 mx_ hS ?_;clear hS;intro w hS
    refine(zDw 0 xmv)<|(zDw 1 xmv)<|(zDw 2 xmv)<|(zDw 3 xmv)<|(zDw 4 (xix (kk:=c) Zb hv1))<|zdl 5 (fun w hS=>(xlr (u:= .int Oi (f3 c)) pl_3 (hS.rowN 1 rfl))) ?_
    refine(zDw 6 xmv)<|(zDw 7 xmv)<|(zDw 8 xmv)<|(zDw 9 (Zp (r:=c-p.L i-p.kerf)))<|(zDw 10 (xix (kk:=c-p.L i-p.kerf) Zb hv1))<|zdl 11 (fun w hS=>(xlr (u:= .int Oi (f3 (c-p.L i-p.kerf))) pl_3 (hS.rowN 1 rfl))) ?_
    refine(zDw 12 xmv)<|(zDw 13 xmv)<|(zDw 14 (xix (kk:=i) Zb hY.slh))<|(zDl 15 (fun w hS=>(xlr (u:= .int Oi (y i)) pl_3 (hY.below hS.below))))<|zDrv 16 (Zh (r:=f3 (c-p.L i-p.kerf)+(y i)) (hr:=(by have e:=hb3 (c-p.L i-p.kerf) Oa Oa;have b:=ZpM hp hy h0 Oa k.toNat (c:=c-p.L i-p.kerf) Oa;unfold I64;omega))) ?_
    refine(zDw 17 (ZfS (r:=(max (f3 c) (f3 (c-p.L i-p.kerf)+(y i))))))<|(zDw 18 (xix (kk:=c) Zb hv1))<|zde 19 (xso 1 pl_3 hS (ZD _ _ _)) ?_;clear hS;rintro w hS
    refine⟨⟨fun h=>absurd h (by decide),hS.pk [0]⟩,?_⟩
    refine zdd<|zbn<|ztn<|zrg ?_
    refine(zP)<|(zV (Zp (r:=c-1)))<|(zP)<|zln<|zlq ⟨c-1,(upd f3 c (max (f3 c) (f3 (c-p.L i-p.kerf)+(y i)))),rfl,Oa,Oa,?_,?_,rfl,hS⟩
    ·
     intro j hj0 hj1;by_cases hj:j=c
     · rw [hj,ZC];exact ZkI hp y h0 Oa Oa hb3 rfl
     · rw [upd_ne _ _ hj];exact ha3 j Oa hj1
    ·
     intro j hj0 hj1;rw [upd_ne _ _ Oa];exact hb3 j hj0 Oa
   refine zxt<|ztx<|ztx<|zbh<|zbn<|ztn<|zrg<|(zV (Zh (r:=k+1)))<|(zP)<|zln<|zlq ⟨k+1,f3,rfl,Oa,Oa,?_,rfl,hS⟩
   ·
    intro j hj0 hj1;have e:(k+1).toNat=k.toNat+1:=Oa
    rw [e];by_cases hj:c<j
    · exact ha3 j hj hj1
    · rw [hb3 j hj0 Oa];exact ZpN hp y h0 Oa _ hj0 Oa
  refine zxt<|ztx<|ztx<|zbh<|zbn<|ztn<|zrg<|(zV (Zh (r:=i+1)))<|(zP)<|zln<|zlq ⟨i+1,f2,rfl,Oa,Oa,?_,rfl,hS⟩
  ·
   intro j hj0 hj1;rw [hf2 j hj0 hj1];exact Tab_next hp y h0 Oa k0 Oa Oa hj0 hj1
 refine zx8<|(On)<|(zV (xln Zb hv1))<|(zV (Zp (r:=p.stock+p.kerf)))<|(zV (xix (kk:=p.stock+p.kerf) Zb hv1))<|(zV (xlr (u:= .int Oi (f (p.stock+p.kerf))) pl_3 (hS.rowN 1 rfl)))<|(zP)<|zx1<|Oj ?_
 obtain rfl:i=p.m:=Oa
 exact⟨congrArg (Value.int .i64) (by rw [hf _ Oa Oa];rfl),hS.nl⟩
theorem Zky{vL:Value}{p:Prob}{n q:Int}(w0:World)(h:PAt w0 vL vD p)(hY:Row w0 vy 1 n (ints y))(hq: -9223372036854775808<=q/\q<=9223372036854775807):
   Calls Om 36 [.agg #[vL,vD,.int Oi p.stock,.int Oi p.kerf],.agg #[vy,.int Oi q]].toArray w0 fun e w=>∃v,e= .returned v/\v= .int Oi (Chk p n y q)/\Sat w0 w []:=by
 have hn:=hY.slh.n0;have hn1:=hY.slh.n1
 refine zenG Tryz.func36 Tryz.ntmps36 fun w hS=> ?_
 refine zsr<|zla (xbx (cs:= [_,_,_,_]) hS) ?_;rintro _ w ⟨g1,rfl,hS⟩
 refine zla (xbx (cs:= [_,_]) hS) ?_;rintro _ w ⟨g2,rfl,hS⟩
 refine(zP)<|zlt<|zsq<|zbk<|zsr<|(zV (xls 0 st_27 hS))<|zlc (xc0 XP) (Ya (p:=p) w (h.below hS.below)) ?_;rintro _ w ⟨rfl,hS'⟩
 replace hS:=hS.cmp hS';clear hS'
 refine(On)<|zlb 9 ?_ ?_<;>intro hc;rotate_left
 refine(zV (xls 1 st_43 hS))<|zlc (xc0 Zpc) (Zin w (hY.below hS.below) Oa) ?_;rintro _ w ⟨rfl,hS'⟩
 replace hS:=hS.cmp hS';clear hS'
 refine(Oo)<|zlb 14 ?_ ?_<;>intro hc;rotate_left
 refine(zV (xfb 0 fd_43_0))<|(zV (xlb 1 pl_22 hS))<|(zV (xln Zb hY.slh))<|(zV (xfb 0 fd_27_0))<|(zV (xlb 0 pl_22 hS))<|(zV (xln Zb h.L.slh))<|(Oo)<|zlt<|Zf ?_ ?_<;>intro hc
 ·
  refine zsr<|(zP)<|zlt<|zrt<|zbr<|ztr<|Oj ?_
  exact⟨congrArg (Value.int .i64) (Eq.symm (by first|exact Zfu (.inl ‹¬p.Ok›)|exact Zfu (.inr (.inl ‹¬Formed n y q›))|exact Zfu (.inr (.inr Oa)))),hS.nl⟩
 refine zsq<|zdst [0,1] [0,1] 1000 mx_ hS ?_;clear hS;intro w hS
 refine(zDl 0 (fun w hS=>(xls 0 st_27 hS)))<|(zDw 1 (xfb 0 fd_43_0))<|(zDl 2 (fun w hS=>(xlb 1 pl_22 hS)))<|(zDw 4 (xfb 1 fd_43_1))<|(zDl 5 (fun w hS=>(xlb 1 pl_3 hS)))<|zdc 3 (xc0 Zpb) (ZfG (p:=p) w (h.below hS.below) (Od ‹¬¬(p.Ok)›) (hY.below hS.below) Oa (Formed.priced (Od ‹¬¬(Formed n y q)›) Oa)) ?_;rintro _ w ⟨rfl,hS'⟩
 replace hS:=hS.cmp hS';clear hS'
 refine⟨⟨fun _=>hS,hS⟩,?_⟩
 refine(zDw 6 Yw)<|(zDw 7 xas)<|zdd<|ztn ?_
 refine Zf ?_ ?_<;>intro hc
 ·
  refine zsr<|(zP)<|zlt<|zrt<|zbr<|ztr<|Oj ?_
  exact⟨congrArg (Value.int .i64) (Eq.symm (by exact Zk6 (Od ‹¬¬(p.Ok)›) (Od ‹¬¬(Formed n y q)›) Oa ‹_›)),hS.nl⟩
 refine zsk<|zbn<|ztn<|zsr<|(zP)<|zx1<|Oj ?_
 exact⟨congrArg (Value.int .i64) (Eq.symm (by exact Zj3 (Od ‹¬¬(p.Ok)›) (Od ‹¬¬(Formed n y q)›) Oa ‹_›)),hS.nl⟩
 all_goals
  refine zOps ?_
  refine zlt<|zct<|zsr ?_
  refine zOps ?_
  refine zlt<|zrt<|zbr<|ztr<|Oj ?_
  exact⟨congrArg (Value.int .i64) (Eq.symm (by first|exact Zfu (.inl ‹¬p.Ok›)|exact Zfu (.inr (.inl ‹¬Formed n y q›))|exact Zfu (.inr (.inr Oa)))),hS.nl⟩
theorem Za5{vL:Value}{p:Prob}{n q:Int}(w0:World)(h:PAt w0 vL vD p)(hY:Row w0 vy 1 n (ints y))(hq: -9223372036854775808<=q/\q<=9223372036854775807):
   Calls Om 12 [.agg #[vL,vD,.int Oi p.stock,.int Oi p.kerf],.agg #[vy,.int Oi q]].toArray w0 fun e w=>∃v,e= .returned v/\v= .tuple #[.int Oi (Yt p n y q),.int Oi (Chk p n y q)]/\Sat w0 w []:=by
 have hn:=hY.slh.n0;have hn1:=hY.slh.n1
 refine zenG Tryz.func12 Tryz.ntmps12 fun w hS=> ?_
 refine zsr<|zla (xbx (cs:= [_,_,_,_]) hS) ?_;rintro _ w ⟨g1,rfl,hS⟩
 refine zla (xbx (cs:= [_,_]) hS) ?_;rintro _ w ⟨g2,rfl,hS⟩
 refine(On)<|zx5<|(zV (xls 0 st_27 hS))<|(zV (xls 1 st_43 hS))<|zlc (xc0 Zpl) (Zky (p:=p) w (h.below hS.below) (hY.below hS.below) Oa) ?_;rintro _ w ⟨rfl,hS'⟩
 replace hS:=hS.cmp hS';clear hS'
 refine(zP)<|zlz<|(On)<|zlt<|Zf ?_ ?_<;>intro hc
 ·
  refine zsr<|(Oo)<|zx14<|zf2 ⟨_,rfl,?_⟩
  exact⟨by rw [Zog ‹_›],hS.nl⟩
 refine ZV<|(zP)<|zx5<|zlv (xfb 1 fd_27_1) ?_
 obtain⟨hp,hfm,hnm,hw⟩:=XQ (by omega:Chk p n y q=0);have hq1:=hfm.1;have hq2:=hfm.2.1;have hd:=hp.d;have hm1:=hp.m1;have hm2:=hp.m2;have hpr:=hfm.priced hnm
 refine(zV (xlb 0 pl_22 hS))<|(zV (xln Zb h.D.slh))<|(zP)<|zx6<|zlp (fun mm M w=>∃(t:Int) (i:Int),mm=((p.m-i).toNat)/\(0<=i)/\(i<=p.m)/\(t=Tot p.D y i.toNat)/\M= [(3,Or g2),(4,.int Oi 0),(5,.int Oi 0),(7,.int Oi t),(17,vD),(18,.int Oi p.d),(19,.int Oi i)]/\Sat w0 w [.blk g1 [vL,vD,.int Oi p.stock,.int Oi p.kerf],.blk g2 [vy,.int Oi q]]) ⟨0,0,rfl,Oa,Oa,?_,rfl,hS⟩ ?_
 ·
  rfl
 clear hS w
 rintro mm M w ⟨t,i,rfl,h0,h1,ht,rfl,hS⟩
 refine zsr<|(zP)<|zx7<|Zf ?_ ?_<;>intro hc
 ·
  refine zx3<|(zP)<|(zV (xix (kk:=i) Zb h.D.slh))<|zlv (xlr (u:= .int Oi (p.D i)) pl_3 (h.D.below hS.below)) ?_
  have hbv:=h.iD i
  refine(On)<|zlt<|zrg<|zlv xmv ?_
  have hb1:=K7 hp hpr i h0 Oa;have hb2:=ZdR hp hpr i h0 Oa
  refine(zP)<|(zV (xfb 0 fd_43_0))<|(zV (xlb 1 pl_22 hS))<|(zP)<|(zV (xix (kk:=i) Zb hY.slh))<|(zV (xlr (u:= .int Oi (y i)) pl_3 (hY.below hS.below)))<|zlv (Yi (r:=((p.D i)*(y i))) (e:=rfl) (hr:=(by unfold I64;omega))) ?_
  refine(zV (Zh (r:=t+((p.D i)*(y i)))))<|(zP)<|zx10<|(zV (Zh (r:=i+1)))<|(zP)<|zln<|zlq ⟨t+((p.D i)*(y i)),i+1,rfl,Oa,Oa,?_,rfl,hS⟩
  ·
   rw [ZiD _ _ h0,<-ht]
 refine zx8<|zlv xmv ?_
 have hb1:=K7 hp hpr i h0 Oa;have hq3:=YD (a:=t+q-1) (b:=q) Oa Oa
 refine(zV (xfb 1 fd_43_1))<|(zV (xlb 1 pl_3 hS))<|(zV (Zh (r:=t+q)))<|(zV (Zp (r:=t+q-1)))<|(zV (xfb 1 fd_43_1))<|(zV (xlb 1 pl_3 hS))<|zlv (Uk (r:=(Int.tdiv (t+q-1) q)) (hn:=Oa) (hr:=(by unfold I64;omega))) ?_
 refine(On)<|zx1<|zf2 ⟨_,rfl,?_⟩
 obtain rfl:i=p.m:=Oa
 have hz:Chk p n y q=0:=Oa
 exact⟨by rw [hz,Yb hz];unfold Bnd;rw [<-ht],hS.nl⟩
end Go.Proofs.YtpnamgfdakfccaaGreat
namespace Go.Proofs.YtpnamgfdakfccaaGreat
open Go Go.RowKit Go.Proofs.Gw
variable {e i:Int} {f:Of} {vD:Value}
theorem Ub:ZN Om 43=some (.agg #[Oh,.int Oi 0],2,32):=Oc
structure Ct where
  n:Int
  y:Of
  q:Int
def Ct.zer:Ct:=⟨0,fun _=>0,0⟩
def WS(p:Prob):Ct:=⟨p.m,fun k=>p.L k+p.kerf,p.stock+p.kerf⟩
def UZ(p:Prob):Of:=fun k=>if p.stock+p.kerf<2*(p.L k+p.kerf) then 1 else 0
def ZgT(p:Prob):Ct:=⟨p.m,UZ p,1⟩
def MakeR(p:Prob)(c:Ct)(e:Int):Prop:=∃u ml mf s,0<=u/\ColR p u ml mf s e/\((e≠0/\c=Ct.zer)\/(e=0/\c=⟨s.m,s.Y,s.den⟩))
def MatCR(p:Prob)(c:Ct)(e:Int):Prop:=(¬p.Ok/\c=Ct.zer/\e=1)\/(p.Ok/\c=WS p/\e=0)
def HalfR(p:Prob)(c:Ct)(e:Int):Prop:=(¬p.Ok/\c=Ct.zer/\e=1)\/(p.Ok/\c=ZgT p/\e=0)
theorem MakeR.q{p:Prob}{c:Ct}{e:Int}(h:MakeR p c e):0<=c.q/\c.q<=1073741824:=by
 obtain⟨u,ml,mf,s,hu,h1,⟨_,rfl⟩|⟨h2,rfl⟩⟩:=h
 · exact⟨Int.le_refl _,by show(0:Int)<=_;omega⟩
 · obtain⟨h3,_⟩:=h1.okS hu h2
   exact⟨by have:=h3.d1;show 0<=s.den;omega,h3.d2⟩
theorem Zlv{p:Prob}(hp:p.Ok):1<=(WS p).q/\(WS p).q<=2100:=by
 have:=hp.s1;have:=hp.s2;have:=hp.k1;have:=hp.k2
 unfold WS;dsimp only;omega
theorem MatCR.q{p:Prob}{c:Ct}{e:Int}(h:MatCR p c e):0<=c.q/\c.q<=1073741824:=by
 rcases h with⟨_,rfl,_⟩|⟨hp,rfl,_⟩
 · exact⟨Int.le_refl _,by show(0:Int)<=_;omega⟩
 · have:=Zlv hp;omega
theorem HalfR.q{p:Prob}{c:Ct}{e:Int}(h:HalfR p c e):0<=c.q/\c.q<=1073741824:=by
 rcases h with⟨_,rfl,_⟩|⟨hp,rfl,_⟩
 · exact⟨Int.le_refl _,by show(0:Int)<=_;omega⟩
 · exact⟨by show(0:Int)<=1;omega,by show(1:Int)<=_;omega⟩
theorem Zie{vL:Value}{p:Prob}(w0:World)(h:PAt w0 vL vD p):
   Calls Om 33 [.agg #[vL,vD,.int Oi p.stock,.int Oi p.kerf]].toArray w0 fun e w=>∃v,e= .returned v/\∃r c e,v= .tuple #[.agg #[r,.int Oi (Ct.q c)],.int Oi e]/\MakeR p c e/\Slh r c.n/\Sat w0 w [.own r 1 3 c.n (ints c.y)]:=by
 obtain⟨hm,hm1,hd,hd1,hs,hk⟩:=h.Oq
 refine zenG Tryz.func33 Tryz.ntmps33 fun w hS=> ?_
 refine zsr<|zla (xbx (cs:= [_,_,_,_]) hS) ?_;rintro _ w ⟨g1,rfl,hS⟩
 refine zla (xal (cs:= [_,_]) Ub hS) ?_;rintro _ w ⟨g2,rfl,hS⟩
 refine(zP)<|zlz<|(zV (xls 0 st_27 hS))<|zlc (xc0 Zex) (Ue (p:=p) w (h.below hS.below)) ?_;rintro _ w ⟨yF,yC,yg,xY,xJ,xK,xL,qz,zK,rfl,qu,qq,xz,qV,hS'⟩
 replace hS:=(hS.comp hS').n6;clear hS'
 have zz:=fun k (k0:0<=k) (k1:k<xJ)=>hS.slhIn 3 rfl k0 k1
 refine(Oo)<|zla (xal (cs:= [_,_,_,_,_]) Zcq hS) ?_;rintro _ w ⟨g3,rfl,hS⟩
 refine zle (xsw 6 XH hS (hd:=(Za qq.one (Za xz.one (Za qV.one (Za rfl (Za rfl Zi))))))) ?_;clear hS;rintro w hS
 refine(zP)<|zx5<|(On)<|zlt<|Zf ?_ ?_<;>intro hc
 ·
  refine zsr<|(zV (xany (v:= .agg #[Oh,.int Oi 0])))<|(zP)<|zle (xsw 1 st_43 hS) ?_;clear hS;rintro w hS
  refine(zP)<|zx14<|Ym 1 st_43 hS ⟨_,rfl,?_⟩
  exact⟨_,Ct.zer,zK,rfl,⟨_,_,_,_,qq.n0,qu,.inl ⟨by omega,rfl⟩⟩,slh_nil,(hS.sub (.cons _ (.cons _ (.cons _ (.cons _ (.cons _ (.cons _ (.cons _ .slnil)))))))).addnil 1 3 (ints Ct.zer.y)⟩
 refine ZV<|(zV (xfb 1 fd_56_1))<|(zV (xfb 2 fd_54_1))<|(zV (xlb 6 pl_22 hS))<|(zV (xfb 1 fd_56_1))<|(zV (xfb 4 fd_54_3))<|(zV (xlb 6 pl_3 hS))<|zlv (xany (v:= .agg #[xY,.int Oi qz.den]) (hr:=by obtain⟨_,_,_,_,rfl,_⟩:=qV;kernel_rfl)) ?_
 refine zle (xsw 1 st_43 hS (hd:=(Za qV.one (Za rfl Zi)))) ?_;clear hS;rintro w hS
 refine(zP)<|zx1<|Ym 1 st_43 hS ⟨_,rfl,?_⟩
 exact⟨_,⟨qz.m,qz.Y,qz.den⟩,0,rfl,⟨_,_,_,_,qq.n0,(by rw [show(0:Int)=zK by omega];exact qu),.inr ⟨rfl,rfl⟩⟩,qV,hS.pk [5]⟩
theorem Zid{vL:Value}{p:Prob}(w0:World)(h:PAt w0 vL vD p):
   Calls Om 34 [.agg #[vL,vD,.int Oi p.stock,.int Oi p.kerf]].toArray w0 fun e w=>∃v,e= .returned v/\∃r c e,v= .tuple #[.agg #[r,.int Oi (Ct.q c)],.int Oi e]/\MatCR p c e/\Slh r c.n/\Sat w0 w [.own r 1 3 c.n (ints c.y)]:=by
 obtain⟨hm,hm1,hd,hd1,hs,hk⟩:=h.Oq
 refine zenG Tryz.func34 Tryz.ntmps34 fun w hS=> ?_
 refine zsr<|zla (xbx (cs:= [_,_,_,_]) hS) ?_;rintro _ w ⟨g1,rfl,hS⟩
 refine zla (xal (cs:= [_,_]) Ub hS) ?_;rintro _ w ⟨g2,rfl,hS⟩
 refine(zP)<|zx5<|(zV (xls 0 st_27 hS))<|zlc (xc0 XP) (Ya (p:=p) w (h.below hS.below)) ?_;rintro _ w ⟨rfl,hS'⟩
 replace hS:=hS.cmp hS';clear hS'
 refine(zP)<|zlt<|Zf ?_ ?_<;>intro hc
 ·
  refine zsr<|(zV (xany (v:= .agg #[Oh,.int Oi 0])))<|zle (xsw 1 st_43 hS) ?_;clear hS;rintro w hS
  refine(zP)<|zx14<|Ym 1 st_43 hS ⟨_,rfl,?_⟩
  exact⟨_,Ct.zer,1,rfl,.inl ⟨‹¬p.Ok›,rfl,rfl⟩,slh_nil,(hS.sub (.cons _ (.cons _ .slnil))).addnil 1 3 (ints Ct.zer.y)⟩
 refine ZV<|zlv (xfb 2 fd_27_2) ?_
 have hp:p.Ok:=by first|assumption|exact Od ‹_›
 have hpm:=hp.m1;have xb:=hp.m2;have hpd:=hp.d;have hs1:=hp.s1;have hs2:=hp.s2;have hk1:=hp.k1;have hk2:=hp.k2
 refine(zV (xlb 0 pl_3 hS))<|(zV (xfb 3 fd_27_3))<|(zV (xlb 0 pl_3 hS))<|(zV (Zh (r:=p.stock+p.kerf)))<|(zV (xany (v:= .agg #[Oh,.int Oi (p.stock+p.kerf)])))<|zla (xal (cs:= [_,_]) Ub hS) ?_;rintro _ w ⟨g3,rfl,hS⟩
 refine zle (xsw 2 st_43 hS) ?_;clear hS;rintro w hS
 refine zx5<|(zV (xfb 0 fd_27_0))<|(zV (xlb 0 pl_22 hS))<|(zV (xln Zb h.L.slh))<|(zP)<|zx6 ?_
 replace hS:=hS.addnil 1 3 (ints (fun _=>0))
 refine zlp (fun mm M w=>∃(i:Int) (vb:Value) (f:Of),mm=((p.m-i).toNat)/\(0<=i)/\(i<=p.m)/\(∀k,0<=k->k<i->f k=p.L k+p.kerf)/\(Slh vb i)/\M= [(1,Or g1),(2,Or g2),(3,.int Oi 0),(4,Or g3),(18,vL),(19,.int Oi p.m),(20,.int Oi i)]/\Sat w0 w [.blk g1 [vL,vD,.int Oi p.stock,.int Oi p.kerf],.blk g2 [Oh,.int Oi 0],.blk g3 [vb,.int Oi (p.stock+p.kerf)],.own vb 1 3 i (ints f)]) ⟨0,Oh,(fun _=>0),rfl,Oa,Oa,?_,?_,rfl,hS⟩ ?_
 ·
  intro k k0 k1;omega
 ·
  exact slh_nil
 clear hS w
 rintro mm M w ⟨i,vb,f,rfl,h0,h1,hf,hvb,rfl,hS⟩
 refine zsr<|(zP)<|zx7<|Zf ?_ ?_<;>intro hc
 ·
  refine zx3<|(zV (xix (kk:=i) Zb h.L.slh))<|zlv (xlr (u:= .int Oi (p.L i)) pl_3 (h.L.below hS.below)) ?_
  have hbv:=h.iL i
  have he:=hp.all i h0 Oa;unfold Prob.each at he
  refine(zP)<|zlt<|zrg<|(zV (xfb 0 fd_43_0))<|(zV (xlb 2 pl_22 hS))<|(zP)<|(zV (xfb 3 fd_27_3))<|(zV (xlb 0 pl_3 hS))<|(zV (Zh (r:=p.L i+p.kerf)))<|zla (xli (n:=1) (len:=1) (pv:= [(0,.int Oi (p.L i+p.kerf))]) (cs:= [.int Oi (p.L i+p.kerf)]) (c:=ints (fun _=>p.L i+p.kerf)) Zb ZJ hS) ?_;rintro v1 w ⟨hS,hv1⟩
  refine zla (xap 3 (r:=i+1) Zb ZJ hS (hS.rowN 4 rfl) (Wl _ _ _)) ?_;rintro v2 w ⟨hS,hv2⟩
  refine(zV (xfb 0 fd_43_0))<|zle (xsb 2 pl_22 hS (hv:=hv2.one)) ?_;clear hS;rintro w hS
  refine zx10<|(zV (Zh (r:=i+1)))<|(zP)<|zln<|zlq ⟨i+1,v2,(snoc f i (p.L i+p.kerf)),rfl,Oa,Oa,?_,?_,rfl,hS.pk [0,1,2,3]⟩
  ·
   exact Zf7 hf rfl
  ·
   exact hv2
 refine zx8<|(zV (xls 2 st_43 hS))<|zle (xsw 1 st_43 hS (hd:=(Za hvb.one (Za rfl Zi)))) ?_;clear hS;rintro w hS
 refine(zP)<|zx1<|Ym 1 st_43 hS ⟨_,rfl,?_⟩
 have him:i=p.m:=Oa
 subst him
 replace hS:=hS.recont 3 rfl (d:=ints (WS p).y) (fun k k0 k1=>congrArg (Value.int .i64) (hf k k0 Oa))
 exact⟨_,WS p,0,rfl,.inr ⟨hp,rfl,rfl⟩,hvb,hS.pk [3]⟩
theorem Zee{p:Prob}(hf:∀k,0<=k->k<i->f k=UZ p k)(h:p.stock+p.kerf<2*(p.L i+p.kerf)):∀k,0<=k->k<i+1->upd f i 1 k=UZ p k:=fun k k0 k1=>by
 unfold upd
 by_cases e:k=i
 · rw [if_pos e,e];unfold UZ;rw [if_pos h]
 · rw [if_neg e];exact hf k k0 Oa
theorem Zed{p:Prob}(hf:∀k,0<=k->k<i->f k=UZ p k)(hz:∀k,i<=k->f k=0)(h:¬p.stock+p.kerf<2*(p.L i+p.kerf)):∀k,0<=k->k<i+1->f k=UZ p k:=fun k k0 k1=>by
 by_cases e:k=i
 · rw [e,hz i (Int.le_refl _)];unfold UZ;rw [if_neg h]
 · exact hf k k0 Oa
theorem ZgS(hz:∀k,i<=k->f k=0):∀k,i+1<=k->upd f i 1 k=0:=fun k hk=>by
 unfold upd;rw [if_neg Oa];exact hz k Oa
theorem ZfD{vL:Value}{p:Prob}(w0:World)(h:PAt w0 vL vD p):
   Calls Om 35 [.agg #[vL,vD,.int Oi p.stock,.int Oi p.kerf]].toArray w0 fun e w=>∃v,e= .returned v/\∃r c e,v= .tuple #[.agg #[r,.int Oi (Ct.q c)],.int Oi e]/\HalfR p c e/\Slh r c.n/\Sat w0 w [.own r 1 3 c.n (ints c.y)]:=by
 obtain⟨hm,hm1,hd,hd1,hs,hk⟩:=h.Oq
 refine zenG Tryz.func35 Tryz.ntmps35 fun w hS=> ?_
 refine zsr<|zla (xbx (cs:= [_,_,_,_]) hS) ?_;rintro _ w ⟨g1,rfl,hS⟩
 refine zla (xal (cs:= [_,_]) Ub hS) ?_;rintro _ w ⟨g2,rfl,hS⟩
 refine(zP)<|zx5<|(zV (xls 0 st_27 hS))<|zlc (xc0 XP) (Ya (p:=p) w (h.below hS.below)) ?_;rintro _ w ⟨rfl,hS'⟩
 replace hS:=hS.cmp hS';clear hS'
 refine(zP)<|zlt<|Zf ?_ ?_<;>intro hc
 ·
  refine zsr<|(zV (xany (v:= .agg #[Oh,.int Oi 0])))<|zle (xsw 1 st_43 hS) ?_;clear hS;rintro w hS
  refine(zP)<|zx14<|Ym 1 st_43 hS ⟨_,rfl,?_⟩
  exact⟨_,Ct.zer,1,rfl,.inl ⟨‹¬p.Ok›,rfl,rfl⟩,slh_nil,(hS.sub (.cons _ (.cons _ .slnil))).addnil 1 3 (ints Ct.zer.y)⟩
 refine ZV<|zlv (xfb 0 fd_27_0) ?_
 have hp:p.Ok:=by first|assumption|exact Od ‹_›
 have hpm:=hp.m1;have xb:=hp.m2;have hpd:=hp.d;have hs1:=hp.s1;have hs2:=hp.s2;have hk1:=hp.k1;have hk2:=hp.k2
 refine(zV (xlb 0 pl_22 hS))<|(zV (xln Zb h.L.slh))<|zla (xmk Zb ZJ hS) ?_;rintro v1 w ⟨hS,hv1⟩
 refine zlv (xany (v:= .agg #[v1,.int Oi 1]) (hr:=by obtain⟨_,_,_,_,rfl,_⟩:=hv1;kernel_rfl)) ?_
 refine zla (xal (cs:= [_,_]) Ub hS) ?_;rintro _ w ⟨g3,rfl,hS⟩
 refine zle (xsw 3 st_43 hS (hd:=(Za hv1.one (Za rfl Zi)))) ?_;clear hS;rintro w hS
 refine zx5<|(zV (xfb 0 fd_27_0))<|(zV (xlb 0 pl_22 hS))<|(zV (xln Zb h.L.slh))<|(zP)<|zx6<|zlp (fun mm M w=>∃(f:Of) (i:Int),mm=((p.m-i).toNat)/\(0<=i)/\(i<=p.m)/\(∀k,0<=k->k<i->f k=UZ p k)/\(∀k,i<=k->f k=0)/\M= [(1,Or g1),(2,Or g2),(3,.int Oi 0),(4,Or g3),(17,vL),(18,.int Oi p.m),(19,.int Oi i)]/\Sat w0 w [.blk g1 [vL,vD,.int Oi p.stock,.int Oi p.kerf],.blk g2 [Oh,.int Oi 0],.own v1 1 3 p.m (ints f),.blk g3 [v1,.int Oi 1]]) ⟨(fun _=>0),0,rfl,Oa,Oa,?_,?_,rfl,hS⟩ ?_
 ·
  intro k k0 k1;omega
 ·
  intro k _;rfl
 clear hS w
 rintro mm M w ⟨f,i,rfl,h0,h1,hf,hz,rfl,hS⟩
 refine zsr<|(zP)<|zx7<|Zf ?_ ?_<;>intro hc
 ·
  refine zx3<|(zP)<|(zV (xix (kk:=i) Zb h.L.slh))<|zlv (xlr (u:= .int Oi (p.L i)) pl_3 (h.L.below hS.below)) ?_
  have hbv:=h.iL i
  have he:=hp.all i h0 Oa;unfold Prob.each at he
  refine(On)<|zlz<|(zP)<|(zV (xfb 3 fd_27_3))<|(zV (xlb 0 pl_3 hS))<|(zV (Zh (r:=p.L i+p.kerf)))<|(zV (Yi (r:=2*p.L i+2*p.kerf)))<|(zV (xfb 2 fd_27_2))<|(zV (xlb 0 pl_3 hS))<|(zV (xfb 3 fd_27_3))<|(zV (xlb 0 pl_3 hS))<|(zV (Zh (r:=p.stock+p.kerf)))<|(zP)<|zlt<|Zf ?_ ?_<;>intro hc
  ·
   refine zrg<|(zV (xfb 0 fd_43_0))<|(zV (xlb 3 pl_22 hS))<|(zP)<|(zV (xix (kk:=i) Zb hv1))<|zle (xso 2 pl_3 hS (ZD _ _ _)) ?_;clear hS;rintro w hS
   refine zx10<|(zV (Zh (r:=i+1)))<|(zP)<|zln<|zlq ⟨(upd f i 1),i+1,rfl,Oa,Oa,?_,?_,rfl,hS⟩
   ·
    first|exact Zee hf Oa|exact Zed hf hz Oa
   ·
    first|exact ZgS hz|exact fun k hk=>hz k Oa
  refine zx4<|(zV (Zh (r:=i+1)))<|(zP)<|zln<|zlq ⟨f,i+1,rfl,Oa,Oa,?_,?_,rfl,hS⟩
  ·
   first|exact Zee hf Oa|exact Zed hf hz Oa
  ·
   first|exact ZgS hz|exact fun k hk=>hz k Oa
 refine zx8<|(zV (xls 3 st_43 hS))<|zle (xsw 1 st_43 hS (hd:=(Za hv1.one (Za rfl Zi)))) ?_;clear hS;rintro w hS
 refine(zP)<|zx1<|Ym 1 st_43 hS ⟨_,rfl,?_⟩
 have him:i=p.m:=Oa
 subst him
 replace hS:=hS.recont 2 rfl (d:=ints (ZgT p).y) (fun k k0 k1=>congrArg (Value.int .i64) (hf k k0 Oa))
 exact⟨_,ZgT p,0,rfl,.inr ⟨hp,rfl,rfl⟩,hv1,hS.pk [2]⟩
end Go.Proofs.YtpnamgfdakfccaaGreat
namespace Go.Proofs.YtpnamgfdakfccaaGreat
open Go Go.RowKit Go.Proofs.Gw
theorem ZhP:Zd Om 12=true:=Oc
theorem XU{P:Program}{fn:Func}{R:Ending->World->Prop}{w w0:World}{n:Nat}{L:List (Nat×Value)}{E:List Ent}(i:Nat){s t r g k:Nat}{T:TypeId}{u v:Value}{cs:List Value}(ht:Zx P T=some k)(hS:Sat w0 w E)(h:R (.returned (.tuple #[.agg cs.toArray,u,v])) w)(hr:fn.results= #[.cell s T,.tmp t,.tmp r]:=by exact rfl)(hs:lk L s=some (Or g):=by exact rfl)(hu:lk L t=some u:=by exact rfl)(hv:lk L r=some v:=by exact rfl)
   (hi:E[i]? =some (.blk g cs):=by exact rfl) (hk:cs.length=k:=by exact rfl):Ge n [] (bodyPost P fn R) .ret L w:=fun _ hF=>by
 refine⟨hF.defers,_,?_,h⟩
 subst hk
 obtain⟨h1,h2⟩:=Xh (w:=w) ht
 have h3:=run_loadCells_list (P:=P) w ⟨g,0,none⟩ cs (hS.holds _ (List.mem_of_getElem? hi)).cells
 have e0:=hF.get t _ hu
 have e1:=hF.get s _ hs
 have e2:=hF.get r _ hv
 rw [Array.getD_eq_getD_getElem?] at e0 e1 e2
 simp [results,hr,e0,e1,e2,asAddr,loadVar,h1,h2,h3]
noncomputable def Xr(p:Prob)(b:Ct×Int)(c:Ct)(e:Int):Ct×Int:=if e=0/\Chk p c.n c.y c.q=0/\b.2<Yt p c.n c.y c.q then(c,Yt p c.n c.y c.q) else b
theorem R6{p:Prob}{b c:Ct}{m e:Int}(h1:e=0)(h2:Chk p c.n c.y c.q=0)(h3:m<Yt p c.n c.y c.q):(c,Yt p c.n c.y c.q)=Xr p (b,m) c e:=by
 unfold Xr;rw [if_pos ⟨h1,h2,h3⟩]
theorem V0{p:Prob}{b c:Ct}{m e:Int}(h:¬(e=0/\Chk p c.n c.y c.q=0/\m<Yt p c.n c.y c.q)):(b,m)=Xr p (b,m) c e:=by
 unfold Xr;rw [if_neg h]
def Zoq(p:Prob)(c:Ct)(m:Int):Prop:=∃c1 e1 c2 e2 c3 e3,MakeR p c1 e1/\MatCR p c2 e2/\HalfR p c3 e3/\(c,m)=Xr p (Xr p (Xr p (Ct.zer,-1) c1 e1) c2 e2) c3 e3
def DBestR(p:Prob)(c:Ct)(m e:Int):Prop:=(¬p.Ok/\c=Ct.zer/\m=0/\e=1)\/(p.Ok/\e=0/\Zoq p c m)
theorem Za3{vL vD:Value}{p:Prob}{F:Gw.Frame}{gp gm gb:Nat}{b c:Ct}{most ee:Int}{vb vc:Value}(w0 w:World)(hS:Sat w0 w [.blk gp [vL,vD,.int Oi p.stock,.int Oi p.kerf],.blk gm [.int Oi most],.blk gb [vb,.int Oi b.q],.own vb 1 3 b.n (ints b.y),.own vc 1 3 c.n (ints c.y),.sem F])(h:PAt w0 vL vD p)(hvb:Slh vb b.n)(hvc:Slh vc c.n)(hq: -9223372036854775808<=c.q/\c.q<=9223372036854775807):
   Calls Om 32 [.agg #[vc,.int Oi c.q],.int Oi ee,Or gp,Or gm,Or gb].toArray w fun e w=>∃v,e= .returned v/\v= .tuple #[]/\∃b2 m2 v2,(b2,m2)=Xr p (b,most) c ee/\Slh v2 b2.n/\Sat w0 w [.blk gp [vL,vD,.int Oi p.stock,.int Oi p.kerf],.blk gm [.int Oi m2],.blk gb [v2,.int Oi b2.q],.own v2 1 3 b2.n (ints b2.y),.sem F]:=by
 obtain⟨hm,hm1,hd,hd1,hs,hk⟩:=h.Oq
 refine zenF Tryz.func32 Tryz.ntmps32 ?_
 refine zsr<|zla (xbx (cs:= [_,_]) hS) ?_;rintro _ w ⟨g1,rfl,hS⟩
 refine zx5<|(On)<|zlt<|Zf ?_ ?_<;>intro hc
 ·
  refine zrt<|ztr<|zf0 ⟨_,rfl,?_⟩
  exact⟨rfl,b,most,vb,V0 (by rintro⟨h1,h2,h3⟩;omega),hvb,hS.pk [0,1,2,3,5]⟩
 refine ZV<|(zV (xls 0 st_27 hS))<|(zV (xls 6 st_43 hS))<|zlc (xc0 ZhP) (Za5 (p:=p) w (h.below hS.below) (hS.rowN 4 rfl) Oa) ?_;rintro _ w ⟨rfl,hS'⟩
 replace hS:=hS.cmp hS';clear hS'
 refine zs5 ?_
 refine zlz<|(Oo)<|zlb 19 ?_ ?_<;>intro hc
 ·
  refine(zP)<|(zV (xlb 1 pl_3 hS))<|(On)<|zlt<|Zf ?_ ?_<;>intro hc
  ·
   refine zrg<|(zV (xls 6 st_43 hS))<|(zP)<|zle (xsw 2 st_43 hS (hd:=(Za hvc.one (Za rfl Zi)))) ?_;clear hS;rintro w hS
   refine zle (xsb 1 pl_3 hS) ?_;clear hS;rintro w hS
   refine zln<|XD ⟨_,rfl,?_⟩
   exact⟨rfl,c,_,vc,R6 Oa Oa Oa,hvc,hS.pk [0,1,2,4,5]⟩
  refine zsk<|XD ⟨_,rfl,?_⟩
  exact⟨rfl,b,most,vb,V0 (by rintro⟨h1,h2,h3⟩;omega),hvb,hS.pk [0,1,2,3,5]⟩
 iterate 3 refine zlo ?_
 refine(zP)<|zlt<|zcf<|zsk<|XD ⟨_,rfl,?_⟩
 exact⟨rfl,b,most,vb,V0 (by rintro⟨h1,h2,h3⟩;omega),hvb,hS.pk [0,1,2,3,5]⟩
theorem ZhC:Zd Om 32=true:=Oc
theorem Zpo:Zd Om 33=true:=Oc
theorem Zpn:Zd Om 34=true:=Oc
theorem Zpm:Zd Om 35=true:=Oc
theorem ZcA{vL vD:Value}{p:Prob}(w0:World)(h:PAt w0 vL vD p):
   Calls Om 11 [.agg #[vL,vD,.int Oi p.stock,.int Oi p.kerf]].toArray w0 fun e w=>∃v,e= .returned v/\∃r c m e,v= .tuple #[.agg #[r,.int Oi (Ct.q c)],.int Oi m,.int Oi e]/\DBestR p c m e/\Slh r c.n/\Sat w0 w [.own r 1 3 c.n (ints c.y)]:=by
 obtain⟨hm,hm1,hd,hd1,hs,hk⟩:=h.Oq
 refine zenG Tryz.func11 Tryz.ntmps11 fun w hS=> ?_
 refine zsr<|zla (xbx (cs:= [_,_,_,_]) hS) ?_;rintro _ w ⟨g1,rfl,hS⟩
 refine zla (xal (cs:= [_,_]) Ub hS) ?_;rintro _ w ⟨g2,rfl,hS⟩
 refine(On)<|zx5<|(zV (xls 0 st_27 hS))<|zlc (xc0 XP) (Ya (p:=p) w (h.below hS.below)) ?_;rintro _ w ⟨rfl,hS'⟩
 replace hS:=hS.cmp hS';clear hS'
 refine(zP)<|zlt<|Zf ?_ ?_<;>intro hc
 ·
  refine zsr<|(zV (xany (v:= .agg #[Oh,.int Oi 0])))<|zle (xsw 1 st_43 hS) ?_;clear hS;rintro w hS
  refine(On)<|zx14<|XU 1 st_43 hS ⟨_,rfl,?_⟩
  exact⟨_,Ct.zer,0,1,rfl,.inl ⟨‹¬p.Ok›,rfl,rfl,rfl⟩,slh_nil,(hS.sub (.cons _ (.cons _ .slnil))).addnil 1 3 (ints Ct.zer.y)⟩
 refine ZV<|zla (xal (cs:= [_,_]) Ub hS) ?_;rintro _ w ⟨g3,rfl,hS⟩
 refine zlz<|zla (xal (cs:= [_]) ZJ hS) ?_;rintro _ w ⟨g4,rfl,hS⟩
 refine zle (xsb 3 pl_3 hS) ?_;clear hS;rintro w hS
 refine zlz<|zlv xmf ?_
 replace hS:=hS.addnil 1 3 (ints Ct.zer.y)
 have hp:p.Ok:=by first|assumption|exact Od ‹_›
 have hpm:=hp.m1;have xb:=hp.m2;have hpd:=hp.d;have hs1:=hp.s1;have hs2:=hp.s2;have hk1:=hp.k1;have hk2:=hp.k2
 refine(zP)<|zlz<|(zP)<|(zV (xls 0 st_27 hS))<|zlc (xc0 Zpo) (Zie (p:=p) w (h.below hS.below)) ?_;rintro _ w ⟨d8,jU,jP,rfl,bx,de,hS'⟩
 replace hS:=(hS.comp hS').n6;clear hS'
 refine(On)<|zlc (xcc (vs:= [_,_]) ZhC) (Za3 (p:=p) (b:=Ct.zer) (c:=jU) (most:=(-1)) (ee:=jP) (vb:=Oh) (vc:=d8) w0 w (Sat.bundle (l1:= [_,_,_,_,_]) (hS.pk [0,3,2,4,5,1])) h slh_nil de (by have h9:=bx.q;omega)) ?_;rintro _ w ⟨rfl,gh,eD,eh,fb,dg,hS⟩
 replace hS:=Sat.unbundle (l1:= [_,_,_,_]) (l3:= []) hS
 refine zlz<|(zP)<|(zV (xls 0 st_27 hS))<|zlc (xc0 Zpn) (Zid (p:=p) w (h.below hS.below)) ?_;rintro _ w ⟨d7,jT,jO,rfl,bv,dc,hS'⟩
 replace hS:=(hS.comp hS').n6;clear hS'
 refine(On)<|zlc (xcc (vs:= [_,_]) ZhC) (Za3 (p:=p) (b:=gh) (c:=jT) (most:=eD) (ee:=jO) (vb:=eh) (vc:=d7) w0 w (Sat.bundle (l1:= [_,_,_,_,_]) (hS.pk [0,1,2,3,5,4])) h dg dc (by have h9:=bv.q;omega)) ?_;rintro _ w ⟨rfl,gd,eC,eg,e8,df,hS⟩
 replace hS:=Sat.unbundle (l1:= [_,_,_,_]) (l3:= []) hS
 refine zlz<|(zP)<|(zV (xls 0 st_27 hS))<|zlc (xc0 Zpm) (ZfD (p:=p) w (h.below hS.below)) ?_;rintro _ w ⟨dZ,jS,jN,rfl,bu,da,hS'⟩
 replace hS:=(hS.comp hS').n6;clear hS'
 refine(On)<|zlc (xcc (vs:= [_,_]) ZhC) (Za3 (p:=p) (b:=gd) (c:=jS) (most:=eC) (ee:=jN) (vb:=eg) (vc:=dZ) w0 w (Sat.bundle (l1:= [_,_,_,_,_]) (hS.pk [0,1,2,3,5,4])) h df da (by have h9:=bu.q;omega)) ?_;rintro _ w ⟨rfl,kL,ka,j8,e7,aR,hS⟩
 replace hS:=Sat.unbundle (l1:= [_,_,_,_]) (l3:= []) hS
 refine zx7<|zdst [0,1,2,3,4] [0,1,2,3] 2 mx_ hS ?_;clear hS;intro w hS
 refine(zDl 0 (fun w hS=>(xls 2 st_43 hS)))<|(zDl 1 (fun w hS=>(xlb 1 pl_3 hS)))<|zde 2 (xsw 4 st_43 hS (hd:=(Za aR.one (Za rfl Zi)))) ?_;clear hS;rintro w hS
 refine⟨⟨fun h=>absurd h (by decide),hS.pk [0,1,2,3]⟩,?_⟩
 refine(zDw 3 xas)<|(zDw 4 xas)<|zdd<|ztn<|zrt<|XU 4 st_43 hS ⟨_,rfl,?_⟩
 exact⟨_,_,_,0,rfl,.inr ⟨hp,rfl,_,_,_,_,_,_,bx,bv,bu,(by rw [e7,e8,fb])⟩,aR,hS.pk [3]⟩
end Go.Proofs.YtpnamgfdakfccaaGreat
namespace Go.Proofs.Gw
open Go Go.RowKit
variable {i k lo need w:Int} {a x:Of}
def dn{α:Type}(F:Int->List α)(lo:Int):Nat->List α
  |0=> []
  |c+1=>F (lo+c)++dn F lo c
theorem U1{α:Type}(F:Int->List α)(h:lo<=k):dn F lo (k+1-lo).toNat=F k++dn F lo (k-lo).toNat:=by
 rw [show(k+1-lo).toNat=(k-lo).toNat+1 by omega]
 simp only [dn]
 rw [show lo+((k-lo).toNat:Int)=k by omega]
theorem Zhv{α:Type}{F:Int->List α}{lo:Int}:∀{c:Nat},(∀k,lo<=k->k<lo+c->F k= [])->dn F lo c= []
 |0,_=>rfl
 | c+1,h=>by
   simp only [dn]
   rw [h _ Oa Oa,Zhv fun k h0 h1=>h k h0 Oa];rfl
theorem ZgB{α:Type}{F:Int->List α}{lo:Int}{x:α}:∀{c:Nat},x∈dn F lo c->∃k,lo<=k/\k<lo+c/\x∈F k
 |0,h=>by cases h
 | c+1,h=>by
   simp only [dn,List.mem_append] at h
   rcases h with h|h
   · exact⟨_,Oa,Oa,h⟩
   · obtain⟨k,h1,h2,h3⟩:=ZgB h;exact⟨k,h1,Oa,h3⟩
theorem Zhw{α:Type}{F:Int->List α}{lo k:Int}{x:α}:∀{c:Nat},lo<=k->k<lo+c->x∈F k->x∈dn F lo c
 |0,h0,h1,h=>Oa
 | c+1,h0,h1,h=>by
   simp only [dn,List.mem_append]
   by_cases e:k=lo+c
   · subst e;exact .inl h
   · exact .inr (Zhw h0 Oa h)
def ZcK(p:Prob)(a:Of)(l:Int):Prop:=(∃i,0<=i/\i<p.m/\0<a i)/\∀i,0<=i->i<p.m->a i<p.D i->l<p.L i+p.kerf
def least(w i:Int):Int:=if w=i then 1 else 0
noncomputable def ext(p:Prob)(w:Int):Nat->(Of)->Int->List (Of)
  |0,a,l=> @ite _ (ZcK p a l) (Classical.propDecidable _) [a] []
  | j +1,a,l=>dn (fun k=>ext p w j (upd a (p.m-((j:Int)+1)) k) (l-k*(p.L (p.m-((j:Int)+1))+p.kerf))) (least w (p.m-((j:Int)+1)))
      (min (p.D (p.m-((j:Int)+1))) (l.tdiv (p.L (p.m-((j:Int)+1))+p.kerf))+1-least w (p.m-((j:Int)+1))).toNat
noncomputable def exI(p:Prob)(w i:Int)(a:Of)(l:Int):List (Of):=ext p w (p.m-i).toNat a l
def most(p:Prob)(i l:Int):Int:=min (p.D i) (l.tdiv (p.L i+p.kerf))
theorem Tl{p:Prob}{l:Int}(hi:i=p.m)(h:ZcK p a l):exI p w i a l= [a]:=by
 unfold exI;rw [show(p.m-i).toNat=0 by omega]
 show @ite _ (ZcK p a l) (Classical.propDecidable _) [a] []=_
 rw [if_pos h]
theorem ZaH{p:Prob}{l:Int}(hi:i=p.m)(h:¬ZcK p a l):exI p w i a l= []:=by
 unfold exI;rw [show(p.m-i).toNat=0 by omega]
 show @ite _ (ZcK p a l) (Classical.propDecidable _) [a] []=_
 rw [if_neg h]
noncomputable def kid(p:Prob)(w i:Int)(a:Of)(l:Int)(k:Int):List (Of):=exI p w (i+1) (upd a i k) (l-k*(p.L i+p.kerf))
theorem Wj{p:Prob}{l:Int}(h0:0<=i)(h1:i<p.m):exI p w i a l=dn (kid p w i a l) (least w i) (most p i l+1-least w i).toNat:=by
 unfold exI
 obtain⟨j,hj⟩:∃j:Nat,(p.m-i).toNat=j+1:=⟨(p.m-i).toNat-1,Oa⟩
 have e:p.m-((j:Int)+1)=i:=Oa
 rw [hj]
 simp only [ext]
 rw [e]
 have e2:(fun k=>ext p w j (upd a i k) (l-k*(p.L i+p.kerf)))=kid p w i a l:=by
   funext k
   unfold kid exI
   rw [show(p.m-(i+1)).toNat=j by omega]
 rw [e2];rfl
noncomputable def MX(p:Prob)(w:Int):List (Of):=exI p w 0 (fun _=>0) (p.stock+p.kerf)
structure Pfx (p:Prob) (i:Int) (a:Of) (l:Int):Prop where
  rng:∀k,0<=k->k<i->0<=a k/\a k<=p.D k
  zero:∀k,k<0\/i<=k->a k=0
  left:l=p.stock+p.kerf-ZL p a i.toNat
  l0:0<=l
theorem Pfx.start{p:Prob}(hp:p.Ok):Pfx p 0 (fun _=>0) (p.stock+p.kerf):=
 ⟨fun k h0 h1=>Oa,fun _ _=>rfl,by show _=_-Zc _ 0;simp [Zc],by have:=hp.s1;have:=hp.k1;omega⟩
theorem XK{p:Prob}(hp:p.Ok){l:Int}(h0:0<=i)(h1:i<p.m)(hl:0<=l)(k0:0<=k)(k1:k<=most p i l):k<=p.D i/\0<=k*(p.L i+p.kerf)/\k*(p.L i+p.kerf)<=l:=by
 have he:=hp.all i h0 h1
 unfold Prob.each at he
 have hk:=hp.k1
 unfold most at k1
 have h2:k<=l.tdiv (p.L i+p.kerf):=Oa
 rw [Int.tdiv_eq_ediv_of_nonneg hl] at h2
 exact⟨by omega,Int.mul_nonneg k0 Oa,(Int.le_ediv_iff_mul_le Oa).1 h2⟩
theorem ZfU{p:Prob}(h0:0<=i):ZL p (upd a i k) (i+1).toNat=ZL p a i.toNat+k*(p.L i+p.kerf):=by
 have e:ZL p (upd a i k) (i+1).toNat=ZL p (upd a i k) i.toNat+upd a i k i*(p.L i+p.kerf):=ZF _ h0
 rw [e,ZC]
 congr 1
 exact Zg fun j j0 j1=>by rw [upd_ne _ _ Oa]
theorem Pfx.step{p:Prob}(hp:p.Ok){l:Int}(h:Pfx p i a l)(h0:0<=i)(h1:i<p.m)(k0:0<=k)(k1:k<=most p i l):Pfx p (i+1) (upd a i k) (l-k*(p.L i+p.kerf)):=by
 obtain⟨g1,g2,g3⟩:=XK hp h0 h1 h.l0 k0 k1
 refine⟨fun j j0 j1=> ?_,fun j hj=> ?_,by rw [ZfU h0,h.left];omega,Oa⟩
 · by_cases e:j=i
   · rw [e,ZC];exact⟨k0,g1⟩
   · rw [upd_ne _ _ e];exact h.rng j j0 Oa
 · rw [upd_ne _ _ Oa];exact h.zero j Oa
structure MPat (p:Prob) (w:Int) (x:Of):Prop where
  rng:∀k,0<=k->k<p.m->0<=x k/\x k<=p.D k
  zero:∀k,k<0\/p.m<=k->x k=0
  used:ZL p x p.m.toNat<=p.stock+p.kerf
  maxi:ZcK p x (p.stock+p.kerf-ZL p x p.m.toNat)
theorem Zel{p:Prob}(hp:p.Ok){w:Int}:∀(j:Nat) {i l:Int} {a x:Of},(p.m-i).toNat=j->0<=i->i<=p.m->Pfx p i a l->x∈exI p w i a l->MPat p w x/\(∀k,k<i->x k=a k)/\(i<=w->w<p.m->1<=x w)
 | 0,i,l,a,x,hj,h0,h1,h,hx=>by
   have hi:i=p.m:=Oa
   by_cases hm:ZcK p a l
   · rw [Tl hi hm,List.mem_singleton] at hx
     subst hx
     have hl:=h.left;have hl0:=h.l0
     rw [hi] at hl
     refine⟨⟨fun k k0 k1=>h.rng k k0 Oa,fun k hk=>h.zero k Oa,Oa,?_⟩,fun _ _=>rfl,fun _ _=>Oa⟩
     rw [<-hl];exact hm
   · rw [ZaH hi hm] at hx;cases hx
 | j +1,i,l,a,x,hj,h0,h1,h,hx=>by
   rw [Wj h0 Oa] at hx
   obtain⟨k,k0,k1,hk⟩:=ZgB hx
   have hle:0<=least w i:=by unfold least;split<;>omega
   have hs:=h.step hp h0 Oa (k:=k) Oa Oa
   obtain⟨g1,g2,g3⟩:=Zel hp j Oa Oa Oa hs hk
   refine⟨g1,fun q hq=>by rw [g2 q Oa,upd_ne _ _ Oa],fun hw hw2=> ?_⟩
   by_cases e:w=i
   · have:=g2 w Oa
     rw [e,ZC] at this
     rw [e,this]
     unfold least at k0;rw [if_pos e] at k0;exact k0
   · exact g3 Oa hw2
theorem ZiI{p:Prob}(hp:p.Ok)(h:x∈MX p w):MPat p w x/\(0<=w->w<p.m->1<=x w):=by
 have:=hp.m1
 obtain⟨h1,_,h3⟩:=Zel hp _ rfl (Int.le_refl 0) Oa (Pfx.start hp) h
 exact⟨h1,h3⟩
def Lat(p:Prob):Nat->Int
  |0=>0
  |j+1=>Lat p j+p.D (p.m-((j:Int)+1))*(p.L (p.m-((j:Int)+1))+p.kerf)
def Xz(p:Prob)(i:Int):Int:=Lat p (p.m-i).toNat
theorem LatI_end{p:Prob}(h:p.m<=i):Xz p i=0:=by unfold Xz;rw [show(p.m-i).toNat=0 by omega];rfl
theorem UP{p:Prob}(h0:0<=i)(h1:i<p.m):Xz p i=Xz p (i+1)+p.D i*(p.L i+p.kerf):=by
 unfold Xz
 obtain⟨j,hj⟩:∃j:Nat,(p.m-i).toNat=j+1:=⟨(p.m-i).toNat-1,Oa⟩
 rw [hj,show(p.m-(i+1)).toNat=j by omega]
 simp only [Lat]
 rw [show p.m-((j:Int)+1)=i by omega]
theorem ZcM{p:Prob}(hp:p.Ok):∀(j:Nat) {i:Int},(p.m-i).toNat=j->0<=i->i<=p.m->0<=Xz p i/\Xz p i<=(p.m-i)*2100000
 |0,i,hj,h0,h1=>by rw [LatI_end Oa,show p.m-i=0 by omega];omega
 | j+1,i,hj,h0,h1=>by
   have ih:=ZcM hp j (i:=i+1) Oa Oa Oa
   rw [UP h0 Oa]
   have he:=hp.all i h0 Oa
   unfold Prob.each at he
   have:=hp.k1;have:=hp.k2;have:=hp.s2
   have a1:=Int.mul_nonneg he.2.2.2.1 (show 0<=p.L i+p.kerf by omega)
   have a2:p.D i*(p.L i+p.kerf)<=1000*2100:=Int.mul_le_mul he.2.2.2.2 Oa Oa Oa
   have e:(p.m-i)*2100000=(p.m-(i+1))*2100000+2100000:=Oa
   omega
theorem Zbe{p:Prob}(hp:p.Ok)(h0:0<=i):0<=Xz p i/\Xz p i<=42000000:=by
 by_cases h:i<=p.m
 · have:=ZcM hp _ rfl h0 h;have:=hp.m2;omega
 · rw [LatI_end Oa];omega
structure NeedP (p:Prob) (a:Of) (i need:Int):Prop where
  top:need<=p.stock+p.kerf+1
  all:∀k,0<=k->k<i->a k<p.D k->need<=p.L k+p.kerf
  ex:need=p.stock+p.kerf+1\/∃k,0<=k/\k<i/\a k<p.D k/\p.L k+p.kerf=need
theorem NeedP.start(p:Prob):NeedP p (fun _=>0) 0 (p.stock+p.kerf+1):=⟨Int.le_refl _,fun k h0 h1=>Oa,.inl rfl⟩
theorem NeedP.yes{p:Prob}(h:NeedP p a i need)(h0:0<=i)(hk:k<p.D i):NeedP p (upd a i k) (i+1) (min need (p.L i+p.kerf)):=by
 refine⟨by have:=h.top;omega,fun j j0 j1 hj=> ?_,?_⟩
 · by_cases e:j=i
   · rw [e];omega
   · rw [upd_ne _ _ e] at hj
     have:=h.all j j0 Oa hj;omega
 · by_cases hm:need<=p.L i+p.kerf
   · rw [Int.min_eq_left hm]
     rcases h.ex with h2|⟨j,j0,j1,j2,j3⟩
     · exact .inl h2
     · exact .inr ⟨j,j0,Oa,by rw [upd_ne _ _ Oa];exact j2,j3⟩
   · rw [Int.min_eq_right Oa]
     exact .inr ⟨i,h0,Oa,by rw [ZC];exact hk,rfl⟩
theorem NeedP.no{p:Prob}(h:NeedP p a i need)(h0:0<=i)(hk:¬k<p.D i):NeedP p (upd a i k) (i+1) need:=by
 refine⟨h.top,fun j j0 j1 hj=> ?_,?_⟩
 · by_cases e:j=i
   · rw [e,ZC] at hj;exact absurd hj hk
   · rw [upd_ne _ _ e] at hj
     exact h.all j j0 Oa hj
 · rcases h.ex with h2|⟨j,j0,j1,j2,j3⟩
   · exact .inl h2
   · exact .inr ⟨j,j0,Oa,by rw [upd_ne _ _ Oa];exact j2,j3⟩
theorem Zem{p:Prob}(hp:p.Ok){w:Int}:∀(j:Nat) {i l:Int} {a:Of},(p.m-i).toNat=j->0<=i->i<=p.m->0<=l->(∃k,0<=k/\k<i/\a k<p.D k/\p.L k+p.kerf<=l-Xz p i)->exI p w i a l= []
 | 0,i,l,a,hj,h0,h1,hl,⟨k,k0,k1,k2,k3⟩=>by
   refine ZaH Oa fun hm=> ?_
   rw [LatI_end Oa] at k3
   have:=hm.2 k k0 Oa k2
   omega
 | j+1,i,l,a,hj,h0,h1,hl,⟨k,k0,k1,k2,k3⟩=>by
   rw [Wj h0 Oa]
   have hle:0<=least w i:=by unfold least;split<;>omega
   refine Zhv fun c c0 c1=> ?_
   obtain⟨g1,g2,g3⟩:=XK hp h0 Oa hl (k:=c) Oa Oa
   refine Zem hp j Oa Oa Oa Oa ⟨k,k0,Oa,by rw [upd_ne _ _ Oa];exact k2,?_⟩
   rw [UP h0 Oa] at k3
   have he:=hp.all i h0 Oa
   unfold Prob.each at he
   have:=hp.k1
   have:c*(p.L i+p.kerf)<=p.D i*(p.L i+p.kerf):=Int.mul_le_mul_of_nonneg_right g1 Oa
   omega
theorem ZdY{p:Prob}(hp:p.Ok){l:Int}(h0:0<=i)(h1:i<=p.m)(h:Pfx p i a l)(hn:NeedP p a i need)(hg:need<=l-Xz p i):exI p w i a l= []:=by
 refine Zem hp _ rfl h0 h1 h.l0 ?_
 have hL:=(Zbe hp h0).1
 have hu:0<=ZL p a i.toNat:=ZY fun j j0 j1=>by
   have:=h.rng j j0 Oa
   have he:=hp.all j j0 Oa
   unfold Prob.each at he
   have:=hp.k1
   exact Int.mul_nonneg Oa Oa
 have hl:=h.left
 rcases hn.ex with h2|⟨k,k0,k1,k2,k3⟩
 · omega
 · exact⟨k,k0,k1,k2,Oa⟩
theorem Wg{p:Prob}{l:Int}(hi:i=p.m)(hn:NeedP p a i need)(hl:l<need)(hz:∃k,0<=k/\k<p.m/\0<a k):exI p w i a l= [a]:=
 Tl hi ⟨hz,fun k k0 k1 hk=>by have:=hn.all k k0 Oa hk;omega⟩
theorem Tg{p:Prob}{l:Int}(hi:i=p.m)(hz:¬∃k,0<=k/\k<p.m/\0<a k):exI p w i a l= []:=
 ZaH hi fun h=>hz h.1
def Yy(l:List (Of))(k:Int):Of:=l.getD k.toNat (fun _=>0)
def Ls(m u:Int)(f:Og)(l:List (Of)):Prop:=u=l.length/\∀k,0<=k->k<u->∀j,0<=j->j<m->f k j=Yy l k j
theorem Ls.nil{m:Int}{f:Og}:Ls m 0 f []:=⟨rfl,fun k h0 h1=>Oa⟩
theorem Zjf{l m:List (Of)}(h0:0<=k)(h1:k<l.length):Yy (l++m) k=Yy l k:=by
 unfold Yy;rw [List.getD_eq_getElem?_getD,List.getD_eq_getElem?_getD,List.getElem?_append_left Oa]
theorem Zjg{l:List (Of)}(h:k=l.length):Yy (l++ [x]) k=x:=by
 unfold Yy;rw [List.getD_eq_getElem?_getD,h,Int.toNat_natCast,List.getElem?_append_right (Nat.le_refl _)];simp
theorem ZbP{l:List (Of)}(h0:0<=k)(h1:k<l.length):Yy l k∈l:=by
 unfold Yy
 have:k.toNat<l.length:=Oa
 rw [List.getD_eq_getElem?_getD,List.getElem?_eq_getElem this];exact List.getElem_mem this
theorem Ls.snoc{m u:Int}{f:Og}{l:List (Of)}{g:Of}(h:Ls m u f l)(hg:∀j,0<=j->j<m->g j=x j):Ls m (u+1) (gsn f u g) (l++ [x]):=by
 obtain⟨h1,h2⟩:=h
 refine⟨by simp [h1],fun k k0 k1 j j0 j1=> ?_⟩
 by_cases e:k<u
 · rw [Zq e,h2 k k0 e j j0 j1,Zjf k0 Oa]
 · rw [ZB e,Zjg Oa];exact hg j j0 j1
end Go.Proofs.Gw
namespace Go.Proofs.YtpnamgfdakfccaaGreat
open Go Go.RowKit Go.Proofs.Gw
theorem Zgl{p:Prob}(hp:p.Ok){i l q:Int}{a:Of}(h:Pfx p i a l)(q0:0<=q)(q1:q<=i)(i1:i<=p.m):0<=ZL p a q.toNat/\ZL p a q.toNat<=42000000:=by
 have h1:=UU (f:=fun i=>a i*(p.L i+p.kerf)) (A:=2100000) (n:=q.toNat) (fun j j0 j1=>by
   have hr:=h.rng j j0 Oa
   have he:=hp.all j j0 Oa
   unfold Prob.each at he
   have:=hp.k1;have:=hp.k2;have:=hp.s2
   exact⟨Int.mul_nonneg hr.1 Oa,Int.le_trans (Int.mul_le_mul (show a j<=1000 by omega) (show p.L j+p.kerf<=2100 by omega) Oa Oa) Oa⟩)
 have:=hp.m2
 unfold ZL
 refine⟨h1.1,Int.le_trans h1.2 ?_⟩
 have:((q.toNat:Nat):Int)*2100000=q*2100000:=by rw [Int.toNat_of_nonneg q0]
 omega
theorem Zlr{p:Prob}(hp:p.Ok){i l:Int}{a:Of}(h:Pfx p i a l)(h0:0<=i)(i1:i<=p.m):l<=p.stock+p.kerf:=by
 have:=Zgl hp h h0 (Int.le_refl _) i1;have:=h.left;omega
def ZpL(p:Prob)(wi u:Int)(f:Og)(e:Int):Prop:=(¬p.Ok/\e=1/\u=0)\/(p.Ok/\¬(0<=wi/\wi<p.m)/\e=2/\u=0)\/
  (p.Ok/\(0<=wi/\wi<p.m)/\300<(MX p wi).length/\e=9/\u=0)\/(p.Ok/\(0<=wi/\wi<p.m)/\(MX p wi).length<=300/\e=0/\Ls p.m u f (MX p wi))
theorem ZmG:Zd Om 280=true:=Oc
theorem ZnM{x:Int}(w0:World):
   Calls Om 280 [.int Oi x].toArray w0 fun e w=>∃v,e= .returned v/\v=B (0<x)/\Sat w0 w []:=by
 refine zenG Tryz.func280 Tryz.ntmps280 fun w hS=> ?_
 refine zsr<|(zP)<|zlz<|(Oo)<|zx1<|Oj ?_
 exact⟨Zm Oa,hS⟩
theorem ZnU{v:Value}{n:Int}{f:Of}(w0:World)(hR:Row w0 v 1 n (ints f)):
   Calls Om 147 [v,.func (.func 280) #[] #[]].toArray w0 fun e w=>∃v,e= .returned v/\∃r:Int,v= .int Oi r/\((r= -1/\∀k,0<=k->k<n->¬(0<f k))\/(0<=r/\r<n/\(0<f r)))/\Sat w0 w []:=by
 have hn:=hR.slh.n0;have hn1:=hR.slh.n1
 refine zenG Tryz.func147 Tryz.ntmps147 fun w hS=> ?_
 refine zsr<|(zP)<|zx5<|(zP)<|(zV (xln Zb hR.slh))<|(zP)<|zx6<|zlp (fun mm M w=>∃(i:Int),mm=((n-i).toNat)/\(0<=i)/\(i<=n)/\(∀k,0<=k->k<i->¬(0<f k))/\M= [(0,v),(1,.func (.func 280) #[] #[]),(7,.int Oi n),(8,.int Oi i)]/\Sat w0 w []) ⟨0,rfl,Oa,Oa,?_,rfl,hS⟩ ?_
 ·
  intro k h0 h1;omega
 clear hS w
 rintro mm M w ⟨i,rfl,h0,h1,qa,rfl,hS⟩
 refine zsr<|(zP)<|zx7<|Zf ?_ ?_<;>intro hc
 ·
  refine zx3<|(On)<|zlz<|(Oo)<|(zV (xix (kk:=i) Zb hR.slh))<|(zV (xlr (u:= .int Oi (f i)) pl_3 (hR.below hS.below)))<|zlc (xc0 ZmG) (ZnM (x:=(f i)) w) ?_;rintro _ w ⟨rfl,hS'⟩
  replace hS:=hS.cmp hS';clear hS'
  refine zlt<|Zf ?_ ?_<;>intro hc
  ·
   refine zsr<|(On)<|zx2<|Oj ?_
   exact⟨i,rfl,.inr ⟨by omega,Oa,‹0<f i›⟩,hS⟩
  refine zx4<|(zV (Zh (r:=i+1)))<|(zP)<|zln<|zlq ⟨i+1,rfl,Oa,Oa,?_,rfl,hS⟩
  ·
   intro k h0' h1';rcases Int.lt_or_eq_of_le (show k<=i by omega) with hk|hk;exact qa k h0' hk;rw [hk];assumption
 refine zx8<|(zP)<|zx1<|Oj ?_
 exact⟨-1,rfl,.inl ⟨rfl,fun k h0 h1=>qa k h0 Oa⟩,hS⟩
theorem Zn5{v:Value}{n:Int}{f:Of}(w0:World)(hR:Row w0 v 1 n (ints f)):
   Calls Om 90 [v,.func (.func 280) #[] #[]].toArray w0 fun e w=>∃v,e= .returned v/\v=B (∃k,0<=k/\k<n/\0<f k)/\Sat w0 w []:=by
 refine zenG Tryz.func90 Tryz.ntmps90 fun w hS=> ?_
 refine zsr<|(zP)<|zlz<|(On)<|zlc (xc0 WX) (ZnU (n:=n) (f:=f) w (hR.below hS.below)) ?_;rintro _ w ⟨r1,rfl,hr1,hS'⟩
 replace hS:=hS.cmp hS';clear hS'
 refine(On)<|zx1<|Oj ?_
 exact⟨Zm (by
  rcases hr1 with⟨h1,h2⟩|⟨h1,h2,h3⟩
  · exact⟨fun h=>Oa,fun⟨k,h4,h5,h6⟩=>absurd h6 (h2 k h4 h5)⟩
  · exact⟨fun _=>⟨_,h1,h2,h3⟩,fun _=>h1⟩),hS⟩
end Go.Proofs.YtpnamgfdakfccaaGreat
namespace Go.Proofs.Gw
open Go Go.RowKit
noncomputable def Frame.cd(p:Prop)(F G:Frame):Frame:= @ite _ p (Classical.propDecidable p) F G
theorem Y9{p:Prop}{F G:Frame}(h:p):Frame.cd p F G=F:=if_pos h
theorem WH{p:Prop}{F G:Frame}(h:¬p):Frame.cd p F G=G:=if_neg h
structure BX where
  v:Value
  n:Int
  f:Of
theorem VJ{f:Of}{i x:Int}(h:f i=x):upd f i x=f:=by
 funext k;unfold upd;split
 · rename_i e;rw [e,h]
 · rfl
theorem XA(f:Of)(i x y:Int):upd (ints (upd f i x)) i (.int Oi y)=ints (upd f i y):=by
 funext k;unfold upd ints;dsimp only;split<;>rfl
end Go.Proofs.Gw
namespace Go.Proofs.YtpnamgfdakfccaaGreat
open Go Go.RowKit Go.Proofs.Gw
theorem ZfC{vL vD:Value}{p:Prob}{wi:Int}(w0:World)(h:PAt w0 vL vD p)(hp:p.Ok):
   Calls Om 222 [.agg #[vL,vD,.int Oi p.stock,.int Oi p.kerf],.int Oi wi].toArray w0 fun e w=>∃v,e= .returned v/\∃g2 g3 g5 g6 vl,v= .func (.func 278) #[] #[Or g5,Or g6,Or g3,Or g2]/\Slh vl (p.m+1)/\Sat w0 w [.blk g2 [vL,vD,.int Oi p.stock,.int Oi p.kerf],.blk g3 [.int Oi wi],.blk g5 [.int Oi p.m],.blk g6 [vl],.own vl 1 3 (p.m+1) (ints (Xz p))]:=by
 obtain⟨hm,hm1,hd,hd1,hs,hk⟩:=h.Oq
 have hpm:=hp.m1;have xb:=hp.m2;have hpd:=hp.d;have hs1:=hp.s1;have hs2:=hp.s2;have hk1:=hp.k1;have hk2:=hp.k2
 refine zenG Tryz.func222 Tryz.ntmps222 fun w hS=> ?_
 refine zsr<|zla (xbx (cs:= [_,_,_,_]) hS) ?_;rintro _ w ⟨g1,rfl,hS⟩
 refine zla (xbx (cs:= [_]) hS) ?_;rintro _ w ⟨g2,rfl,hS⟩
 refine(zP)<|zlz<|(zV (xfb 0 fd_27_0))<|(zV (xlb 0 pl_22 hS))<|(zV (xln Zb h.L.slh))<|zla (xal (cs:= [_]) ZJ hS) ?_;rintro _ w ⟨g3,rfl,hS⟩
 refine zle (xsb 2 pl_3 hS) ?_;clear hS;rintro w hS
 refine zlz<|(zV (xlb 2 pl_3 hS))<|(zV (Zh (r:=p.m+1)))<|zla (xmk Zb ZJ hS) ?_;rintro v1 w ⟨hS,hv1⟩
 refine zla (xal (cs:= [_]) Yl hS) ?_;rintro _ w ⟨g4,rfl,hS⟩
 refine zle (xsb 4 pl_22 hS (hv:=hv1.one)) ?_;clear hS;rintro w hS
 refine zx5<|(zV (xlb 2 pl_3 hS))<|(zV (Zp (r:=p.m-1)))<|(zP)<|zx6<|zlp (fun mm M w=>∃(g:Of) (i:Int),mm=((i+1).toNat)/\(-1<=i)/\(i<p.m)/\(∀k,i<k->k<=p.m->g k=Xz p k)/\M= [(2,Or g1),(3,Or g2),(4,(Value.nilFunc)),(5,Or g3),(6,Or g4),(7,.int Oi i)]/\Sat w0 w [.blk g1 [vL,vD,.int Oi p.stock,.int Oi p.kerf],.blk g2 [.int Oi wi],.blk g3 [.int Oi p.m],.own v1 1 3 (p.m+1) (ints g),.blk g4 [v1]]) ⟨(fun _=>0),p.m-1,rfl,Oa,Oa,?_,rfl,hS⟩ ?_
 ·
  intro k k0 k1;rw [LatI_end Oa]
 clear hS w
 rintro mm M w ⟨g,i,rfl,h0,h1,hg,rfl,hS⟩
 refine zsq<|zsr<|(On)<|zlt<|Zf ?_ ?_<;>intro hc
 ·
  refine zsk<|ztn<|zsq<|zbk<|zdst [0,1,2,3,4] [0,1,2,4] 18 mx_ hS ?_;clear hS;intro w hS
  refine(zDl 0 (fun w hS=>(xlb 3 pl_22 hS)))<|(zDw 1 xmv)<|(zDl 2 (fun w hS=>(xlb 3 pl_22 hS)))<|(zDw 3 xmv)<|(zDw 4 (Zh (r:=i+1)))<|(zDw 5 (xix (kk:=i+1) Zb hv1))<|zdl 6 (fun w hS=>(xlr (u:= .int Oi (g (i+1))) pl_3 (hS.rowN 3 rfl))) ?_
  have hei:=hp.all i Oa Oa;unfold Prob.each at hei
  have hLn:=Zbe hp (i:=i+1) Oa
  have hgn:=hg (i+1) Oa Oa
  have hml:0<=p.D i*(p.L i+p.kerf)/\p.D i*(p.L i+p.kerf)<=2100000:=⟨Int.mul_nonneg Oa Oa,Int.le_trans (Int.mul_le_mul (show p.D i<=1000 by omega) (show p.L i+p.kerf<=2100 by omega) Oa Oa) Oa⟩
  refine(zDw 7 (xfb 1 fd_27_1))<|(zDl 8 (fun w hS=>(xlb 0 pl_22 hS)))<|(zDw 9 xmv)<|(zDw 10 (xix (kk:=i) Zb h.D.slh))<|YF 11 (fun w hS=>(xlr (u:= .int Oi (p.D i)) pl_3 (h.D.below hS.below))) ?_
  have hbv:=h.iD i
  refine(zDl 12 (fun w hS=>(xls 0 st_27 hS)))<|(zDw 13 xmv)<|zdc 14 (xc0 XO) (XR (p:=p) (i:=i) w (h.below hS.below) hp Oa Oa) ?_;rintro _ w ⟨rfl,hS'⟩
  replace hS:=hS.cmp hS';clear hS'
  refine⟨⟨fun _=>hS,hS.pk [0,1,2,4]⟩,?_⟩
  refine zDrv 15 (Yi (r:=((p.D i)*(p.L i+p.kerf))) (e:=rfl) (hr:=(by unfold I64;omega))) ?_
  refine(zDw 16 (Zh (r:=g (i+1)+((p.D i)*(p.L i+p.kerf)))))<|(zDw 17 (xix (kk:=i) Zb hv1))<|zde 18 (xso 3 pl_3 hS (ZD _ _ _)) ?_;clear hS;rintro w hS
  refine⟨⟨fun h=>absurd h (by decide),hS.pk [0,1,2,4]⟩,?_⟩
  refine zdd<|zbn<|ztn<|zrg ?_
  refine(zP)<|(zV (Zp (r:=i-1)))<|(zP)<|zln<|zlq ⟨(upd g i (g (i+1)+((p.D i)*(p.L i+p.kerf)))),i-1,rfl,Oa,Oa,?_,rfl,hS⟩
  ·
   intro k k0 k1;by_cases e:k=i
   · rw [e,ZC,UP Oa h1,<-hg (i+1) Oa Oa]
   · rw [upd_ne _ _ e];exact hg k Oa k1
 refine zx8<|(zV xmf)<|(zP)<|zx1<|Oj ?_
 have hi:i= -1:=Oa
 replace hS:=hS.recont 3 rfl (d:=ints (Xz p)) (fun k k0 k1=>by unfold ints;rw [hg k Oa Oa])
 exact⟨_,_,_,_,_,rfl,hv1,hS.pk [0,1,2,4,3]⟩
end Go.Proofs.YtpnamgfdakfccaaGreat
