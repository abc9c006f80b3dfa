import Derived.Test.YtpnamgfdakfccaaGreatTgD
set_option linter.unusedVariables false
set_option linter.unusedSimpArgs false
set_option maxRecDepth 20000
set_option maxHeartbeats 4000000
namespace Go.Proofs.YtpnamgfdakfccaaGreat
open Go Go.RowKit Go.Proofs.Gw
theorem OD:Zc Om 15=true:=Oc
theorem Zn7:Zc Om 151=true:=Oc
theorem ZnK:Zc Om 225=true:=Oc
theorem OW:ZN Om 29=some (Oh,1,24):=Oc
theorem O_{vV:Value}{u:Int}{pv:Ov}{ln:Of}{pt:Og}{cnt:Of}{vL vD:Value}{p:cO}(w0:World)(hV:tq w0 vV u pv ln pt cnt)(h:oO w0 vL vD p):
   Calls Om 78 [.agg #[vL,vD,.int Oi p.bP,.int Oi p.aV],vV].toArray w0 fun e w=>∃v,e= .returned v/\∃r n2 ai tV tN qm e,v= .tuple #[r,.int Oi e]/\AB p u ln pt cnt (nY n2 tV tN qm) e/\(∀k,0<=k->k<n2->1<=qm k/\qm k<=1000000000)/\n2<=1000000/\iK r n2/\Sat w0 w [.own r 2 97 n2 (Ze ai qm),.sem (Frame.rows 3 n2 ai tV tN)]:=by
 obtain⟨hm,a5,hd,hd1,hs,hk⟩:=h.Oq
 have hu:=hV.row.fP.n0;have a1:=hV.row.fP.n1
 refine GK Tryz.func78 Tryz.ntmps78 fun w D=> ?_
 refine jw<|hrz ?_
 refine iG (nS (cs:= [_,_,_,_]) D) ?_;rintro _ w ⟨g1,rfl,D⟩
 refine(On)<|iq<|zh<|htn<|jw<|hrz ?_
 refine(zV (lH 0 iM D))<|(zP)<|iJ (xc0 Iy) (TM (u:=u) (pv:=pv) (ln:=ln) (pt:=pt) (cnt:=cnt) (p:=p) w (hV.below D.below) (h.below D.below)) ?_;rintro _ w ⟨qF,qq,qk,zw,rfl,xc,qA,N⟩
 replace D:=(D.comp N).n2;clear N
 refine(Oo)<|iG (oh (cs:= [_]) ZQ D) ?_;rintro _ w ⟨g2,rfl,D⟩
 refine lJ (xsb 2 dV D (hv:=qA.one)) ?_;clear D;rintro w D
 refine(zP)<|iq<|zh<|htn<|jw<|jw<|hrz ?_
 refine(On)<|iq<|zh<|htn ?_
 refine Yv ?_ ?_<;>intro hc
 {
 refine jw<|hrz ?_
 refine(Oo)<|iq<|zh<|htn<|hrt<|m_<|JG<|rD ⟨_,rfl,?_⟩
 have ar:¬nM p u ln pt cnt/\zw=1:=by rcases xc with⟨g1,_,g3⟩|⟨_,_,_,g4⟩;exact⟨g1,g3⟩;omega
 exact⟨_,0,fun _=>undef,fun _=>0,fun _ _=>0,fun _=>0,_,rfl,.inl ⟨ar.1,rfl,Oa⟩,fun k I F=>Oa,Oa,d_,((D.sub (.cons _ (.cons _ (.cons _ .slnil)))).fU 2 97 (Ze (fun _=>undef) (fun _=>0))).iF 3 (fun _=>undef) (fun _=>0) (fun _ _=>0)⟩}
 refine hsk<|htn<|jw<|jw<|hrz ?_
 refine iI (lH 0 iM D) ?_
 obtain⟨U,bQ,zW⟩:nM p u ln pt cnt/\qq=p.m/\qk=ZJ u pt cnt:=by rcases xc with⟨_,_,g3⟩|⟨g1,g2,g3,_⟩;omega;exact⟨g1,g2,g3⟩
 have bg:=U.1.m1;have qM:=U.1.m2;have a3:=U.1.d;have a0:=U.2.1
 refine(zP)<|iJ (xc0 OD) (Zc1 (u:=u) (pv:=pv) (ln:=ln) (pt:=pt) (cnt:=cnt) (p:=p) w (hV.below D.below) (h.below D.below)) ?_;rintro _ w ⟨rfl,N⟩
 replace D:=D.cmp N;clear N
 refine(zP)<|iq<|zh<|htn ?_
 refine Yv ?_ ?_<;>intro hc
 {
 refine jw<|hrz ?_
 refine(On)<|iq<|zh<|htn<|hrt<|m_<|JG<|rD ⟨_,rfl,?_⟩
 exact⟨_,0,fun _=>undef,fun _=>0,fun _ _=>0,fun _=>0,_,rfl,.inr (.inl ⟨U,fun hh=>‹¬(_/\_)› ⟨U,hh⟩,rfl,rfl⟩),fun k I F=>Oa,Oa,d_,((D.sub (.cons _ (.cons _ (.cons _ .slnil)))).fU 2 97 (Ze (fun _=>undef) (fun _=>0))).iF 3 (fun _=>undef) (fun _=>0) (fun _ _=>0)⟩}
 refine hsk<|htn<|jw<|jw<|hrz ?_
 refine iI (g_ 2 dV D) ?_
 have cF:∀j,0<=j->j<p.m->p.D j<=ZJ u pt cnt j:=(Od ‹¬¬(_/\_)›).2
 refine(zV (iW Zb qA))<|(zP)<|iq<|zh<|htn<|hbk<|hlp (fun mm M w=>∃(Y:Of) (i:Int),mm=((qq-i).toNat)/\(0<=i)/\(i<=qq)/\(∀k,0<=k->k<p.m->Y k=if k<i then ZJ u pt cnt k-p.D k else ZJ u pt cnt k)/\M= [(1,vV),(2,Or g1),(4,Oh),(5,.int Oi 0),(6,Or g2),(27,.int Oi qq),(28,.int Oi i)]/\Sat w0 w [.blk g1 [vL,vD,.int Oi p.bP,.int Oi p.aV],.own qF 1 3 qq (ints Y),.blk g2 [qF]]) ⟨qk,0,rfl,Oa,Oa,?_,rfl,D⟩ ?_
 {
 intro k I F;rw [if_neg Oa,zW]}
 clear D w
 rintro mm M w ⟨Y,i,rfl,h0,h1,hf,rfl,D⟩
 refine jw<|hrz ?_
 refine(zP)<|iq<|zh<|htn<|jw ?_
 refine Yv ?_ ?_<;>intro hc
 {
 refine hsk<|htn<|jw<|hbk<|jw<|hrz ?_
 refine iI gu ?_
 have a4:=Wr U.2.2 hu (Int.le_refl _) (j:=i) h0 Oa
 have a6:=RE U.1 h0 (by omega:i<p.m)
 have au:=hf i h0 Oa
 rw [if_neg Oa] at au
 refine(zP)<|iq<|zh<|htn ?_
 refine hdst [0,1,2] [0,2] 11 nP D ?_;clear D;intro w D
 refine(iQ 0 (fun w D=>(g_ 1 dV D)))<|(b_ 1 gu)<|(b_ 2 (iy (kk:=i) Zb qA))<|sQ 3 (fun w D=>(iR (u:= .int Oi (Y i)) dw (D.f_ 1 rfl))) ?_
 refine(b_ 4 (h_ 1 jF))<|(iQ 5 (fun w D=>(g_ 0 dV D)))<|(b_ 6 gu)<|(b_ 7 (iy (kk:=i) Zb h.D.fP))<|oH 8 (fun w D=>(iR (u:= .int Oi (p.D i)) dw (h.D.below D.below))) ?_
 have a7:=h.iD i
 refine(b_ 9 (Zr (r:=Y i-p.D i)))<|(b_ 10 (iy (kk:=i) Zb qA))<|nR 11 (rV 1 dw D (ZA _ _ _)) ?_;clear D;rintro w D
 refine⟨⟨fun h=>absurd h (by decide),D.pk [0,2]⟩,?_⟩
 refine lS<|zh<|ng<|htn<|hrz ?_
 refine(zV (Zg (r:=i+1)))<|(zP)<|iq<|zh<|hlq ⟨(upd Y i (Y i-p.D i)),i+1,rfl,Oa,Oa,?_,rfl,D⟩
 {
 intro k I F;unfold upd;by_cases e:k=i
 · rw [if_pos e,if_pos Oa,e];omega
 {
 rw [if_neg e,hf k I F];by_cases e2:k<i
 · rw [if_pos e2,if_pos Oa]
 · rw [if_neg e2,if_neg Oa]}}}
 refine hxt<|n_<|n_<|rH<|htn<|jw<|hrz ?_
 refine iG (oh (cs:= [_]) OW D) ?_;rintro _ w ⟨g3,rfl,D⟩
 refine iq<|zh<|htn<|jw<|jw<|hrz ?_
 refine(zP)<|iJ (xc0 Iz) (IL (u:=u) (pv:=pv) (ln:=ln) (pt:=pt) (cnt:=cnt) w (hV.below D.below) Oa (fun k I F=>by have h9:=(U.2.2 k I F).2.2.eq;omega) (fun k I F=>by have h9:=U.2.2 k I F;exact⟨h9.1,h9.2.1⟩)) ?_;rintro xM w ⟨_,Z,xH,yi,ym,xL,rfl,xA,xG,yQ,ye,xO,N⟩
 replace D:=(D.comp N).n6;clear N
 have yC:=fun k (I:0<=k) (F:k<Z)=>D.iw 5 rfl I F
 have al:∀k,0<=k->k<p.m->Y k=ZJ u pt cnt k-p.D k:=fun k I F=>by rw [hf k I F,if_pos Oa]
 have jC:=fun k I F=>(yC k I F).n0
 have qJ:=Zfx U xA jC
 have mW:=Zfy hu xG U xA
 refine iJ (xc0 Zn7) (ZiJ (u:=Z) (pv:=xH) (ln:=yi) (pt:=ym) (cnt:=xL) w (⟨(D.f_ 4 rfl),fun k I F=>D.lI 5 rfl I F,fun k I F=>D.lV 5 rfl I F⟩:tq _ xM Z xH yi ym xL)) ?_;rintro _ w ⟨g4,rfl,N⟩
 replace D:=(D.comp N).n7;clear N
 refine iq<|zh<|htn<|hbk ?_
 replace D:=D.fU 2 97 (Ze (fun _=>Oh) (fun _=>0))
 replace D:=D.iF 3 (fun _=>Oh) (fun _=>p.m) (fun _ _=>0)
 refine NZ (St:=FV) (X:=BX) (Tt:=Unit) (fun s=> [.blk g1 [vL,vD,.int Oi p.bP,.int Oi p.aV],.blk g2 [qF],.own qF 1 3 qq (ints s.M),.blk g3 [s.vO],.own s.vO 2 97 s.n (Ze s.vv s.C),.sem (Frame.rows 3 s.n s.vv (fun _=>p.m) s.P)]) (fun t=> []) (fun _=> .ret) (⟨[],Y,Oh,0,fun _=> Oh,fun _ _=>0,fun _=>0⟩:FV) (fun x M es=>M= [(1,vV),(2,Or g1),(4,Oh),(5,.int Oi 0),(6,Or g2),(27,.int Oi qq),(28,.int Oi i),(29,B (i<qq)),(9,Or g3),(43,vV),(44,xM),(45,.func (.func 225) #[] #[Or g4]),(46,x.v),(10,x.v)]/\es= [.own x.v 1 3 x.n (ints x.f)]) (Zlh (gq:=g4) (fun s=>s.h) (CU p (lst p.m Y)) (⟨[],Y,Oh,0,fun _=> Oh,fun _ _=>0,fun _=>0⟩:FV) rfl ⟨rfl,d_,fun k I F=>by have h9:=al k I F;have h8:=cF k I F;have h7:=Wr U.2.2 hu (Int.le_refl _) I F;have h6:=(RE U.1 I F).1;have h5:=U.2.1;show 0<=Y k/\Y k<=_;omega,by simp,fun k I F=>by(have F:k<0:=F);omega⟩ w0 xO yC (fun k I F=>by have:=(qJ k I F).1;omega) (fun k I F=>by have:=ye k I F;omega)) (D.pk [0,2,1,3,7,8,6,4,5]) ZnK (fun _=>rfl) (fun _=> .inl rfl) ?_ ?_ ?_ ?_
 {
 intro lq s x rest w qe qG ao D
 refine hrz ?_
 refine(zP)<|iq<|zh<|FH ⟨rfl,rfl⟩ D}
 {
 rintro lq s x _ _ rest w qe ⟨rfl,rfl⟩ qG ao D
 obtain⟨aw,W,xd,i,i0,i1,am,an⟩:=qe
 obtain⟨af,aa,ae,ah,ag⟩:=aw
 have ap:=fun k (I:0<=k) (F:k<s.n)=>D.iw 5 rfl I F
 obtain⟨ac,ab⟩:=qJ i i0 i1
 rw [<-am] at ac
 rw [<-an] at ab
 have ak:=aa.n0
 refine hbk<|jw<|jw<|hrz ?_
 refine(zP)<|(zV (iW Zb W))<|(zP)<|iq<|zh<|htn<|hbk<|hlp (fun mm M w=>∃(O:Of) (J:Of) (j:Int),mm=((x.n-j).toNat)/\(0<=j)/\(j<=x.n)/\(∀k,0<=k->k<p.m->O k=if k<j then x.f k-min (x.f k) (s.M k) else x.f k)/\(∀k,0<=k->k<p.m->J k=if k<j then s.M k-min (x.f k) (s.M k) else s.M k)/\M= [(4,Oh),(5,.int Oi 0),(6,Or g2),(9,Or g3),(10,x.v),(48,.int Oi x.n),(49,.int Oi j)]/\Sat w0 w [.blk g1 [vL,vD,.int Oi p.bP,.int Oi p.aV],.blk g2 [qF],.own qF 1 3 qq (ints J),.blk g3 [s.vO],.own s.vO 2 97 s.n (Ze s.vv s.C),.sem (Frame.rows 3 s.n s.vv (fun _=>p.m) s.P),.blk g4 [xM],.own xM 2 97 Z (Ze xH xL),.sem (Frame.rows 3 Z xH yi ym),.sem qG,.own x.v 1 3 x.n (ints O)]) ⟨x.f,s.M,0,rfl,Oa,Oa,?_,?_,rfl,D⟩ ?_
 {
 intro k I F;rw [if_neg Oa]}
 {
 intro k I F;rw [if_neg Oa]}
 clear D w
 rintro mm M w ⟨O,J,j,rfl,j0,j1,ad,az,rfl,D⟩
 refine jw<|hrz ?_
 refine(zP)<|iq<|zh<|htn<|jw ?_
 refine Yv ?_ ?_<;>intro hc
 {
 refine hsk<|htn<|jw<|hbk<|jw<|hrz ?_
 refine iI gu ?_
 have ax:=ab j j0 Oa
 have a8:=ae j j0 Oa
 have jL:=ad j j0 Oa
 have jJ:=az j j0 Oa
 rw [if_neg Oa] at jL jJ
 refine(zP)<|iq<|zh<|htn<|jw ?_
 refine hdst [0,1,2,3,4,5,6,7,8,9,10] [0,1,2,3,4,5,6,7,8,9,10] 1000 nP D ?_;clear D;intro w D
 refine(b_ 0 gu)<|(b_ 1 gu)<|(b_ 2 (iy (kk:=j) Zb W))<|(iQ 3 (fun w D=>(iR (u:= .int Oi (O j)) dw (D.f_ 10 rfl))))<|(iQ 4 (fun w D=>(g_ 1 dV D)))<|(b_ 5 gu)<|(b_ 6 (iy (kk:=j) Zb qA))<|(iQ 7 (fun w D=>(iR (u:= .int Oi (J j)) dw (D.f_ 2 rfl))))<|(b_ 8 (TS (r:=(min (O j) (J j)))))<|(b_ 9 nU)<|lS<|zh<|htn<|jw<|hrz ?_
 refine(On)<|(zV (iy (kk:=j) Zb W))<|(zV (iR (u:= .int Oi (O j)) dw (D.f_ 10 rfl)))<|(zP)<|(zV (Zr (r:=O j-(min (O j) (J j)))))<|(zV (iy (kk:=j) Zb W))<|lJ (rV 10 dw D (ZA _ _ _)) ?_;clear D;rintro w D
 refine iq<|zh<|htn<|hrz ?_
 refine(zV (g_ 1 dV D))<|(zP)<|(zV (iy (kk:=j) Zb qA))<|(zV (iR (u:= .int Oi (J j)) dw (D.f_ 2 rfl)))<|(zP)<|(zV (Zr (r:=J j-(min (O j) (J j)))))<|(zV (iy (kk:=j) Zb qA))<|lJ (rV 2 dw D (ZA _ _ _)) ?_;clear D;rintro w D
 refine iq<|zh<|ng<|htn<|hrz ?_
 refine(zV (Zg (r:=j+1)))<|(zP)<|iq<|zh<|hlq ⟨(upd O j (O j-(min (O j) (J j)))),(upd J j (J j-(min (O j) (J j)))),j+1,rfl,Oa,Oa,?_,?_,rfl,D⟩
 {
 intro k I F;unfold upd;by_cases e:k=j
 · rw [if_pos e,if_pos Oa,e];omega
 · rw [if_neg e,ad k I F];by_cases e2:k<j
   · rw [if_pos e2,if_pos Oa]
   · rw [if_neg e2,if_neg Oa]}
 {
 intro k I F;unfold upd;by_cases e:k=j
 · rw [if_pos e,if_pos Oa,e];omega
 · rw [if_neg e,az k I F];by_cases e2:k<j
   · rw [if_pos e2,if_pos Oa]
   · rw [if_neg e2,if_neg Oa]}}
 refine hxt<|n_<|n_<|rH<|htn<|jw<|hrz ?_
 refine(zP)<|iJ (xc0 Ux) (Zla (n:=x.n) (f:=O) w (D.f_ 10 rfl)) ?_;rintro _ w ⟨rfl,N⟩
 replace D:=D.cmp N;clear N
 refine iq<|zh<|htn ?_
 refine Yv ?_ ?_<;>intro hc
 {
 refine hrz ?_
 refine(zV (g_ 3 wE D))<|(zP)<|iI (lF (v:= .agg #[x.v,.int Oi 1]) (hr:=by have hz:=W;revert hz;generalize x.v=z;rintro⟨_,_,_,_,rfl,_⟩;show _=_;kernel_rfl)) ?_
 refine iG (pO (n:=1) (len:=1) (pv:= [(0,.agg #[x.v,.int Oi 1])]) (cs:= [x.v,.int Oi 1]) (c:=Ze (fun _=>x.v) (fun _=>1)) ZP Xb D (hf:=by have hz:=W;revert hz;generalize x.v=z;rintro⟨_,_,_,_,rfl,_⟩;show _=_;kernel_rfl)) ?_;rintro v1 w ⟨D,ay⟩
 refine iG (pz 4 (r:=s.n+1) ZP Xb D (D.f_ 11 rfl) (Xr _ _ _ _ _) (h1:=fun k _ _=>Xk (fun _=>W.one) k)) ?_;rintro v2 w ⟨D,aj⟩
 replace D:=Sat.merge (l1:= [_,_,_,_,_]) (l2:= [_,_,_,_]) (l3:= [_]) D Oa
 have q9:=fun k (I:0<=k) (F:k<s.n+1)=>D.iw 5 rfl I F
 refine lJ (xsb 3 wE D (hv:=aj.one)) ?_;clear D;rintro w D
 refine iq<|zh<|ng ?_
 rw [ac,KO] at D
 refine D6 ⟨s.h++ [lst x.n x.f],J,v2,s.n+1,lD s.vv s.n x.v,lD s.P s.n O,(snoc s.C s.n 1)⟩ ⟨rfl,(by rw [ac];exact CU.yes (a2:=O) af ak (fun k I F=>(ad k I F).trans (if_pos Oa)) (fun k I F=>(az k I F).trans (if_pos Oa)) (by obtain⟨k,I,F,k2⟩:=hc;exact⟨k,I,Oa,k2⟩) (fun k I F=>Zl F) (Zo Oa) (fun k I F=>Zt F) (Zu Oa)),aj,(fun k I F=>by have h9:=ae k I F;have h8:=ab k I F;have h7:=az k I F;rw [if_pos Oa] at h7;show 0<=J k/\J k<=_;omega),by(show s.n+1<=((s.h++ [lst x.n x.f]).length:Int));rw [List.length_append];simp;omega,(Zfn ag)⟩ (D.pk [0,1,2,3,4,5,6,7,8,9])}
 refine hsk<|ng<|D6 ⟨s.h++ [lst x.n x.f],J,s.vO,s.n,s.vv,s.P,s.C⟩ ⟨rfl,(by rw [ac];exact CU.no (a2:=O) af (fun k I F=>(ad k I F).trans (if_pos Oa)) (fun k I F=>(az k I F).trans (if_pos Oa)) (fun⟨k,I,F,k2⟩=>hc ⟨k,I,Oa,k2⟩)),aa,(fun k I F=>by have h9:=ae k I F;have h8:=ab k I F;have h7:=az k I F;rw [if_pos Oa] at h7;show 0<=J k/\J k<=_;omega),by(show s.n<=((s.h++ [lst x.n x.f]).length:Int));rw [List.length_append];simp;omega,ag⟩ (D.pk [0,1,2,3,4,5,6,7,8,9])}
 {
 intro Dk s rest w qr D
 obtain⟨⟨af,aa,ae,ah,ag⟩,hh⟩:=qr
 have ap:=fun k (I:0<=k) (F:k<s.n)=>D.iw 5 rfl I F
 have ak:=aa.n0
 have kP:s.n<=1000000:=by
   have h9:=L9 (ln:=yi) (pt:=ym) (u:=Z) (cnt:=xL) xG (fun k I F=>by have:=ye k I F;omega) (Z-1-(-1)).toNat Oa
   rw [hh] at ah
   unfold BD at ah
   rw [show(Z-(Z-1-(-1)).toNat).toNat=0 by omega] at h9
   simp only [jT] at h9
   omega
 refine ng<|htn<|jw<|hrz ?_
 refine(zV (g_ 3 wE D))<|iJ (xc0 Iz) (IL (u:=s.n) (pv:=s.vv) (ln:=(fun _=>p.m)) (pt:=s.P) (cnt:=s.C) w (⟨(D.f_ 4 rfl),fun k I F=>D.lI 5 rfl I F,fun k I F=>D.lV 5 rfl I F⟩:tq _ s.vO s.n s.vv (fun _=>p.m) s.P s.C) Oa (fun k I F=>Oa) (fun k I F=>by have h9:=ag k I F;omega)) ?_;rintro md w ⟨_,eJ,mj,gU,jW,j9,rfl,ft,kN,kM,fz,eY,N⟩
 replace D:=(D.comp N).n13;clear N
 have kK:=fun k (I:0<=k) (F:k<eJ)=>D.iw 12 rfl I F
 refine(On)<|iq<|zh<|htn<|hrt<|VG 10 D fun w D=>rD ⟨_,rfl,?_⟩
 have aq:lst p.m Y=lst p.m (fun j=>ZJ u pt cnt j-p.D j):=Yn fun k I F=>al k I F
 have av:pX (UI (lst p.m fun j=>ZJ u pt cnt j-p.D j) (U7 (nY Z yi ym xL))).2 (nY eJ gU jW j9):=by
   rw [<-Zgh _ _ _ xG,<-hh,<-aq,<-af];exact ft
 exact⟨_,_,_,_,_,_,0,rfl,.inr (.inr ⟨U,cF,rfl,_,xA,av⟩),fun k I F=>by have:=fz k I F;omega,Oa,eY,D.pk [11,12]⟩}
 {
 intro Dk t rest w qr D
 exact qr.elim}
end Go.Proofs.YtpnamgfdakfccaaGreat
namespace Go.Proofs.Gw
open Go Go.RowKit
section
variable {P:Program} {L:List (Nat×Value)} {w w0:World} {o:Oper} {x y z:Operand} {T T':TypeId} {l:List iO} {E:TypeId}
theorem Tu{n:Int}{D O N:Value}{b:Nat}(ho:o.op= .call {callee:= .builtin .append,args:= #[x,y],argTypes:= #[T,T']})(ht:Zy P T=some (E,2))(hk:P.underlying T'=some (.int .i64))(he:ZN P E=some (D,2,b))(J:D.cells= #[O,N])(ag:1<=b)
   (hx:iZ L x=some Oh) (hy:iZ L y=some (.int Oi n)) (h1:1<=n) (hb:b*n<=140737488355328) (hS:Sat w0 w l):
   ∃u w',Runs P L w o (.value u) w'/\Sat w0 w' (l++ [.own u 2 E n (fun k=>if k%2=0 then O else N)])/\iK u n:=by
 obtain⟨W,_⟩:=Zv ht
 obtain⟨i,hi,U,hsz,I⟩:=Ys he
 have ae:n<=b*n:=by
   have:=Int.mul_le_mul_of_nonneg_right (show(1:Int)<=b by omega) (show 0<=n by omega)
   omega
 have hw:IntKind.i64.wrap n=n:=by rw [IntKind.wrap_i64];omega
 have ad:¬(281474976710656<n*(i.bytes:Int)):=by rw [I,Int.mul_comm];omega
 have Z:¬n<0:=Oa
 have af:((n.toNat*i.bytes:Nat):Int)=b*n:=by rw [Int.natCast_mul,I,Int.toNat_of_nonneg Oa,Int.mul_comm]
 have zb:¬(281474976710656<Builtin.nextslicecap n.toNat 0*i.bytes):=by rw [nextslicecap_zero Oa];omega
 have ac:¬(9223372036854775807<(n.toNat:Int)):=Oa
 have Y:¬n.toNat=0:=Oa
 have bi:¬n.toNat*i.size=0:=by rw [hsz];omega
 have hr:∀ty,(Builtin.append_ #[T,T'] ty #[Oh,.int Oi n]).run P w= .ok (.slice (some ⟨w.heap.size,0,none⟩) n.toNat (grownCap w n.toNat 0 E)) (w.drew.alloc (.cells (Builtin.zeroCells D.cells n.toNat++Builtin.zeroCells D.cells (grownCap w n.toNat 0 E-n.toNat)) E)):=fun ty=>by
   simp [Builtin.append_,run_underlying W,run_underlying hk,sizeOf,typeInfo,zeroValue,hi,U,asInt,asIntOf,hw,Z,ad,Y,zb,ac,Question.forced,newRow,grownCap,Builtin.firstCells,bi]
   rw [if_neg Oa,if_neg Oa]
 have ab:=grownCap_ge w n.toNat 0 E
 have aa:=grownCap_le_maxLen w n.toNat 0 E (by unfold maxLen;omega)
 have hE:(iO.own (.slice (some ⟨w.heap.size,0,none⟩) n.toNat (grownCap w n.toNat 0 E)) 2 E n (fun k=>if k%2=0 then O else N)).holds (w.drew.alloc (.cells (Builtin.zeroCells D.cells n.toNat++Builtin.zeroCells D.cells (grownCap w n.toNat 0 E-n.toNat)) E)):=by
   refine⟨by omega,Oa,.inr ⟨_,_,_,rfl,by have:=heap_alloc_new w.drew (.cells (Builtin.zeroCells D.cells n.toNat++Builtin.zeroCells D.cells (grownCap w n.toNat 0 E-n.toNat)) E);simpa using this,ab,aa,?_,fun k hk=> ?_⟩⟩
   · simp [Builtin.zeroCells,J];omega
   {
   have F:k<n.toNat*2:=Oa
   rw [Array.getElem?_append_left (by simp [Builtin.zeroCells,J];omega)]
   rcases Nat.mod_two_eq_zero_or_one k with hm|hm
   · simp [Builtin.zeroCells,J,F,hm];intro hh;omega
   · simp [Builtin.zeroCells,J,F,hm];intro hh;omega}
 refine⟨_,_,fun ρ h=> ?_,hS.draw.alloc _ hE (fun g hg=>by simp [iO.has,Value.ownBlock] at hg;simp [hg]),hE.row.fP⟩
 simp [execOp,ho,resolve,invoke,builtin,h _ _ hx,h _ _ hy,hr]
end
theorem ZcX(p q:Ov)(c d:Of)(n:Int):cat (n*2) (Ze p c) (Ze q d)=Ze (cat n p q) (cat n c d):=by
 funext k
 unfold cat Ze
 by_cases h:k<n*2
 {
 have D:k/2<n:=Oa
 simp only [if_pos h,if_pos D]}
 {
 have D:¬k/2<n:=Oa
 have I:(k-n*2)/2=k/2-n:=Oa
 have F:(k-n*2)%2=k%2:=Oa
 simp only [if_neg h,if_neg D,I,F]}
end Go.Proofs.Gw
namespace Go.Proofs.YtpnamgfdakfccaaGreat
open Go Go.RowKit Go.Proofs.Gw
theorem OV:ZN Om 27=some (.agg #[Oh,Oh,.int Oi 0,.int Oi 0],4,64):=Oc
def YF(p:cO)(f:Of):Of:=fun k=>if 0<=k/\k<p.m then max 0 (p.D k-f k) else 0
theorem ZfD{p:cO}(D:p.Ok){f:Of}(hf:∀k,0<=k->k<p.m->0<=f k):∀k,-9223372036854775808<=YF p f k/\YF p f k<=9223372036854775807:=fun k=>by
 unfold YF
 by_cases h:0<=k/\k<p.m
 · rw [if_pos h];have:=RE D h.1 h.2;have:=hf k h.1 h.2;omega
 · rw [if_neg h];omega
structure NUt (w:World) (v:Value) (n:Int) (vv:Ov) (ln:Of) (Nz:Int->Int->Value) (cns:Og):Prop where
  row:Row w v 1 n vv
  p:∀i,0<=i->i<n->Row w (vv i) 2 (ln i) (Ze (Nz i) (cns i))
  one:∀i,0<=i->i<n->∀k,0<=k->k<ln i->(Nz i k).oneCell'=true
theorem ZbR{pv:Ov}{cnt:Of}{n:Int}(h:∀k,0<=k->k<n->(pv k).oneCell'=true):∀k,0<=k->k<n*2->(Ze pv cnt k).oneCell'=true:=fun k F D=>by
 unfold Ze
 split
 · exact h _ Oa Oa
 · rfl
def DJ(ln:Of)(f:Int->Int->Value):Nat->Int->Value
  |0=>fun _=>undef
  |k+1=>cat (tot ln k) (DJ ln f k) (f k)
theorem BO(ln:Of)(f:Int->Int->Value){i:Int}(h:0<=i):DJ ln f (i+1).toNat=cat (tot ln i.toNat) (DJ ln f i.toNat) (f i):=by
 rw [show(i+1).toNat=i.toNat+1 by omega,DJ,Int.toNat_of_nonneg h]
theorem Zq1{w:World}{v a b:Value}{n m:Int}{pa pb:Ov}{ca cb:Of}(h:Row w v 1 2 (ZK a b))(O:Row w a 2 n (Ze pa ca))(N:Row w b 2 m (Ze pb cb))(F:∀k,0<=k->k<n->(pa k).oneCell'=true)(D:∀k,0<=k->k<m->(pb k).oneCell'=true):NUt w v 2 (ZK a b) (ZK n m) (ZK pa pb) (ZK ca cb):=
 ⟨h,fun i J I=>by
   by_cases e:i=0
   · subst e;exact O
   · obtain rfl:i=1:=Oa
     exact N,fun i J I=>by
   by_cases e:i=0
   · subst e;exact F
   · obtain rfl:i=1:=Oa
     exact D⟩
theorem PO{vL vD:Value}{p:cO}{vA:Value}{f:Of}(w0:World)(h:oO w0 vL vD p)(I:p.Ok)(hA:Row w0 vA 1 p.m (ints f))(ab:∀k,0<=k->k<p.m->0<=f k/\f k<=2000000000):
   Calls Om 80 [.agg #[vL,vD,.int Oi p.bP,.int Oi p.aV],vA].toArray w0 fun e w=>∃v,e= .returned v/\∃J N,v= .agg #[J,N,.int Oi p.bP,.int Oi p.aV]/\iK J p.m/\iK N p.d/\Sat w0 w [.own J 1 3 p.m (ints p.L),.own N 1 3 p.d (ints (YF p f))]:=by
 obtain⟨hm,ad,hd,hd1,hs,hk⟩:=h.Oq
 have bg:=I.m1;have qM:=I.m2;have ac:=I.d
 refine iE Tryz.func80 Tryz.ntmps80 fun w D=> ?_
 refine fQ<|iG (nS (cs:= [_,_,_,_]) D) ?_;rintro _ w ⟨g1,rfl,D⟩
 refine iG (oh (cs:= [_,_,_,_]) OV D) ?_;rintro _ w ⟨g2,rfl,D⟩
 refine nG<|lg [0,1] [1] 7 nP D ?_;clear D;intro w D
 refine(b_ 0 (h_ 0 lu))<|sQ 1 (fun w D=>(g_ 0 dV D)) ?_
 refine(b_ 3 (h_ 1 jF))<|sQ 4 (fun w D=>(g_ 0 dV D)) ?_
 refine pK 2 (xc0 oD) (lU (n:=p.m) (f:=p.L) w (h.L.below D.below) Oa) ?_;rintro U w ⟨_,rfl,Z,F⟩
 replace D:=(D.comp F).n3;clear F
 refine⟨⟨fun _=>D.pk [0,1],D.pk [1]⟩,?_⟩
 refine(b_ 6 (h_ 0 lu))<|pK 5 (xc0 oD) (lU (n:=p.d) (f:=p.D) w (h.D.below D.below) Oa) ?_;rintro O w ⟨_,rfl,W,F⟩
 replace D:=(D.comp F).n4;clear F
 refine⟨⟨fun _=>D.pk [0,1],D.pk [1]⟩,?_⟩
 refine nR 7 (xsb 0 dV D (hv:=Z.one)) ?_;clear D;rintro w D
 refine⟨⟨fun h=>absurd h (by decide),D.pk [1]⟩,?_⟩
 refine(b_ 8 (h_ 1 jF))<|nR 9 (xsb 0 dV D (hv:=W.one)) ?_;clear D;rintro w D
 refine⟨⟨fun h=>absurd h (by decide),D.pk [1]⟩,?_⟩
 refine lS<|iP<|lW<|fQ ?_
 refine(zP)<|(zV (iW Zb hA.fP))<|(zP)<|nI<|ny (fun mm M w=>∃(g:Of) (i:Int),mm=((p.m-i).toNat)/\(0<=i)/\(i<=p.m)/\(∀k,0<=k->k<p.m->g k=if k<i then max 0 (p.D k-f k) else p.D k)/\M= [(2,Or g1),(4,Or g2),(15,vA),(16,.int Oi p.m),(17,.int Oi i)]/\Sat w0 w [.blk g1 [U,O,.int Oi p.bP,.int Oi p.aV],.blk g2 [Oh,Oh,.int Oi 0,.int Oi 0],.own U 1 3 p.m (ints p.L),.own O 1 3 p.d (ints g)]) ⟨p.D,0,rfl,Oa,Oa,?_,rfl,D⟩ ?_
 {
 intro k Y k1;rw [if_neg Oa]}
 clear D w
 rintro mm M w ⟨g,i,rfl,h0,h1,hg,rfl,D⟩
 refine fQ<|(zP)<|nG<|Zf ?_ ?_<;>intro hc
 {
 refine oC<|(zP)<|(zV (iy (kk:=i) Zb hA.fP))<|iI (iR (u:= .int Oi (f i)) dw (hA.below D.below)) ?_
 have ag:=RE I h0 (by omega:i<p.m)
 have af:=ab i h0 Oa
 have aa:=hg i h0 Oa
 rw [if_neg Oa] at aa
 refine(On)<|ig<|lg [0,1,2,3] [0,1,2] 12 nP D ?_;clear D;intro w D
 refine(b_ 0 (h_ 1 jF))<|(iQ 1 (fun w D=>(g_ 0 dV D)))<|(b_ 2 gu)<|(b_ 3 (h_ 1 jF))<|(iQ 4 (fun w D=>(g_ 0 dV D)))<|(b_ 5 gu)<|(b_ 6 (iy (kk:=i) Zb W))<|sQ 7 (fun w D=>(iR (u:= .int Oi (g i)) dw (D.f_ 3 rfl))) ?_
 refine(b_ 8 gu)<|(b_ 9 (Zr (r:=g i-(f i))))<|(b_ 10 (FB (r:=(max 0 (g i-(f i))))))<|(b_ 11 (iy (kk:=i) Zb W))<|nR 12 (rV 3 dw D (ZA _ _ _)) ?_;clear D;rintro w D
 refine⟨⟨fun h=>absurd h (by decide),D.pk [0,1,2]⟩,?_⟩
 refine lS<|ng<|iP<|lG ?_
 refine(zV (Zg (r:=i+1)))<|(zP)<|iq<|jm ⟨(upd g i (max 0 (g i-(f i)))),i+1,rfl,Oa,Oa,?_,rfl,D⟩
 {
 intro k Y k1;unfold upd;by_cases e:k=i
 · rw [if_pos e,if_pos Oa,e];omega
 {
 rw [if_neg e,hg k Y k1];by_cases e2:k<i
 · rw [if_pos e2,if_pos Oa]
 · rw [if_neg e2,if_neg Oa]}}}
 refine oM<|(zV (lH 0 iM D))<|lJ (nD 1 iM D (hd:=(Za Z.one (Za W.one (Za rfl (Za rfl Zj)))))) ?_;clear D;rintro w D
 refine jk<|Jl 1 iM D ⟨_,rfl,?_⟩
 have ae:i=p.m:=Oa
 replace D:=D.nJ 3 rfl (d:=ints (YF p f)) (fun k Y k1=>congrArg (Value.int .i64) (by rw [hg k Y Oa,if_pos Oa];unfold YF;rw [if_pos ⟨Y,Oa⟩]))
 exact⟨_,_,rfl,Z,W,D.pk [2,3]⟩
theorem Zn5:Zc Om 153=true:=Oc
theorem T7:Zy Om 234=some (29,1):=Oc
theorem Zk5{n:Int}(w0:World)(I:0<=n)(h1:n<=100000000):
   Calls Om 153 [Oh,.int Oi n].toArray w0 fun e w=>∃v,e= .returned v/\∃r,v=r/\iK r 0/\Sat w0 w [.own r 2 97 0 (Ze (fun _=>Oh) (fun _=>0))]:=by
 refine iE Tryz.func153 Tryz.ntmps153 fun w h=> ?_
 refine fQ<|(zP)<|l9<|(zP)<|(zV (Dc Z6))<|ig<|uD<|nX<|iP<|lW<|fQ ?_
 refine(On)<|RU rfl rfl rfl (WM rfl ZP rfl) ?_
 refine(zP)<|(zV (iW ZP d_))<|(zV (Zr (r:=0)))<|(zV (Zr (r:=n)))<|(zP)<|iT<|(On)<|ig<|Zf ?_ ?_<;>intro hc
 {
 refine lG<|(On)<|RU rfl rfl rfl (WM rfl ZP rfl) ?_
 refine(zV (lF (v:=Oh)))<|(zP)<|DZ rfl rfl rfl (Tu rfl ZP Tryz.underlying3 Xb rfl Oa rfl rfl Oa Oa h) ?_;rintro F w ⟨h,D⟩
 refine(zP)<|(zV (iW ZP d_))<|RU rfl rfl rfl (Ut rfl ZP rfl rfl D) ?_
 replace h:=h.cut 0 rfl (Ze (fun _=>Oh) (fun _=>0))
 refine(zP)<|iT<|(On)<|jk<|Oj ?_
 exact⟨_,rfl,(SC D),h⟩}
 refine ZX<|(On)<|jk<|Oj ?_
 exact⟨_,rfl,d_,(h.sub .slnil).fU 2 97 (Ze (fun _=>Oh) (fun _=>0))⟩
theorem Zgf{v:Value}{n:Int}{vv:Ov}{ln:Of}{D:Int->Int->Value}{F:Og}(w0:World)(hM:NUt w0 v n vv ln D F)(ht:∀k,0<=k->k<=n->tot ln k.toNat<=10000000):
   Calls Om 79 [v].toArray w0 fun e w=>∃v,e= .returned v/\∃r,v=r/\iK r (tot ln n.toNat)/\Sat w0 w [.own r 2 97 (tot ln n.toNat) (Ze (DJ ln D n.toNat) (WQ ln F n.toNat))]:=by
 have hn:=hM.row.fP.n0;have ag:=hM.row.fP.n1
 refine iE Tryz.func79 Tryz.ntmps79 fun w h=> ?_
 refine fQ<|(zP)<|iT<|(zP)<|l9<|(zP)<|(zV (iW T7 hM.row.fP))<|(zP)<|nI<|ny (fun O M w=>∃(s:Int) (i:Int),O=((n-i).toNat)/\(0<=i)/\(i<=n)/\(s=tot ln i.toNat)/\(0<=s)/\M= [(0,v),(2,Oh),(3,.int Oi s),(9,v),(10,.int Oi n),(11,.int Oi i)]/\Sat w0 w []) ⟨0,0,rfl,Oa,Oa,?_,Oa,rfl,h⟩ ?_
 {
 rfl}
 clear h w
 rintro O M w ⟨s,i,rfl,I,h1,hs,af,rfl,h⟩
 refine fQ<|(zP)<|nG<|Zf ?_ ?_<;>intro hc
 {
 refine oC<|(zV (iy (kk:=i) T7 hM.row.fP))<|iI (iR (u:=(vv i)) wE (hM.row.below h.below)) ?_
 have hl:=(hM.p i I Oa).fP.n0;have J:=ht (i+1) Oa Oa;rw [Xy ln I] at J
 refine(zP)<|iT<|(On)<|(zV (iW ZP (hM.p i Oa Oa).fP))<|(zV (Zg (r:=s+(ln i))))<|(zP)<|iT<|(zP)<|(zV (Dc Z6))<|ig<|uD<|nX<|ng<|iP<|lG ?_
 refine(zV (Zg (r:=i+1)))<|(zP)<|iq<|jm ⟨s+(ln i),i+1,rfl,Oa,Oa,?_,Oa,rfl,h⟩
 {
 rw [Xy ln I,hs]}}
 refine oM<|iI gu ?_
 have ae:i=n:=Oa
 have ad:=ht n hn (Int.le_refl _);rw [<-ae] at ad
 refine iJ (xc0 Zn5) (Zk5 (n:=s) w Oa Oa) ?_;rintro aa w ⟨_,rfl,qb,W⟩
 replace h:=(h.comp W).n1;clear W
 refine(zP)<|l9<|(zP)<|(zV (iW T7 hM.row.fP))<|(zP)<|nI<|ny (fun O M w=>∃(m:Int) (gq:Ov) (Y:Of) (j:Int) (vb:Value),O=((n-j).toNat)/\(0<=j)/\(j<=n)/\(m=tot ln j.toNat)/\(0<=m)/\(∀k,0<=k->k<m->gq k=DJ ln D j.toNat k)/\(∀k,0<=k->k<m->Y k=WQ ln F j.toNat k)/\(iK vb m)/\M= [(2,Oh),(6,vb),(25,v),(26,.int Oi n),(27,.int Oi j)]/\Sat w0 w [.own vb 2 97 m (Ze gq Y)]) ⟨0,(fun _=>Oh),(fun _=>0),0,aa,rfl,Oa,Oa,?_,Oa,?_,?_,?_,rfl,h⟩ ?_
 {
 rfl}
 {
 intro k N Z;omega}
 {
 intro k N Z;omega}
 {
 exact qb}
 clear h w
 rintro O M w ⟨m,gq,Y,j,vb,rfl,I,h1,hm,ah,hg,U,ab,rfl,h⟩
 refine fQ<|(zP)<|nG<|Zf ?_ ?_<;>intro hc
 {
 refine oC<|(zV (iy (kk:=j) T7 hM.row.fP))<|iI (iR (u:=(vv j)) wE (hM.row.below h.below)) ?_
 have hl:=(hM.p j I Oa).fP.n0;have J:=ht (j+1) Oa Oa;rw [Xy ln I] at J
 refine(zP)<|ig<|lG<|(On)<|iG (pz 0 (r:=m+(ln j)) (f:=Ze (cat m gq (D j)) (cat m Y (F j))) ZP Xb h ((hM.p j Oa Oa).below h.below) (by exact ZcX _ _ _ _ _) (h1:=(ZbR (hM.one j Oa Oa)))) ?_;rintro v1 w ⟨h,ac⟩
 refine(zP)<|nT<|(zV (Zg (r:=j+1)))<|(zP)<|iq<|jm ⟨m+(ln j),(cat m gq (D j)),(cat m Y (F j)),j+1,v1,rfl,Oa,Oa,?_,Oa,?_,?_,?_,rfl,h⟩
 {
 rw [Xy ln I,hm]}
 {
 intro k N Z;rw [BO ln D I,<-hm];unfold cat;by_cases e:k<m
 · rw [if_pos e,if_pos e];exact hg k N e
 · rw [if_neg e,if_neg e]}
 {
 intro k N Z;rw [xB ln F I,<-hm];unfold cat;by_cases e:k<m
 · rw [if_pos e,if_pos e];exact U k N e
 · rw [if_neg e,if_neg e]}
 {
 exact ac}}
 refine oM<|(On)<|jk<|Oj ?_
 obtain rfl:j=n:=Oa
 subst hm
 replace h:=h.nJ 0 rfl (d:=Ze (DJ ln D j.toNat) (WQ ln F j.toNat)) (fun k N Z=>by unfold Ze;rw [hg _ Oa Oa,U _ Oa Oa])
 exact⟨_,rfl,ab,h⟩
theorem ZnL:Zc Om 224=true:=Oc
theorem TI:Zw Om 56 0=some 0:=Oc
def Fh(p:cO)(u:Int)(ml:Of)(mf:Og)(s:So):Prop:=YJ s/\s.n=u/\u<=60/\(∀k,0<=k->k<u->Z4 p (ml k) (mf k)/\(s.X k).tdiv s.den<=1000)/\∀j,0<=j->j<p.m->p.D j*s.den<=ZJ u mf s.X j
theorem ZfA{m u:Int}{X:Of}{mf:Og}(h:∀k,0<=k->k<u->(∀j,0<=j->j<m->0<=mf k j/\mf k j<=1000)/\0<=X k/\X k<=1073741824):∀{i:Int},0<=i->i<=u->∀{j:Int},0<=j->j<m->0<=ZJ i mf X j/\ZJ i mf X j<=1073741824000*i:=by
 intro i J
 obtain⟨n,rfl⟩:=Int.eq_ofNat_of_zero_le J
 induction n with
 |zero=>intro _ j _ _;exact⟨Int.le_refl _,by show(0:Int)<=_;omega⟩
 | succ n ih=>
   intro hi j F D
   have h1:=ih Oa Oa F D
   obtain⟨W,U,O⟩:=h n Oa Oa
   have I:=W j F D
   have Y:=Vb I.1 I.2 U O
   have N:=XP (pt:=mf) (cnt:=X) (i:=(n:Int)) (j:=j) Oa
   rw [show((n+1:Nat):Int)=(n:Int)+1 by omega,N];omega
theorem Wj{a d:Int}(h:0<=a)(hd:1<=d):0<=a.tmod d/\a.tmod d<d:=by
 rw [Int.tmod_eq_emod_of_nonneg h]
 exact⟨Int.emod_nonneg _ Oa,Int.emod_lt_of_pos _ Oa⟩
theorem Ue{p:cO}{n:Int}{f:Of}(h:Z4 p n f):n=p.m/\∀j,0<=j->j<p.m->0<=f j/\f j<=1000:=by
 have I:=h.1.eq
 refine⟨I,fun j D F=> ?_⟩
 have h1:=h.1.all j D F
 have N:=h.2 j D Oa
 have J:=RE h.1.ok D F
 omega
theorem Zgc{vL vD:Value}{p:cO}{vM:Value}{u:Int}{mv:Ov}{ml:Of}{mf:Og}{vX vY:Value}{s:So}(w0:World)(h:oO w0 vL vD p)(ab:p.Ok)(hM:sO w0 vM u mv ml mf)(hX:Row w0 vX 1 s.n (ints s.X))(hY:Row w0 vY 1 s.m (ints s.Y))(yj:s.n<=1000):
   Calls Om 149 [.agg #[vL,vD,.int Oi p.bP,.int Oi p.aV],.agg #[vM,vX,vY,.int Oi s.val,.int Oi s.den]].toArray w0 fun e w=>∃v,e= .returned v/\v=B (Fh p u ml mf s)/\Sat w0 w []:=by
 obtain⟨hm,au,hd,hd1,hs,hk⟩:=h.Oq
 have hu:=hM.row.fP.n0;have an:=hM.row.fP.n1;have hn:=hX.fP.n0;have aq:=hX.fP.n1
 refine iE Tryz.func149 Tryz.ntmps149 fun w D=> ?_
 refine fQ<|iG (nS (cs:= [_,_,_,_]) D) ?_;rintro _ w ⟨O,rfl,D⟩
 refine iG (nS (cs:= [_,_,_,_,_]) D) ?_;rintro _ w ⟨g2,rfl,D⟩
 refine(zP)<|iT<|(zV (h_ 1 rZ))<|(zV (C_ 1 (ds:= [vX,vY,.int Oi s.val,.int Oi s.den]) ZW D))<|iG (oh (cs:= [_,_,_,_]) Uw D) ?_;rintro _ w ⟨Z,rfl,D⟩
 refine lJ (nD 2 ZW D (hd:=(Za hX.fP.one (Za hY.fP.one (Za rfl (Za rfl Zj)))))) ?_;clear D;rintro w D
 refine l9<|(zV (lH 2 ZW D))<|iJ (xc0 ZnL) (Zf3 (s:=s) w (hX.below D.below) (hY.below D.below) Oa) ?_;rintro _ w ⟨cV,cU,m4,rfl,xT,W⟩
 replace D:=D.cmp W;clear W
 refine(Oo)<|iG (oh (cs:= [_,_]) Qc D) ?_;rintro _ w ⟨U,rfl,D⟩
 refine lJ (nD 3 T0 D) ?_;clear D;rintro w D
 refine(zP)<|iT<|(Oo)<|lX 24 ?_ ?_<;>intro hc;rotate_left
 refine(zV (h_ 0 oV))<|(zV (g_ 2 dV D))<|(zV (iW Zb hX.fP))<|(zV (h_ 0 TI))<|(zV (g_ 1 Zz D))<|(zV (iW Zk hM.row.fP))<|(Oo)<|lX 33 ?_ ?_<;>intro hc;rotate_left
 refine(zV (h_ 0 oV))<|(zV (g_ 2 dV D))<|(zV (iW Zb hX.fP))<|(On)<|ig<|Zf ?_ ?_<;>intro hc
 {
 refine fQ<|(zP)<|j_<|Oj ?_
 refine⟨Zi ?_,D.nl⟩
 rintro⟨O,g2,Z,U,g5⟩
 first
 |(rcases xT with⟨N,_⟩|⟨_,_,_,q4⟩;exact absurd O N;omega)
 |omega
 |(have F:=U k J Oa;first|exact absurd F.1 ‹_›|(have:=F.2;omega))
 |(have F:=g5 i I Oa;have Y:=hf i I Oa;rw [show k=u by omega] at Y;omega)}
 refine ZX<|iI (h_ 0 lu) ?_
 have ae:YJ s:=by rcases xT with⟨_,_,_,q4⟩|⟨N,_⟩;omega;exact N
 obtain⟨⟨d1,d2⟩,⟨d3,d4⟩,d5⟩:=id ae
 have bg:=ab.m1;have qM:=ab.m2;have ap:=ab.d
 refine(zV (g_ 0 dV D))<|(zV (iW Zb h.L.fP))<|iG (uF Zb Zq D) ?_;rintro v1 w ⟨D,aa⟩
 refine(zP)<|l9<|(zV (h_ 0 TI))<|(zV (g_ 1 Zz D))<|(zV (iW Zk hM.row.fP))<|(zP)<|nI<|ny (fun mm M w=>∃(f:Of) (k:Int),mm=((u-k).toNat)/\(0<=k)/\(k<=u)/\(∀i,0<=i->i<k->Z4 p (ml i) (mf i)/\(s.X i).tdiv s.den<=1000)/\(∀j,0<=j->j<p.m->f j=ZJ k mf s.X j)/\M= [(2,Or O),(5,Or Z),(8,v1),(44,vM),(45,.int Oi u),(46,.int Oi k)]/\Sat w0 w [.blk O [vL,vD,.int Oi p.bP,.int Oi p.aV],.blk g2 [vM,vX,vY,.int Oi s.val,.int Oi s.den],.blk Z [vX,vY,.int Oi s.val,.int Oi s.den],.blk U [.int Oi cV,.int Oi cU],.own v1 1 3 p.m (ints f)]) ⟨(fun _=>0),0,rfl,Oa,Oa,?_,?_,rfl,D⟩ ?_
 {
 intro i i0 i1;omega}
 {
 intro j _ _;rfl}
 clear D w
 rintro mm M w ⟨f,k,rfl,J,av,qa,hf,rfl,D⟩
 refine fQ<|(zP)<|nG<|Zf ?_ ?_<;>intro hc
 {
 refine oC<|(zP)<|(zV (iy (kk:=k) Zk hM.row.fP))<|iI (iR (u:=(mv k)) dV (hM.row.below D.below)) ?_
 have mZ:=d5 k J Oa
 have ao:=YM (a:=s.X k) (d:=s.den) (A:=1073741824) Oa Oa
 refine(On)<|ig<|lW<|lW<|lg [0,1,2,3,4] [0,1,2,3,4] 1000 nP D ?_;clear D;intro w D
 refine(iQ 0 (fun w D=>(lH 0 iM D)))<|(b_ 1 gu)<|pK 2 (xc0 Pm) (Zae (p:=p) w (h.below D.below) ((hM.p k Oa Oa).below D.below)) ?_;rintro _ w ⟨rfl,W⟩
 replace D:=D.cmp W;clear W
 refine⟨⟨fun _=>D,D⟩,?_⟩
 refine(b_ 3 YL)<|(b_ 4 gu)<|AO 55 ?_ ?_<;>intro hc
 {
 refine(iV 5)<|(iV 6)<|(iV 7)<|(iV 8)<|(iV 9)<|(iV 10)<|(iV 11)<|(iV 12)<|(iV 13)<|(b_ 14 qj)<|lS<|iP<|rW<|fQ ?_
 refine(zP)<|ig<|sZ<|m_<|og<|m_<|m_<|og<|m_<|Oj ?_
 refine⟨Zi ?_,D.nl⟩
 rintro⟨O,g2,Z,U,g5⟩
 first
 |(rcases xT with⟨N,_⟩|⟨_,_,_,q4⟩;exact absurd O N;omega)
 |omega
 |(have F:=U k J Oa;first|exact absurd F.1 ‹_›|(have:=F.2;omega))
 |(have F:=g5 i I Oa;have Y:=hf i I Oa;rw [show k=u by omega] at Y;omega)}
 refine(b_ 5 (h_ 0 oV))<|(iQ 6 (fun w D=>(g_ 2 dV D)))<|(b_ 7 gu)<|(b_ 8 (iy (kk:=k) Zb hX.fP))<|(iQ 9 (fun w D=>(iR (u:= .int Oi (s.X k)) dw (hX.below D.below))))<|(b_ 10 (h_ 3 oQ))<|(iQ 11 (fun w D=>(g_ 2 dw D)))<|(b_ 12 (V3 (r:=(Int.tdiv (s.X k) s.den))))<|(b_ 13 YC)<|(b_ 14 pY)<|lS<|iP ?_
 refine Zf ?_ ?_<;>intro hc
 {
 refine fQ<|(zP)<|ig<|sZ<|m_<|og<|m_<|m_<|og<|m_<|Oj ?_
 refine⟨Zi ?_,D.nl⟩
 rintro⟨O,g2,Z,U,g5⟩
 first
 |(rcases xT with⟨N,_⟩|⟨_,_,_,q4⟩;exact absurd O N;omega)
 |omega
 |(have F:=U k J Oa;first|exact absurd F.1 ‹_›|(have:=F.2;omega))
 |(have F:=g5 i I Oa;have Y:=hf i I Oa;rw [show k=u by omega] at Y;omega)}
 refine ZX<|iI gu ?_
 have ag:Z4 p (ml k) (mf k):=by first|assumption|exact Od ‹_›
 have ak:=Ue ag
 have aj:=d5 k J Oa
 refine(zV (iW Zb (hM.p k Oa Oa).fP))<|(zP)<|nI<|ny (fun mm M w=>∃(f2:Of) (j:Int),mm=((ml k-j).toNat)/\(0<=j)/\(j<=ml k)/\(∀q,0<=q->q<p.m->f2 q=(if q<j then ZJ (k+1) mf s.X q else ZJ k mf s.X q))/\M= [(2,Or O),(5,Or Z),(8,v1),(9,.int Oi k),(44,vM),(45,.int Oi u),(46,.int Oi k),(66,(mv k)),(67,.int Oi (ml k)),(68,.int Oi j)]/\Sat w0 w [.blk O [vL,vD,.int Oi p.bP,.int Oi p.aV],.blk g2 [vM,vX,vY,.int Oi s.val,.int Oi s.den],.blk Z [vX,vY,.int Oi s.val,.int Oi s.den],.blk U [.int Oi cV,.int Oi cU],.own v1 1 3 p.m (ints f2)]) ⟨f,0,rfl,Oa,Oa,?_,rfl,D⟩ ?_
 {
 intro q q0 N;rw [if_neg Oa];exact hf q q0 N}
 clear D w
 rintro mm M w ⟨f2,j,rfl,ac,aw,ad,rfl,D⟩
 refine fQ<|(zP)<|nG<|Zf ?_ ?_<;>intro hc
 {
 refine oC<|(zP)<|(zV (iy (kk:=j) Zb (hM.p k Oa Oa).fP))<|iI (iR (u:= .int Oi ((mf k) j)) dw ((hM.p k Oa Oa).below D.below)) ?_
 have af:=ak.2 j ac Oa
 have am:=Vb af.1 af.2 aj.1 aj.2
 have ar:=ZfA (m:=p.m) (u:=k) (fun i i0 i1=>⟨(Ue (qa i i0 i1).1).2,d5 i i0 Oa⟩) J (Int.le_refl _) (j:=j) ac Oa
 have al:=ad j ac Oa
 rw [if_neg Oa] at al
 refine(On)<|ig<|lg [0,1,2,3,4] [0,1,2,3] 13 nP D ?_;clear D;intro w D
 refine(b_ 0 gu)<|(b_ 1 gu)<|(b_ 2 (iy (kk:=j) Zb aa))<|sQ 3 (fun w D=>(iR (u:= .int Oi (f2 j)) dw (D.f_ 4 rfl))) ?_
 refine(b_ 4 gu)<|(b_ 5 (h_ 0 oV))<|(iQ 6 (fun w D=>(g_ 2 dV D)))<|(b_ 7 gu)<|(b_ 8 (iy (kk:=k) Zb hX.fP))<|(iQ 9 (fun w D=>(iR (u:= .int Oi (s.X k)) dw (hX.below D.below))))<|(b_ 10 (Yf (r:=(((mf k) j)*(s.X k))) (e:=rfl)))<|(b_ 11 (Zg (r:=f2 j+(((mf k) j)*(s.X k)))))<|(b_ 12 (iy (kk:=j) Zb aa))<|nR 13 (rV 4 dw D (ZA _ _ _)) ?_;clear D;rintro w D
 refine⟨⟨fun h=>absurd h (by decide),D.pk [0,1,2,3]⟩,?_⟩
 refine lS<|ng<|iP<|lG ?_
 refine(zV (Zg (r:=j+1)))<|(zP)<|iq<|jm ⟨(upd f2 j (f2 j+(((mf k) j)*(s.X k)))),j+1,rfl,Oa,Oa,?_,rfl,D⟩
 {
 intro q q0 N;unfold upd;by_cases e:q=j
 · rw [if_pos e,if_pos Oa,e,XP J];omega
 · rw [if_neg e,ad q q0 N];by_cases e2:q<j
   · rw [if_pos e2,if_pos Oa]
   · rw [if_neg e2,if_neg Oa]}}
 refine sW<|n_<|n_<|rH<|ng<|iP<|lG<|(zV (Zg (r:=k+1)))<|(zP)<|iq<|jm ⟨f2,k+1,rfl,Oa,Oa,?_,?_,rfl,D⟩
 {
 intro i i0 i1;rcases Int.lt_or_eq_of_le (show i<=k by omega) with F|F
 · exact qa i i0 F
 · rw [F];exact⟨ag,Oa⟩}
 {
 intro q q0 N;rw [ad q q0 N,if_pos Oa]}}
 refine uw<|(zP)<|(zV (iW Zb aa))<|(zP)<|nI<|ny (fun mm M w=>∃(i:Int),mm=((p.m-i).toNat)/\(0<=i)/\(i<=p.m)/\(∀j,0<=j->j<i->p.D j*s.den<=f j)/\M= [(2,Or O),(5,Or Z),(88,v1),(89,.int Oi p.m),(90,.int Oi i)]/\Sat w0 w [.blk O [vL,vD,.int Oi p.bP,.int Oi p.aV],.blk g2 [vM,vX,vY,.int Oi s.val,.int Oi s.den],.blk Z [vX,vY,.int Oi s.val,.int Oi s.den],.blk U [.int Oi cV,.int Oi cU],.own v1 1 3 p.m (ints f)]) ⟨0,rfl,Oa,Oa,?_,rfl,D⟩ ?_
 {
 intro j j0 j1;omega}
 clear D w
 rintro mm M w ⟨i,rfl,I,ax,ah,rfl,D⟩
 refine fQ<|(zP)<|nG<|Zf ?_ ?_<;>intro hc
 {
 refine oC<|(zP)<|(zV (iy (kk:=i) Zb aa))<|iI (iR (u:= .int Oi (f i)) dw (D.f_ 4 rfl)) ?_
 have ai:=RE ab I (by omega:i<p.m)
 have ay:=Vb ai.1 ai.2 (show 0<=s.den by omega) d2
 refine(On)<|nG<|lg [0,1,2,3,4] [0,1,2,3,4] 1000 nP D ?_;clear D;intro w D
 refine(b_ 0 gu)<|(b_ 1 (h_ 1 jF))<|(iQ 2 (fun w D=>(g_ 0 dV D)))<|(b_ 3 gu)<|(b_ 4 (iy (kk:=i) Zb h.D.fP))<|oH 5 (fun w D=>(iR (u:= .int Oi (p.D i)) dw (h.D.below D.below))) ?_
 have az:=h.iD i
 refine(b_ 6 (h_ 3 oQ))<|(iQ 7 (fun w D=>(g_ 2 dw D)))<|(b_ 8 (Yf (r:=((p.D i)*s.den)) (e:=rfl)))<|(b_ 9 Z6)<|lS<|iP ?_
 refine Zf ?_ ?_<;>intro hc
 {
 refine fQ<|(zP)<|sG<|Oj ?_
 refine⟨Zi ?_,D.nl⟩
 rintro⟨O,g2,Z,U,g5⟩
 first
 |(rcases xT with⟨N,_⟩|⟨_,_,_,q4⟩;exact absurd O N;omega)
 |omega
 |(have F:=U k J Oa;first|exact absurd F.1 ‹_›|(have:=F.2;omega))
 |(have F:=g5 i I Oa;have Y:=hf i I Oa;rw [show k=u by omega] at Y;omega)}
 refine rU<|(zV (Zg (r:=i+1)))<|(zP)<|iq<|jm ⟨i+1,rfl,Oa,Oa,?_,rfl,D⟩
 {
 intro j j0 j1;rcases Int.lt_or_eq_of_le (show j<=i by omega) with F|F
 · exact ah j j0 F
 · rw [F];omega}}
 refine oM<|(zP)<|jk<|Oj ?_
 exact⟨Yk ⟨ae,Oa,Oa,fun k k0 k1=>qa k k0 Oa,fun j j0 j1=>by have F:=ah j j0 Oa;have Y:=hf j j0 j1;rw [show k=u by omega] at Y;omega⟩,D.nl⟩
 all_goals
  refine pR ?_
  refine ig<|rW<|fQ ?_
  refine pR ?_
  refine j_<|Oj ?_
  refine⟨Zi ?_,D.nl⟩
  rintro⟨O,g2,Z,U,g5⟩
  first
  |(rcases xT with⟨N,_⟩|⟨_,_,_,q4⟩;exact absurd O N;omega)
  |omega
  |(have F:=U k J Oa;first|exact absurd F.1 ‹_›|(have:=F.2;omega))
  |(have F:=g5 i I Oa;have Y:=hf i I Oa;rw [show k=u by omega] at Y;omega)
theorem Zn9:Zc Om 149=true:=Oc
theorem Zn8:Zc Om 150=true:=Oc
theorem J3(s:So)(ml:Of)(mf:Og):∀n:Nat,∀k,0<=k->k<wU s n->∃q:Nat,q<n/\s.den<=s.X q/\Dl s ml n k=ml q/\Dn s mf n k=mf q/\Dp s n k=(s.X q).tdiv s.den
 |0,k,k0,k1=>by simp [wU] at k1;omega
 | n+1,k,k0,k1=>by
   simp only [wU,Dl,Dn,Dp] at k1⊢
   by_cases h:s.den<=s.X n
   {
   rw [if_pos h] at k1⊢
   rw [if_pos h,if_pos h]
   by_cases e:k<wU s n
   · obtain⟨q,h1,J,I,F,D⟩:=J3 s ml mf n k k0 e
     exact⟨q,Oa,J,by rw [Zl e];exact I,by rw [Zl e];exact F,by rw [Zt e];exact D⟩
   · exact⟨n,Oa,h,Zo e,Zo e,Zu e⟩}
   {
   rw [if_neg h] at k1⊢
   rw [if_neg h,if_neg h]
   obtain⟨q,h1,J,I,F,D⟩:=J3 s ml mf n k k0 k1
   exact⟨q,Oa,J,I,F,D⟩}
def uQ(p:cO)(u:Int)(ml:Of)(mf:Og)(s:So)(n:Int)(ln:Of)(pt:Og)(cnt:Of)(e:Int):Prop:=
  (¬(p.Ok/\Fh p u ml mf s)/\n=0/\e=1)\/(p.Ok/\Fh p u ml mf s/\Gz p e/\e≠0/\n=0)\/
  (p.Ok/\Fh p u ml mf s/\Gz p 0/\e=0/\n=wU s u.toNat/\ln=Dl s ml u.toNat/\pt=Dn s mf u.toNat/\cnt=Dp s u.toNat)
theorem uQ.ok{p:cO}{u n:Int}{ml ln cnt:Of}{mf pt:Og}{s:So}{e:Int}(h:uQ p u ml mf s n ln pt cnt e)(U:e=0)(hu:0<=u):p.Ok/\Fh p u ml mf s/\jT (fun _=>1) p.D p.m.toNat<=1000/\n<=60/\nM p n ln pt cnt/\0<=n:=by
 rcases h with⟨_,_,h⟩|⟨_,_,_,h,_⟩|⟨h1,h2,h3,_,h4,h5,h6,h7⟩
 · omega
 · exact absurd U h
 {
 have hr:=Nc s u.toNat
 have O:=h2.2.2.1
 refine⟨h1,h2,?_,Oa,⟨h1,Oa,fun k N D=> ?_⟩,Oa⟩
 {
 rcases h3 with⟨h,_⟩|⟨_,_,h⟩|⟨_,h,_⟩
 · exact absurd h1 h
 · omega
 · exact h}
 {
 rw [h4] at D
 obtain⟨q,q1,Z,J,I,F⟩:=J3 s ml mf u.toNat k N D
 rw [h5,h6,h7,J,I,F]
 obtain⟨Y,W⟩:=h2.2.2.2.1 q Oa Oa
 have hd:=h2.1.1
 refine⟨?_,W,Y.1⟩
 rw [Int.tdiv_eq_ediv_of_nonneg Oa]
 exact(Int.le_ediv_iff_mul_le Oa).2 Oa}}
theorem Zhc{p:cO}(h:p.Ok){f:Of}(hf:∀k,0<=k->k<p.m->0<=f k):(⟨p.m,p.L,p.d,YF p f,p.bP,p.aV⟩:cO).Ok:=by
 refine⟨h.m1,h.m2,h.d,h.s1,h.s2,h.k1,h.k2,fun i F D=> ?_⟩
 have I:=h.all i F D
 have h1:=RE h F D
 have J:=hf i F D
 unfold cO.each at I⊢
 have e:YF p f i=max 0 (p.D i-f i):=if_pos ⟨F,D⟩
 show _/\_
 dsimp only
 rw [e]
 omega
theorem UU{p:cO}(h:p.Ok){f:Of}(hf:∀k,0<=k->k<p.m->0<=f k):∀n:Nat,(n:Int)<=p.m->jT (fun _=>1) (YF p f) n<=jT (fun _=>1) p.D n
 |0,_=>Int.le_refl _
 | n+1,hn=>by
   have h1:=UU h hf n Oa
   have F:=hf n Oa Oa
   have D:=RE h (k:=(n:Int)) Oa Oa
   have e:YF p f n=max 0 (p.D n-f n):=if_pos ⟨by omega,Oa⟩
   simp only [jT,e]
   omega
theorem Sr{vL vD:Value}{p:cO}{vM:Value}{u:Int}{mv:Ov}{ml:Of}{mf:Og}{vX Z:Value}{s:So}(w0:World)(h:oO w0 vL vD p)(hM:sO w0 vM u mv ml mf)(Y:Row w0 vX 1 s.n (ints s.X))(hY:Row w0 Z 1 s.m (ints s.Y))(yj:s.n<=1000):
   Calls Om 77 [.agg #[vL,vD,.int Oi p.bP,.int Oi p.aV],.agg #[vM,vX,Z,.int Oi s.val,.int Oi s.den]].toArray w0 fun e w=>∃v,e= .returned v/\∃r n pv ln pt cnt e,v= .tuple #[r,.int Oi e]/\uQ p u ml mf s n ln pt cnt e/\iK r n/\Sat w0 w [.own r 2 97 n (Ze pv cnt),.sem (Frame.rows 3 n pv ln pt)]:=by
 obtain⟨hm,ae,hd,hd1,hs,hk⟩:=h.Oq
 have hu:=hM.row.fP.n0;have ac:=hM.row.fP.n1;have hn:=Y.fP.n0;have ad:=Y.fP.n1
 refine iE Tryz.func77 Tryz.ntmps77 fun w D=> ?_
 refine fQ<|iG (nS (cs:= [_,_,_,_]) D) ?_;rintro _ w ⟨g1,rfl,D⟩
 refine iG (nS (cs:= [_,_,_,_,_]) D) ?_;rintro _ w ⟨g2,rfl,D⟩
 refine(On)<|l9<|(zV (lH 0 iM D))<|iJ (xc0 XU) (Yd (p:=p) w (h.below D.below)) ?_;rintro _ w ⟨rfl,F⟩
 replace D:=D.cmp F;clear F
 refine(On)<|lX 12 ?_ ?_<;>intro hc
 {
 iterate 4 refine oq ?_
 refine(zP)<|ig<|rW<|fQ ?_
 refine(On)<|j_<|rD ⟨_,rfl,?_⟩
 exact⟨_,0,fun _=>undef,fun _=>0,fun _ _=>0,fun _=>0,1,rfl,.inl ⟨by first|exact fun I=>absurd I.1 ‹¬p.Ok›|exact fun I=>absurd I.2 ‹_›,rfl,rfl⟩,d_,((D.sub (.cons _ (.cons _ .slnil))).fU 2 97 (Ze (fun _=>undef) (fun _=>0))).iF 3 (fun _=>undef) (fun _=>0) (fun _ _=>0)⟩}
 refine(zV (lH 0 iM D))<|(zV (lH 1 Wl D))<|iJ (xc0 Zn9) (Zgc (p:=p) (u:=u) (ml:=ml) (mf:=mf) (s:=s) w (h.below D.below) Oe (hM.below D.below) (Y.below D.below) (hY.below D.below) yj) ?_;rintro _ w ⟨rfl,F⟩
 replace D:=D.cmp F;clear F
 refine(On)<|ig<|Zf ?_ ?_<;>intro hc
 {
 refine fQ<|(On)<|j_<|rD ⟨_,rfl,?_⟩
 exact⟨_,0,fun _=>undef,fun _=>0,fun _ _=>0,fun _=>0,1,rfl,.inl ⟨by first|exact fun I=>absurd I.1 ‹¬p.Ok›|exact fun I=>absurd I.2 ‹_›,rfl,rfl⟩,d_,((D.sub (.cons _ (.cons _ .slnil))).fU 2 97 (Ze (fun _=>undef) (fun _=>0))).iF 3 (fun _=>undef) (fun _=>0) (fun _ _=>0)⟩}
 refine XJ<|(zV (lH 0 iM D))<|iJ (xc0 OL) (W_ (p:=p) w (h.below D.below)) ?_;rintro _ w ⟨d8,rfl,aB,F⟩
 replace D:=D.cmp F;clear F
 have W:p.Ok:=by first|assumption|exact Od ‹_›
 have N:Fh p u ml mf s:=by first|assumption|exact Od ‹_›
 have xX:=W
 refine(zP)<|iT<|(On)<|ig<|Zf ?_ ?_<;>intro hc
 {
 refine fQ<|(Oo)<|j_<|rD ⟨_,rfl,?_⟩
 exact⟨_,0,fun _=>undef,fun _=>0,fun _ _=>0,fun _=>0,_,rfl,.inr (.inl ⟨W,N,aB,Oa,rfl⟩),d_,((D.sub (.cons _ (.cons _ .slnil))).fU 2 97 (Ze (fun _=>undef) (fun _=>0))).iF 3 (fun _=>undef) (fun _=>0) (fun _ _=>0)⟩}
 refine ZX<|iI (h_ 0 TI) ?_
 have aa:=fun k U O=>(show ml k<=100000 by have:=(Ue (N.2.2.2.1 k U O).1).1;have:=W.m2;omega)
 have ab:=N.2.1
 refine(zV (g_ 1 Zz D))<|(zV (h_ 1 rZ))<|(zV (C_ 1 (ds:= [vX,Z,.int Oi s.val,.int Oi s.den]) ZW D))<|iJ (xc0 Zn8) (Zgb (u:=u) (ml:=ml) (mf:=mf) (s:=s) w (hM.below D.below) (Y.below D.below) (hY.below D.below) Oa (fun k U O=>by have:=aa k U O;omega)) ?_;rintro _ w ⟨kj,gD,kT,kU,kV,kX,kW,rfl,dQ,de,F⟩
 replace D:=(D.comp F).n4;clear F
 have jH:=fun k (U:0<=k) (O:k<gD)=>D.iw 3 rfl U O
 refine uK ?_
 refine iT<|(Oo)<|jk<|rD ⟨_,rfl,?_⟩
 have J:=dQ.resolve_left fun I=>I.1 ⟨N.1,N.2.1.symm⟩
 exact⟨_,_,_,_,_,_,0,rfl,.inr (.inr ⟨W,N,(by rw [show(0:Int)=d8 by omega];exact aB),rfl,J.2.2.1,J.2.2.2.1,J.2.2.2.2.1,J.2.2.2.2.2.1⟩),de,D.pk [2,3]⟩
theorem OO:Zc Om 77=true:=Oc
theorem OQ:Zc Om 78=true:=Oc
theorem Zp9:Zc Om 79=true:=Oc
theorem OT:Zc Om 80=true:=Oc
theorem Zpr{w:World}{v a b:Value}(h:Row w v 1 2 (fun k=> [a,b].getD k.toNat undef)):Row w v 1 2 (ZK a b):=⟨h.1,fun k D=>by
 have:=h.2 k D
 rcases k with _|_|k
 · exact this
 · exact this
 · simp at D;omega⟩
theorem tq.cat{w:World}{v Y W:Value}{n1 n2:Int}{F D:Ov}{J tV c1 O:Of}{I tN:Og}(hr:Row w v 2 (n1+n2) (Ze (cat n1 F D) (cat n1 c1 O)))(h1:tq w Y n1 F J I c1)(U:tq w W n2 D tV tN O)(n10:0<=n1):tq w v (n1+n2) (cat n1 F D) (cat n1 J tV) (cat n1 I tN) (cat n1 c1 O):=by
 refine⟨hr,fun i N Z=> ?_,fun i N Z=> ?_⟩
 {
 unfold Gw.cat
 by_cases h:i<n1
 · rw [if_pos h,if_pos h,if_pos h];exact h1.p i N h
 · rw [if_neg h,if_neg h,if_neg h];exact U.p (i-n1) Oa Oa}
 {
 unfold Gw.cat
 by_cases h:i<n1
 · rw [if_pos h];exact h1.room i N h
 · rw [if_neg h];exact U.room (i-n1) Oa Oa}
theorem Zqw(n m:Int)(p q:Ov){k:Int}(F:0<=k)(D:k<n+m):DJ (ZK n m) (ZK p q) 2 k=cat n p q k:=by
 simp only [DJ,tot,ZK,Gw.cat]
 by_cases h:k<n
 · simp [h];omega
 · simp [h]
theorem VJ(n m:Int)(p q:Of){k:Int}(F:0<=k)(D:k<n+m):WQ (ZK n m) (ZK p q) 2 k=cat n p q k:=by
 simp only [WQ,tot,ZK,Gw.cat]
 by_cases h:k<n
 · simp [h];omega
 · simp [h]
def xZ(p:cO)(u:Int)(ml:Of)(mf:Og)(s:So)(out:Us)(e:Int):Prop:=
  (e≠0/\out= []/\∃n ln pt cnt,uQ p u ml mf s n ln pt cnt e)\/(∃n1 EC Dw zd n2 tV tN qm,uQ p u ml mf s n1 EC Dw zd 0/\0<=n1/\0<=n2/\pX (RZ (YZ p.m (p.bP+p.aV) (uG p) (oJ (YF p (ZJ n1 Dw zd)) p.m 0))) (nY n2 tV tN qm)/\AB p (n1+n2) (cat n1 EC tV) (cat n1 Dw tN) (cat n1 zd qm) out e)
theorem ZoT{vL vD:Value}{p:cO}{vM:Value}{u:Int}{mv:Ov}{ml:Of}{mf:Og}{vX vY:Value}{s:So}(w0:World)(h:oO w0 vL vD p)(hM:sO w0 vM u mv ml mf)(hX:Row w0 vX 1 s.n (ints s.X))(hY:Row w0 vY 1 s.m (ints s.Y))(yj:s.n<=1000):
   Calls Om 38 [.agg #[vL,vD,.int Oi p.bP,.int Oi p.aV],.agg #[vM,vX,vY,.int Oi s.val,.int Oi s.den]].toArray w0 fun e w=>∃v,e= .returned v/\∃r n pv ln pt cnt e,v= .tuple #[r,.int Oi e]/\xZ p u ml mf s (nY n ln pt cnt) e/\(∀k,0<=k->k<n->1<=cnt k/\cnt k<=1000000000)/\n<=1000000/\iK r n/\Sat w0 w [.own r 2 97 n (Ze pv cnt),.sem (Frame.rows 3 n pv ln pt)]:=by
 obtain⟨hm,ah,hd,hd1,hs,hk⟩:=h.Oq
 have hu:=hM.row.fP.n0;have ae:=hM.row.fP.n1;have hn:=hX.fP.n0;have ag:=hX.fP.n1
 refine iE Tryz.func38 Tryz.ntmps38 fun w D=> ?_
 refine fQ<|iG (nS (cs:= [_,_,_,_]) D) ?_;rintro _ w ⟨g1,rfl,D⟩
 refine iG (nS (cs:= [_,_,_,_,_]) D) ?_;rintro _ w ⟨g2,rfl,D⟩
 refine(On)<|iT<|(zV (lH 0 iM D))<|(zV (lH 1 Wl D))<|iJ (xc0 OO) (Sr (p:=p) (u:=u) (ml:=ml) (mf:=mf) (s:=s) w (h.below D.below) (hM.below D.below) (hX.below D.below) (hY.below D.below) yj) ?_;rintro _ w ⟨Y,N,U,xu,qV,qK,bD,rfl,xI,zC,F⟩
 replace D:=(D.comp F).n4;clear F
 have bd:=fun k (J:0<=k) (I:k<N)=>D.iw 3 rfl J I
 refine uK ?_
 refine l9<|(On)<|ig<|Zf ?_ ?_<;>intro hc
 {
 refine fQ<|(Oo)<|j_<|rD ⟨_,rfl,?_⟩
 exact⟨_,0,fun _=>undef,fun _=>0,fun _ _=>0,fun _=>0,_,rfl,.inl ⟨by omega,rfl,_,_,_,_,xI⟩,fun k J I=>Oa,Oa,d_,((D.sub (.cons _ (.cons _ (.cons _ (.cons _ .slnil))))).fU 2 97 (Ze (fun _=>undef) (fun _=>0))).iF 3 (fun _=>undef) (fun _=>0) (fun _ _=>0)⟩}
 refine ZX<|iI (lH 0 iM D) ?_
 obtain⟨xl,xw,aW,fC,bh,bl⟩:=xI.ok Oa hu
 have xX:=xl
 refine(zP)<|iJ (xc0 Iy) (TM (u:=N) (pv:=U) (ln:=xu) (pt:=qV) (cnt:=qK) (p:=p) w (⟨(D.f_ 2 rfl),fun k J I=>D.lI 3 rfl J I,fun k J I=>D.lV 3 rfl J I⟩:tq _ Y N U xu qV qK) (h.below D.below)) ?_;rintro _ w ⟨qF,qq,W,zw,rfl,xc,qA,F⟩
 replace D:=(D.comp F).n5;clear F
 obtain⟨bQ,zW⟩:qq=p.m/\W=ZJ N qV qK:=by rcases xc with⟨g1,_⟩|⟨_,g2,g3,_⟩;exact absurd bh g1;exact⟨g2,g3⟩
 have bu:∀k,0<=k->k<p.m->0<=W k/\W k<=2000000000:=fun k J I=>by rw [zW];have h9:=Wr bh.2.2 bl (Int.le_refl _) J I;omega
 have aA:=fun k (J:0<=k) (I:k<p.m)=>(bu k J I).1
 have af:=UU xl aA p.m.toNat (by have:=xl.m1;omega)
 refine uK ?_
 refine nG<|lg [0,1,2,3,4] [0,1,2,3,4] 1000 nP D ?_;clear D;intro w D
 refine(iQ 0 (fun w D=>(lH 0 iM D)))<|(b_ 1 gu)<|(iQ 2 (fun w D=>(lH 0 iM D)))<|(b_ 3 gu)<|pK 4 (xc0 OT) (PO (p:=p) (f:=W) w (h.below D.below) xl (bQ▸(D.f_ 4 rfl)) bu) ?_;rintro _ w ⟨xE,xt,rfl,yt,yV,F⟩
 replace D:=(D.comp F).n7;clear F
 refine⟨⟨fun _=>D.pk [0,1,2,3,4],D.pk [0,1,2,3,4]⟩,?_⟩
 refine pK 5 (xc0 OM) (RM (p:=(⟨p.m,p.L,p.d,(YF p W),p.bP,p.aV⟩:cO)) w (⟨(D.f_ 5 rfl),(D.f_ 6 rfl),h.iL,(ZfD xl aA),(by(try dsimp only);omega),(by(try dsimp only);omega)⟩:oO _ _ _ (⟨p.m,p.L,p.d,(YF p W),p.bP,p.aV⟩:cO)) (Zhc xl aA) (by show jT (fun _=>1) (YF p _) p.m.toNat<=1000;omega)) ?_;rintro xM w ⟨_,O,Z,yi,ym,xL,rfl,xA,xG,yQ,ye,xO,F⟩
 replace D:=(D.comp F).n9;clear F
 have yC:=fun k (J:0<=k) (I:k<O)=>D.iw 8 rfl J I
 refine⟨⟨fun _=>D.pk [0,1,2,3,4],D.pk [0,1,2,3,4]⟩,?_⟩
 refine oZ 6 (pO (n:=2) (len:=2) (pv:= [(0,Y),(1,xM)]) (cs:= [Y,xM]) (c:=fun k=>([(Y:Value),(xM:Value)]).getD k.toNat undef) T7 OW D (hf:=by obtain⟨_,_,_,_,rfl,_⟩:=zC;obtain⟨_,_,_,_,rfl,_⟩:=xO;kernel_rfl)) ?_;rintro v1 w ⟨D,ad⟩
 refine⟨⟨fun _=>D.pk [0,1,2,3,4],D.pk [0,1,2,3,4]⟩,?_⟩
 have ac:=Zq1 (w:=w) (n:=N) (m:=O) (pa:=U) (pb:=Z) (ca:=qK) (cb:=xL) (Zpr (D.f_ 9 rfl)) (D.f_ 2 rfl) (D.f_ 7 rfl) (fun k J I=>(bd k J I).one) (fun k J I=>(yC k J I).one)
 have ab:∀k:Int,0<=k->k<=2->tot (ZK N O) k.toNat<=10000000:=fun k J I=>by
   have:k=0\/k=1\/k=2:=Oa
   rcases this with rfl|rfl|rfl
   · simp [tot]
   · simp [tot,ZK];omega
   · have e2:=Fz N O;rw [show(2:Int).toNat=2 from rfl,e2];omega
 refine pK 7 (xc0 Zp9) (Zgf w ac ab) ?_;rintro aa w ⟨_,rfl,qb,F⟩
 rw [show(2:Int).toNat=2 from rfl,Fz] at qb F
 replace F:=F.nJ 0 rfl (d:=Ze (cat N U Z) (cat N qK xL)) (fun k J I=>by unfold Ze;rw [Zqw _ _ _ _ Oa Oa,VJ _ _ _ _ Oa Oa])
 replace D:Sat w0 w [.blk g1 [vL,vD,.int Oi p.bP,.int Oi p.aV],.blk g2 [vM,vX,vY,.int Oi s.val,.int Oi s.den],.own Y 2 97 N (Ze U qK),.sem (Frame.rows 3 N U xu qV),.own qF 1 3 qq (ints W),.own xE 1 3 p.m (ints p.L),.own xt 1 3 p.d (ints (YF p W)),.own xM 2 97 O (Ze Z xL),.sem (Frame.rows 3 O Z yi ym),.own v1 1 29 2 (fun k=>([(Y:Value),(xM:Value)]).getD k.toNat undef),.own aa 2 97 (N+O) (Ze (cat N U Z) (cat N qK xL))]:=D.comp F
 clear F
 refine⟨⟨fun _=>D.pk [0,1,2,3,4],D.pk [0,1,2,3,4]⟩,?_⟩
 refine pK 8 (xc0 OQ) (O_ (u:=(N+O)) (pv:=(cat N U Z)) (ln:=(cat N xu yi)) (pt:=(cat N qV ym)) (cnt:=(cat N qK xL)) (p:=p) w (tq.cat (D.f_ 10 rfl) (⟨(D.f_ 2 rfl),fun k J I=>D.lI 3 rfl J I,fun k J I=>D.lV 3 rfl J I⟩:tq _ Y N U xu qV qK) (⟨(D.f_ 7 rfl),fun k J I=>D.lI 8 rfl J I,fun k J I=>D.lV 8 rfl J I⟩:tq _ xM O Z yi ym xL) Oa) (h.below D.below)) ?_;rintro _ w ⟨eg,aO,eH,eQ,gB,gK,gG,rfl,zG,zI,zH,zD,F⟩
 replace D:=(D.comp F).n13;clear F
 have dB:=fun k (J:0<=k) (I:k<aO)=>D.iw 12 rfl J I
 refine⟨⟨fun _=>D.pk [0,1,2,3,4],D.pk [0,1,2,3,4]⟩,?_⟩
 refine(b_ 9 uN)<|(b_ 10 uN)<|(b_ 11 nU)<|(b_ 12 nU)<|lS<|iP<|sZ<|rD ⟨_,rfl,?_⟩
 exact⟨_,_,_,_,_,_,_,rfl,.inr ⟨_,_,_,_,_,_,_,_,(by rw [show(0:Int)=bD by omega];exact xI),bl,xG,(by rw [<-zW];exact xA),zG⟩,zI,zH,zD,D.pk [11,12]⟩
variable {a b nm:Int} {gs:Nat} {vd:Value}
theorem Zn4:Zc Om 154=true:=Oc
theorem Pv:Zc Om 227=true:=Oc
theorem IW:Zc Om 228=true:=Oc
theorem Znr:Zc Om 283=true:=Oc
theorem Lr:Zc Om 309=true:=Oc
theorem IB:Zc Om 82=true:=Oc
theorem LX{n:Int}{s:Of}{F:Gw.Frame}{m:Int}(w0 w:World)(D:Sat w0 w [.own vd 1 3 n (ints s),.sem F])(I:iK vd n)(U:n<=100000000)(a0:0<=a)(W:0<=m)(ab:a+m<=b)(Z:b+m<=n):
   Calls Om 309 [vd,.int Oi a,.int Oi b,.int Oi m,.func (.func 82) #[] #[(Or gs)]].toArray w fun e w=>∃v,e= .returned v/\v= .tuple #[]/\Sat w0 w [.own vd 1 3 n (ints (wS s a b m)),.sem F]:=by
 refine uM Tryz.func309 Tryz.ntmps309 ?_
 refine fQ<|(zP)<|nI<|ny (fun J M w=>∃(t:Of) (i:Int),J=((m-i).toNat)/\(0<=i)/\(i<=m)/\(t=wS s a b i)/\M= [(0,vd),(1,.int Oi a),(2,.int Oi b),(3,.int Oi m),(10,.int Oi i)]/\Sat w0 w [.own vd 1 3 n (ints t),.sem F]) ⟨s,0,rfl,Oa,Oa,?_,rfl,D⟩ ?_
 {
 exact(ZbT s a b).symm}
 clear D w
 rintro J M w ⟨t,i,rfl,O,Y,N,rfl,D⟩
 refine lW<|fQ<|(Oo)<|ig<|Zf ?_ ?_<;>intro hc
 {
 refine nX<|iP<|lW<|o7<|lg [0,1] [1] 21 nP D ?_;clear D;intro w D
 refine(b_ 0 gu)<|(b_ 1 gu)<|(b_ 2 gu)<|(b_ 3 (Zg (r:=a+i)))<|(b_ 4 gu)<|(b_ 5 gu)<|(b_ 6 gu)<|(b_ 7 (Zg (r:=b+i)))<|(b_ 8 gu)<|(b_ 9 gu)<|(b_ 10 gu)<|(b_ 11 (Zg (r:=b+i)))<|(b_ 12 (iy (kk:=b+i) Zb I))<|sQ 13 (fun w D=>(iR (u:= .int Oi (t (b+i))) dw (D.f_ 0 rfl))) ?_
 refine(b_ 14 gu)<|(b_ 15 gu)<|(b_ 16 gu)<|(b_ 17 (Zg (r:=a+i)))<|(b_ 18 (iy (kk:=a+i) Zb I))<|sQ 19 (fun w D=>(iR (u:= .int Oi (t (a+i))) dw (D.f_ 0 rfl))) ?_
 refine(b_ 20 (iy (kk:=a+i) Zb I))<|nR 21 (rV 0 dw D rfl) ?_;clear D;rintro w D
 refine⟨⟨fun h=>absurd h (by decide),D.pk [1]⟩,?_⟩
 refine(b_ 22 (iy (kk:=b+i) Zb I))<|nR 23 (rV 0 dw D (Uq t (a+i) (b+i))) ?_;clear D;rintro w D
 refine⟨⟨fun h=>absurd h (by decide),D.pk [1]⟩,?_⟩
 refine lS<|ng<|iP<|lG ?_
 refine(zP)<|(zV (Zg (r:=i+1)))<|(zP)<|iq<|jm ⟨swp t (a+i) (b+i),i+1,rfl,Oa,Oa,?_,rfl,D⟩
 {
 rw [N];exact ZbU O Oa Oa Oa}}
 refine sW<|n_<|n_<|rH<|XK ⟨_,rfl,?_⟩
 obtain rfl:i=m:=Oa
 subst N
 exact⟨rfl,D⟩
theorem Zot{n:Int}{s:Of}{F:Gw.Frame}{m:Int}(w0 w:World)(h:Sat w0 w [.own vd 1 3 n (ints s),.sem F])(D:iK vd n)(I:n<=100000000)(a0:0<=a)(am:a<m)(O:m<b)(bn:b<=n):
   Calls Om 283 [vd,.int Oi a,.int Oi m,.int Oi b,.func (.func 82) #[] #[(Or gs)]].toArray w fun e w=>∃v,e= .returned v/\v= .tuple #[]/\Sat w0 w [.own vd 1 3 n (ints (pJ s a m b)),.sem F]:=by
 refine uM Tryz.func283 Tryz.ntmps283 ?_
 refine fQ<|(On)<|(zV (Zr (r:=m-a)))<|(zP)<|iT<|(On)<|(zV (Zr (r:=b-m)))<|(zP)<|ig<|lW<|o7<|ny (fun J M w=>∃(t:Of) (i:Int) (j:Int),J=((i+j).toNat)/\(1<=i)/\(1<=j)/\(a<=m-i)/\(m+j<=b)/\(pJ t (m-i) m (m+j)=pJ s a m b)/\M= [(0,vd),(2,.int Oi m),(4,.func (.func 82) #[] #[(Or gs)]),(10,.int Oi i),(11,.int Oi j)]/\Sat w0 w [.own vd 1 3 n (ints t),.sem F]) ⟨s,m-a,b-m,rfl,Oa,Oa,Oa,Oa,?_,rfl,h⟩ ?_
 {
 rw [show m-(m-a)=a by omega,show m+(b-m)=b by omega]}
 clear h w
 rintro J M w ⟨t,i,j,rfl,Z,W,Y,U,hr,rfl,h⟩
 refine lW<|fQ<|(Oo)<|ig<|Zf ?_ ?_<;>intro hc
 {
 refine nX<|iP<|o7<|fQ<|(Oo)<|ig<|Zf ?_ ?_<;>intro hc
 {
 refine fQ<|(Oo)<|(zV (Zr (r:=m-i)))<|(Oo)<|iJ (xc0 Lr) (LX (s:=t) (a:=m-i) (b:=m) (m:=j) w0 w h D I Oa Oa Oa Oa) ?_;rintro _ w ⟨rfl,h⟩
 refine ig<|lG<|(On)<|(zV (Zr (r:=i-j)))<|(zP)<|iq<|ng<|jm ⟨(wS t (m-i) m j),i-j,j,rfl,Oa,Oa,Oa,Oa,?_,rfl,h⟩
 {
 first|(rw [<-hr,show m-(i-j)=m-i+j by omega];exact Ub Oa Oa)|(rw [<-hr,show m+(j-i)=m+j-i by omega];exact Vp Oa Oa)}}
 refine fQ<|(Oo)<|(zV (Zr (r:=m-i)))<|(On)<|(zV (Zg (r:=m+j)))<|(zP)<|(zV (Zr (r:=m+j-i)))<|(On)<|iJ (xc0 Lr) (LX (s:=t) (a:=m-i) (b:=m+j-i) (m:=i) w0 w h D I Oa Oa Oa Oa) ?_;rintro _ w ⟨rfl,h⟩
 refine ig<|lG<|(On)<|(zV (Zr (r:=j-i)))<|(zP)<|iq<|ng<|jm ⟨(wS t (m-i) (m+j-i) i),i,j-i,rfl,Oa,Oa,Oa,Oa,?_,rfl,h⟩
 {
 first|(rw [<-hr,show m-(i-j)=m-i+j by omega];exact Ub Oa Oa)|(rw [<-hr,show m+(j-i)=m+j-i by omega];exact Vp Oa Oa)}}
 refine sW<|n_<|n_<|rH<|iP<|lG<|(Oo)<|(zV (Zr (r:=m-i)))<|(Oo)<|iJ (xc0 Lr) (LX (s:=t) (a:=m-i) (b:=m) (m:=i) w0 w h D I Oa Oa Oa Oa) ?_;rintro _ w ⟨rfl,h⟩
 refine iq<|XK ⟨_,rfl,?_⟩
 have N:(wS t (m-i) m i)=pJ s a m b:=by
   rw [<-hr,show j=i by omega];exact Zb9 Oa
 rw [N] at h
 exact⟨rfl,h⟩
theorem PL{n:Int}{s:Of}{lt:Int->Int->Prop}{F:Gw.Frame}(w0 w:World)(D:Sat w0 w [.own vd 1 3 n (ints s),.sem F])(J:iK vd n)(aa:n<=100000000)(qw:∀(w:World) (x y:Int),0<=x->x<nm->0<=y->y<nm->Below w0.heap.size w0 w->F.holds w->Calls Om 82 [.int Oi x,.int Oi y,(Or gs)].toArray w fun e w'=>∃v,e= .returned v/\∃c:Int,v= .int Oi c/\(c<0↔lt x y)/\Sat w w' [])(hd:∀k,0<=k->k<n->0<=s k/\s k<nm)(hw:AL lt)(a0:0<=a)(ab:a<=b)(bn:b<=n)(qT:Tw a b s):
   Calls Om 227 [vd,.int Oi a,.int Oi b,.func (.func 82) #[] #[(Or gs)]].toArray w fun e w=>∃v,e= .returned v/\v= .tuple #[]/\∃t:Of,iH a b s t/\rP (Tie lt) a b t/\Sat w0 w [.own vd 1 3 n (ints t),.sem F]:=by
 refine uM Tryz.func227 Tryz.ntmps227 ?_
 refine fQ<|(zP)<|(zV (Zg (r:=a+1)))<|(zP)<|nI<|ny (fun O M w=>∃(t:Of) (i:Int),O=((b-i).toNat)/\(a+1<=i)/\(i<=b\/i=a+1)/\(iH a i s t)/\(rP (Tie lt) a i t)/\(∀k,0<=k->k<n->0<=t k/\t k<nm)/\M= [(0,vd),(1,.int Oi a),(2,.int Oi b),(3,.func (.func 82) #[] #[(Or gs)]),(8,.int Oi i)]/\Sat w0 w [.own vd 1 3 n (ints t),.sem F]) ⟨s,a+1,rfl,Oa,Oa,?_,?_,?_,rfl,D⟩ ?_
 {
 exact .refl _ _ _}
 {
 intro p q p0 pq q1;omega}
 {
 exact hd}
 clear D w
 rintro O M w ⟨t,i,rfl,i0,i1,U,hs,hd1,rfl,D⟩
 refine lW<|fQ<|(Oo)<|ig<|Zf ?_ ?_<;>intro hc
 {
 refine oC<|(On)<|nI<|ny (fun O M w=>∃(I:Of) (j:Int),O=((j-a).toNat)/\(a<=j)/\(j<=i)/\(Ins lt a i j t I)/\(∀k,0<=k->k<n->0<=I k/\I k<nm)/\M= [(0,vd),(1,.int Oi a),(2,.int Oi b),(3,.func (.func 82) #[] #[(Or gs)]),(8,.int Oi i),(9,.int Oi j)]/\Sat w0 w [.own vd 1 3 n (ints I),.sem F]) ⟨t,i,rfl,Oa,Oa,?_,?_,rfl,D⟩ ?_
 {
 exact Ins.start Oa hs (SY U qT Oa)}
 {
 exact hd1}
 clear D w
 rintro O M w ⟨I,j,rfl,j0,j1,Y,hd2,rfl,D⟩
 refine lW<|lW<|lg [0,1] [0,1] 1000 nP D ?_;clear D;intro w D
 refine(b_ 0 gu)<|(b_ 1 gu)<|(b_ 2 YC)<|(b_ 3 gu)<|AO 21 ?_ ?_<;>intro hc
 {
 refine(b_ 4 gu)<|(b_ 5 gu)<|(b_ 6 gu)<|(b_ 7 (iy (kk:=j) Zb J))<|(iQ 8 (fun w D=>(iR (u:= .int Oi (I j)) dw (D.f_ 0 rfl))))<|(b_ 9 gu)<|(b_ 10 gu)<|(b_ 11 (Zr (r:=j-1)))<|(b_ 12 (iy (kk:=j-1) Zb J))<|(iQ 13 (fun w D=>(iR (u:= .int Oi (I (j-1))) dw (D.f_ 0 rfl))))<|pK 14 (uU (vs:= [_,_]) IB) (qw w (I j) (I (j-1)) (hd2 j Oa Oa).1 (hd2 j Oa Oa).2 (hd2 (j-1) Oa Oa).1 (hd2 (j-1) Oa Oa).2 D.below (D.holds _ (List.mem_of_getElem? (i:=1) rfl))) ?_;rintro _ w ⟨c1,rfl,N,W⟩
 replace D:=D.cmp W;clear W
 refine⟨⟨fun _=>D,D⟩,?_⟩
 refine(b_ 15 Z6)<|(b_ 16 qj)<|lS<|iP ?_
 refine Zf ?_ ?_<;>intro hc
 {
 refine nX<|iP<|lW<|o7<|lg [0,1] [1] 15 nP D ?_;clear D;intro w D
 refine(b_ 0 gu)<|(b_ 1 gu)<|(b_ 2 gu)<|(b_ 3 gu)<|(b_ 4 (Zr (r:=j-1)))<|(b_ 5 gu)<|(b_ 6 gu)<|(b_ 7 (Zr (r:=j-1)))<|(b_ 8 (iy (kk:=j-1) Zb J))<|sQ 9 (fun w D=>(iR (u:= .int Oi (I (j-1))) dw (D.f_ 0 rfl))) ?_
 refine(b_ 10 gu)<|(b_ 11 gu)<|(b_ 12 (iy (kk:=j) Zb J))<|sQ 13 (fun w D=>(iR (u:= .int Oi (I j)) dw (D.f_ 0 rfl))) ?_
 refine(b_ 14 (iy (kk:=j) Zb J))<|nR 15 (rV 0 dw D rfl) ?_;clear D;rintro w D
 refine⟨⟨fun h=>absurd h (by decide),D.pk [1]⟩,?_⟩
 refine(b_ 16 (iy (kk:=j-1) Zb J))<|nR 17 (rV 0 dw D (Uq I j (j-1))) ?_;clear D;rintro w D
 refine⟨⟨fun h=>absurd h (by decide),D.pk [1]⟩,?_⟩
 refine lS<|ng<|iP<|lG ?_
 refine(zP)<|(zV (Zr (r:=j-1)))<|(zP)<|iq<|jm ⟨swp I j (j-1),j-1,rfl,Oa,Oa,?_,?_,rfl,D⟩
 {
 exact Y.step Oa Oa (N.1 ‹c1<0›)}
 {
 exact(TX (lo:=a) (hi:=n) Oa Oa Oa Oa).dom a0 (.inl Oa) hd2}}
 refine sW<|n_<|n_<|rH<|ng<|iP<|lG<|(zP)<|(zV (Zg (r:=i+1)))<|(zP)<|iq<|jm ⟨I,i+1,rfl,Oa,Oa,?_,?_,?_,rfl,D⟩
 {
 exact(U.mono Oa Oa).trans Y.perm}
 {
 exact Y.fin hw Oa Oa (by first|exact .inl Oa|exact .inr fun h=>absurd (N.2 h) ‹¬c1<0›)}
 {
 exact hd2}}
 refine(iV 4)<|(iV 5)<|(iV 6)<|(iV 7)<|(iV 8)<|(iV 9)<|(iV 10)<|(iV 11)<|(iV 12)<|(iV 13)<|(iV 14)<|(iV 15)<|(b_ 16 pY)<|lS<|iP<|uD<|sW<|n_<|n_<|rH<|ng<|iP<|lG ?_
 refine(zP)<|(zV (Zg (r:=i+1)))<|(zP)<|iq<|jm ⟨I,i+1,rfl,Oa,Oa,?_,?_,?_,rfl,D⟩
 {
 exact(U.mono Oa Oa).trans Y.perm}
 {
 exact Y.fin hw Oa Oa (by first|exact .inl Oa|exact .inr fun h=>absurd (N.2 h) ‹¬c1<0›)}
 {
 exact hd2}}
 refine sW<|n_<|n_<|rH<|XK ⟨_,rfl,?_⟩
 refine⟨rfl,t,?_,?_,D⟩
 {
 by_cases hab:i<=b
 · exact U.mono Oa Oa
 {
 obtain⟨p_,q_,e1,e2,e3⟩:=U
 exact⟨p_,q_,e1,fun k hk=>by
   by_cases hka:k=a
   {
   subst hka
   apply Classical.byContradiction;intro Z
   have h5:=e2 (p_ k) Oa
   have h6:=congrArg q_ h5
   rw [(e1 _).2,(e1 _).2] at h6;exact Z h6}
   · exact e2 k Oa,e3⟩}}
 · exact hs.mono Oa Oa
theorem O8{n:Int}{lt:Int->Int->Prop}{F:Gw.Frame}(I:iK vd n)(ad:n<=100000000)(hw:AL lt)(N:Nat):∀{s:Of} {a m b:Int} (w0 w:World) (D:Sat w0 w [.own vd 1 3 n (ints s),.sem F]) (qw:∀(w:World) (x y:Int),0<=x->x<nm->0<=y->y<nm->Below w0.heap.size w0 w->F.holds w->Calls Om 82 [.int Oi x,.int Oi y,(Or gs)].toArray w fun e w'=>∃v,e= .returned v/\∃c:Int,v= .int Oi c/\(c<0↔lt x y)/\Sat w w' []) (hd:∀k,0<=k->k<n->0<=s k/\s k<nm) (a0:0<=a) (am:a<m) (mb:m<b) (bn:b<=n) (h1:rP (Tie lt) a m s) (h2:rP (Tie lt) m b s) (hp:sD a m b s) (hN:(b-a).toNat<N),
   Calls Om 228 [vd,.int Oi a,.int Oi m,.int Oi b,.func (.func 82) #[] #[(Or gs)]].toArray w fun e w=>∃v,e= .returned v/\v= .tuple #[]/\∃t:Of,iH a b s t/\rP (Tie lt) a b t/\Sat w0 w [.own vd 1 3 n (ints t),.sem F]:=by
 induction N with
 |zero=>intros;omega
 | succ N ih=>
   intro s a m b w0 w D qw hd a0 am mb bn h1 h2 hp hN
   refine uM Tryz.func228 Tryz.ntmps228 ?_
   refine lW<|fQ<|(On)<|(zV (Zr (r:=m-a)))<|(zP)<|ig<|Zf ?_ ?_<;>intro hc
   {
   refine fQ<|(On)<|iT<|(On)<|ig<|lW<|o7<|ny (fun Y M w=>∃(i:Int) (j:Int),Y=((j-i).toNat)/\(m<=i)/\(i<=j)/\(j<=b)/\(i=a+1\/lt (s (i-1)) (s a))/\(j=b\/¬lt (s j) (s a))/\M= [(0,vd),(1,.int Oi a),(2,.int Oi m),(3,.int Oi b),(4,.func (.func 82) #[] #[(Or gs)]),(10,.int Oi i),(11,.int Oi j)]/\Sat w0 w [.own vd 1 3 n (ints s),.sem F]) ⟨m,b,rfl,Oa,Oa,Oa,?_,?_,rfl,D⟩ ?_
   {
   exact .inl Oa}
   {
   exact .inl rfl}
   clear D w
   rintro Y M w ⟨i,j,rfl,i0,ij,j1,hi,hj,rfl,D⟩
   refine lW<|fQ<|(Oo)<|ig<|Zf ?_ ?_<;>intro hc
   {
   refine nX<|iP<|o7<|fQ<|(On)<|(zV (Zg (r:=i+j)))<|(zV (yF RW We))<|(zV (Tf (r:=((i+j)/2))))<|(zV (yF WF D7))<|(zP)<|nG<|lg [0,1] [0,1] 1000 nP D ?_;clear D;intro w D
   refine(b_ 0 gu)<|(b_ 1 gu)<|(b_ 2 gu)<|(b_ 3 (iy (kk:=((i+j)/2)) Zb I))<|(iQ 4 (fun w D=>(iR (u:= .int Oi (s ((i+j)/2))) dw (D.f_ 0 rfl))))<|(b_ 5 gu)<|(b_ 6 gu)<|(b_ 7 (iy (kk:=a) Zb I))<|(iQ 8 (fun w D=>(iR (u:= .int Oi (s a)) dw (D.f_ 0 rfl))))<|pK 9 (uU (vs:= [_,_]) IB) (qw w (s ((i+j)/2)) (s a) (hd ((i+j)/2) Oa Oa).1 (hd ((i+j)/2) Oa Oa).2 (hd a Oa Oa).1 (hd a Oa Oa).2 D.below (D.holds _ (List.mem_of_getElem? (i:=1) rfl))) ?_;rintro _ w ⟨c1,rfl,J,O⟩
   replace D:=D.cmp O;clear O
   refine⟨⟨fun _=>D,D⟩,?_⟩
   refine(b_ 10 Z6)<|lS<|iP ?_
   refine Zf ?_ ?_<;>intro hc
   {
   refine lG<|(zP)<|(zV (Zg (r:=((i+j)/2)+1)))<|(zP)<|iq<|ng<|jm ⟨((i+j)/2)+1,j,rfl,Oa,Oa,Oa,?_,?_,rfl,D⟩
   {
   first|exact hi|(right;rw [show(i+j)/2+1-1=(i+j)/2 by omega];exact J.1 ‹c1<0›)}
   {
   first|exact hj|exact .inr fun h=>absurd (J.2 h) ‹¬c1<0›}}
   refine lG<|(On)<|iq<|ng<|jm ⟨i,((i+j)/2),rfl,Oa,Oa,Oa,?_,?_,rfl,D⟩
   {
   first|exact hi|(right;rw [show(i+j)/2+1-1=(i+j)/2 by omega];exact J.1 ‹c1<0›)}
   {
   first|exact hj|exact .inr fun h=>absurd (J.2 h) ‹¬c1<0›}}
   refine uw<|(On)<|nI<|ny (fun Y M w=>∃(t:Of) (k:Int),Y=((i-1-k).toNat)/\(a<=k)/\(k<=i-1)/\(t=pJ s a (a+1) (k+1))/\M= [(0,vd),(1,.int Oi a),(2,.int Oi m),(3,.int Oi b),(4,.func (.func 82) #[] #[(Or gs)]),(10,.int Oi i),(13,.int Oi k)]/\Sat w0 w [.own vd 1 3 n (ints t),.sem F]) ⟨s,a,rfl,Oa,Oa,?_,rfl,D⟩ ?_
   {
   exact(Zb5 s a).symm}
   clear D w
   rintro Y M w ⟨t,k,rfl,k0,k1,U,rfl,D⟩
   refine lW<|fQ<|(On)<|(zV (Zr (r:=i-1)))<|(zP)<|ig<|Zf ?_ ?_<;>intro hc
   {
   refine nX<|iP<|lW<|o7<|lg [0,1] [1] 15 nP D ?_;clear D;intro w D
   refine(b_ 0 gu)<|(b_ 1 gu)<|(b_ 2 gu)<|(b_ 3 gu)<|(b_ 4 (Zg (r:=k+1)))<|(b_ 5 gu)<|(b_ 6 gu)<|(b_ 7 (Zg (r:=k+1)))<|(b_ 8 (iy (kk:=k+1) Zb I))<|sQ 9 (fun w D=>(iR (u:= .int Oi (t (k+1))) dw (D.f_ 0 rfl))) ?_
   refine(b_ 10 gu)<|(b_ 11 gu)<|(b_ 12 (iy (kk:=k) Zb I))<|sQ 13 (fun w D=>(iR (u:= .int Oi (t k)) dw (D.f_ 0 rfl))) ?_
   refine(b_ 14 (iy (kk:=k) Zb I))<|nR 15 (rV 0 dw D rfl) ?_;clear D;rintro w D
   refine⟨⟨fun h=>absurd h (by decide),D.pk [1]⟩,?_⟩
   refine(b_ 16 (iy (kk:=k+1) Zb I))<|nR 17 (rV 0 dw D (Uq t k (k+1))) ?_;clear D;rintro w D
   refine⟨⟨fun h=>absurd h (by decide),D.pk [1]⟩,?_⟩
   refine lS<|ng<|iP<|lG ?_
   refine(zP)<|(zV (Zg (r:=k+1)))<|(zP)<|iq<|jm ⟨swp t k (k+1),k+1,rfl,Oa,Oa,?_,rfl,D⟩
   {
   rw [U];exact Zb6 Oa}}
   refine sW<|n_<|n_<|rH<|iP<|sZ<|m_<|Ae ⟨_,rfl,?_⟩
   have ac:k+1=i:=Oa
   rw [ac] at U
   refine⟨rfl,t,?_,?_,D⟩
   · rw [U];exact(Yu Oa Oa).mono Oa Oa
   · rw [U];obtain rfl:m=a+1:=Oa
     exact KC hw h2 (fun j j0 j1=>hp a j Oa Oa j0 j1) Oa Oa hi (by rw [show i=j by omega];exact hj)}
   refine XJ<|(On)<|(zV (Zr (r:=b-m)))<|(zP)<|ig<|Zf ?_ ?_<;>intro hc
   {
   refine fQ<|(On)<|iT<|(On)<|ig<|lW<|o7<|ny (fun Y M w=>∃(i:Int) (j:Int),Y=((j-i).toNat)/\(a<=i)/\(i<=j)/\(j<=m)/\(i=a\/¬lt (s m) (s (i-1)))/\(j=m\/lt (s m) (s j))/\M= [(0,vd),(1,.int Oi a),(2,.int Oi m),(3,.int Oi b),(4,.func (.func 82) #[] #[(Or gs)]),(14,.int Oi i),(15,.int Oi j)]/\Sat w0 w [.own vd 1 3 n (ints s),.sem F]) ⟨a,m,rfl,Oa,Oa,Oa,?_,?_,rfl,D⟩ ?_
   {
   exact .inl rfl}
   {
   exact .inl rfl}
   clear D w
   rintro Y M w ⟨i,j,rfl,i0,ij,j1,hi,hj,rfl,D⟩
   refine lW<|fQ<|(Oo)<|ig<|Zf ?_ ?_<;>intro hc
   {
   refine nX<|iP<|o7<|fQ<|(On)<|(zV (Zg (r:=i+j)))<|(zV (yF RW We))<|(zV (Tf (r:=((i+j)/2))))<|(zV (yF WF D7))<|(zP)<|nG<|lg [0,1] [0,1] 1000 nP D ?_;clear D;intro w D
   refine(b_ 0 gu)<|(b_ 1 gu)<|(b_ 2 gu)<|(b_ 3 (iy (kk:=m) Zb I))<|(iQ 4 (fun w D=>(iR (u:= .int Oi (s m)) dw (D.f_ 0 rfl))))<|(b_ 5 gu)<|(b_ 6 gu)<|(b_ 7 (iy (kk:=((i+j)/2)) Zb I))<|(iQ 8 (fun w D=>(iR (u:= .int Oi (s ((i+j)/2))) dw (D.f_ 0 rfl))))<|pK 9 (uU (vs:= [_,_]) IB) (qw w (s m) (s ((i+j)/2)) (hd m Oa Oa).1 (hd m Oa Oa).2 (hd ((i+j)/2) Oa Oa).1 (hd ((i+j)/2) Oa Oa).2 D.below (D.holds _ (List.mem_of_getElem? (i:=1) rfl))) ?_;rintro _ w ⟨c1,rfl,J,O⟩
   replace D:=D.cmp O;clear O
   refine⟨⟨fun _=>D,D⟩,?_⟩
   refine(b_ 10 Z6)<|(b_ 11 YL)<|lS<|iP ?_
   refine Zf ?_ ?_<;>intro hc
   {
   refine lG<|(zP)<|(zV (Zg (r:=((i+j)/2)+1)))<|(zP)<|iq<|ng<|jm ⟨((i+j)/2)+1,j,rfl,Oa,Oa,Oa,?_,?_,rfl,D⟩
   {
   first|exact hi|(right;rw [show(i+j)/2+1-1=(i+j)/2 by omega];exact fun h=>absurd (J.2 h) ‹¬c1<0›)}
   {
   first|exact hj|exact .inr (J.1 (Od ‹_›))}}
   refine lG<|(On)<|iq<|ng<|jm ⟨i,((i+j)/2),rfl,Oa,Oa,Oa,?_,?_,rfl,D⟩
   {
   first|exact hi|(right;rw [show(i+j)/2+1-1=(i+j)/2 by omega];exact fun h=>absurd (J.2 h) ‹¬c1<0›)}
   {
   first|exact hj|exact .inr (J.1 (Od ‹_›))}}
   refine uw<|(On)<|nI<|ny (fun Y M w=>∃(t:Of) (k:Int),Y=((k-i).toNat)/\(i<=k)/\(k<=m)/\(t=pJ s k m (m+1))/\M= [(0,vd),(1,.int Oi a),(2,.int Oi m),(3,.int Oi b),(4,.func (.func 82) #[] #[(Or gs)]),(14,.int Oi i),(17,.int Oi k)]/\Sat w0 w [.own vd 1 3 n (ints t),.sem F]) ⟨s,m,rfl,Oa,Oa,?_,rfl,D⟩ ?_
   {
   exact(Zb3 s m).symm}
   clear D w
   rintro Y M w ⟨t,k,rfl,k0,k1,U,rfl,D⟩
   refine lW<|fQ<|(Oo)<|ig<|Zf ?_ ?_<;>intro hc
   {
   refine nX<|iP<|lW<|o7<|lg [0,1] [1] 15 nP D ?_;clear D;intro w D
   refine(b_ 0 gu)<|(b_ 1 gu)<|(b_ 2 gu)<|(b_ 3 gu)<|(b_ 4 (Zr (r:=k-1)))<|(b_ 5 gu)<|(b_ 6 gu)<|(b_ 7 (Zr (r:=k-1)))<|(b_ 8 (iy (kk:=k-1) Zb I))<|sQ 9 (fun w D=>(iR (u:= .int Oi (t (k-1))) dw (D.f_ 0 rfl))) ?_
   refine(b_ 10 gu)<|(b_ 11 gu)<|(b_ 12 (iy (kk:=k) Zb I))<|sQ 13 (fun w D=>(iR (u:= .int Oi (t k)) dw (D.f_ 0 rfl))) ?_
   refine(b_ 14 (iy (kk:=k) Zb I))<|nR 15 (rV 0 dw D rfl) ?_;clear D;rintro w D
   refine⟨⟨fun h=>absurd h (by decide),D.pk [1]⟩,?_⟩
   refine(b_ 16 (iy (kk:=k-1) Zb I))<|nR 17 (rV 0 dw D (Uq t k (k-1))) ?_;clear D;rintro w D
   refine⟨⟨fun h=>absurd h (by decide),D.pk [1]⟩,?_⟩
   refine lS<|ng<|iP<|lG ?_
   refine(zP)<|(zV (Zr (r:=k-1)))<|(zP)<|iq<|jm ⟨swp t k (k-1),k-1,rfl,Oa,Oa,?_,rfl,D⟩
   {
   rw [U];exact Zb4 Oa}}
   refine sW<|n_<|n_<|rH<|iP<|sZ<|m_<|Ae ⟨_,rfl,?_⟩
   have ac:k=i:=Oa
   rw [ac] at U
   refine⟨rfl,t,?_,?_,D⟩
   · rw [U];exact(Yu Oa Oa).mono Oa Oa
   · rw [U];obtain rfl:b=m+1:=Oa
     exact Rp hw h1 (fun i i0 i1=>hp i m i0 i1 Oa Oa) Oa Oa hi (by rw [show i=j by omega];exact hj)}
   refine ZX<|(On)<|(zV (Zg (r:=a+b)))<|(zV (yF RW We))<|(zV (Tf (r:=((a+b)/2))))<|(zV (yF WF D7))<|(zP)<|iT<|(On)<|(zV (Zg (r:=((a+b)/2)+m)))<|(zP)<|iT<|(On)<|nG ?_
   refine WT (fun M w=>∃(mid:Int) (s0:Int) (r0:Int),(mid=((a+b)/2))/\((mid<m/\s0=mid+m-b/\r0=mid)\/(m<=mid/\s0=a/\r0=m))/\M= [(0,vd),(1,.int Oi a),(2,.int Oi m),(3,.int Oi b),(4,.func (.func 82) #[] #[(Or gs)]),(25,.int Oi m),(26,.int Oi a),(27,.int Oi (m-a)),(28,B (m-a=1)),(77,.int Oi b),(78,.int Oi m),(79,.int Oi (b-m)),(80,B (b-m=1)),(129,.int Oi a),(130,.int Oi b),(131,.int Oi (a+b)),(132,.int .u64 (a+b)),(133,.int .u64 ((a+b)/2)),(134,.int Oi ((a+b)/2)),(18,.int Oi mid),(135,.int Oi ((a+b)/2)),(136,.int Oi m),(137,.int Oi (((a+b)/2)+m)),(19,.int Oi (mid+m)),(20,.int Oi s0),(21,.int Oi r0)]/\Sat w0 w [.own vd 1 3 n (ints s),.sem F]) ?_ ?_
   {
   refine fQ<|(Oo)<|ig<|Zf ?_ ?_<;>intro hc
   {
   refine fQ<|(On)<|(zV (Zr (r:=((a+b)/2)+m-b)))<|(zP)<|ig<|lG<|(On)<|iq<|tK ⟨((a+b)/2),(((a+b)/2)+m-b),((a+b)/2),rfl,Oa,rfl,D⟩}
   refine fQ<|(On)<|ig<|lG<|(On)<|iq<|tK ⟨((a+b)/2),a,m,rfl,Oa,rfl,D⟩}
   clear D w;rintro M w ⟨mid,s0,r0,jy,hq,rfl,D⟩
   refine iP<|fQ<|(zP)<|(zV (Zr (r:=mid+m-1)))<|(zP)<|ig<|lW<|o7<|ny (fun Y M w=>∃(x:Int) (y:Int),Y=((y-x).toNat)/\(s0<=x)/\(x<=y)/\(y<=r0)/\(x=s0\/¬lt (s (mid+m-x)) (s (x-1)))/\(y=r0\/lt (s (mid+m-y-1)) (s y))/\M= [(0,vd),(1,.int Oi a),(2,.int Oi m),(3,.int Oi b),(4,.func (.func 82) #[] #[(Or gs)]),(18,.int Oi mid),(19,.int Oi (mid+m)),(20,.int Oi x),(21,.int Oi y),(22,.int Oi (mid+m-1))]/\Sat w0 w [.own vd 1 3 n (ints s),.sem F]) ⟨s0,r0,rfl,Oa,Oa,Oa,?_,?_,rfl,D⟩ ?_
   {
   exact .inl rfl}
   {
   exact .inl rfl}
   clear D w
   rintro Y M w ⟨x,y,rfl,x0,xy,y1,hx,hy,rfl,D⟩
   refine lW<|fQ<|(Oo)<|ig<|Zf ?_ ?_<;>intro hc
   {
   refine nX<|iP<|o7<|fQ<|(On)<|(zV (Zg (r:=x+y)))<|(zV (yF RW We))<|(zV (Tf (r:=((x+y)/2))))<|(zV (yF WF D7))<|(zP)<|nG<|lg [0,1] [0,1] 1000 nP D ?_;clear D;intro w D
   refine(b_ 0 gu)<|(b_ 1 gu)<|(b_ 2 gu)<|(b_ 3 gu)<|(b_ 4 (Zr (r:=mid+m-((x+y)/2)-1)))<|(b_ 5 (iy (kk:=mid+m-((x+y)/2)-1) Zb I))<|(iQ 6 (fun w D=>(iR (u:= .int Oi (s (mid+m-((x+y)/2)-1))) dw (D.f_ 0 rfl))))<|(b_ 7 gu)<|(b_ 8 gu)<|(b_ 9 (iy (kk:=((x+y)/2)) Zb I))<|(iQ 10 (fun w D=>(iR (u:= .int Oi (s ((x+y)/2))) dw (D.f_ 0 rfl))))<|pK 11 (uU (vs:= [_,_]) IB) (qw w (s (mid+m-((x+y)/2)-1)) (s ((x+y)/2)) (hd (mid+m-((x+y)/2)-1) Oa Oa).1 (hd (mid+m-((x+y)/2)-1) Oa Oa).2 (hd ((x+y)/2) Oa Oa).1 (hd ((x+y)/2) Oa Oa).2 D.below (D.holds _ (List.mem_of_getElem? (i:=1) rfl))) ?_;rintro _ w ⟨c1,rfl,J,O⟩
   replace D:=D.cmp O;clear O
   refine⟨⟨fun _=>D,D⟩,?_⟩
   refine(b_ 12 Z6)<|(b_ 13 YL)<|lS<|iP ?_
   refine Zf ?_ ?_<;>intro hc
   {
   refine lG<|(zP)<|(zV (Zg (r:=((x+y)/2)+1)))<|(zP)<|iq<|ng<|jm ⟨((x+y)/2)+1,y,rfl,Oa,Oa,Oa,?_,?_,rfl,D⟩
   {
   first|exact hx|(right;rw [show mid+m-((x+y)/2+1)=mid+m-(x+y)/2-1 by omega,show(x+y)/2+1-1=(x+y)/2 by omega];exact fun h=>absurd (J.2 h) ‹¬c1<0›)}
   {
   first|exact hy|exact .inr (J.1 (Od ‹_›))}}
   refine lG<|(On)<|iq<|ng<|jm ⟨x,((x+y)/2),rfl,Oa,Oa,Oa,?_,?_,rfl,D⟩
   {
   first|exact hx|(right;rw [show mid+m-((x+y)/2+1)=mid+m-(x+y)/2-1 by omega,show(x+y)/2+1-1=(x+y)/2 by omega];exact fun h=>absurd (J.2 h) ‹¬c1<0›)}
   {
   first|exact hy|exact .inr (J.1 (Od ‹_›))}}
   refine oM<|(On)<|(zV (Zr (r:=mid+m-x)))<|(zP)<|nG ?_
   refine WT (fun M w=>∃(t:Of),(t=pJ s x m (mid+m-x))/\M= [(0,vd),(1,.int Oi a),(2,.int Oi m),(3,.int Oi b),(4,.func (.func 82) #[] #[(Or gs)]),(18,.int Oi mid),(19,.int Oi (mid+m)),(20,.int Oi x),(21,.int Oi y),(22,.int Oi (mid+m-1)),(149,.int Oi x),(150,.int Oi y),(151,B (x<y)),(175,.int Oi (mid+m)),(176,.int Oi x),(177,.int Oi (mid+m-x)),(24,.int Oi (mid+m-x))]/\Sat w0 w [.own vd 1 3 n (ints t),.sem F]) ?_ ?_
   {
   refine fQ<|qE ?_
   refine lX 181 ?_ ?_<;>intro hc
   {
   refine qE ?_
   refine ig<|Zf ?_ ?_<;>intro hc
   {
   refine lG<|uK ?_
   refine iJ (xc0 Znr) (Zot (s:=s) (a:=x) (m:=m) (b:=mid+m-x) w0 w D I ad Oa Oa Oa Oa) ?_;rintro _ w ⟨rfl,D⟩
   refine iq<|tK ⟨(pJ s x m (mid+m-x)),rfl,rfl,D⟩}
   refine nX<|tK ⟨s,(Ua Oa Oa Oa).symm,rfl,D⟩}
   iterate 3 refine oq ?_
   refine(zP)<|ig<|uD<|nX<|tK ⟨s,(Ua Oa Oa Oa).symm,rfl,D⟩}
   clear D w;rintro M w ⟨t,U,rfl,D⟩
   have Z:=(Yu (a:=s) (lo:=x) (c:=m) (hi:=mid+m-x) Oa Oa).dom (n:=n) (N:=nm) Oa (.inl Oa) hd
   rw [<-U] at Z
   have hH:=Ul hw h1 h2 hp (s:=x) (mid:=mid) (e:=mid+m-x) Oa Oa Oa Oa Oa (by rcases hq with hq|hq<;>rcases hx with hx|hx<;>first|exact .inl Oa|exact .inr (.inl Oa)|exact .inr (.inr hx)) (by rcases hq with hq|hq<;>rcases hy with hy|hy<;>first|exact .inl Oa|exact .inr (.inl Oa)|(refine .inr (.inr ?_);rw [show x=y by omega];exact hy))
   rw [<-U] at hH
   refine iP<|lW<| ?_
   refine WT (fun M w=>∃(t1:Of),(iH a mid t t1)/\(rP (Tie lt) a mid t1)/\(∀k,0<=k->k<n->0<=t1 k/\t1 k<nm)/\M= [(0,vd),(1,.int Oi a),(2,.int Oi m),(3,.int Oi b),(4,.func (.func 82) #[] #[(Or gs)]),(18,.int Oi mid),(19,.int Oi (mid+m)),(20,.int Oi x),(21,.int Oi y),(22,.int Oi (mid+m-1)),(149,.int Oi x),(150,.int Oi y),(151,B (x<y)),(175,.int Oi (mid+m)),(176,.int Oi x),(177,.int Oi (mid+m-x)),(24,.int Oi (mid+m-x))]/\Sat w0 w [.own vd 1 3 n (ints t1),.sem F]) ?_ ?_
   {
   refine fQ<|qE ?_
   refine lX 195 ?_ ?_<;>intro hc
   {
   refine qE ?_
   refine ig<|Zf ?_ ?_<;>intro hc
   {
   refine lG<|uK ?_
   refine iJ (xc0 IW) (ih (s:=t) (a:=a) (m:=x) (b:=mid) w0 w D qw Z Oa Oa Oa Oa (hH.l1) (hH.l2) (hH.pl) Oa) ?_;rintro _ w ⟨rfl,u1,qt,xo,D⟩
   have x6:=qt.dom Oa (.inl Oa) Z
   refine iq<|tK ⟨u1,qt,xo,x6,rfl,D⟩}
   refine nX<|tK ⟨t,(.refl _ _ _),(hH.left (by first|omega|(rintro⟨h3,h4⟩;omega)) Oa Oa),Z,rfl,D⟩}
   iterate 3 refine oq ?_
   refine(zP)<|ig<|uD<|nX<|tK ⟨t,(.refl _ _ _),(hH.left (by first|omega|(rintro⟨h3,h4⟩;omega)) Oa Oa),Z,rfl,D⟩}
   clear D w;rintro M w ⟨t1,W,ab,bw,rfl,D⟩
   have aa:Halves lt a a mid (mid+m-x) b t1:=Halves.after hH W ab Oa Oa
   refine iP<|fQ<|qE ?_
   refine lX 209 ?_ ?_<;>intro hc
   {
   refine qE ?_
   refine ig<|Zf ?_ ?_<;>intro hc
   {
   refine lG<|uK ?_
   refine iJ (xc0 IW) (ih (s:=t1) (a:=mid) (m:=mid+m-x) (b:=b) w0 w D qw bw Oa Oa Oa Oa (aa.r1) (aa.r2) (aa.pr) Oa) ?_;rintro _ w ⟨rfl,u1,qt,xo,D⟩
   have x6:=qt.dom Oa (.inl Oa) bw
   refine iq<|XK ⟨_,rfl,?_⟩
   refine⟨rfl,u1,((((Yu (a:=s) (lo:=x) (c:=m) (hi:=mid+m-x) Oa Oa).mono Oa Oa:iH a b s _)).trans (U▸W.mono Oa Oa)).trans (qt.mono Oa Oa),?_,D⟩
   exact hH.join hw Oa Oa W ab qt xo}
   refine nX<|XK ⟨_,rfl,?_⟩
   refine⟨rfl,t1,(((Yu (a:=s) (lo:=x) (c:=m) (hi:=mid+m-x) Oa Oa).mono Oa Oa:iH a b s _)).trans (U▸W.mono Oa Oa),?_,D⟩
   exact hH.join hw Oa Oa W ab (.refl _ _ _) (aa.right (by first|omega|(rintro⟨h3,h4⟩;omega)) Oa Oa)}
   iterate 3 refine oq ?_
   refine(zP)<|ig<|uD<|nX<|XK ⟨_,rfl,?_⟩
   refine⟨rfl,t1,(((Yu (a:=s) (lo:=x) (c:=m) (hi:=mid+m-x) Oa Oa).mono Oa Oa:iH a b s _)).trans (U▸W.mono Oa Oa),?_,D⟩
   exact hH.join hw Oa Oa W ab (.refl _ _ _) (aa.right (by first|omega|(rintro⟨h3,h4⟩;omega)) Oa Oa)
theorem Zf6{n:Int}{s:Of}{lt:Int->Int->Prop}{F:Gw.Frame}(w0 w:World)(h:Sat w0 w [.own vd 1 3 n (ints s),.sem F])(O:iK vd n)(Z:n<=100000000)(qw:∀(w:World) (x y:Int),0<=x->x<nm->0<=y->y<nm->Below w0.heap.size w0 w->F.holds w->Calls Om 82 [.int Oi x,.int Oi y,(Or gs)].toArray w fun e w'=>∃v,e= .returned v/\∃c:Int,v= .int Oi c/\(c<0↔lt x y)/\Sat w w' [])(hd:∀k,0<=k->k<n->0<=s k/\s k<nm)(hw:AL lt)(qT:Tw 0 n s):
   Calls Om 154 [vd,.int Oi n,.func (.func 82) #[] #[(Or gs)]].toArray w fun e w=>∃v,e= .returned v/\v= .tuple #[]/\∃t:Of,iH 0 n s t/\rP (Tie lt) 0 n t/\Sat w0 w [.own vd 1 3 n (ints t),.sem F]:=by
 have ae:=O.n0
 refine uM Tryz.func154 Tryz.ntmps154 ?_
 refine fQ<|(zP)<|iT<|(Oo)<|ig<|lW<|o7<|ny (fun mm M w=>∃(t:Of) (a:Int) (b:Int),mm=((n-a).toNat)/\(0<=a)/\(a<=n)/\(b=a+20)/\((20:Int)∣a)/\(iH 0 a s t)/\(oW lt 20 n 0 a t)/\(∀k,0<=k->k<n->0<=t k/\t k<nm)/\M= [(0,vd),(1,.int Oi n),(2,.func (.func 82) #[] #[(Or gs)]),(6,.int Oi 20),(7,.int Oi a),(8,.int Oi b)]/\Sat w0 w [.own vd 1 3 n (ints t),.sem F]) ⟨s,0,20,rfl,Oa,Oa,Oa,?_,?_,?_,?_,rfl,h⟩ ?_
 {
 exact Int.dvd_zero 20}
 {
 exact .refl _ _ _}
 {
 intro c c0 c1;omega}
 {
 exact hd}
 clear h w
 rintro mm M w ⟨t,a,b,rfl,a0,a1,hb,aa,hp,hr,hd1,rfl,h⟩
 refine lW<|fQ<|(Oo)<|ig<|Zf ?_ ?_<;>intro hc
 {
 refine nX<|iP<|o7<|fQ<|qE ?_
 refine iJ (xc0 Pv) (PL (s:=t) (a:=a) (b:=b) w0 w h O Z qw hd1 hw Oa Oa Oa (Vx hp qT Oa Oa Oa)) ?_;rintro _ w ⟨rfl,u1,qt,xo,h⟩
 have x6:=qt.dom Oa (.inl Oa) hd1
 refine iT<|(On)<|ig<|lG<|(On)<|(zV (Zg (r:=b+20)))<|(zP)<|iq<|ng<|jm ⟨u1,b,b+20,rfl,Oa,Oa,Oa,?_,?_,?_,?_,rfl,h⟩
 {
 rw [hb];exact Int.dvd_add aa (Int.dvd_refl 20)}
 {
 exact(hp.mono Oa Oa).trans (qt.mono Oa Oa)}
 {
 exact WG Oa qT hr a0 aa hp qt xo (.inl ⟨hb,Oa⟩) Oa}
 {
 exact x6}}
 refine oM<|qE ?_
 refine iJ (xc0 Pv) (PL (s:=t) (a:=a) (b:=n) w0 w h O Z qw hd1 hw Oa Oa Oa (Vx hp qT Oa Oa Oa)) ?_;rintro _ w ⟨rfl,u1,qt,xo,h⟩
 have x6:=qt.dom Oa (.inl Oa) hd1
 refine nI<|ny (fun mm M w=>∃(t2:Of) (z:Int),mm=((n-z).toNat)/\(20<=z)/\(z<=2*n+20)/\(iH 0 n s t2)/\(oW lt z n 0 n t2)/\(∀k,0<=k->k<n->0<=t2 k/\t2 k<nm)/\M= [(0,vd),(1,.int Oi n),(2,.func (.func 82) #[] #[(Or gs)]),(6,.int Oi z)]/\Sat w0 w [.own vd 1 3 n (ints t2),.sem F]) ⟨u1,20,rfl,Oa,Oa,?_,?_,?_,rfl,h⟩ ?_
 {
 exact(hp.mono Oa Oa).trans (qt.mono Oa Oa)}
 {
 exact WG Oa qT hr a0 aa hp qt xo (.inr ⟨rfl,Oa⟩) Oa}
 {
 exact x6}
 clear h w
 rintro mm M w ⟨t2,z,rfl,z0,z1,ad,ac,hd2,rfl,h⟩
 refine lW<|fQ<|(Oo)<|ig<|Zf ?_ ?_<;>intro hc
 {
 refine nX<|iP<|o7<|fQ<|(zP)<|(zV (Yf (r:=2*z)))<|(On)<|ig<|lW<|o7<|ny (fun mm M w=>∃(N:Of) (I:Int) (b3:Int),mm=((n-I).toNat)/\(0<=I)/\(I<=n)/\(b3=I+2*z)/\(2*z∣I)/\(iH 0 n s N)/\(oW lt (2*z) n 0 I N)/\(oW lt z n I n N)/\(∀k,0<=k->k<n->0<=N k/\N k<nm)/\M= [(0,vd),(1,.int Oi n),(2,.func (.func 82) #[] #[(Or gs)]),(6,.int Oi z),(7,.int Oi I),(8,.int Oi b3)]/\Sat w0 w [.own vd 1 3 n (ints N),.sem F]) ⟨t2,0,2*z,rfl,Oa,Oa,Oa,?_,?_,?_,?_,?_,rfl,h⟩ ?_
 {
 exact Int.dvd_zero _}
 {
 exact ad}
 {
 intro c c0 c1;omega}
 {
 exact ac}
 {
 exact hd2}
 clear h w
 rintro mm M w ⟨N,I,b3,rfl,D,af,ab,Y,U,hA,hB,J,rfl,h⟩
 refine lW<|fQ<|(Oo)<|ig<|Zf ?_ ?_<;>intro hc
 {
 refine nX<|iP<|o7<|fQ<|qE ?_
 refine(zV (Zg (r:=I+z)))<|zs2 ?_
 have hk:=V8 (lt:=lt) (z:=z) (n:=n) (a:=I) (b:=b3) (t:=N) Oa D (Int.dvd_trans (Int.dvd_mul_left 2 z) Y) hB Oa Oa Oa
 refine iJ (xc0 IW) (O8 (nm:=nm) (lt:=lt) O Z hw _ (s:=N) (a:=I) (m:=I+z) (b:=b3) w0 w h qw J Oa Oa Oa Oa hk.1 hk.2.1 hk.2.2 (Nat.lt_succ_self _)) ?_;rintro _ w ⟨rfl,u2,W,yy,h⟩
 have za:=W.dom Oa (.inl Oa) J
 refine iT<|(On)<|ig<|lG<|(On)<|(zV (Yf (r:=2*z)))<|(zV (Zg (r:=b3+2*z)))<|(zP)<|iq<|ng<|jm ⟨u2,b3,b3+2*z,rfl,Oa,Oa,Oa,?_,?_,?_,?_,?_,rfl,h⟩
 {
 rw [ab];exact Int.dvd_add Y (Int.dvd_refl _)}
 {
 exact U.trans (W.mono Oa Oa)}
 {
 exact(Yq Oa D Y hA hB W yy (.inl ⟨ab,Oa⟩) Oa).1}
 {
 exact(Yq Oa D Y hA hB W yy (.inl ⟨ab,Oa⟩) Oa).2}
 {
 exact za}}
 refine uw<|(On)<|(zV (Zg (r:=I+z)))<|(zP)<|iT<|(Oo)<|ig<|Zf ?_ ?_<;>intro hc
 {
 refine lG<|uK ?_
 have hk:=V8 (lt:=lt) (z:=z) (n:=n) (a:=I) (b:=n) (t:=N) Oa D (Int.dvd_trans (Int.dvd_mul_left 2 z) Y) hB Oa Oa Oa
 refine iJ (xc0 IW) (O8 (nm:=nm) (lt:=lt) O Z hw _ (s:=N) (a:=I) (m:=I+z) (b:=n) w0 w h qw J Oa Oa Oa Oa hk.1 hk.2.1 hk.2.2 (Nat.lt_succ_self _)) ?_;rintro _ w ⟨rfl,u2,W,yy,h⟩
 have za:=W.dom Oa (.inl Oa) J
 refine ig<|lG<|(zP)<|(zV (Yf (r:=2*z)))<|(zP)<|iq<|ng<|jm ⟨u2,2*z,rfl,Oa,Oa,?_,?_,?_,rfl,h⟩
 {
 first|exact U.trans (W.mono Oa Oa)|exact U}
 {
 first|exact(Yq Oa D Y hA hB W yy (.inr ⟨rfl,Oa⟩) Oa).1|exact V9 Oa D Y hA hB Oa Oa}
 {
 first|exact za|exact J}}
 refine nX<|iP<|lG<|(zP)<|(zV (Yf (r:=2*z)))<|(zP)<|iq<|ng<|jm ⟨N,2*z,rfl,Oa,Oa,?_,?_,?_,rfl,h⟩
 {
 first|exact U.trans (W.mono Oa Oa)|exact U}
 {
 first|exact(Yq Oa D Y hA hB W yy (.inr ⟨rfl,Oa⟩) Oa).1|exact V9 Oa D Y hA hB Oa Oa}
 {
 first|exact za|exact J}}
 refine sW<|n_<|n_<|rH<|XK ⟨_,rfl,?_⟩
 exact⟨rfl,t2,ad,Zb8 ac Oa,h⟩
theorem Ziy{n:Int}{s:Of}{lt:Int->Int->Prop}{F:Gw.Frame}(w0 w:World)(I:Sat w0 w [.own vd 1 3 n (ints s),.sem F])(h:iK vd n)(D:n<=100000000)(O:∀(w:World) (x y:Int),0<=x->x<nm->0<=y->y<nm->Below w0.heap.size w0 w->F.holds w->Calls Om 82 [.int Oi x,.int Oi y,(Or gs)].toArray w fun e w'=>∃v,e= .returned v/\∃c:Int,v= .int Oi c/\(c<0↔lt x y)/\Sat w w' [])(hd:∀k,0<=k->k<n->0<=s k/\s k<nm)(Y:AL lt)(W:Tw 0 n s):
   Calls Om 81 [vd,.func (.func 82) #[] #[(Or gs)]].toArray w fun e w=>∃v,e= .returned v/\v= .tuple #[]/\∃t:Of,iH 0 n s t/\rP (Tie lt) 0 n t/\Sat w0 w [.own vd 1 3 n (ints t),.sem F]:=by
 refine uM Tryz.func81 Tryz.ntmps81 ?_
 refine lG<|(On)<|(zV (iW Zb h))<|(zP)<|iJ (xc0 Zn4) (Zf6 (s:=s) w0 w I h D O hd Y W) ?_;rintro _ w ⟨rfl,N,U,J,I⟩
 refine iq<|XK ⟨_,rfl,?_⟩
 exact⟨rfl,N,U,J,I⟩
end Go.Proofs.YtpnamgfdakfccaaGreat
namespace Go.Proofs.YtpnamgfdakfccaaGreat
open Go Go.RowKit Go.Proofs.Gw
theorem ZkL{x y:Int}{U O:Value}{s:So}{gs:Nat}(w0:World)(F:(iO.blk gs [U,O,.int Oi s.val,.int Oi s.den]).holds w0)(D:Row w0 U 1 s.n (ints s.X))(hY:Row w0 O 1 s.m (ints s.Y))(N:YJ s)(x0:0<=x)(Z:x<s.n)(y0:0<=y)(Y:y<s.n):
   Calls Om 82 [.int Oi x,.int Oi y,Or gs].toArray w0 fun e w=>∃v,e= .returned v/\∃c:Int,v= .int Oi c/\(c<0↔(s.X y).tmod s.den<(s.X x).tmod s.den)/\Sat w0 w []:=by
 obtain⟨⟨d1,d2⟩,⟨d3,d4⟩,W⟩:=id N
 have J:=W x x0 Z;have I:=W y y0 Y
 have ab:=Wj (a:=s.X x) (d:=s.den) J.1 Oa;have aa:=Wj (a:=s.X y) (d:=s.den) I.1 Oa
 refine iE Tryz.func82 Tryz.ntmps82 fun w h=> ?_
 refine fQ<|(zP)<|nG<|lg [] [] 1000 nP h ?_;clear h;intro w h
 refine(b_ 0 (h_ 0 oV))<|(iQ 1 (fun w h=>(wR dV (iO.holds.cell F (o:=0) rfl) h)))<|(b_ 2 gu)<|(b_ 3 (iy (kk:=y) Zb D.fP))<|(iQ 4 (fun w h=>(iR (u:= .int Oi (s.X y)) dw (D.below h.below))))<|(b_ 5 (h_ 3 oQ))<|(iQ 6 (fun w h=>(wR dw (iO.holds.cell F (o:=3) rfl) h)))<|(b_ 7 (DW (r:=(Int.tmod (s.X y) s.den))))<|(b_ 8 (h_ 0 oV))<|(iQ 9 (fun w h=>(wR dV (iO.holds.cell F (o:=0) rfl) h)))<|(b_ 10 gu)<|(b_ 11 (iy (kk:=x) Zb D.fP))<|(iQ 12 (fun w h=>(iR (u:= .int Oi (s.X x)) dw (D.below h.below))))<|(b_ 13 (h_ 3 oQ))<|oH 14 (fun w h=>(wR dw (iO.holds.cell F (o:=3) rfl) h)) ?_
 refine(b_ 15 (DW (r:=(Int.tmod (s.X x) s.den))))<|(b_ 16 (Zr (r:=(Int.tmod (s.X y) s.den)-(Int.tmod (s.X x) s.den))))<|(b_ 17 nU)<|lS<|iP<|sZ<|Oj ?_
 exact⟨_,rfl,Oa,h⟩
variable {i j m:Int} {g t:Of}
def vU(s:So):Nat->Int
  |0=>0
  |k+1=>if(s.X k).tmod s.den=0 then vU s k else vU s k+1
def BM(s:So):Nat->Int->Int
  |0=>fun _=>0
  |k+1=>if(s.X k).tmod s.den=0 then BM s k else snoc (BM s k) (vU s k) k
theorem ZcB(s:So)(h:0<=i):vU s (i+1).toNat=if(s.X i).tmod s.den=0 then vU s i.toNat else vU s i.toNat+1:=by
 obtain⟨k,rfl⟩:=Int.eq_ofNat_of_zero_le h;rw [show((k:Int)+1).toNat=k+1 by omega,Int.toNat_natCast];rfl
theorem ZcC(s:So)(h:0<=i):BM s (i+1).toNat=if(s.X i).tmod s.den=0 then BM s i.toNat else snoc (BM s i.toNat) (vU s i.toNat) i:=by
 obtain⟨k,rfl⟩:=Int.eq_ofNat_of_zero_le h;rw [show((k:Int)+1).toNat=k+1 by omega,Int.toNat_natCast];rfl
theorem PZ(s:So):∀n:Nat,0<=vU s n/\vU s n<=n/\(∀k,0<=k->k<vU s n->0<=BM s n k/\BM s n k<n/\(s.X (BM s n k)).tmod s.den≠0)/\Tw 0 (vU s n) (BM s n)/\∀q,0<=q->q<(n:Int)->(s.X q).tmod s.den≠0->∃k,0<=k/\k<vU s n/\BM s n k=q
 |0=>⟨by simp [vU],by simp [vU],fun k F D=>by simp [vU] at D;omega,fun i j N Y W=>by simp [vU] at W;omega,fun q J U=>Oa⟩
 | n+1=>by
   obtain⟨h1,h2,O,h4,Z⟩:=PZ s n
   simp only [vU,BM]
   by_cases h:(s.X n).tmod s.den=0
   {
   rw [if_pos h,if_pos h]
   refine⟨h1,Oa,fun k F D=> ?_,h4,fun q J U I=> ?_⟩
   · have:=O k F D;exact⟨this.1,Oa,this.2.2⟩
   · by_cases e:q=n
     · rw [e] at I;exact absurd h I
     · exact Z q J Oa I}
   {
   rw [if_neg h,if_neg h]
   refine⟨by omega,Oa,fun k F D=> ?_,fun i j N Y W=> ?_,fun q J U I=> ?_⟩
   · by_cases e:k<vU s n
     · rw [Zt e];have:=O k F e;exact⟨this.1,Oa,this.2.2⟩
     · rw [Zu e];exact⟨by omega,Oa,h⟩
   · by_cases e:j<vU s n
     · rw [Zt e,Zt (show i<vU s n by omega)];exact h4 i j N Y e
     · rw [Zu e,Zt (show i<vU s n by omega)];have:=O i N Oa;omega
   {
   by_cases e:q=n
   · exact⟨vU s n,h1,Oa,by rw [Zu Oa,e]⟩
   · obtain⟨k,F,D,hk⟩:=Z q J Oa I
     exact⟨k,F,Oa,by rw [Zt D];exact hk⟩}}
def K_(a r:List Int):Bool:=(List.zipWith (fun x y=>if 0<x/\0<y then(1:Int) else 0) a r).any fun x=>decide (0<x)
def Iu(m:Int)(mf:Og)(st:List Int×Us)(k:Int):List Int×Us:=
  if K_ (lst m (mf k)) st.1 then(List.zipWith (fun x y=>max 0 (y-x)) (lst m (mf k)) st.1,st.2++ [(lst m (mf k),1)]) else st
def DV(m:Int)(mf:Og)(r0:List Int)(L0:Us)(h:List Int):List Int×Us:=h.foldl (Iu m mf) (r0,L0)
theorem Zg9{n:Int}{f:Of}(n0:0<=n):lst (n+1) f=lst n f++ [f n]:=by
 unfold lst
 rw [show(n+1).toNat=n.toNat+1 by omega,List.range_succ,List.map_append,List.map_singleton,Int.toNat_of_nonneg n0]
theorem Kc(m:Int)(mf:Og)(h:List Int)(D:Us)(F:0<=j):DV m mf h D (lst (j+1) t)=Iu m mf (DV m mf h D (lst j t)) (t j):=by
 rw [Zg9 F];simp [DV]
theorem Ke{f:Of}:K_ (lst m f) (lst m g)=true↔∃i,0<=i/\i<m/\0<f i/\0<g i:=by
 unfold K_
 rw [XY,UB]
 constructor
 {
 rintro⟨k,F,D,h⟩
 refine⟨k,F,D,?_⟩
 by_cases I:0<f k/\0<g k
 · exact I
 · rw [if_neg I] at h;omega}
 {
 rintro⟨k,F,D,h⟩
 exact⟨k,F,D,by rw [if_pos h];omega⟩}
theorem Nw{n:Int}{mf:Og}{D:List Int}{F:Us}{ln cnt:Of}{pt:Og}(I:0<=j)(h:(lst m g,nY n ln pt cnt)=DV m mf D F (lst j t))(hn:¬∃i,0<=i/\i<m/\0<mf (t j) i/\0<g i):(lst m g,nY n ln pt cnt)=DV m mf D F (lst (j+1) t):=by
 rw [Kc _ _ _ _ I,<-h]
 unfold Iu
 rw [if_neg fun J=>hn (Ke.1 J)]
theorem NP{n:Int}{mf:Og}{F:List Int}{I:Us}{D ln cnt tV qm:Of}{pt tN:Og}(J:0<=j)(n0:0<=n)(h:(lst m g,nY n ln pt cnt)=DV m mf F I (lst j t))(hn:∃i,0<=i/\i<m/\0<mf (t j) i/\0<g i)(N:∀k,0<=k->k<m->D k=max 0 (g k-mf (t j) k))
   (h1:∀k,0<=k->k<n->tV k=ln k/\qm k=cnt k/\tN k=pt k) (W:tV n=m) (U:qm n=1) (O:tN n=mf (t j)):(lst m D,nY (n+1) tV tN qm)=DV m mf F I (lst (j+1) t):=by
 rw [Kc _ _ _ _ J,<-h]
 unfold Iu
 dsimp only
 rw [if_pos (Ke.2 hn),XY,Rj n0 h1 W U O,Yn (f:=D) (g:=fun k=>max 0 (g k-mf (t j) k)) N]
def G_(p:cO)(u:Int)(ml:Of)(mf:Og)(s:So)(out:Us)(e:Int):Prop:=
  (e≠0/\out= []/\∃n ln pt cnt,uQ p u ml mf s n ln pt cnt e)\/(∃n1 EC Dw zd t n ln pt cnt,uQ p u ml mf s n1 EC Dw zd 0/\0<=n1/\0<=n/\iH 0 (vU s u.toNat) (BM s u.toNat) t/\rP (Tie fun x y=>(s.X y).tmod s.den<(s.X x).tmod s.den) 0 (vU s u.toNat) t/\
    nY n ln pt cnt=(DV p.m mf (lst p.m (YF p (ZJ n1 Dw zd))) (nY n1 EC Dw zd) (lst (vU s u.toNat) t)).2/\AB p n ln pt cnt out e)
theorem MH{mf:Of}{us D:Prop}(N:0<=i)(h:us↔∃q,0<=q/\q<i/\0<mf q/\0<g q)(U:D↔(us\/(0<mf i/\0<g i))):D↔∃q,0<=q/\q<i+1/\0<mf q/\0<g q:=by
 rw [U,h]
 constructor
 {
 rintro(⟨q,I,J,F⟩|O)
 · exact⟨q,I,Oa,F⟩
 · exact⟨i,N,Oa,O⟩}
 {
 rintro⟨q,I,J,F⟩
 by_cases e:q=i
 · subst e;exact .inr F
 · exact .inl ⟨q,I,Oa,F⟩}
theorem Zgt(s:So):AL (fun x y=>(s.X y).tmod s.den<(s.X x).tmod s.den):=
 ⟨fun x y h=>Oa,fun x y z h k=>Oa,fun x y z h k=>Oa⟩
end Go.Proofs.YtpnamgfdakfccaaGreat
namespace Go.Proofs.YtpnamgfdakfccaaGreat
open Go Go.RowKit Go.Proofs.Gw
theorem Zp8:Zc Om 81=true:=Oc
theorem Zre{vL vD:Value}{p:cO}{vM:Value}{u:Int}{mv:Ov}{ml:Of}{mf:Og}{vX vY:Value}{s:So}(w0:World)(h:oO w0 vL vD p)(hM:sO w0 vM u mv ml mf)(hX:Row w0 vX 1 s.n (ints s.X))(hY:Row w0 vY 1 s.m (ints s.Y))(yj:s.n<=1000):
   Calls Om 39 [.agg #[vL,vD,.int Oi p.bP,.int Oi p.aV],.agg #[vM,vX,vY,.int Oi s.val,.int Oi s.den]].toArray w0 fun e w=>∃v,e= .returned v/\∃r n pv ln pt cnt e,v= .tuple #[r,.int Oi e]/\G_ p u ml mf s (nY n ln pt cnt) e/\(∀k,0<=k->k<n->1<=cnt k/\cnt k<=1000000000)/\n<=1000000/\iK r n/\Sat w0 w [.own r 2 97 n (Ze pv cnt),.sem (Frame.rows 3 n pv ln pt)]:=by
 obtain⟨hm,bo,hd,hd1,hs,hk⟩:=h.Oq
 have hu:=hM.row.fP.n0;have bb:=hM.row.fP.n1;have hn:=hX.fP.n0;have bn:=hX.fP.n1
 refine iE Tryz.func39 Tryz.ntmps39 fun w D=> ?_
 refine fQ<|iG (nS (cs:= [_,_,_,_]) D) ?_;rintro _ w ⟨g1,rfl,D⟩
 refine iG (nS (cs:= [_,_,_,_,_]) D) ?_;rintro _ w ⟨g2,rfl,D⟩
 refine(On)<|iT<|(zV (lH 0 iM D))<|(zV (lH 1 Wl D))<|iJ (xc0 OO) (Sr (p:=p) (u:=u) (ml:=ml) (mf:=mf) (s:=s) w (h.below D.below) (hM.below D.below) (hX.below D.below) (hY.below D.below) yj) ?_;rintro _ w ⟨xj,qh,qH,xu,qV,qK,bD,rfl,xI,zC,U⟩
 replace D:=(D.comp U).n4;clear U
 have bd:=fun k (O:0<=k) (J:k<qh)=>D.iw 3 rfl O J
 refine uK ?_
 refine l9<|(On)<|ig<|Zf ?_ ?_<;>intro hc
 {
 refine fQ<|(Oo)<|j_<|rD ⟨_,rfl,?_⟩
 exact⟨_,0,fun _=>undef,fun _=>0,fun _ _=>0,fun _=>0,_,rfl,.inl ⟨by omega,rfl,_,_,_,_,xI⟩,fun k O J=>Oa,Oa,d_,((D.sub (.cons _ (.cons _ (.cons _ (.cons _ .slnil))))).fU 2 97 (Ze (fun _=>undef) (fun _=>0))).iF 3 (fun _=>undef) (fun _=>0) (fun _ _=>0)⟩}
 refine ZX<|iI (lH 0 iM D) ?_
 obtain⟨xl,xw,aW,fC,bh,bl⟩:=xI.ok Oa hu
 have xX:=xl
 have al:=xw.1
 obtain⟨⟨d1,d2⟩,⟨d3,d4⟩,d5⟩:=id al
 have a9:=xw.2.1
 have ba:=xw.2.2.1
 have bg:=xl.m1;have qM:=xl.m2;have bk:=xl.d
 refine(zP)<|iJ (xc0 Iy) (TM (u:=qh) (pv:=qH) (ln:=xu) (pt:=qV) (cnt:=qK) (p:=p) w (⟨(D.f_ 2 rfl),fun k O J=>D.lI 3 rfl O J,fun k O J=>D.lV 3 rfl O J⟩:tq _ xj qh qH xu qV qK) (h.below D.below)) ?_;rintro _ w ⟨qF,qq,qk,zw,rfl,xc,qA,U⟩
 replace D:=(D.comp U).n5;clear U
 obtain⟨bQ,zW⟩:qq=p.m/\qk=ZJ qh qV qK:=by rcases xc with⟨g1,_⟩|⟨_,g2,g3,_⟩;exact absurd bh g1;exact⟨g2,g3⟩
 have bu:∀k,0<=k->k<p.m->0<=qk k/\qk k<=2000000000:=fun k O J=>by rw [zW];have W:=Wr bh.2.2 bl (Int.le_refl _) O J;omega
 have aA:=fun k (O:0<=k) (J:k<p.m)=>(bu k O J).1
 have bc:=UU xl aA p.m.toNat (by have:=xl.m1;omega)
 refine uK ?_
 refine iT<|(zV (lH 0 iM D))<|(zP)<|iJ (xc0 OT) (PO (p:=p) (f:=qk) w (h.below D.below) xl (bQ▸(D.f_ 4 rfl)) bu) ?_;rintro _ w ⟨xE,xt,rfl,yt,yV,U⟩
 replace D:=(D.comp U).n7;clear U
 refine(zV (lF (v:=xt)))<|(zP)<|iT<|(zV (h_ 1 rZ))<|(zV (C_ 1 (ds:= [vX,vY,.int Oi s.val,.int Oi s.den]) ZW D))<|iG (oh (cs:= [_,_,_,_]) Uw D) ?_;rintro _ w ⟨g3,rfl,D⟩
 refine lJ (nD 7 ZW D (hd:=(Za hX.fP.one (Za hY.fP.one (Za rfl (Za rfl Zj)))))) ?_;clear D;rintro w D
 refine iT<|(zP)<|l9<|(zV (h_ 0 oV))<|(zV (g_ 7 dV D))<|(zV (iW Zb hX.fP))<|(zP)<|nI ?_
 replace D:=D.fU 1 3 (ints (fun _=>0))
 refine ny (fun mm M w=>∃(nO:Int) (fO:Of) (i:Int) (vO:Value),mm=((s.n-i).toNat)/\(0<=i)/\(i<=s.n)/\(nO=vU s i.toNat)/\(fO=BM s i.toNat)/\(0<=nO/\nO<=i)/\(iK vO nO)/\M= [(2,Or g1),(3,Or g2),(4,Oh),(5,.int Oi 0),(6,xj),(10,xt),(11,Or g3),(12,vO),(45,vX),(46,.int Oi s.n),(47,.int Oi i)]/\Sat w0 w [.blk g1 [vL,vD,.int Oi p.bP,.int Oi p.aV],.blk g2 [vM,vX,vY,.int Oi s.val,.int Oi s.den],.own xj 2 97 qh (Ze qH qK),.sem (Frame.rows 3 qh qH xu qV),.own qF 1 3 qq (ints qk),.own xE 1 3 p.m (ints p.L),.own xt 1 3 p.d (ints (YF p qk)),.blk g3 [vX,vY,.int Oi s.val,.int Oi s.den],.own vO 1 3 nO (ints fO)]) ⟨0,(fun _=>0),0,Oh,rfl,Oa,Oa,?_,?_,Oa,?_,rfl,D⟩ ?_
 {
 rfl}
 {
 rfl}
 {
 exact d_}
 clear D w
 rintro mm M w ⟨nO,fO,i,vO,rfl,h0,h1,ab,ae,bm,ai,rfl,D⟩
 refine fQ<|(zP)<|nG<|Zf ?_ ?_<;>intro hc
 {
 refine oC<|(zP)<|(zV (iy (kk:=i) Zb hX.fP))<|iI (iR (u:= .int Oi (s.X i)) dw (hX.below D.below)) ?_
 have a3:=d5 i h0 Oa
 have be:=Wj a3.1 d1
 refine(On)<|iT<|(zP)<|(zV (h_ 3 oQ))<|(zV (g_ 7 dw D))<|(zV (DW (r:=(Int.tmod (s.X i) s.den))))<|(zP)<|ig<|Zf ?_ ?_<;>intro hc
 {
 refine lG<|(On)<|iG (pO (n:=1) (len:=1) (pv:= [(0,.int Oi i)]) (cs:= [.int Oi i]) (c:=ints (fun _=>i)) Zb Zq D) ?_;rintro v1 w ⟨D,a8⟩
 refine iG (pz 8 (r:=nO+1) Zb Zq D (D.f_ 9 rfl) (ZR _ _ _)) ?_;rintro v2 w ⟨D,aq⟩
 refine(zP)<|nT<|(zV (Zg (r:=i+1)))<|(zP)<|iq<|jm ⟨nO+1,(snoc fO nO i),i+1,v2,rfl,Oa,Oa,?_,?_,Oa,?_,rfl,D.pk [0,1,2,3,4,5,6,7,8]⟩
 {
 rw [ZcB s h0,<-ab];first|rw [if_pos Oa]|rw [if_neg Oa]}
 {
 rw [ZcC s h0,<-ab,<-ae];first|rw [if_pos Oa]|rw [if_neg Oa]}
 {
 exact aq}}
 refine rU<|(zV (Zg (r:=i+1)))<|(zP)<|iq<|jm ⟨nO,fO,i+1,vO,rfl,Oa,Oa,?_,?_,Oa,?_,rfl,D⟩
 {
 rw [ZcB s h0,<-ab];first|rw [if_pos Oa]|rw [if_neg Oa]}
 {
 rw [ZcC s h0,<-ab,<-ae];first|rw [if_pos Oa]|rw [if_neg Oa]}
 {
 exact ai}}
 refine oM<|iI gu ?_
 have a0:i=u:=Oa
 rw [a0] at ab ae
 obtain⟨bj,bi,ax,aw,bf⟩:=PZ s u.toNat
 have an:∀k,0<=k->k<nO->0<=fO k/\fO k<s.n:=fun k O J=>by rw [ae];have:=ax k O Oa;omega
 have a4:Tw 0 nO fO:=by rw [ab,ae];exact aw
 refine(zV wX)<|iJ (xc0 Zp8) (Ziy (gs:=g3) (vd:=vO) (n:=nO) (nm:=s.n) (s:=fO) (lt:=fun x y=>(s.X y).tmod s.den<(s.X x).tmod s.den) (F:=Frame.rG [.blk g1 [vL,vD,.int Oi p.bP,.int Oi p.aV],.blk g2 [vM,vX,vY,.int Oi s.val,.int Oi s.den],.own xj 2 97 qh (Ze qH qK),.sem (Frame.rows 3 qh qH xu qV),.own qF 1 3 qq (ints qk),.own xE 1 3 p.m (ints p.L),.own xt 1 3 p.d (ints (YF p qk)),.blk g3 [vX,vY,.int Oi s.val,.int Oi s.den]]) w0 w (Sat.bundle (l1:= [_]) (D.pk [8,0,1,2,3,4,5,6,7])) ai Oa (fun w x y x0 x1 y0 y1 hb hF=>ZkL w (hF.1 _ (List.mem_of_getElem? (i:=7) rfl)) (hX.below hb) (hY.below hb) al x0 x1 y0 y1) an (Zgt s) a4) ?_;rintro _ w ⟨rfl,N,av,dr,D⟩
 replace D:=Sat.unbundle (l1:= [_]) (l3:= []) D
 refine l9<|iI gu ?_
 have au:∀k,0<=k->k<nO->0<=N k/\N k<s.n:=fun k O J=>by obtain⟨q,q0,q1,q2⟩:=av.fr O J;rw [show N k=fO q from q2];exact an q q0 q1
 have ay:∀k,0<=k->k<p.m->0<=YF p qk k/\YF p qk k<=1000:=fun k O J=>by have W:=RE xl O J;have h8:=aA k O J;unfold YF;rw [if_pos ⟨O,J⟩];omega
 refine(zV (iW Zb ai))<|(zP)<|nI<|ny (fun mm M w=>∃(Y:Int) (wv:Ov) (lC:Of) (gC:Og) (cC:Of) (gR:Of) (j:Int) (wC:Value),mm=((nO-j).toNat)/\(0<=j)/\(j<=nO)/\(0<=Y)/\(Y<=60+j)/\((lst p.m gR,nY Y lC gC cC)=DV p.m mf (lst p.m (YF p qk)) (nY qh xu qV qK) (lst j N))/\(∀k,0<=k->k<p.m->0<=gR k/\gR k<=1000)/\(iK wC Y)/\M= [(2,Or g1),(3,Or g2),(4,Oh),(5,.int Oi 0),(6,wC),(10,xt),(65,vO),(66,.int Oi nO),(67,.int Oi j)]/\Sat w0 w [.own vO 1 3 nO (ints N),.blk g1 [vL,vD,.int Oi p.bP,.int Oi p.aV],.blk g2 [vM,vX,vY,.int Oi s.val,.int Oi s.den],.own wC 2 97 Y (Ze wv cC),.sem (Frame.rows 3 Y wv lC gC),.own qF 1 3 qq (ints qk),.own xE 1 3 p.m (ints p.L),.own xt 1 3 p.d (ints gR),.blk g3 [vX,vY,.int Oi s.val,.int Oi s.den]]) ⟨qh,qH,xu,qV,qK,(YF p qk),0,xj,rfl,Oa,Oa,Oa,Oa,?_,?_,?_,rfl,D⟩ ?_
 {
 rfl}
 {
 exact ay}
 {
 exact zC}
 clear D w
 rintro mm M w ⟨Y,wv,lC,gC,cC,gR,j,wC,rfl,j0,j1,dF,mL,af,ag,ao,rfl,D⟩
 have q9:=fun k (O:0<=k) (J:k<Y)=>D.iw 4 rfl O J
 refine fQ<|(zP)<|nG<|Zf ?_ ?_<;>intro hc
 {
 refine oC<|(zV (iy (kk:=j) Zb ai))<|iI (iR (u:= .int Oi (N j)) dw (D.f_ 0 rfl)) ?_
 have ar:=au j j0 Oa
 obtain⟨am,aj⟩:=Ue (xw.2.2.2.1 (N j) ar.1 Oa).1
 refine(zP)<|iT<|(zV (h_ 0 TI))<|(zV (g_ 2 Zz D))<|(zP)<|(zV (iy (kk:=(N j)) Zk hM.row.fP))<|(zV (iR (u:=(mv (N j))) dV (hM.row.below D.below)))<|(zP)<|iT<|(zP)<|l9<|(zP)<|(zV (iW Zb (hM.p (N j) Oa Oa).fP))<|(zP)<|nI<|ny (fun mm M w=>∃(I:Prop) (i2:Int),mm=((ml (N j)-i2).toNat)/\(0<=i2)/\(i2<=ml (N j))/\(I↔∃q,0<=q/\q<i2/\0<mf (N j) q/\0<gR q)/\M= [(2,Or g1),(3,Or g2),(4,Oh),(5,.int Oi 0),(6,wC),(10,xt),(17,(mv (N j))),(18,B (I)),(65,vO),(66,.int Oi nO),(67,.int Oi j),(76,(mv (N j))),(77,.int Oi (ml (N j))),(78,.int Oi i2)]/\Sat w0 w [.own vO 1 3 nO (ints N),.blk g1 [vL,vD,.int Oi p.bP,.int Oi p.aV],.blk g2 [vM,vX,vY,.int Oi s.val,.int Oi s.den],.own wC 2 97 Y (Ze wv cC),.sem (Frame.rows 3 Y wv lC gC),.own qF 1 3 qq (ints qk),.own xE 1 3 p.m (ints p.L),.own xt 1 3 p.d (ints gR),.blk g3 [vX,vY,.int Oi s.val,.int Oi s.den]]) ⟨False,0,rfl,Oa,Oa,?_,rfl,D⟩ ?_ (hM:=by repeat' first|exact D5|refine AV rfl ?_|refine AV (congrArg some (ZB not_false).symm) ?_|refine AV (congrArg some (ZV trivial).symm) ?_)
 {
 exact⟨fun h=>h.elim,fun⟨q,q0,q1,_⟩=>Oa⟩}
 clear D w
 rintro mm M w ⟨I,i2,rfl,ah,a6,ac,rfl,D⟩
 refine fQ<|(zP)<|nG<|Zf ?_ ?_<;>intro hc
 {
 refine oC<|(zP)<|(zV (iy (kk:=i2) Zb (hM.p (N j) Oa Oa).fP))<|iI (iR (u:= .int Oi ((mf (N j)) i2)) dw ((hM.p (N j) Oa Oa).below D.below)) ?_
 have a2:=aj i2 ah Oa
 refine(On)<|ig<|lG<|(On)<|lX 84 ?_ ?_<;>intro hc
 {
 iterate 9 refine oq ?_
 refine(On)<|nT<|(zV (Zg (r:=i2+1)))<|(zP)<|iq<|jm ⟨True,i2+1,rfl,Oa,Oa,?_,rfl,D⟩ (hM:=by repeat' first|exact D5|refine AV rfl ?_|refine AV (congrArg some (ZB not_false).symm) ?_|refine AV (congrArg some (ZV trivial).symm) ?_)
 {
 refine MH ah ac ?_
 first
 |exact⟨fun _=> .inl ‹I›,fun _=>trivial⟩
 |exact⟨fun W=> .inr ⟨‹0<mf (N j) i2›,W⟩,fun W=>W.elim (fun h8=>absurd h8 ‹¬I›) (·.2)⟩
 |exact⟨fun W=>W.elim,fun W=>W.elim (fun h8=>absurd h8 ‹¬I›) (fun h8=>absurd h8.1 ‹¬0<mf (N j) i2›)⟩}}
 refine(Oo)<|lX 87 ?_ ?_<;>intro hc
 {
 refine(On)<|(zV (iy (kk:=i2) Zb yV))<|(zV (iR (u:= .int Oi (gR i2)) dw (D.f_ 7 rfl)))<|qE ?_
 refine nT<|(zV (Zg (r:=i2+1)))<|(zP)<|iq<|jm ⟨0<gR i2,i2+1,rfl,Oa,Oa,?_,rfl,D⟩
 {
 refine MH ah ac ?_
 first
 |exact⟨fun _=> .inl ‹I›,fun _=>trivial⟩
 |exact⟨fun W=> .inr ⟨‹0<mf (N j) i2›,W⟩,fun W=>W.elim (fun h8=>absurd h8 ‹¬I›) (·.2)⟩
 |exact⟨fun W=>W.elim,fun W=>W.elim (fun h8=>absurd h8 ‹¬I›) (fun h8=>absurd h8.1 ‹¬0<mf (N j) i2›)⟩}}
 iterate 5 refine oq ?_
 refine(Oo)<|nT<|(zV (Zg (r:=i2+1)))<|(zP)<|iq<|jm ⟨False,i2+1,rfl,Oa,Oa,?_,rfl,D⟩ (hM:=by repeat' first|exact D5|refine AV rfl ?_|refine AV (congrArg some (ZB not_false).symm) ?_|refine AV (congrArg some (ZV trivial).symm) ?_)
 {
 refine MH ah ac ?_
 first
 |exact⟨fun _=> .inl ‹I›,fun _=>trivial⟩
 |exact⟨fun W=> .inr ⟨‹0<mf (N j) i2›,W⟩,fun W=>W.elim (fun h8=>absurd h8 ‹¬I›) (·.2)⟩
 |exact⟨fun W=>W.elim,fun W=>W.elim (fun h8=>absurd h8 ‹¬I›) (fun h8=>absurd h8.1 ‹¬0<mf (N j) i2›)⟩}}
 refine uw<|(On)<|ig<|Zf ?_ ?_<;>intro hc
 {
 refine sW<|n_<|rH<|iP<|lG<|(zV (Zg (r:=j+1)))<|(zP)<|iq<|jm ⟨Y,wv,lC,gC,cC,gR,j+1,wC,rfl,Oa,Oa,Oa,Oa,?_,?_,?_,rfl,D⟩
 {
 first|exact Nw j0 af (fun⟨q,q0,q1,q2⟩=>absurd (ac.2 ⟨q,q0,Oa,q2⟩) ‹_›)|exact NP j0 dF af (by obtain⟨q,q0,q1,q2⟩:=ac.1 Oe;exact⟨q,q0,Oa,q2⟩) (fun k O J=>(ad k O J).trans (if_pos Oa)) (fun k O J=>⟨Zl J,Zt J,Zl J⟩) ((Zo Oa).trans am) (Zu Oa) (Zo Oa)}
 {
 first|exact ag|(intro k O J;have W:=ad k O J;rw [if_pos Oa] at W;have h8:=ag k O J;have h7:=aj k O J;omega)}
 {
 exact ao}}
 refine ZX<|(On)<|iJ (xc0 oD) (lU (n:=(ml (N j))) (f:=(mf (N j))) w ((hM.p (N j) Oa Oa).below D.below) Oa) ?_;rintro aa w ⟨_,rfl,qb,U⟩
 replace D:=(D.comp U).n10;clear U
 refine iI (lF (v:= .agg #[aa,.int Oi 1]) (hr:=by obtain⟨_,_,_,_,rfl,_⟩:=qb;kernel_rfl)) ?_
 refine iG (pO (n:=1) (len:=1) (pv:= [(0,.agg #[aa,.int Oi 1])]) (cs:= [aa,.int Oi 1]) (c:=Ze (fun _=>aa) (fun _=>1)) ZP Xb D (hf:=by obtain⟨_,_,_,_,rfl,_⟩:=qb;kernel_rfl)) ?_;rintro v3 w ⟨D,a7⟩
 refine iG (pz 3 (r:=Y+1) ZP Xb D (D.f_ 10 rfl) (Xr _ _ _ _ _) (h1:=fun k _ _=>Xk (fun _=>qb.one) k)) ?_;rintro v4 w ⟨D,ap⟩
 replace D:=Sat.merge (l1:= [_,_,_,_]) (l2:= [_,_,_,_]) (l3:= [_]) D Oa
 have xV:=fun k (O:0<=k) (J:k<Y+1)=>D.iw 4 rfl O J
 refine(zP)<|iT<|(zP)<|(zV (iW Zb (hM.p (N j) Oa Oa).fP))<|(zP)<|nI<|ny (fun mm M w=>∃(g4:Of) (Z:Int),mm=((ml (N j)-Z).toNat)/\(0<=Z)/\(Z<=ml (N j))/\(∀k,0<=k->k<p.m->g4 k=if k<Z then max 0 (gR k-mf (N j) k) else gR k)/\M= [(2,Or g1),(3,Or g2),(4,Oh),(5,.int Oi 0),(6,v4),(10,xt),(65,vO),(66,.int Oi nO),(67,.int Oi j),(104,(mv (N j))),(105,.int Oi (ml (N j))),(106,.int Oi Z)]/\Sat w0 w [.own vO 1 3 nO (ints N),.blk g1 [vL,vD,.int Oi p.bP,.int Oi p.aV],.blk g2 [vM,vX,vY,.int Oi s.val,.int Oi s.den],.own v4 2 97 (Y+1) (Ze (lD wv Y aa) (snoc cC Y 1)),.sem (Frame.rows 3 (Y+1) (lD wv Y aa) (lD lC Y (ml (N j))) (lD gC Y (mf (N j)))),.own qF 1 3 qq (ints qk),.own xE 1 3 p.m (ints p.L),.own xt 1 3 p.d (ints g4),.blk g3 [vX,vY,.int Oi s.val,.int Oi s.den],.own v3 2 97 1 (Ze (fun _=>aa) (fun _=>1))]) ⟨gR,0,rfl,Oa,Oa,?_,rfl,D⟩ ?_
 {
 intro k O J;rw [if_neg Oa]}
 clear D w
 rintro mm M w ⟨g4,Z,rfl,ak,a5,ad,rfl,D⟩
 refine fQ<|(zP)<|nG<|Zf ?_ ?_<;>intro hc
 {
 refine oC<|(zP)<|(zV (iy (kk:=Z) Zb (hM.p (N j) Oa Oa).fP))<|iI (iR (u:= .int Oi ((mf (N j)) Z)) dw ((hM.p (N j) Oa Oa).below D.below)) ?_
 have a2:=aj Z ak Oa
 have bp:=ag Z ak Oa
 have a1:=ad Z ak Oa
 rw [if_neg Oa] at a1
 refine(On)<|ig<|lG<|qE ?_
 refine(zV (iy (kk:=Z) Zb yV))<|(zV (iR (u:= .int Oi (g4 Z)) dw (D.f_ 7 rfl)))<|(zP)<|(zV (Zr (r:=g4 Z-((mf (N j)) Z))))<|(zV (FB (r:=(max 0 (g4 Z-((mf (N j)) Z))))))<|(zV (iy (kk:=Z) Zb yV))<|lJ (rV 7 dw D (ZA _ _ _)) ?_;clear D;rintro w D
 refine nT<|(zV (Zg (r:=Z+1)))<|(zP)<|iq<|jm ⟨(upd g4 Z (max 0 (g4 Z-((mf (N j)) Z)))),Z+1,rfl,Oa,Oa,?_,rfl,D⟩
 {
 intro k O J;unfold upd;by_cases e:k=Z
 · rw [if_pos e,if_pos Oa,e];omega
 · rw [if_neg e,ad k O J];by_cases e2:k<Z
   · rw [if_pos e2,if_pos Oa]
   · rw [if_neg e2,if_neg Oa]}}
 refine sW<|n_<|n_<|rH<|ng<|iP<|lG<|(zV (Zg (r:=j+1)))<|(zP)<|iq<|jm ⟨Y+1,lD wv Y aa,lD lC Y (ml (N j)),lD gC Y (mf (N j)),(snoc cC Y 1),g4,j+1,v4,rfl,Oa,Oa,Oa,Oa,?_,?_,?_,rfl,D.pk [0,1,2,3,4,5,6,7,8]⟩
 {
 first|exact Nw j0 af (fun⟨q,q0,q1,q2⟩=>absurd (ac.2 ⟨q,q0,Oa,q2⟩) ‹_›)|exact NP j0 dF af (by obtain⟨q,q0,q1,q2⟩:=ac.1 Oe;exact⟨q,q0,Oa,q2⟩) (fun k O J=>(ad k O J).trans (if_pos Oa)) (fun k O J=>⟨Zl J,Zt J,Zl J⟩) ((Zo Oa).trans am) (Zu Oa) (Zo Oa)}
 {
 first|exact ag|(intro k O J;have W:=ad k O J;rw [if_pos Oa] at W;have h8:=ag k O J;have h7:=aj k O J;omega)}
 {
 exact ap}}
 refine oM<|(zV (lH 1 iM D))<|(zP)<|iJ (xc0 OQ) (O_ (u:=Y) (pv:=wv) (ln:=lC) (pt:=gC) (cnt:=cC) (p:=p) w (⟨(D.f_ 3 rfl),fun k O J=>D.lI 4 rfl O J,fun k O J=>D.lV 4 rfl O J⟩:tq _ wC Y wv lC gC cC) (h.below D.below)) ?_;rintro _ w ⟨eg,aO,eH,eQ,gB,gK,gG,rfl,zG,zI,zH,zD,U⟩
 replace D:=(D.comp U).n11;clear U
 have dB:=fun k (O:0<=k) (J:k<aO)=>D.iw 10 rfl O J
 refine qE ?_
 refine jk<|rD ⟨_,rfl,?_⟩
 have az:j=vU s u.toNat:=Oa
 rw [az] at af
 exact⟨_,_,_,_,_,_,_,rfl,.inr ⟨_,_,_,_,_,_,_,_,_,(by rw [show(0:Int)=bD by omega];exact xI),bl,dF,(by rw [<-ab,<-ae];exact av),(by rw [<-ab];exact dr),(by rw [<-zW,<-af]),zG⟩,zI,zH,zD,D.pk [9,10]⟩
variable {cnt ln:Of} {pt:Og}
theorem VQ{F G c d:Of}:∀{m:Nat},(∀k:Nat,k<m->F k=G k/\c k=d k)->jT F c m=jT G d m
 |0,_=>rfl
 |m+1,h=>by simp only [jT];rw [VQ fun k D=>h k Oa,(h m Oa).1,(h m Oa).2]
theorem XQ{n:Int}{f:Of}{j:Int}(D:0<=j)(h:j<n):(lst n f).getD j.toNat 0=f j:=by
 rw [List.getD_eq_getElem?_getD,lY,Int.toNat_of_nonneg D,if_pos h];rfl
theorem _o{m:Int}{l:List Int}(h:l.length=m.toNat):l=lst m fun k=>l.getD k.toNat 0:=by
 apply List.ext_getElem?
 intro k
 rw [lY]
 by_cases hk:(k:Int)<m
 · rw [if_pos hk,List.getD_eq_getElem?_getD,Int.toNat_natCast,List.getElem?_eq_getElem Oa];rfl
 · rw [if_neg hk];simp;omega
def Aq(j:Int)(L:Us):Int:=ni (fun l=>l.getD j.toNat 0) L
theorem ZjY{n:Int}(n0:0<=n){j:Int}(h:0<=j)(D:∀k,0<=k->k<n->j<ln k):ZJ n pt cnt j=Aq j (nY n ln pt cnt):=by
 unfold Aq ZJ
 rw [Ya _ n0]
 exact VQ fun k F=>⟨(XQ h (D k Oa Oa)).symm,rfl⟩
theorem ZgQ{p:cO}{u:Int}(h:nM p u ln pt cnt):∀x∈nY u ln pt cnt,1<=x.2:=fun x F=>by
 obtain⟨j,D⟩:=List.mem_iff_getElem?.1 F
 rw [nH] at D
 split at D
 · injection D with D;rw [<-D];exact(h.2.2 j Oa (by assumption)).1
 · cases D
def DT(p:cO)(l:List Int):Prop:=∃f,nN p p.m f/\l=lst p.m f
theorem Tl{p:cO}{n m:Int}{f g:Of}(h:nN p n f)(hn:n=m)(I:∀k,0<=k->k<p.m->g k=f k):nN p m g:=by
 subst hn
 refine⟨h.ok,h.eq,fun i D F=>by rw [I i D F];exact h.all i D F,?_⟩
 have J:=h.ok.m1
 have e:ZD p g p.m.toNat=ZD p f p.m.toNat:=Zh fun i D F=>by rw [I i D Oa]
 rw [e];exact h.used
theorem Zcf{p:cO}{n:Int}(h:p.Ok)(hn:n<=1000)(W:∀k,0<=k->k<n->0<=ln k)(Y:∀x∈nY n ln pt cnt,(1<=x.2/\x.2<=1000)/\DT p x.1):nM p n ln pt cnt:=by
 refine⟨h,hn,fun k F D=> ?_⟩
 have U:(lst (ln k) (pt k),cnt k)∈nY n ln pt cnt:=List.mem_iff_getElem?.2 ⟨k.toNat,by rw [nH,Int.toNat_of_nonneg F,if_pos D]⟩
 obtain⟨⟨h1,h2⟩,f,h3,Z⟩:=Y _ U
 have O:=h.m1
 obtain⟨J,I⟩:=(UT (W k F D) Oa).1 Z
 exact⟨h1,h2,Tl h3 J.symm fun i N i1=>I i N Oa⟩
theorem VS{p:cO}{n:Int}(h:nM p n ln pt cnt):∀x∈nY n ln pt cnt,(1<=x.2/\x.2<=1000)/\DT p x.1:=fun x I=>by
 obtain⟨j,D⟩:=List.mem_iff_getElem?.1 I
 rw [nH] at D
 split at D
 {
 injection D with D
 obtain⟨h1,J,F⟩:=h.2.2 j Oa (by assumption)
 rw [<-D]
 exact⟨⟨h1,J⟩,pt j,Tl F F.eq fun _ _ _=>rfl,by have:=F.eq;dsimp only;rw [this]⟩}
 · cases D
end Go.Proofs.YtpnamgfdakfccaaGreat
namespace Go.Proofs.YtpnamgfdakfccaaGreat
open Go Go.RowKit Go.Proofs.Gw
variable {j:Int}
theorem Zao{p:cO}{J:List Int}{s:Us}(D:p.Ok)(h:w_ p.m (p.bP+p.aV) (uG p) J s){b:List Int×Int}(F:b∈s)(O:0<=j)(N:j<p.m):0<=b.1.getD j.toNat 0/\b.1.getD j.toNat 0<=p.bP+p.aV:=by
 obtain⟨h2,Z,Y⟩:=h.ok _ F
 have I:=h.nn _ F
 have W:=MS I (sz:=uG p) (fun k U=>(Le D Oa Oa).1) (j:=j.toNat) Oa
 refine⟨?_,Oa⟩
 rw [List.getD_eq_getElem?_getD,List.getElem?_eq_getElem Oa]
 exact I _ (List.getElem_mem _)
theorem Kq(p:cO)(d:Of):∀n:Nat,jT (uG p) d n=ZD p d n
 |0=>rfl
 | n+1=>by
   have h1:ZD p d (n+1)=ZD p d n+d n*(p.L n+p.aV):=by
     have:=ZI (fun i=>d i*(p.L i+p.aV)) (i:=(n:Int)) Oa
     rw [show((n:Int)+1).toNat=n+1 by omega,Int.toNat_natCast] at this
     exact this
   rw [h1,jT,Kq p d n,Int.mul_comm]
theorem MP{a b A B:Int}(I:0<=a)(F:a<=A)(h:0<=b)(D:b<=B):0<=a*b/\a*b<=A*B:=
 ⟨Int.mul_nonneg I h,Int.mul_le_mul F D h Oa⟩
theorem Uf{p:cO}{n:Int}{ln cnt:Of}{pt:Og}(h:p.Ok)(hn:n<=1000)(D:∀x∈nY n ln pt cnt,(1<=x.2/\x.2<=1000)/\DT p x.1):nM p n ln pt cnt:=by
 refine Zcf h hn (fun k J I=> ?_) D
 obtain⟨_,f,O,N⟩:=D (lst (ln k) (pt k),cnt k) (List.mem_iff_getElem?.2 ⟨k.toNat,by rw [nH,Int.toNat_of_nonneg J,if_pos I]⟩)
 have F:=congrArg List.length N
 dsimp only at F
 rw [Y9,Y9] at F
 have:=h.m1
 omega
theorem nM.mk{p:cO}{n:Int}{ln cnt:Of}{pt:Og}(h:nM p n ln pt cnt)(n0:0<=n)(I:0<=j)(J:j<p.m):ZJ n pt cnt j=Aq j (nY n ln pt cnt):=
 ZjY n0 I fun k F D=>by have:=(h.2.2 k F D).2.2.eq;omega
theorem Y7{f g:List Int->Int}:∀{L:Us},(∀x∈L,0<=x.2)->(∀x∈L,f x.1<=g x.1)->ni f L<=ni g L
 | [],_,_=>Int.le_refl _
 | x::L,h,k=>by
   have h1:=Y7 (f:=f) (g:=g) (L:=L) (fun y D=>h y (by simp [D])) fun y D=>k y (by simp [D])
   have F:=Int.mul_le_mul_of_nonneg_right (k x (by simp)) (h x (by simp))
   simp only [ni];omega
theorem LC:∀{L:Us},(∀x∈L,1<=x.2)->(L.length:Int)<=ni (fun _=>1) L/\∀x∈L,x.2<=ni (fun _=>1) L
 | [],_=>⟨by simp [ni],by simp⟩
 | y::L,h=>by
   obtain⟨h1,F⟩:=LC (L:=L) fun x D=>h x (by simp [D])
   have I:=h y (by simp)
   simp only [ni]
   refine⟨by rw [List.length_cons];push_cast;omega,fun x D=> ?_⟩
   rcases List.mem_cons.1 D with e|e
   · rw [e];have:(0:Int)<=L.length:=Oa
     omega
   · have:=F x e;omega
theorem ZmA{p:cO}{W:List Int}{s:Us}(D:p.Ok)(h:w_ p.m (p.bP+p.aV) (uG p) W s){b:List Int×Int}(I:b∈s):DT p b.1:=by
 obtain⟨h2,h3,h4⟩:=h.ok _ I
 have h5:=h.nn _ I
 have hm:=D.m1
 have N:=_o (m:=p.m) h2
 have e:WH (uG p) b.1=ZD p (fun k=>b.1.getD k.toNat 0) p.m.toNat:=by
   rw [N,Kp _ _ Oa,Kq]
   refine Zh fun i F J=> ?_
   dsimp only
   rw [<-N]
 refine⟨fun k=>b.1.getD k.toNat 0,⟨D,rfl,fun i F J=> ?_,Oa⟩,N⟩
 obtain⟨U,g2⟩:=Zao D h I F J
 refine⟨U,?_⟩
 have h6:(b.1.getD i.toNat 0)*(1+p.aV)<=p.bP+p.aV:=by
   have Z:=D.all i F J
   unfold cO.each at Z
   have h7:(b.1.getD i.toNat 0)*(p.L i+p.aV)<=ZD p (fun k=>b.1.getD k.toNat 0) p.m.toNat:=Xm (f:=fun i=>b.1.getD i.toNat 0*(p.L i+p.aV)) F Oa fun k O k1=>by
     have hk:=D.all k O Oa
     unfold cO.each at hk
     exact Int.mul_nonneg (Zao D h I O Oa).1 (by have:=D.k1;omega)
   have h8:=Int.mul_le_mul_of_nonneg_left (show 1+p.aV<=p.L i+p.aV by omega) U
   omega
 have aa:=D.k1
 have Y:=D.s2
 refine Classical.byContradiction fun hc=> ?_
 have h9:=Int.mul_le_mul_of_nonneg_right (show(2001:Int)<=b.1.getD i.toNat 0 by omega) (show 0<=1+p.aV by omega)
 omega
def EW(j:Int):Of:=fun k=>if k=j then 1 else 0
theorem Ri{d:Of}{j:Int}(D:0<=j):∀n:Nat,jT (EW j) d n=if j<(n:Int) then d j else 0
 |0=>by rw [if_neg Oa];rfl
 | n+1=>by
   simp only [jT]
   rw [Ri D n]
   unfold EW
   by_cases h:(n:Int)=j
   · rw [if_neg Oa,if_pos h,if_pos Oa,h];omega
   {
   rw [if_neg h]
   by_cases h2:j<(n:Int)
   · rw [if_pos h2,if_pos Oa];omega
   · rw [if_neg h2,if_neg Oa];omega}
theorem ZgP{m:Int}{l:List Int}(F:l.length=m.toNat)(D:0<=j)(I:j<m):WH (EW j) l=l.getD j.toNat 0:=by
 have h:=_o (m:=m) F
 have h1:WH (EW j) l=WH (EW j) (lst m fun k=>l.getD k.toNat 0):=by rw [<-h]
 rw [h1,Kp _ _ Oa,Ri D,if_pos Oa]
theorem Zhw{p:cO}{d:Of}(D:p.Ok)(hd:∀k,0<=k->k<p.m->0<=d k){N:Us}(J:pX (RZ (YZ p.m (p.bP+p.aV) (uG p) (oJ d p.m 0))) N):
   (∀x∈N,1<=x.2/\DT p x.1)/\ni (fun _=>1) N<=jT (fun _=>1) d p.m.toNat/\∀j,0<=j->j<p.m->Aq j N=d j:=by
 have hm:=D.m1
 obtain⟨W,aa⟩:=Rk (d:=d) (m:=p.m) (i:=p.m) (c:=0) hd Oa Oa Oa (fun h=>Oa) fun _=>rfl
 have O:=SK D W
 have Y:∀x∈RZ (YZ p.m (p.bP+p.aV) (uG p) (oJ d p.m 0)),∃b∈YZ p.m (p.bP+p.aV) (uG p) (oJ d p.m 0),x=(b.1,1):=fun x F=>by
   unfold RZ at F
   obtain⟨b,I,rfl⟩:=List.mem_map.1 F
   exact⟨b,I,rfl⟩
 refine⟨fun x F=>⟨J.pos (fun y U=>by obtain⟨b,_,rfl⟩:=Y y U;exact Int.le_refl _) x F,?_⟩,?_,fun j Z j1=> ?_⟩
 {
 obtain⟨y,U,e⟩:=J.keys x F
 obtain⟨b,I,rfl⟩:=Y y U
 rw [<-e];exact ZmA (b:=b) D O I}
 {
 rw [J.ni,UG]
 have h1:=O.ln
 have h2:((YZ p.m (p.bP+p.aV) (uG p) (oJ d p.m 0)).map fun _=>(1:Int)).sum=(YZ p.m (p.bP+p.aV) (uG p) (oJ d p.m 0)).length:=by
   generalize YZ p.m (p.bP+p.aV) (uG p) (oJ d p.m 0)=l
   induction l with
   |nil=>rfl
   |cons a l ih=>rw [List.map_cons,List.sum_cons,ih,List.length_cons];push_cast;omega
 omega}
 {
 unfold Aq
 rw [J.ni,UG]
 have h1:=O.ct (EW j)
 rw [Kw _ _ Oa Oa hd,Ri Z,if_pos Oa] at h1
 have h2:((YZ p.m (p.bP+p.aV) (uG p) (oJ d p.m 0)).map fun b=>b.1.getD j.toNat 0)=(YZ p.m (p.bP+p.aV) (uG p) (oJ d p.m 0)).map fun b=>WH (EW j) b.1:=
   List.map_congr_left fun b I=>(ZgP (O.ok b I).1 Z j1).symm
 rw [h2,h1];omega}
end Go.Proofs.YtpnamgfdakfccaaGreat
namespace Go.Proofs.YtpnamgfdakfccaaGreat
open Go Go.RowKit Go.Proofs.Gw
variable {e:Int}
structure Dt (p:cO) (N:Us):Prop where
  pat:∀x∈N,1<=x.2/\DT p x.1
  few:ni (fun _=>1) N<=jT (fun _=>1) p.D p.m.toNat
  mks:∀j,0<=j->j<p.m->Aq j N=p.D j
theorem xQ.ex{p:cO}{N:Us}(D:p.Ok)(h:xQ p N e)(J:e=0):Dt p N:=by
 obtain⟨h1,U,O⟩:=Zhw D (fun k I F=>(RE D I F).1) (h.2.1 J)
 exact⟨h1,U,O⟩
theorem Zc5(f:List Int->Int):∀{N:Us},(∀x∈N,0<=x.2)->((U7 N).map f).sum=ni f N
 | [],_=>rfl
 | u::N,h=>by
   have h1:=Zc5 f (N:=N) fun x D=>h x (by simp [D])
   have I:=h u (by simp)
   unfold U7 at h1⊢
   rw [List.reverse_cons,List.flatMap_append,List.map_append,List.sum_append,h1]
   simp only [List.flatMap_cons,List.flatMap_nil,List.append_nil,List.map_replicate,ni]
   have F:∀n:Nat,(List.replicate n (f u.1)).sum=f u.1*n:=fun n=>by
     induction n with
     |zero=>simp
     |succ n ih=>rw [List.replicate_succ,List.sum_cons,ih];push_cast;rw [Int.mul_add];omega
   rw [F,Int.toNat_of_nonneg I];omega
theorem Zi6{N:Us}:∀a∈U7 N,∃x∈N,a=x.1:=fun a D=>by
 unfold U7 at D
 obtain⟨x,F,h⟩:=List.mem_flatMap.1 D
 exact⟨x,List.mem_reverse.1 F,(List.mem_replicate.1 h).2⟩
theorem LD{m:Int}{j:Int}(F:0<=j)(D:j<m):∀(h:List (List Int)),(∀a∈h,∃f:Of,(∀k,0<=k->k<m->0<=f k)/\a=lst m f)->0<=(h.map fun a=>a.getD j.toNat 0).sum
 | [],_=>by simp
 | a::h,ha=>by
   have h1:=LD F D h fun b I=>ha b (by simp [I])
   obtain⟨f,hf,rfl⟩:=ha a (by simp)
   have:=hf j F D
   rw [List.map_cons,List.sum_cons,XQ F D];omega
theorem TW{m:Int}:∀(h:List (List Int)) (M:Of) (L:Us),(∀a∈h,∃f:Of,(∀k,0<=k->k<m->0<=f k)/\a=lst m f)->(∀k,0<=k->k<m->0<=M k)->
   (∃N:Of,(h.foldl WZ (lst m M,L)).1=lst m N/\∀j,0<=j->j<m->N j=max 0 (M j-(h.map fun a=>a.getD j.toNat 0).sum)/\Aq j (h.foldl WZ (lst m M,L)).2=Aq j L+(h.map fun a=>a.getD j.toNat 0).sum-(M j-N j))/\
   ∀x∈(h.foldl WZ (lst m M,L)).2,x∈L\/∃(f g:Of),lst m f∈h/\x=(lst m g,1)/\(∀k,0<=k->k<m->0<=g k/\g k<=f k)/\∃k,0<=k/\k<m/\0<g k
 | [],M,L,_,hM=>⟨⟨M,rfl,fun j F D=>by have:=hM j F D;simp only [List.foldl_nil,List.map_nil,List.sum_nil];omega⟩,fun x W=> .inl W⟩
 | a::h,M,L,ha,hM=>by
   obtain⟨f,hf,rfl⟩:=ha a (by simp)
   have e1:tM (lst m f) (lst m M)=lst m fun k=>M k-min (f k) (M k):=XY _ _ _ _
   have e2:tA (lst m f) (lst m M)=lst m fun k=>f k-min (f k) (M k):=XY _ _ _ _
   have Y:∀k,0<=k->k<m->0<=M k-min (f k) (M k):=fun k U O=>Oa
   have J:∀a∈h,∃f:Of,(∀k,0<=k->k<m->0<=f k)/\a=lst m f:=fun b hb=>ha b (by simp [hb])
   rw [List.foldl_cons]
   by_cases hn:(lst m fun k=>f k-min (f k) (M k)).any (fun x=>decide (0<x))=true
   {
   have e:WZ (lst m M,L) (lst m f)=(lst m fun k=>M k-min (f k) (M k),L++ [(lst m fun k=>f k-min (f k) (M k),1)]):=by
     unfold WZ;dsimp only;rw [e1,e2,if_pos hn]
   rw [e]
   obtain⟨⟨N,h1,h2⟩,h3⟩:=TW h (fun k=>M k-min (f k) (M k)) (L++ [(lst m fun k=>f k-min (f k) (M k),1)]) J Y
   refine⟨⟨N,h1,fun j F D=> ?_⟩,fun x W=> ?_⟩
   {
   obtain⟨g1,g2⟩:=h2 j F D
   rw [List.map_cons,List.sum_cons,XQ F D]
   have g3:Aq j (L++ [(lst m fun k=>f k-min (f k) (M k),1)])=Aq j L+(f j-min (f j) (M j)):=by
     unfold Aq;rw [WX];simp only [ni];rw [XQ F D];omega
   rw [g3] at g2
   have:=hf j F D;have:=hM j F D;have:=LD F D h J
   omega}
   {
   rcases h3 x W with I|⟨f',g,I,Z⟩
   · rcases List.mem_append.1 I with I|I
     · exact .inl I
     · obtain⟨k,U,O,hk⟩:=UB.1 hn
       exact .inr ⟨f,_,by simp,by simpa using I,fun k U O=>by have:=hf k U O;have:=hM k U O;omega,k,U,O,hk⟩
   · exact .inr ⟨f',g,by simp [I],Z⟩}}
   {
   have e:WZ (lst m M,L) (lst m f)=(lst m fun k=>M k-min (f k) (M k),L):=by
     unfold WZ;dsimp only;rw [e1,e2,if_neg hn]
   rw [e]
   obtain⟨⟨N,h1,h2⟩,h3⟩:=TW h (fun k=>M k-min (f k) (M k)) L J Y
   refine⟨⟨N,h1,fun j F D=> ?_⟩,fun x W=> ?_⟩
   {
   obtain⟨g1,g2⟩:=h2 j F D
   rw [List.map_cons,List.sum_cons,XQ F D]
   have hz:¬0<f j-min (f j) (M j):=fun hh=>hn (UB.2 ⟨j,F,D,hh⟩)
   have:=hf j F D;have:=hM j F D;have:=LD F D h J
   omega}
   · rcases h3 x W with I|⟨f',g,I,Z⟩
     · exact .inl I
     · exact .inr ⟨f',g,by simp [I],Z⟩}
theorem Kr(d:Of):∀n:Nat,jT (fun k=>d k) (fun _=>1) n=jT (fun _=>1) d n
 |0=>rfl
 |n+1=>by simp only [jT];rw [Kr d n];omega
theorem ZbJ(f g:List Int->Int):∀L:Us,ni (fun l=>f l+g l) L=ni f L+ni g L
 | []=>rfl
 |x::L=>by simp only [ni];rw [ZbJ f g L,Int.add_mul];omega
theorem R6:∀L:Us,ni (fun _=>0) L=0
 | []=>rfl
 |x::L=>by simp only [ni];rw [R6 L];omega
theorem Y_(L:Us):∀n:Nat,ni (fun l=>jT (fun k=>l.getD k.toNat 0) (fun _=>1) n) L=jT (fun k=>Aq k L) (fun _=>1) n
 |0=>R6 L
 | n+1=>by
   have h:=ZbJ (fun l=>jT (fun k=>l.getD k.toNat 0) (fun _=>1) n) (fun l=>l.getD n 0) L
   simp only [jT]
   rw [Y_ L n] at h
   have e:(fun l:List Int=>jT (fun k=>l.getD k.toNat 0) (fun _=>1) n+l.getD (n:Int).toNat 0*1)=fun l=>jT (fun k=>l.getD k.toNat 0) (fun _=>1) n+l.getD n 0:=by
     funext l;rw [Int.toNat_natCast];omega
   rw [e,h]
   unfold Aq
   rw [Int.toNat_natCast];omega
theorem Zhx{p:cO}{n:Int}{f g:Of}(h:nN p n f)(hn:n=p.m)(I:∀k,0<=k->k<p.m->0<=g k/\g k<=f k):nN p p.m g:=by
 refine⟨h.ok,rfl,fun i D F=>by have:=h.all i D F;have:=I i D F;omega,Int.le_trans (Yb fun i D F=> ?_) h.used⟩
 have N:=h.ok.m1
 have h1:=I i D Oa
 have J:=h.ok.all i D Oa
 unfold cO.each at J
 exact Int.mul_le_mul_of_nonneg_right h1.2 (by have:=h.ok.k1;omega)
theorem AB.ex{p:cO}{u:Int}{ln cnt:Of}{pt:Og}{out:Us}(h:AB p u ln pt cnt out e)(he:e=0)(u0:0<=u):Dt p out:=by
 rcases h with⟨_,_,h⟩|⟨_,_,_,h⟩|⟨h1,h2,_,N,hN,hO⟩
 · omega
 · omega
 {
 have W:=h1.1
 have hm:=W.m1
 have aw:=fun x D=>hN.pos (ZgQ h1) x D
 have fW:∀x∈N,DT p x.1:=fun x D=>by
   obtain⟨y,U,ey⟩:=hN.keys x D
   rw [<-ey];exact(VS h1 y U).2
 have gk:∀a∈U7 N,DT p a:=fun a ha=>by
   obtain⟨x,D,rfl⟩:=Zi6 a ha
   exact fW x D
 have fD:∀j,0<=j->j<p.m->ZJ u pt cnt j=((U7 N).map fun a=>a.getD j.toNat 0).sum:=fun j O J=>by
   rw [Zc5 _ fun x D=>by have:=aw x D;omega,h1.mk u0 O J]
   exact(hN.ni _).symm
 obtain⟨⟨M',_,hc⟩,xY⟩:=TW (m:=p.m) (U7 N) (fun j=>ZJ u pt cnt j-p.D j) [] (fun a ha=>by
   obtain⟨f,hf,rfl⟩:=gk a ha
   exact⟨f,fun k F I=>(hf.all k F I).1,rfl⟩) fun k F I=>by have:=h2 k F I;omega
 have Z:∀x∈(UI (lst p.m fun j=>ZJ u pt cnt j-p.D j) (U7 N)).2,1<=x.2/\DT p x.1/\(∀k,0<=k->k<p.m->0<=x.1.getD k.toNat 0)/\∃k,0<=k/\k<p.m/\0<x.1.getD k.toNat 0:=fun x D=>by
   rcases xY x D with h|⟨f,g,hf,rfl,hg,k,F,I,hk⟩
   · cases h
   {
   obtain⟨f',aa,ef⟩:=gk _ hf
   have e1:=((UT Oa Oa).1 ef).2
   refine⟨Int.le_refl _,⟨g,Zhx aa rfl fun k F I=>by have:=hg k F I;rw [<-e1 k F I];exact this,rfl⟩,fun k F I=> ?_,k,F,I,?_⟩
   · dsimp only;rw [XQ F I];exact(hg k F I).1
   · dsimp only;rw [XQ F I];exact hk}
 have Y:∀j,0<=j->j<p.m->Aq j (UI (lst p.m fun j=>ZJ u pt cnt j-p.D j) (U7 N)).2=p.D j:=fun j O J=>by
   obtain⟨g1,g2⟩:=hc j O J
   rw [<-fD j O J] at g1 g2
   have g3:Aq j ([]:Us)=0:=rfl
   have hd:=(RE W O J).1
   unfold UI
   have:=h2 j O J
   omega
 refine⟨fun x D=>⟨hO.pos (fun y U=>(Z y U).1) x D,?_⟩,?_,fun j O J=> ?_⟩
 · obtain⟨y,U,ey⟩:=hO.keys x D
   rw [<-ey];exact(Z y U).2.1
 {
 rw [hO.ni]
 refine Int.le_trans (Y7 (g:=fun l=>jT (fun k=>l.getD k.toNat 0) (fun _=>1) p.m.toNat) (fun x D=>by have:=(Z x D).1;omega) fun x D=> ?_) ?_
 {
 obtain⟨_,_,h3,k,F,I,hk⟩:=Z x D
 have h4:=Vs (d:=fun _=>1) (f:=fun k=>x.1.getD k.toNat 0) (i:=(k+1).toNat) (n:=p.m.toNat) Oa fun q hq=>by have:=h3 q Oa Oa;omega
 rw [YW _ _ F] at h4
 have h5:=Vs (d:=fun _=>1) (f:=fun k=>x.1.getD k.toNat 0) (i:=0) (n:=k.toNat) Oa fun q hq=>by have:=h3 q Oa Oa;omega
 have h6:jT (fun k=>x.1.getD k.toNat 0) (fun _=>1) 0=0:=rfl
 omega}
 · rw [Y_,<-Kr]
   refine Int.le_of_eq (VQ fun k hk=>⟨Y k Oa Oa,rfl⟩)}
 · unfold Aq;rw [hO.ni];exact Y j O J}
theorem MO(pt:Og)(cnt:Of)(j:Int):∀n:Nat,Wg pt cnt n j=jT (fun k=>pt k j) cnt n
 |0=>rfl
 | n+1=>by
   have:=ZI (fun i=>pt i j*cnt i) (i:=(n:Int)) Oa
   rw [show((n:Int)+1).toNat=n+1 by omega,Int.toNat_natCast] at this
   unfold Wg
   rw [this]
   have h:=MO pt cnt j n
   unfold Wg at h
   rw [h];rfl
theorem Dt.sound{p:cO}{n:Int}{ln cnt:Of}{pt:Og}(h:Dt p (nY n ln pt cnt))(F:p.Ok)(ht:jT (fun _=>1) p.D p.m.toNat<=1000)(n0:0<=n):CV p n ln pt cnt/\∀j,0<=j->j<p.m->Wg pt cnt n.toNat j=p.D j:=by
 obtain⟨h1,W⟩:=LC (L:=nY n ln pt cnt) fun x D=>(h.pat x D).1
 have h3:=h.few
 rw [rY] at h1
 have N:nM p n ln pt cnt:=Uf F Oa fun x D=>⟨⟨(h.pat x D).1,by have:=W x D;omega⟩,(h.pat x D).2⟩
 refine⟨⟨F,Oa,fun i U O=> ?_⟩,fun j J I=> ?_⟩
 {
 obtain⟨g1,Z,Y⟩:=N.2.2 i U O
 exact⟨Y,g1,Z⟩}
 {
 rw [MO]
 have:=N.mk n0 J I
 unfold ZJ at this
 rw [this];exact h.mks j J I}
theorem xZ.ex{p:cO}{u:Int}{ml:Of}{mf:Og}{s:So}{out:Us}{e:Int}(h:xZ p u ml mf s out e)(D:e=0):Dt p out:=by
 rcases h with⟨h,_⟩|⟨n1,EC,Dw,zd,n2,tV,tN,qm,hw,n10,n20,hN,hT⟩
 · exact absurd D h
 · exact hT.ex D Oa
theorem G_.ex{p:cO}{u:Int}{ml:Of}{mf:Og}{s:So}{out:Us}{e:Int}(h:G_ p u ml mf s out e)(D:e=0):Dt p out:=by
 rcases h with⟨h,_⟩|⟨n1,EC,Dw,zd,t,n,ln,pt,cnt,hw,n10,n0,hp,_,hU,hT⟩
 · exact absurd D h
 · exact hT.ex D n0
end Go.Proofs.YtpnamgfdakfccaaGreat
namespace Go.Proofs.YtpnamgfdakfccaaGreat
open Go Go.RowKit Go.Proofs.Gw
variable {ml:Of} {mf:Og}
theorem Iw:Zc Om 14=true:=Oc
theorem OE:Zc Om 16=true:=Oc
theorem Zql:Zc Om 37=true:=Oc
theorem ZpU:ZN Om 94=some (.nilFunc,1,8):=Oc
theorem Zpt:ZF Om 94=true:=Oc
theorem Lc:Zy Om 95=some (94,1):=Oc
def Uh(b x:Us)(e:Int):Us:=if e=0/\ni (fun _=>1) x<ni (fun _=>1) b then x else b
def GI(i:Int)(p:cO)(u:Int)(ml:Of)(mf:Og)(s:So)(out:Us)(e:Int):Prop:=if i=0 then xZ p u ml mf s out e else G_ p u ml mf s out e
def CZ(p:cO)(u:Int)(ml:Of)(mf:Og)(s:So)(l:Us)(i:Int)(cur:Us):Prop:=
  (i=0/\cur=l)\/(i=1/\∃x e,xZ p u ml mf s x e/\cur=Uh l x e)\/(i=2/\∃x e y f,xZ p u ml mf s x e/\G_ p u ml mf s y f/\cur=Uh (Uh l x e) y f)
theorem CZ.next{p:cO}{u:Int}{s:So}{l cur x:Us}{i e:Int}(h:CZ p u ml mf s l i cur)(F:i<2)(D:GI i p u ml mf s x e):CZ p u ml mf s l (i+1) (Uh cur x e):=by
 unfold GI at D
 rcases h with⟨rfl,rfl⟩|⟨rfl,y,f,h1,rfl⟩|⟨h,_⟩
 · exact .inr (.inl ⟨rfl,x,e,by simpa using D,rfl⟩)
 · exact .inr (.inr ⟨rfl,y,f,x,e,h1,by simpa using D,rfl⟩)
 · omega
def yh(p:cO)(out:Us)(e:Int):Prop:=
  (e≠0/\xQ p [] e/\out= [])\/(e=0/\∃l,xQ p l 0/\∃u ml mf s ec,0<=u/\Bq p u ml mf s ec/\((ec≠0/\out=l)\/(ec=0/\CZ p u ml mf s l 2 out)))
theorem Bq.n60{p:cO}{u:Int}{s:So}{e:Int}(h:Bq p u ml mf s e)(D:e=0)(F:0<=u):u<=60/\s.n<=60:=by
 have I:=(h.okS F D).1.n
 rcases h with⟨_,_,_,h⟩|⟨_,h,_⟩|⟨_,_,_,h1,_⟩
 · omega
 · exact absurd D h
 · have:=h1.few.2.1;omega
theorem Zne(i:Int):Zc Om (if i=0 then 38 else 39)=true:=by split<;>kernel_rfl
theorem Zqx(i:Int){vL vD:Value}{p:cO}{N:Value}{u:Int}{W:Ov}{J I:Value}{s:So}(w0:World)(h:oO w0 vL vD p)(hM:sO w0 N u W ml mf)(U:Row w0 J 1 s.n (ints s.X))(O:Row w0 I 1 s.m (ints s.Y))(F:s.n<=1000):
   Calls Om (if i=0 then 38 else 39) [.agg #[vL,vD,.int Oi p.bP,.int Oi p.aV],.agg #[N,J,I,.int Oi s.val,.int Oi s.den]].toArray w0 fun e w=>∃v,e= .returned v/\∃r n pv ln pt cnt e,v= .tuple #[r,.int Oi e]/\GI i p u ml mf s (nY n ln pt cnt) e/\(∀k,0<=k->k<n->1<=cnt k/\cnt k<=1000000000)/\n<=1000000/\iK r n/\Sat w0 w [.own r 2 97 n (Ze pv cnt),.sem (Frame.rows 3 n pv ln pt)]:=by
 by_cases hi:i=0
 {
 rw [if_pos hi]
 refine(ZoT w0 h hM U O F).mono fun e w D=> ?_
 unfold GI;simp only [if_pos hi];exact D}
 {
 rw [if_neg hi]
 refine(Zre w0 h hM U O F).mono fun e w D=> ?_
 unfold GI;simp only [if_neg hi];exact D}
theorem PW{vL vD:Value}{p:cO}(w0:World)(h:oO w0 vL vD p):
   Calls Om 13 [.agg #[vL,vD,.int Oi p.bP,.int Oi p.aV]].toArray w0 fun e w=>∃v,e= .returned v/\∃r n pv ln pt cnt e,v= .tuple #[r,.int Oi e]/\yh p (nY n ln pt cnt) e/\(∀k,0<=k->k<n->1<=cnt k/\cnt k<=1000000000)/\n<=1000000/\iK r n/\Sat w0 w [.own r 2 97 n (Ze pv cnt),.sem (Frame.rows 3 n pv ln pt)]:=by
 obtain⟨hm,ad,hd,hd1,hs,hk⟩:=h.Oq
 refine iE Tryz.func13 Tryz.ntmps13 fun w D=> ?_
 refine fQ<|iG (nS (cs:= [_,_,_,_]) D) ?_;rintro _ w ⟨g1,rfl,D⟩
 refine(On)<|iT<|(zV (lH 0 iM D))<|iJ (xc0 Zql) (ZoS (p:=p) w (h.below D.below)) ?_;rintro _ w ⟨ek,aP,eI,b9,cR,cT,cS,rfl,y9,bs,jI,aS,N⟩
 replace D:=(D.comp N).n3;clear N
 have jo:=fun k (J:0<=k) (I:k<aP)=>D.iw 2 rfl J I
 refine uK ?_
 refine l9<|(On)<|ig<|Zf ?_ ?_<;>intro hc
 {
 refine fQ<|(Oo)<|j_<|rD ⟨_,rfl,?_⟩
 exact⟨_,0,fun _=>undef,fun _=>0,fun _ _=>0,fun _=>0,_,rfl,.inl ⟨by omega,(by rw [<-y9.2.2 Oa];exact y9),rfl⟩,fun k J I=>Oa,Oa,d_,((D.sub (.cons _ (.cons _ (.cons _ .slnil)))).fU 2 97 (Ze (fun _=>undef) (fun _=>0))).iF 3 (fun _=>undef) (fun _=>0) (fun _ _=>0)⟩}
 refine ZX<|(zV (lH 0 iM D))<|iJ (xc0 OE) (Zc2 (p:=p) w (h.below D.below)) ?_;rintro _ w ⟨z7,zY,aI,z6,zg,zi,zj,xR,d7,rfl,x7,xx,zF,xU,N⟩
 replace D:=(D.comp N).n7;clear N
 have dz:=fun k (J:0<=k) (I:k<zg)=>D.iw 4 rfl J I
 refine(Oo)<|iG (oh (cs:= [_,_,_,_,_]) J7 D) ?_;rintro _ w ⟨g2,rfl,D⟩
 refine lJ (nD 7 Wl D (hd:=(Za xx.one (Za zF.one (Za xU.one (Za rfl (Za rfl Zj))))))) ?_;clear D;rintro w D
 refine(zP)<|l9<|(On)<|ig<|Zf ?_ ?_<;>intro hc
 {
 refine fQ<|(Oo)<|j_<|rD ⟨_,rfl,?_⟩
 exact⟨_,_,_,_,_,_,0,rfl,.inr ⟨rfl,_,(by rw [show(0:Int)=cS by omega];exact y9),_,_,_,_,_,xx.n0,x7,.inl ⟨by omega,rfl⟩⟩,fun k J I=>by have:=bs k J I;omega,Oa,aS,D.pk [1,2]⟩}
 refine XJ<|iG (pO (n:=2) (len:=2) (pv:= [(0,.func (.func 38) #[] #[]),(1,.func (.func 39) #[] #[])]) (cs:= [.func (.func 38) #[] #[],.func (.func 39) #[] #[]]) (c:=(fun k=>Value.func (.func (if k=0 then 38 else 39)) #[] #[])) Lc ZpU D) ?_;rintro v1 w ⟨D,aa⟩
 refine(zV (iW Lc aa))<|(zP)<|nI<|ny (fun mm M w=>∃(W:Int) (wv:Ov) (lC:Of) (gC:Og) (cC:Of) (i:Int) (wC:Value),mm=((2-i).toNat)/\(0<=i)/\(i<=2)/\(∀k,0<=k->k<W->1<=cC k/\cC k<=1000000000)/\(W<=1000000)/\(CZ p zg zi zj xR (nY aP b9 cR cT) i (nY W lC gC cC))/\(iK wC W)/\M= [(1,Or g1),(2,Oh),(3,.int Oi 0),(4,wC),(6,Or g2),(27,v1),(28,.int Oi 2),(29,.int Oi i)]/\Sat w0 w [.blk g1 [vL,vD,.int Oi p.bP,.int Oi p.aV],.own wC 2 97 W (Ze wv cC),.sem (Frame.rows 3 W wv lC gC),.own z7 1 22 zg zY,.sem (Frame.rows 3 zg zY zi zj),.own aI 1 3 xR.n (ints xR.X),.own z6 1 3 xR.m (ints xR.Y),.blk g2 [z7,aI,z6,.int Oi xR.val,.int Oi xR.den],.own v1 1 94 2 (fun k=>Value.func (.func (if k=0 then 38 else 39)) #[] #[])]) ⟨aP,eI,b9,cR,cT,0,ek,rfl,Oa,Oa,?_,Oa,?_,?_,rfl,D⟩ ?_
 {
 intro k J I;have:=bs k J I;omega}
 {
 exact .inl ⟨rfl,rfl⟩}
 {
 exact aS}
 clear D w
 rintro mm M w ⟨W,wv,lC,gC,cC,i,wC,rfl,i0,i1,U,ab,Z,O,rfl,D⟩
 have q9:=fun k (J:0<=k) (I:k<W)=>D.iw 2 rfl J I
 obtain⟨gY,kB⟩:=x7.n60 Oa xx.n0
 refine fQ<|(zP)<|nG<|Zf ?_ ?_<;>intro hc
 {
 refine oC<|(zV (iy (kk:=i) Lc aa))<|(zV (iR (u:= .func (.func (if i=0 then 38 else 39)) #[] #[]) Zpt (D.f_ 8 rfl)))<|(zP)<|iT<|(zP)<|(zV (lH 0 iM D))<|(zV (lH 7 Wl D))<|iJ (xc0 (Zne i)) (Zqx i (p:=p) (u:=zg) (ml:=zi) (mf:=zj) (s:=xR) w (h.below D.below) (⟨(D.f_ 3 rfl),fun k J I=>D.lI 4 rfl J I,fun k J I=>D.lV 4 rfl J I⟩:sO _ z7 zg zY zi zj) (D.f_ 5 rfl) (D.f_ 6 rfl) Oa) ?_;rintro _ w ⟨bU,ac,aN,aR,bC,bE,kY,rfl,zM,zt,kL,yW,N⟩
 replace D:=(D.comp N).n11;clear N
 have jj:=fun k (J:0<=k) (I:k<ac)=>D.iw 10 rfl J I
 refine uK ?_
 refine iT<|(Oo)<|lX 42 ?_ ?_<;>intro hc
 {
 refine(zP)<|iJ (xc0 Iw) (TN (u:=ac) (pv:=aN) (ln:=aR) (pt:=bC) (cnt:=bE) w (⟨(D.f_ 9 rfl),fun k J I=>D.lI 10 rfl J I,fun k J I=>D.lV 10 rfl J I⟩:tq _ bU ac aN aR bC bE) Oa (fun k J I=>by first|(have h8:=U k J I;omega)|(have h8:=zt k J I;omega))) ?_;rintro _ w ⟨rfl,N⟩
 replace D:=D.cmp N;clear N
 refine(zP)<|iJ (xc0 Iw) (TN (u:=W) (pv:=wv) (ln:=lC) (pt:=gC) (cnt:=cC) w (⟨(D.f_ 1 rfl),fun k J I=>D.lI 2 rfl J I,fun k J I=>D.lV 2 rfl J I⟩:tq _ wC W wv lC gC cC) Oa (fun k J I=>by first|(have h8:=U k J I;omega)|(have h8:=zt k J I;omega))) ?_;rintro _ w ⟨rfl,N⟩
 replace D:=D.cmp N;clear N
 refine(On)<|ig<|Zf ?_ ?_<;>intro hc
 {
 refine lG<|(On)<|nT<|(zV (Zg (r:=i+1)))<|(zP)<|iq<|jm ⟨ac,aN,aR,bC,bE,i+1,bU,rfl,Oa,Oa,?_,Oa,?_,?_,rfl,D.pk [0,9,10,3,4,5,6,7,8]⟩
 {
 first|exact U|exact zt}
 {
 have F:=Z.next Oa zM
 unfold Uh at F
 rw [Ya _ yW.n0,Ya _ O.n0] at F
 first|(rw [if_pos ⟨by omega,by assumption⟩] at F;exact F)|(rw [if_neg (by first|(intro Y;exact absurd Y.1 Oa)|(intro Y;exact absurd Y.2 (by assumption))|(rintro⟨q1,q2⟩;omega))] at F;exact F)}
 {
 exact yW}}
 refine rU<|(zV (Zg (r:=i+1)))<|(zP)<|iq<|jm ⟨W,wv,lC,gC,cC,i+1,wC,rfl,Oa,Oa,?_,Oa,?_,?_,rfl,D.pk [0,1,2,3,4,5,6,7,8]⟩
 {
 first|exact U|exact zt}
 {
 have F:=Z.next Oa zM
 unfold Uh at F
 rw [Ya _ yW.n0,Ya _ O.n0] at F
 first|(rw [if_pos ⟨by omega,by assumption⟩] at F;exact F)|(rw [if_neg (by first|(intro Y;exact absurd Y.1 Oa)|(intro Y;exact absurd Y.2 (by assumption))|(rintro⟨q1,q2⟩;omega))] at F;exact F)}
 {
 exact O}}
 iterate 5 refine oq ?_
 refine(zP)<|ig<|uD<|nX<|ng<|iP<|lG ?_
 refine(zV (Zg (r:=i+1)))<|(zP)<|iq<|jm ⟨W,wv,lC,gC,cC,i+1,wC,rfl,Oa,Oa,?_,Oa,?_,?_,rfl,D.pk [0,1,2,3,4,5,6,7,8]⟩
 {
 first|exact U|exact zt}
 {
 have F:=Z.next Oa zM
 unfold Uh at F
 rw [Ya _ yW.n0,Ya _ O.n0] at F
 first|(rw [if_pos ⟨by omega,by assumption⟩] at F;exact F)|(rw [if_neg (by first|(intro Y;exact absurd Y.1 Oa)|(intro Y;exact absurd Y.2 (by assumption))|(rintro⟨q1,q2⟩;omega))] at F;exact F)}
 {
 exact O}}
 refine oM<|(Oo)<|jk<|rD ⟨_,rfl,?_⟩
 exact⟨_,_,_,_,_,_,0,rfl,.inr ⟨rfl,_,(by rw [show(0:Int)=cS by omega];exact y9),_,_,_,_,_,xx.n0,x7,.inr ⟨by omega,by rw [show(2:Int)=i by omega];exact Z⟩⟩,U,Oa,O,D.pk [1,2]⟩
end Go.Proofs.YtpnamgfdakfccaaGreat
namespace Go.Proofs.YtpnamgfdakfccaaGreat
open Go Go.RowKit Go.Proofs.Gw
theorem _T{p:cO}{b x:Us}{e:Int}(F:Dt p b)(D:e=0->Dt p x):Dt p (Uh b x e):=by
 unfold Uh
 by_cases h:e=0/\ni (fun _=>1) x<ni (fun _=>1) b
 · rw [if_pos h];exact D h.1
 · rw [if_neg h];exact F
variable {y:Of} {vD vy:Value}
theorem Zod:Zc Om 144=true:=Oc
theorem Zqm:Zc Om 36=true:=Oc
theorem Zqb:Zc Om 73=true:=Oc
theorem Zqa:Zc Om 74=true:=Oc
theorem r_:Zw Om 43 0=some 0:=Oc
theorem uj:Zw Om 43 1=some 1:=Oc
theorem oI:ZC Om 43=some 2:=Oc
def out(n:Int):Prop:=n<0\/1073741824<n
theorem ZqE(n:Int)(w0:World):
   Calls Om 144 [.int Oi n].toArray w0 fun e w=>∃v,e= .returned v/\v=B (out n)/\Sat w0 w []:=by
 refine iE Tryz.func144 Tryz.ntmps144 fun w h=> ?_
 refine fQ<|(zP)<|iT<|(Oo)<|lX 5 ?_ ?_<;>intro hc
 {
 refine(zO)<|(zO)<|(On)<|jk<|Oj ?_
 exact⟨Yk (by unfold out;omega),h⟩}
 refine qE ?_
 refine jk<|Oj ?_
 exact⟨Zm (by unfold out;omega),h⟩
theorem Zk1{s:Value}{n:Int}{f:Of}(w0:World)(h:Row w0 s 1 n (ints f)):
   Calls Om 147 [s,.func (.func 144) #[] #[]].toArray w0 fun e w=>∃v,e= .returned v/\∃r:Int,v= .int Oi r/\((r= -1/\∀k,0<=k->k<n->¬out (f k))\/(0<=r/\r<n/\out (f r)))/\Sat w0 w []:=by
 have hn:=h.fP.n0;have W:=h.fP.n1
 refine iE Tryz.func147 Tryz.ntmps147 fun w D=> ?_
 refine fQ<|(zP)<|l9<|(zP)<|(zV (iW Zb h.fP))<|(zP)<|nI<|ny (fun U M w=>∃(i:Int),U=((n-i).toNat)/\(0<=i)/\(i<=n)/\(∀k,0<=k->k<i->¬out (f k))/\M= [(0,s),(1,.func (.func 144) #[] #[]),(7,.int Oi n),(8,.int Oi i)]/\Sat w0 w []) ⟨0,rfl,Oa,Oa,?_,rfl,D⟩ ?_
 {
 intro k N h1;omega}
 clear D w
 rintro U M w ⟨i,rfl,N,h1,O,rfl,D⟩
 refine fQ<|(zP)<|nG<|Zf ?_ ?_<;>intro hc
 {
 refine oC<|(On)<|iT<|(Oo)<|(zV (iy (kk:=i) Zb h.fP))<|(zV (iR (u:= .int Oi (f i)) dw (h.below D.below)))<|iJ (xc0 Zod) (ZqE (f i) w) ?_;rintro _ w ⟨rfl,F⟩
 replace D:=D.cmp F;clear F
 refine ig<|Zf ?_ ?_<;>intro hc
 {
 refine fQ<|(On)<|sG<|Oj ?_
 exact⟨i,rfl,.inr ⟨by omega,Oa,‹out _›⟩,D⟩}
 refine rU<|(zV (Zg (r:=i+1)))<|(zP)<|iq<|jm ⟨i+1,rfl,Oa,Oa,?_,rfl,D⟩
 {
 intro k J Y;rcases Int.lt_or_eq_of_le (show k<=i by omega) with I|I;exact O k J I;rw [I];assumption}}
 refine oM<|(zP)<|jk<|Oj ?_
 exact⟨-1,rfl,.inl ⟨rfl,fun k N h1=>O k N Oa⟩,D⟩
theorem Zlb{s:Value}{n:Int}{f:Of}(w0:World)(h:Row w0 s 1 n (ints f)):
   Calls Om 90 [s,.func (.func 144) #[] #[]].toArray w0 fun e w=>∃v,e= .returned v/\v=B (∃k,0<=k/\k<n/\out (f k))/\Sat w0 w []:=by
 refine iE Tryz.func90 Tryz.ntmps90 fun w F=> ?_
 refine fQ<|(zP)<|iT<|(On)<|iJ (xc0 WP) (Zk1 w (h.below F.below)) ?_;rintro _ w ⟨U,rfl,I,D⟩
 replace F:=F.cmp D;clear D
 refine(On)<|jk<|Oj ?_
 exact⟨Zm (by
  rcases I with⟨h1,h2⟩|⟨h1,h2,h3⟩
  · exact⟨fun h=>Oa,fun⟨k,O,N,J⟩=>absurd J (h2 k O N)⟩
  · exact⟨fun _=>⟨_,h1,h2,h3⟩,fun _=>h1⟩),F⟩
theorem ZiX{n q:Int}(w0:World)(h:Row w0 vy 1 n (ints y))(W: -9223372036854775808<=q/\q<=9223372036854775807):
   Calls Om 73 [.agg #[vy,.int Oi q]].toArray w0 fun e w=>∃v,e= .returned v/\v=B (pI n y q)/\Sat w0 w []:=by
 refine iE Tryz.func73 Tryz.ntmps73 fun w D=> ?_
 refine fQ<|iG (nS (cs:= [_,_]) D) ?_;rintro _ w ⟨Y,rfl,D⟩
 refine(zP)<|iT<|(zV (h_ 1 uj))<|(zV (g_ 0 dw D))<|(On)<|lX 6 ?_ ?_<;>intro hc
 {
 refine(zV (h_ 1 uj))<|(zV (g_ 0 dw D))<|(Oo)<|lX 11 ?_ ?_<;>intro hc
 {
 refine(zV (h_ 0 r_))<|(zV (g_ 0 dV D))<|iJ (xc0 Ux) (Zlb w (h.below D.below)) ?_;rintro _ w ⟨rfl,F⟩
 replace D:=D.cmp F;clear F
 refine(Oo)<|jk<|Oj ?_
 exact⟨Zm (by constructor;intro N;exact⟨by omega,Oa,fun k h1 I=>by have:¬out (y k):=fun J=>N ⟨k,h1,I,J⟩;unfold out at this;omega⟩;rintro⟨h1,I,O⟩ ⟨k,N,J,U⟩;have:=O k N J;unfold out at U;omega),D.nl⟩}
 iterate 4 refine oq ?_
 refine(On)<|jk<|Oj ?_
 exact⟨Zi (by intro h;obtain⟨h1,I,O⟩:=h;omega),D.nl⟩}
 iterate 3 refine oq ?_
 refine zs2 ?_
 iterate 4 refine oq ?_
 refine(On)<|jk<|Oj ?_
 exact⟨Zi (by intro h;obtain⟨h1,I,O⟩:=h;omega),D.nl⟩
theorem Zgd{vL:Value}{p:cO}{n:Int}(w0:World)(h:oO w0 vL vD p)(O:p.Ok)(hY:Row w0 vy 1 n (ints y))(hn:n=p.m)(hy:V2 p y):
   Calls Om 74 [.agg #[vL,vD,.int Oi p.bP,.int Oi p.aV],vy].toArray w0 fun e w=>∃v,e= .returned v/\v= .int Oi (VK p y)/\Sat w0 w []:=by
 subst hn;have hm:=O.m1;have ag:=O.m2;have hd:=O.d;have af:=O.s1;have ae:=O.s2;have ai:=O.k1;have ah:=O.k2
 refine iE Tryz.func74 Tryz.ntmps74 fun w D=> ?_
 refine fQ<|iG (nS (cs:= [_,_,_,_]) D) ?_;rintro _ w ⟨Z,rfl,D⟩
 refine(zP)<|iT<|(zV (h_ 2 o_))<|(zV (g_ 0 dw D))<|(zV (h_ 3 nZ))<|(zV (g_ 0 dw D))<|(zV (Zg (r:=p.bP+p.aV)))<|(zV (Zg (r:=p.bP+p.aV+1)))<|iG (uF Zb Zq D) ?_;rintro Y w ⟨D,J⟩
 refine(zP)<|l9<|(zV (h_ 0 lu))<|(zV (g_ 0 dV D))<|(zV (iW Zb h.L.fP))<|(zP)<|nI<|ny (fun W M w=>∃(i:Int) (f:Of),W=((p.m-i).toNat)/\(0<=i)/\(i<=p.m)/\(∀j,0<=j->j<=p.bP+p.aV->f j=Tab p y i.toNat j)/\M= [(1,vy),(2,Or Z),(4,.int Oi 0),(5,Y),(18,vL),(19,.int Oi p.m),(20,.int Oi i)]/\Sat w0 w [.blk Z [vL,vD,.int Oi p.bP,.int Oi p.aV],.own Y 1 3 (p.bP+p.aV+1) (ints f)]) ⟨0,(fun _=>0),rfl,Oa,Oa,?_,rfl,D⟩ ?_
 {
 intro j _ _;rfl}
 clear D w
 rintro W M w ⟨i,f,rfl,h0,h1,hf,rfl,D⟩
 refine fQ<|(zP)<|nG<|Zf ?_ ?_<;>intro hc
 {
 refine oC<|iI gu ?_
 have he:=O.all i Oa Oa;unfold cO.each at he;have ad:=hy i Oa Oa
 refine(zV (iy (kk:=i) Zb h.L.fP))<|iI (iR (u:= .int Oi (p.L i)) dw (h.L.below D.below)) ?_
 have ac:=h.iL i
 refine(On)<|iT<|(zP)<|(zV (h_ 3 nZ))<|(zV (g_ 0 dw D))<|(zV (Zg (r:=p.L i+p.aV)))<|(zP)<|nG<|lg [0,1] [0,1] 1000 nP D ?_;clear D;intro w D
 refine(b_ 0 (h_ 1 jF))<|(iQ 1 (fun w D=>(g_ 0 dV D)))<|(b_ 2 gu)<|(b_ 3 (iy (kk:=i) Zb h.D.fP))<|oH 4 (fun w D=>(iR (u:= .int Oi (p.D i)) dw (h.D.below D.below))) ?_
 have ac:=h.iD i
 refine(b_ 5 gu)<|(b_ 6 (iW Zb J))<|(b_ 7 (Zr (r:=p.bP+p.aV)))<|(b_ 8 gu)<|ou 9 (V3 (r:=(Int.tdiv (p.bP+p.aV) (p.L i+p.aV))) (hn:=Oa) (hr:=(by have hq:=Yw (a:=p.bP+p.aV) (b:=p.L i+p.aV) Oa Oa;unfold I64;omega))) ?_
 have hq:=Yw (a:=p.bP+p.aV) (b:=p.L i+p.aV) Oa Oa
 refine(b_ 10 (TS (r:=(min (p.D i) (Int.tdiv (p.bP+p.aV) (p.L i+p.aV))))))<|(b_ 11 gu)<|lS<|iP<|o7<|ny (fun W M w=>∃(k:Int) (f2:Of),W=((min (p.D i) (Int.tdiv (p.bP+p.aV) (p.L i+p.aV))-k).toNat)/\(0<=k)/\(k<=min (p.D i) (Int.tdiv (p.bP+p.aV) (p.L i+p.aV)))/\(∀j,0<=j->j<=p.bP+p.aV->f2 j=R (Tab p y i.toNat) (p.L i+p.aV) (y i) k.toNat j)/\M= [(1,vy),(2,Or Z),(4,.int Oi 0),(5,Y),(6,.int Oi i),(8,.int Oi (p.L i+p.aV)),(18,vL),(19,.int Oi p.m),(20,.int Oi i),(39,.int Oi (min (p.D i) (Int.tdiv (p.bP+p.aV) (p.L i+p.aV)))),(40,.int Oi k)]/\Sat w0 w [.blk Z [vL,vD,.int Oi p.bP,.int Oi p.aV],.own Y 1 3 (p.bP+p.aV+1) (ints f2)]) ⟨0,f,rfl,Oa,Oa,?_,rfl,D⟩ ?_
 {
 intro j F I;rw [hf j F I];rfl}
 clear D w
 rintro W M w ⟨k,f2,rfl,k0,k1,aa,rfl,D⟩
 refine fQ<|(zP)<|nG<|Zf ?_ ?_<;>intro hc
 {
 refine oC<|(zP)<|(zV (iW Zb J))<|(zV (Zr (r:=p.bP+p.aV)))<|(zP)<|nI<|ny (fun W M w=>∃(c:Int) (N:Of),W=((c-(p.L i+p.aV)+1).toNat)/\(p.L i+p.aV-1<=c)/\(c<=p.bP+p.aV)/\(∀j,c<j->j<=p.bP+p.aV->N j=R (Tab p y i.toNat) (p.L i+p.aV) (y i) (k.toNat+1) j)/\(∀j,0<=j->j<=c->N j=R (Tab p y i.toNat) (p.L i+p.aV) (y i) k.toNat j)/\M= [(1,vy),(2,Or Z),(4,.int Oi 0),(5,Y),(6,.int Oi i),(8,.int Oi (p.L i+p.aV)),(9,.int Oi c),(18,vL),(19,.int Oi p.m),(20,.int Oi i),(39,.int Oi (min (p.D i) (Int.tdiv (p.bP+p.aV) (p.L i+p.aV)))),(40,.int Oi k)]/\Sat w0 w [.blk Z [vL,vD,.int Oi p.bP,.int Oi p.aV],.own Y 1 3 (p.bP+p.aV+1) (ints N)]) ⟨p.bP+p.aV,f2,rfl,Oa,Oa,?_,?_,rfl,D⟩ ?_
 {
 intro j F I;omega}
 {
 intro j F I;exact aa j F Oa}
 clear D w
 rintro W M w ⟨c,N,rfl,c0,c1,ab,U,rfl,D⟩
 refine lW<|fQ<|(Oo)<|ig<|Zf ?_ ?_<;>intro hc
 {
 refine nX<|iP<|lW<|o7<|lg [0,1] [0] 19 nP D ?_;clear D;intro w D
 refine(b_ 0 gu)<|(b_ 1 gu)<|(b_ 2 gu)<|(b_ 3 gu)<|(b_ 4 (iy (kk:=c) Zb J))<|sQ 5 (fun w D=>(iR (u:= .int Oi (N c)) dw (D.f_ 1 rfl))) ?_
 refine(b_ 6 gu)<|(b_ 7 gu)<|(b_ 8 gu)<|(b_ 9 (Zr (r:=c-p.L i-p.aV)))<|(b_ 10 (iy (kk:=c-p.L i-p.aV) Zb J))<|sQ 11 (fun w D=>(iR (u:= .int Oi (N (c-p.L i-p.aV))) dw (D.f_ 1 rfl))) ?_
 refine(b_ 12 gu)<|(b_ 13 gu)<|(b_ 14 (iy (kk:=i) Zb hY.fP))<|(iQ 15 (fun w D=>(iR (u:= .int Oi (y i)) dw (hY.below D.below))))<|ou 16 (Zg (r:=N (c-p.L i-p.aV)+(y i)) (hr:=(by have e:=U (c-p.L i-p.aV) Oa Oa;have b:=ZqQ O hy h0 Oa k.toNat (c:=c-p.L i-p.aV) Oa;unfold I64;omega))) ?_
 refine(b_ 17 (FB (r:=(max (N c) (N (c-p.L i-p.aV)+(y i))))))<|(b_ 18 (iy (kk:=c) Zb J))<|nR 19 (rV 1 dw D (ZA _ _ _)) ?_;clear D;rintro w D
 refine⟨⟨fun h=>absurd h (by decide),D.pk [0]⟩,?_⟩
 refine lS<|ng<|iP<|lG ?_
 refine(zP)<|(zV (Zr (r:=c-1)))<|(zP)<|iq<|jm ⟨c-1,(upd N c (max (N c) (N (c-p.L i-p.aV)+(y i)))),rfl,Oa,Oa,?_,?_,rfl,D⟩
 {
 intro j F I;by_cases hj:j=c
 · rw [hj,Zp];exact Zls O y h0 Oa Oa U rfl
 · rw [upd_ne _ _ hj];exact ab j Oa I}
 {
 intro j F I;rw [upd_ne _ _ Oa];exact U j F Oa}}
 refine sW<|n_<|n_<|rH<|ng<|iP<|lG<|(zV (Zg (r:=k+1)))<|(zP)<|iq<|jm ⟨k+1,N,rfl,Oa,Oa,?_,rfl,D⟩
 {
 intro j F I;have e:(k+1).toNat=k.toNat+1:=Oa
 rw [e];by_cases hj:c<j
 · exact ab j hj I
 · rw [U j F Oa];exact ZqR O y h0 Oa _ F Oa}}
 refine sW<|n_<|n_<|rH<|ng<|iP<|lG<|(zV (Zg (r:=i+1)))<|(zP)<|iq<|jm ⟨i+1,f2,rfl,Oa,Oa,?_,rfl,D⟩
 {
 intro j F I;rw [aa j F I];exact CS O y h0 Oa k0 Oa Oa F I}}
 refine oM<|(On)<|(zV (iW Zb J))<|(zV (Zr (r:=p.bP+p.aV)))<|(zV (iy (kk:=p.bP+p.aV) Zb J))<|(zV (iR (u:= .int Oi (f (p.bP+p.aV))) dw (D.f_ 1 rfl)))<|(zP)<|jk<|Oj ?_
 obtain rfl:i=p.m:=Oa
 exact⟨congrArg (Value.int .i64) (by rw [hf _ Oa Oa];rfl),D.nl⟩
theorem Zlf{vL:Value}{p:cO}{n q:Int}(w0:World)(h:oO w0 vL vD p)(I:Row w0 vy 1 n (ints y))(N: -9223372036854775808<=q/\q<=9223372036854775807):
   Calls Om 36 [.agg #[vL,vD,.int Oi p.bP,.int Oi p.aV],.agg #[vy,.int Oi q]].toArray w0 fun e w=>∃v,e= .returned v/\v= .int Oi (vH p n y q)/\Sat w0 w []:=by
 have hn:=I.fP.n0;have J:=I.fP.n1
 refine iE Tryz.func36 Tryz.ntmps36 fun w D=> ?_
 refine fQ<|iG (nS (cs:= [_,_,_,_]) D) ?_;rintro _ w ⟨U,rfl,D⟩
 refine iG (nS (cs:= [_,_]) D) ?_;rintro _ w ⟨O,rfl,D⟩
 refine(zP)<|ig<|lW<|o7<|fQ<|(zV (lH 0 iM D))<|iJ (xc0 XU) (Yd (p:=p) w (h.below D.below)) ?_;rintro _ w ⟨rfl,F⟩
 replace D:=D.cmp F;clear F
 refine(On)<|lX 9 ?_ ?_<;>intro hc;rotate_left
 refine(zV (lH 1 oI D))<|iJ (xc0 Zqb) (ZiX w (I.below D.below) Oa) ?_;rintro _ w ⟨rfl,F⟩
 replace D:=D.cmp F;clear F
 refine(Oo)<|lX 14 ?_ ?_<;>intro hc;rotate_left
 refine(zV (h_ 0 r_))<|(zV (g_ 1 dV D))<|(zV (iW Zb I.fP))<|(zV (h_ 0 lu))<|(zV (g_ 0 dV D))<|(zV (iW Zb h.L.fP))<|(Oo)<|ig<|Zf ?_ ?_<;>intro hc
 {
 refine fQ<|(zP)<|XI<|Oj ?_
 exact⟨congrArg (Value.int .i64) (Eq.symm (by first|exact FN (.inl ‹¬p.Ok›)|exact FN (.inr (.inl ‹¬pI n y q›))|exact FN (.inr (.inr Oa)))),D.nl⟩}
 refine lW<|lg [0,1] [0,1] 1000 nP D ?_;clear D;intro w D
 refine(iQ 0 (fun w D=>(lH 0 iM D)))<|(b_ 1 (h_ 0 r_))<|(iQ 2 (fun w D=>(g_ 1 dV D)))<|(b_ 4 (h_ 1 uj))<|(iQ 5 (fun w D=>(g_ 1 dw D)))<|pK 3 (xc0 Zqa) (Zgd (p:=p) w (h.below D.below) (Od ‹¬¬(p.Ok)›) (I.below D.below) Oa (pI.Bc (Od ‹¬¬(pI n y q)›) Oa)) ?_;rintro _ w ⟨rfl,F⟩
 replace D:=D.cmp F;clear F
 refine⟨⟨fun _=>D,D⟩,?_⟩
 refine(b_ 6 YC)<|(b_ 7 nU)<|lS<|iP ?_
 refine Zf ?_ ?_<;>intro hc
 {
 refine fQ<|(zP)<|XI<|Oj ?_
 exact⟨congrArg (Value.int .i64) (Eq.symm (by exact OB (Od ‹¬¬(p.Ok)›) (Od ‹¬¬(pI n y q)›) Oa ‹_›)),D.nl⟩}
 refine nX<|ng<|iP<|fQ<|(zP)<|jk<|Oj ?_
 exact⟨congrArg (Value.int .i64) (Eq.symm (by exact JC (Od ‹¬¬(p.Ok)›) (Od ‹¬¬(pI n y q)›) Oa ‹_›)),D.nl⟩
 all_goals
  refine pR ?_
  refine ig<|rW<|fQ ?_
  refine pR ?_
  refine XI<|Oj ?_
  exact⟨congrArg (Value.int .i64) (Eq.symm (by first|exact FN (.inl ‹¬p.Ok›)|exact FN (.inr (.inl ‹¬pI n y q›))|exact FN (.inr (.inr Oa)))),D.nl⟩
theorem Zlg{vL:Value}{p:cO}{n q:Int}(w0:World)(h:oO w0 vL vD p)(N:Row w0 vy 1 n (ints y))(hq: -9223372036854775808<=q/\q<=9223372036854775807):
   Calls Om 12 [.agg #[vL,vD,.int Oi p.bP,.int Oi p.aV],.agg #[vy,.int Oi q]].toArray w0 fun e w=>∃v,e= .returned v/\v= .tuple #[.int Oi (Xe p n y q),.int Oi (vH p n y q)]/\Sat w0 w []:=by
 have hn:=N.fP.n0;have ad:=N.fP.n1
 refine iE Tryz.func12 Tryz.ntmps12 fun w D=> ?_
 refine fQ<|iG (nS (cs:= [_,_,_,_]) D) ?_;rintro _ w ⟨g1,rfl,D⟩
 refine iG (nS (cs:= [_,_]) D) ?_;rintro _ w ⟨g2,rfl,D⟩
 refine(On)<|l9<|(zV (lH 0 iM D))<|(zV (lH 1 oI D))<|iJ (xc0 Zqm) (Zlf (p:=p) w (h.below D.below) (N.below D.below) Oa) ?_;rintro _ w ⟨rfl,O⟩
 replace D:=D.cmp O;clear O
 refine(zP)<|iT<|(On)<|ig<|Zf ?_ ?_<;>intro hc
 {
 refine fQ<|(Oo)<|j_<|rD ⟨_,rfl,?_⟩
 exact⟨by rw [Zo9 ‹_›],D.nl⟩}
 refine ZX<|(zP)<|l9<|iI (h_ 1 jF) ?_
 obtain⟨J,I,W,hw⟩:=U5 (by omega:vH p n y q=0);have ac:=I.1;have ab:=I.2.1;have hd:=J.d;have af:=J.m1;have ae:=J.m2;have F:=I.Bc W
 refine(zV (g_ 0 dV D))<|(zV (iW Zb h.D.fP))<|(zP)<|nI<|ny (fun Z M w=>∃(t:Int) (i:Int),Z=((p.m-i).toNat)/\(0<=i)/\(i<=p.m)/\(t=Tot p.D y i.toNat)/\M= [(3,Or g2),(4,.int Oi 0),(5,.int Oi 0),(7,.int Oi t),(17,vD),(18,.int Oi p.d),(19,.int Oi i)]/\Sat w0 w [.blk g1 [vL,vD,.int Oi p.bP,.int Oi p.aV],.blk g2 [vy,.int Oi q]]) ⟨0,0,rfl,Oa,Oa,?_,rfl,D⟩ ?_
 {
 rfl}
 clear D w
 rintro Z M w ⟨t,i,rfl,U,h1,ht,rfl,D⟩
 refine fQ<|(zP)<|nG<|Zf ?_ ?_<;>intro hc
 {
 refine oC<|(zP)<|(zV (iy (kk:=i) Zb h.D.fP))<|iI (iR (u:= .int Oi (p.D i)) dw (h.D.below D.below)) ?_
 have ag:=h.iD i
 refine(On)<|ig<|lG<|iI gu ?_
 have Y:=Lh J F i U Oa;have ah:=Q_ J F i U Oa
 refine(zP)<|(zV (h_ 0 r_))<|(zV (g_ 1 dV D))<|(zP)<|(zV (iy (kk:=i) Zb N.fP))<|(zV (iR (u:= .int Oi (y i)) dw (N.below D.below)))<|iI (Yf (r:=((p.D i)*(y i))) (e:=rfl) (hr:=(by unfold I64;omega))) ?_
 refine(zV (Zg (r:=t+((p.D i)*(y i)))))<|(zP)<|nT<|(zV (Zg (r:=i+1)))<|(zP)<|iq<|jm ⟨t+((p.D i)*(y i)),i+1,rfl,Oa,Oa,?_,rfl,D⟩
 {
 rw [Zje _ _ U,<-ht]}}
 refine oM<|iI gu ?_
 have Y:=Lh J F i U Oa;have aa:=Yw (a:=t+q-1) (b:=q) Oa Oa
 refine(zV (h_ 1 uj))<|(zV (g_ 1 dw D))<|(zV (Zg (r:=t+q)))<|(zV (Zr (r:=t+q-1)))<|(zV (h_ 1 uj))<|(zV (g_ 1 dw D))<|iI (V3 (r:=(Int.tdiv (t+q-1) q)) (hn:=Oa) (hr:=(by unfold I64;omega))) ?_
 refine(On)<|jk<|rD ⟨_,rfl,?_⟩
 obtain rfl:i=p.m:=Oa
 have hz:vH p n y q=0:=Oa
 exact⟨by rw [hz,Yl hz];unfold Hr;rw [<-ht],D.nl⟩
end Go.Proofs.YtpnamgfdakfccaaGreat
namespace Go.Proofs.YtpnamgfdakfccaaGreat
open Go Go.RowKit Go.Proofs.Gw
variable {e i:Int} {f:Of} {vD:Value}
theorem Tm:ZN Om 43=some (.agg #[Oh,.int Oi 0],2,32):=Oc
structure Ct where
  n:Int
  y:Of
  q:Int
def Ct.wu:Ct:=⟨0,fun _=>0,0⟩
def Um(p:cO):Ct:=⟨p.m,fun k=>p.L k+p.aV,p.bP+p.aV⟩
def Tk(p:cO):Of:=fun k=>if p.bP+p.aV<2*(p.L k+p.aV) then 1 else 0
def J5(p:cO):Ct:=⟨p.m,Tk p,1⟩
def BG(p:cO)(c:Ct)(e:Int):Prop:=∃u ml mf s,0<=u/\Bq p u ml mf s e/\((e≠0/\c=Ct.wu)\/(e=0/\c=⟨s.m,s.Y,s.den⟩))
def BF(p:cO)(c:Ct)(e:Int):Prop:=(¬p.Ok/\c=Ct.wu/\e=1)\/(p.Ok/\c=Um p/\e=0)
def BH(p:cO)(c:Ct)(e:Int):Prop:=(¬p.Ok/\c=Ct.wu/\e=1)\/(p.Ok/\c=J5 p/\e=0)
theorem BG.q{p:cO}{c:Ct}{e:Int}(h:BG p c e):0<=c.q/\c.q<=1073741824:=by
 obtain⟨u,ml,mf,s,F,h1,⟨_,rfl⟩|⟨I,rfl⟩⟩:=h
 · exact⟨Int.le_refl _,by show(0:Int)<=_;omega⟩
 {
 obtain⟨D,_⟩:=h1.okS F I
 exact⟨by have:=D.d1;show 0<=s.den;omega,D.d2⟩}
theorem Zmg{p:cO}(h:p.Ok):1<=(Um p).q/\(Um p).q<=2100:=by
 have:=h.s1;have:=h.s2;have:=h.k1;have:=h.k2
 unfold Um;dsimp only;omega
theorem BF.q{p:cO}{c:Ct}{e:Int}(h:BF p c e):0<=c.q/\c.q<=1073741824:=by
 rcases h with⟨_,rfl,_⟩|⟨hp,rfl,_⟩
 · exact⟨Int.le_refl _,by show(0:Int)<=_;omega⟩
 · have:=Zmg hp;omega
theorem BH.q{p:cO}{c:Ct}{e:Int}(h:BH p c e):0<=c.q/\c.q<=1073741824:=by
 rcases h with⟨_,rfl,_⟩|⟨hp,rfl,_⟩
 · exact⟨Int.le_refl _,by show(0:Int)<=_;omega⟩
 · exact⟨by show(0:Int)<=1;omega,by show(1:Int)<=_;omega⟩
theorem ZiN{vL:Value}{p:cO}(w0:World)(h:oO w0 vL vD p):
   Calls Om 33 [.agg #[vL,vD,.int Oi p.bP,.int Oi p.aV]].toArray w0 fun e w=>∃v,e= .returned v/\∃r c e,v= .tuple #[.agg #[r,.int Oi (Ct.q c)],.int Oi e]/\BG p c e/\iK r c.n/\Sat w0 w [.own r 1 3 c.n (ints c.y)]:=by
 obtain⟨hm,aa,hd,hd1,hs,hk⟩:=h.Oq
 refine iE Tryz.func33 Tryz.ntmps33 fun w D=> ?_
 refine fQ<|iG (nS (cs:= [_,_,_,_]) D) ?_;rintro _ w ⟨g1,rfl,D⟩
 refine iG (oh (cs:= [_,_]) Tm D) ?_;rintro _ w ⟨g2,rfl,D⟩
 refine(zP)<|iT<|(zV (lH 0 iM D))<|iJ (xc0 OE) (Zc2 (p:=p) w (h.below D.below)) ?_;rintro _ w ⟨z7,zY,aI,Z,W,zi,zj,J,U,rfl,O,N,Y,I,F⟩
 replace D:=(D.comp F).n6;clear F
 have dz:=fun k (k0:0<=k) (k1:k<W)=>D.iw 3 rfl k0 k1
 refine(Oo)<|iG (oh (cs:= [_,_,_,_,_]) J7 D) ?_;rintro _ w ⟨g3,rfl,D⟩
 refine lJ (nD 6 Wl D (hd:=(Za N.one (Za Y.one (Za I.one (Za rfl (Za rfl Zj))))))) ?_;clear D;rintro w D
 refine(zP)<|l9<|(On)<|ig<|Zf ?_ ?_<;>intro hc
 {
 refine fQ<|(zV (lF (v:= .agg #[Oh,.int Oi 0])))<|(zP)<|lJ (nD 1 oI D) ?_;clear D;rintro w D
 refine(zP)<|j_<|Ye 1 oI D ⟨_,rfl,?_⟩
 exact⟨_,Ct.wu,U,rfl,⟨_,_,_,_,N.n0,O,.inl ⟨by omega,rfl⟩⟩,d_,(D.sub (.cons _ (.cons _ (.cons _ (.cons _ (.cons _ (.cons _ (.cons _ .slnil)))))))).fU 1 3 (ints Ct.wu.y)⟩}
 refine ZX<|(zV (h_ 1 rZ))<|(zV (h_ 2 z_))<|(zV (g_ 6 dV D))<|(zV (h_ 1 rZ))<|(zV (h_ 4 oQ))<|(zV (g_ 6 dw D))<|iI (lF (v:= .agg #[Z,.int Oi J.den]) (hr:=by obtain⟨_,_,_,_,rfl,_⟩:=I;kernel_rfl)) ?_
 refine lJ (nD 1 oI D (hd:=(Za I.one (Za rfl Zj)))) ?_;clear D;rintro w D
 refine(zP)<|jk<|Ye 1 oI D ⟨_,rfl,?_⟩
 exact⟨_,⟨J.m,J.Y,J.den⟩,0,rfl,⟨_,_,_,_,N.n0,(by rw [show(0:Int)=U by omega];exact O),.inr ⟨rfl,rfl⟩⟩,I,D.pk [5]⟩
theorem ZiM{vL:Value}{p:cO}(w0:World)(h:oO w0 vL vD p):
   Calls Om 34 [.agg #[vL,vD,.int Oi p.bP,.int Oi p.aV]].toArray w0 fun e w=>∃v,e= .returned v/\∃r c e,v= .tuple #[.agg #[r,.int Oi (Ct.q c)],.int Oi e]/\BF p c e/\iK r c.n/\Sat w0 w [.own r 1 3 c.n (ints c.y)]:=by
 obtain⟨hm,af,hd,hd1,hs,hk⟩:=h.Oq
 refine iE Tryz.func34 Tryz.ntmps34 fun w D=> ?_
 refine fQ<|iG (nS (cs:= [_,_,_,_]) D) ?_;rintro _ w ⟨g1,rfl,D⟩
 refine iG (oh (cs:= [_,_]) Tm D) ?_;rintro _ w ⟨Z,rfl,D⟩
 refine(zP)<|l9<|(zV (lH 0 iM D))<|iJ (xc0 XU) (Yd (p:=p) w (h.below D.below)) ?_;rintro _ w ⟨rfl,N⟩
 replace D:=D.cmp N;clear N
 refine(zP)<|ig<|Zf ?_ ?_<;>intro hc
 {
 refine fQ<|(zV (lF (v:= .agg #[Oh,.int Oi 0])))<|lJ (nD 1 oI D) ?_;clear D;rintro w D
 refine(zP)<|j_<|Ye 1 oI D ⟨_,rfl,?_⟩
 exact⟨_,Ct.wu,1,rfl,.inl ⟨‹¬p.Ok›,rfl,rfl⟩,d_,(D.sub (.cons _ (.cons _ .slnil))).fU 1 3 (ints Ct.wu.y)⟩}
 refine ZX<|iI (h_ 2 o_) ?_
 have F:p.Ok:=by first|assumption|exact Od ‹_›
 have ad:=F.m1;have qM:=F.m2;have ae:=F.d;have ac:=F.s1;have ab:=F.s2;have ah:=F.k1;have ag:=F.k2
 refine(zV (g_ 0 dw D))<|(zV (h_ 3 nZ))<|(zV (g_ 0 dw D))<|(zV (Zg (r:=p.bP+p.aV)))<|(zV (lF (v:= .agg #[Oh,.int Oi (p.bP+p.aV)])))<|iG (oh (cs:= [_,_]) Tm D) ?_;rintro _ w ⟨Y,rfl,D⟩
 refine lJ (nD 2 oI D) ?_;clear D;rintro w D
 refine l9<|(zV (h_ 0 lu))<|(zV (g_ 0 dV D))<|(zV (iW Zb h.L.fP))<|(zP)<|nI ?_
 replace D:=D.fU 1 3 (ints (fun _=>0))
 refine ny (fun U M w=>∃(i:Int) (vb:Value) (f:Of),U=((p.m-i).toNat)/\(0<=i)/\(i<=p.m)/\(∀k,0<=k->k<i->f k=p.L k+p.aV)/\(iK vb i)/\M= [(1,Or g1),(2,Or Z),(3,.int Oi 0),(4,Or Y),(18,vL),(19,.int Oi p.m),(20,.int Oi i)]/\Sat w0 w [.blk g1 [vL,vD,.int Oi p.bP,.int Oi p.aV],.blk Z [Oh,.int Oi 0],.blk Y [vb,.int Oi (p.bP+p.aV)],.own vb 1 3 i (ints f)]) ⟨0,Oh,(fun _=>0),rfl,Oa,Oa,?_,?_,rfl,D⟩ ?_
 {
 intro k W k1;omega}
 {
 exact d_}
 clear D w
 rintro U M w ⟨i,vb,f,rfl,h0,h1,hf,I,rfl,D⟩
 refine fQ<|(zP)<|nG<|Zf ?_ ?_<;>intro hc
 {
 refine oC<|(zV (iy (kk:=i) Zb h.L.fP))<|iI (iR (u:= .int Oi (p.L i)) dw (h.L.below D.below)) ?_
 have ai:=h.iL i
 have he:=F.all i h0 Oa;unfold cO.each at he
 refine(zP)<|ig<|lG<|(zV (h_ 0 r_))<|(zV (g_ 2 dV D))<|(zP)<|(zV (h_ 3 nZ))<|(zV (g_ 0 dw D))<|(zV (Zg (r:=p.L i+p.aV)))<|iG (pO (n:=1) (len:=1) (pv:= [(0,.int Oi (p.L i+p.aV))]) (cs:= [.int Oi (p.L i+p.aV)]) (c:=ints (fun _=>p.L i+p.aV)) Zb Zq D) ?_;rintro v1 w ⟨D,aa⟩
 refine iG (pz 3 (r:=i+1) Zb Zq D (D.f_ 4 rfl) (ZR _ _ _)) ?_;rintro v2 w ⟨D,J⟩
 refine(zV (h_ 0 r_))<|lJ (xsb 2 dV D (hv:=J.one)) ?_;clear D;rintro w D
 refine nT<|(zV (Zg (r:=i+1)))<|(zP)<|iq<|jm ⟨i+1,v2,(snoc f i (p.L i+p.aV)),rfl,Oa,Oa,?_,?_,rfl,D.pk [0,1,2,3]⟩
 {
 exact ZgC hf rfl}
 {
 exact J}}
 refine oM<|(zV (lH 2 oI D))<|lJ (nD 1 oI D (hd:=(Za I.one (Za rfl Zj)))) ?_;clear D;rintro w D
 refine(zP)<|jk<|Ye 1 oI D ⟨_,rfl,?_⟩
 have O:i=p.m:=Oa
 subst O
 replace D:=D.nJ 3 rfl (d:=ints (Um p).y) (fun k W k1=>congrArg (Value.int .i64) (hf k W Oa))
 exact⟨_,Um p,0,rfl,.inr ⟨F,rfl,rfl⟩,I,D.pk [3]⟩
theorem SS{p:cO}(hf:∀k,0<=k->k<i->f k=Tk p k)(h:p.bP+p.aV<2*(p.L i+p.aV)):∀k,0<=k->k<i+1->upd f i 1 k=Tk p k:=fun k D F=>by
 unfold upd
 by_cases e:k=i
 · rw [if_pos e,e];unfold Tk;rw [if_pos h]
 · rw [if_neg e];exact hf k D Oa
theorem SV{p:cO}(hf:∀k,0<=k->k<i->f k=Tk p k)(F:∀k,i<=k->f k=0)(h:¬p.bP+p.aV<2*(p.L i+p.aV)):∀k,0<=k->k<i+1->f k=Tk p k:=fun k D I=>by
 by_cases e:k=i
 · rw [e,F i (Int.le_refl _)];unfold Tk;rw [if_neg h]
 · exact hf k D Oa
theorem P6(h:∀k,i<=k->f k=0):∀k,i+1<=k->upd f i 1 k=0:=fun k D=>by
 unfold upd;rw [if_neg Oa];exact h k Oa
theorem Zga{vL:Value}{p:cO}(w0:World)(h:oO w0 vL vD p):
   Calls Om 35 [.agg #[vL,vD,.int Oi p.bP,.int Oi p.aV]].toArray w0 fun e w=>∃v,e= .returned v/\∃r c e,v= .tuple #[.agg #[r,.int Oi (Ct.q c)],.int Oi e]/\BH p c e/\iK r c.n/\Sat w0 w [.own r 1 3 c.n (ints c.y)]:=by
 obtain⟨hm,ae,hd,hd1,hs,Z⟩:=h.Oq
 refine iE Tryz.func35 Tryz.ntmps35 fun w D=> ?_
 refine fQ<|iG (nS (cs:= [_,_,_,_]) D) ?_;rintro _ w ⟨g1,rfl,D⟩
 refine iG (oh (cs:= [_,_]) Tm D) ?_;rintro _ w ⟨g2,rfl,D⟩
 refine(zP)<|l9<|(zV (lH 0 iM D))<|iJ (xc0 XU) (Yd (p:=p) w (h.below D.below)) ?_;rintro _ w ⟨rfl,N⟩
 replace D:=D.cmp N;clear N
 refine(zP)<|ig<|Zf ?_ ?_<;>intro hc
 {
 refine fQ<|(zV (lF (v:= .agg #[Oh,.int Oi 0])))<|lJ (nD 1 oI D) ?_;clear D;rintro w D
 refine(zP)<|j_<|Ye 1 oI D ⟨_,rfl,?_⟩
 exact⟨_,Ct.wu,1,rfl,.inl ⟨‹¬p.Ok›,rfl,rfl⟩,d_,(D.sub (.cons _ (.cons _ .slnil))).fU 1 3 (ints Ct.wu.y)⟩}
 refine ZX<|iI (h_ 0 lu) ?_
 have I:p.Ok:=by first|assumption|exact Od ‹_›
 have ac:=I.m1;have qM:=I.m2;have ad:=I.d;have ab:=I.s1;have aa:=I.s2;have ag:=I.k1;have af:=I.k2
 refine(zV (g_ 0 dV D))<|(zV (iW Zb h.L.fP))<|iG (uF Zb Zq D) ?_;rintro O w ⟨D,F⟩
 refine iI (lF (v:= .agg #[O,.int Oi 1]) (hr:=by obtain⟨_,_,_,_,rfl,_⟩:=F;kernel_rfl)) ?_
 refine iG (oh (cs:= [_,_]) Tm D) ?_;rintro _ w ⟨g3,rfl,D⟩
 refine lJ (nD 3 oI D (hd:=(Za F.one (Za rfl Zj)))) ?_;clear D;rintro w D
 refine l9<|(zV (h_ 0 lu))<|(zV (g_ 0 dV D))<|(zV (iW Zb h.L.fP))<|(zP)<|nI<|ny (fun W M w=>∃(f:Of) (i:Int),W=((p.m-i).toNat)/\(0<=i)/\(i<=p.m)/\(∀k,0<=k->k<i->f k=Tk p k)/\(∀k,i<=k->f k=0)/\M= [(1,Or g1),(2,Or g2),(3,.int Oi 0),(4,Or g3),(17,vL),(18,.int Oi p.m),(19,.int Oi i)]/\Sat w0 w [.blk g1 [vL,vD,.int Oi p.bP,.int Oi p.aV],.blk g2 [Oh,.int Oi 0],.own O 1 3 p.m (ints f),.blk g3 [O,.int Oi 1]]) ⟨(fun _=>0),0,rfl,Oa,Oa,?_,?_,rfl,D⟩ ?_
 {
 intro k Y k1;omega}
 {
 intro k _;rfl}
 clear D w
 rintro W M w ⟨f,i,rfl,h0,h1,hf,J,rfl,D⟩
 refine fQ<|(zP)<|nG<|Zf ?_ ?_<;>intro hc
 {
 refine oC<|(zP)<|(zV (iy (kk:=i) Zb h.L.fP))<|iI (iR (u:= .int Oi (p.L i)) dw (h.L.below D.below)) ?_
 have ah:=h.iL i
 have he:=I.all i h0 Oa;unfold cO.each at he
 refine(On)<|iT<|(zP)<|(zV (h_ 3 nZ))<|(zV (g_ 0 dw D))<|(zV (Zg (r:=p.L i+p.aV)))<|(zV (Yf (r:=2*p.L i+2*p.aV)))<|(zV (h_ 2 o_))<|(zV (g_ 0 dw D))<|(zV (h_ 3 nZ))<|(zV (g_ 0 dw D))<|(zV (Zg (r:=p.bP+p.aV)))<|(zP)<|ig<|Zf ?_ ?_<;>intro hc
 {
 refine lG<|(zV (h_ 0 r_))<|(zV (g_ 3 dV D))<|(zP)<|(zV (iy (kk:=i) Zb F))<|lJ (rV 2 dw D (ZA _ _ _)) ?_;clear D;rintro w D
 refine nT<|(zV (Zg (r:=i+1)))<|(zP)<|iq<|jm ⟨(upd f i 1),i+1,rfl,Oa,Oa,?_,?_,rfl,D⟩
 {
 first|exact SS hf Oa|exact SV hf J Oa}
 {
 first|exact P6 J|exact fun k Z=>J k Oa}}
 refine rU<|(zV (Zg (r:=i+1)))<|(zP)<|iq<|jm ⟨f,i+1,rfl,Oa,Oa,?_,?_,rfl,D⟩
 {
 first|exact SS hf Oa|exact SV hf J Oa}
 {
 first|exact P6 J|exact fun k Z=>J k Oa}}
 refine oM<|(zV (lH 3 oI D))<|lJ (nD 1 oI D (hd:=(Za F.one (Za rfl Zj)))) ?_;clear D;rintro w D
 refine(zP)<|jk<|Ye 1 oI D ⟨_,rfl,?_⟩
 have U:i=p.m:=Oa
 subst U
 replace D:=D.nJ 2 rfl (d:=ints (J5 p).y) (fun k Y k1=>congrArg (Value.int .i64) (hf k Y Oa))
 exact⟨_,J5 p,0,rfl,.inr ⟨I,rfl,rfl⟩,F,D.pk [2]⟩
end Go.Proofs.YtpnamgfdakfccaaGreat
namespace Go.Proofs.YtpnamgfdakfccaaGreat
open Go Go.RowKit Go.Proofs.Gw
theorem Zqu:Zc Om 12=true:=Oc
theorem XZ{P:Program}{fn:Func}{R:Ending->World->Prop}{w w0:World}{n:Nat}{L:List (Nat×Value)}{E:List iO}(i:Nat){s t r g k:Nat}{T:TypeId}{u v:Value}{cs:List Value}(O:ZC P T=some k)(Y:Sat w0 w E)(h:R (.returned (.tuple #[.agg cs.toArray,u,v])) w)(hr:fn.results= #[.cell s T,.tmp t,.tmp r]:=by exact rfl)(U:lk L s=some (Or g):=by exact rfl)(N:lk L t=some u:=by exact rfl)(hv:lk L r=some v:=by exact rfl)
   (hi:E[i]? =some (.blk g cs):=by exact rfl) (W:cs.length=k:=by exact rfl):Ge n [] (bodyPost P fn R) .ret L w:=fun _ D=>by
 refine⟨D.defers,_,?_,h⟩
 subst W
 obtain⟨h1,h2⟩:=Xo (w:=w) O
 have Z:=run_loadCells_list (P:=P) w ⟨g,0,none⟩ cs (Y.holds _ (List.mem_of_getElem? hi)).cells
 have J:=D.get t _ N
 have I:=D.get s _ U
 have F:=D.get r _ hv
 rw [Array.getD_eq_getD_getElem?] at J I F
 simp [results,hr,J,I,F,asAddr,loadVar,h1,h2,Z]
noncomputable def Va(p:cO)(b:Ct×Int)(c:Ct)(e:Int):Ct×Int:=if e=0/\vH p c.n c.y c.q=0/\b.2<Xe p c.n c.y c.q then(c,Xe p c.n c.y c.q) else b
theorem KA{p:cO}{b c:Ct}{m e:Int}(h1:e=0)(D:vH p c.n c.y c.q=0)(h:m<Xe p c.n c.y c.q):(c,Xe p c.n c.y c.q)=Va p (b,m) c e:=by
 unfold Va;rw [if_pos ⟨h1,D,h⟩]
theorem Uk{p:cO}{b c:Ct}{m e:Int}(h:¬(e=0/\vH p c.n c.y c.q=0/\m<Xe p c.n c.y c.q)):(b,m)=Va p (b,m) c e:=by
 unfold Va;rw [if_neg h]
def Zpk(p:cO)(c:Ct)(m:Int):Prop:=∃c1 e1 c2 e2 c3 e3,BG p c1 e1/\BF p c2 e2/\BH p c3 e3/\(c,m)=Va p (Va p (Va p (Ct.wu,-1) c1 e1) c2 e2) c3 e3
def Bo(p:cO)(c:Ct)(m e:Int):Prop:=(¬p.Ok/\c=Ct.wu/\m=0/\e=1)\/(p.Ok/\e=0/\Zpk p c m)
theorem L_{vL vD:Value}{p:cO}{F:Gw.Frame}{gp W Y:Nat}{b c:Ct}{most ee:Int}{vb vc:Value}(w0 w:World)(D:Sat w0 w [.blk gp [vL,vD,.int Oi p.bP,.int Oi p.aV],.blk W [.int Oi most],.blk Y [vb,.int Oi b.q],.own vb 1 3 b.n (ints b.y),.own vc 1 3 c.n (ints c.y),.sem F])(h:oO w0 vL vD p)(I:iK vb b.n)(J:iK vc c.n)(hq: -9223372036854775808<=c.q/\c.q<=9223372036854775807):
   Calls Om 32 [.agg #[vc,.int Oi c.q],.int Oi ee,Or gp,Or W,Or Y].toArray w fun e w=>∃v,e= .returned v/\v= .tuple #[]/\∃O Z U,(O,Z)=Va p (b,most) c ee/\iK U O.n/\Sat w0 w [.blk gp [vL,vD,.int Oi p.bP,.int Oi p.aV],.blk W [.int Oi Z],.blk Y [U,.int Oi O.q],.own U 1 3 O.n (ints O.y),.sem F]:=by
 obtain⟨hm,aa,hd,hd1,hs,hk⟩:=h.Oq
 refine uM Tryz.func32 Tryz.ntmps32 ?_
 refine fQ<|iG (nS (cs:= [_,_]) D) ?_;rintro _ w ⟨g1,rfl,D⟩
 refine l9<|(On)<|ig<|Zf ?_ ?_<;>intro hc
 {
 refine sZ<|m_<|Ae ⟨_,rfl,?_⟩
 exact⟨rfl,b,most,vb,Uk (by rintro⟨h1,h2,h3⟩;omega),I,D.pk [0,1,2,3,5]⟩}
 refine ZX<|(zV (lH 0 iM D))<|(zV (lH 6 oI D))<|iJ (xc0 Zqu) (Zlg (p:=p) w (h.below D.below) (D.f_ 4 rfl) Oa) ?_;rintro _ w ⟨rfl,N⟩
 replace D:=D.cmp N;clear N
 refine uK ?_
 refine iT<|(Oo)<|lX 19 ?_ ?_<;>intro hc
 {
 refine(zP)<|(zV (g_ 1 dw D))<|(On)<|ig<|Zf ?_ ?_<;>intro hc
 {
 refine lG<|(zV (lH 6 oI D))<|(zP)<|lJ (nD 2 oI D (hd:=(Za J.one (Za rfl Zj)))) ?_;clear D;rintro w D
 refine lJ (xsb 1 dw D) ?_;clear D;rintro w D
 refine iq<|XK ⟨_,rfl,?_⟩
 exact⟨rfl,c,_,vc,KA Oa Oa Oa,J,D.pk [0,1,2,4,5]⟩}
 refine nX<|XK ⟨_,rfl,?_⟩
 exact⟨rfl,b,most,vb,Uk (by rintro⟨h1,h2,h3⟩;omega),I,D.pk [0,1,2,3,5]⟩}
 iterate 3 refine oq ?_
 refine(zP)<|ig<|uD<|nX<|XK ⟨_,rfl,?_⟩
 exact⟨rfl,b,most,vb,Uk (by rintro⟨h1,h2,h3⟩;omega),I,D.pk [0,1,2,3,5]⟩
theorem J9:Zc Om 32=true:=Oc
theorem Zqp:Zc Om 33=true:=Oc
theorem Zqo:Zc Om 34=true:=Oc
theorem Zqn:Zc Om 35=true:=Oc
theorem Zi1{vL vD:Value}{p:cO}(w0:World)(h:oO w0 vL vD p):
   Calls Om 11 [.agg #[vL,vD,.int Oi p.bP,.int Oi p.aV]].toArray w0 fun e w=>∃v,e= .returned v/\∃r c m e,v= .tuple #[.agg #[r,.int Oi (Ct.q c)],.int Oi m,.int Oi e]/\Bo p c m e/\iK r c.n/\Sat w0 w [.own r 1 3 c.n (ints c.y)]:=by
 obtain⟨hm,ae,hd,hd1,hs,hk⟩:=h.Oq
 refine iE Tryz.func11 Tryz.ntmps11 fun w D=> ?_
 refine fQ<|iG (nS (cs:= [_,_,_,_]) D) ?_;rintro _ w ⟨g1,rfl,D⟩
 refine iG (oh (cs:= [_,_]) Tm D) ?_;rintro _ w ⟨g2,rfl,D⟩
 refine(On)<|l9<|(zV (lH 0 iM D))<|iJ (xc0 XU) (Yd (p:=p) w (h.below D.below)) ?_;rintro _ w ⟨rfl,F⟩
 replace D:=D.cmp F;clear F
 refine(zP)<|ig<|Zf ?_ ?_<;>intro hc
 {
 refine fQ<|(zV (lF (v:= .agg #[Oh,.int Oi 0])))<|lJ (nD 1 oI D) ?_;clear D;rintro w D
 refine(On)<|j_<|XZ 1 oI D ⟨_,rfl,?_⟩
 exact⟨_,Ct.wu,0,1,rfl,.inl ⟨‹¬p.Ok›,rfl,rfl,rfl⟩,d_,(D.sub (.cons _ (.cons _ .slnil))).fU 1 3 (ints Ct.wu.y)⟩}
 refine ZX<|iG (oh (cs:= [_,_]) Tm D) ?_;rintro _ w ⟨g3,rfl,D⟩
 refine iT<|iG (oh (cs:= [_]) Zq D) ?_;rintro _ w ⟨g4,rfl,D⟩
 refine lJ (xsb 3 dw D) ?_;clear D;rintro w D
 refine iT<|iI wX ?_
 replace D:=D.fU 1 3 (ints Ct.wu.y)
 have I:p.Ok:=by first|assumption|exact Od ‹_›
 have ac:=I.m1;have qM:=I.m2;have ad:=I.d;have ab:=I.s1;have aa:=I.s2;have ag:=I.k1;have af:=I.k2
 refine(zP)<|iT<|(zP)<|(zV (lH 0 iM D))<|iJ (xc0 Zqp) (ZiN (p:=p) w (h.below D.below)) ?_;rintro _ w ⟨et,Y,j7,rfl,U,dh,F⟩
 replace D:=(D.comp F).n6;clear F
 refine(On)<|iJ (uU (vs:= [_,_]) J9) (L_ (p:=p) (b:=Ct.wu) (c:=Y) (most:=(-1)) (ee:=j7) (vb:=Oh) (vc:=et) w0 w (Sat.bundle (l1:= [_,_,_,_,_]) (D.pk [0,3,2,4,5,1])) h d_ dh (by have J:=U.q;omega)) ?_;rintro _ w ⟨rfl,gM,eP,eB,fo,dl,D⟩
 replace D:=Sat.unbundle (l1:= [_,_,_,_]) (l3:= []) D
 refine iT<|(zP)<|(zV (lH 0 iM D))<|iJ (xc0 Zqo) (ZiM (p:=p) w (h.below D.below)) ?_;rintro _ w ⟨ep,Z,jZ,rfl,N,dg,F⟩
 replace D:=(D.comp F).n6;clear F
 refine(On)<|iJ (uU (vs:= [_,_]) J9) (L_ (p:=p) (b:=gM) (c:=Z) (most:=eP) (ee:=jZ) (vb:=eB) (vc:=ep) w0 w (Sat.bundle (l1:= [_,_,_,_,_]) (D.pk [0,1,2,3,5,4])) h dl dg (by have J:=N.q;omega)) ?_;rintro _ w ⟨rfl,gL,eO,eA,fm,dk,D⟩
 replace D:=Sat.unbundle (l1:= [_,_,_,_]) (l3:= []) D
 refine iT<|(zP)<|(zV (lH 0 iM D))<|iJ (xc0 Zqn) (Zga (p:=p) w (h.below D.below)) ?_;rintro _ w ⟨eo,ka,jY,rfl,O,df,F⟩
 replace D:=(D.comp F).n6;clear F
 refine(On)<|iJ (uU (vs:= [_,_]) J9) (L_ (p:=p) (b:=gL) (c:=ka) (most:=eO) (ee:=jY) (vb:=eA) (vc:=eo) w0 w (Sat.bundle (l1:= [_,_,_,_,_]) (D.pk [0,1,2,3,5,4])) h dk df (by have J:=O.q;omega)) ?_;rintro _ w ⟨rfl,k8,kw,kq,fl,W,D⟩
 replace D:=Sat.unbundle (l1:= [_,_,_,_]) (l3:= []) D
 refine nG<|lg [0,1,2,3,4] [0,1,2,3] 2 nP D ?_;clear D;intro w D
 refine(iQ 0 (fun w D=>(lH 2 oI D)))<|(iQ 1 (fun w D=>(g_ 1 dw D)))<|nR 2 (nD 4 oI D (hd:=(Za W.one (Za rfl Zj)))) ?_;clear D;rintro w D
 refine⟨⟨fun h=>absurd h (by decide),D.pk [0,1,2,3]⟩,?_⟩
 refine(b_ 3 nU)<|(b_ 4 nU)<|lS<|iP<|sZ<|XZ 4 oI D ⟨_,rfl,?_⟩
 exact⟨_,_,_,0,rfl,.inr ⟨I,rfl,_,_,_,_,_,_,U,N,O,(by rw [fl,fm,fo])⟩,W,D.pk [3]⟩
end Go.Proofs.YtpnamgfdakfccaaGreat
namespace Go.Proofs.Gw
open Go Go.RowKit
noncomputable section
variable {i k lo need w:Int} {a x:Of}
def dn{α:Type}(F:Int->List α)(lo:Int):Nat->List α
  |0=> []
  |c+1=>F (lo+c)++dn F lo c
theorem X8{α:Type}(F:Int->List α)(h:lo<=k):dn F lo (k+1-lo).toNat=F k++dn F lo (k-lo).toNat:=by
 rw [show(k+1-lo).toNat=(k-lo).toNat+1 by omega]
 simp only [dn]
 rw [show lo+((k-lo).toNat:Int)=k by omega]
theorem Zm9{α:Type}(F:Int->List α)(h:k<lo):dn F lo (k+1-lo).toNat= []:=by
 rw [show(k+1-lo).toNat=0 by omega];rfl
theorem Qq{α:Type}{F:Int->List α}{lo:Int}:∀{c:Nat},(∀k,lo<=k->k<lo+c->F k= [])->dn F lo c= []
 |0,_=>rfl
 | c+1,h=>by
   simp only [dn]
   rw [h _ Oa Oa,Qq fun k D h1=>h k D Oa];rfl
theorem QE{α:Type}{F:Int->List α}{lo:Int}{x:α}:∀{c:Nat},x∈dn F lo c->∃k,lo<=k/\k<lo+c/\x∈F k
 |0,h=>by cases h
 | c+1,h=>by
   simp only [dn,List.mem_append] at h
   rcases h with h|h
   · exact⟨_,Oa,Oa,h⟩
   · obtain⟨k,h1,I,D⟩:=QE h;exact⟨k,h1,Oa,D⟩
theorem Qp{α:Type}{F:Int->List α}{lo k:Int}{x:α}:∀{c:Nat},lo<=k->k<lo+c->x∈F k->x∈dn F lo c
 |0,h0,h1,h=>Oa
 | c+1,h0,h1,h=>by
   simp only [dn,List.mem_append]
   by_cases e:k=lo+c
   · subst e;exact .inl h
   · exact .inr (Qp h0 Oa h)
def DU(p:cO)(a:Of)(l:Int):Prop:=(∃i,0<=i/\i<p.m/\0<a i)/\∀i,0<=i->i<p.m->a i<p.D i->l<p.L i+p.aV
def least(w i:Int):Int:=if w=i then 1 else 0
def ext(p:cO)(w:Int):Nat->(Of)->Int->List (Of)
  |0,a,l=> @ite _ (DU p a l) (Classical.propDecidable _) [a] []
  |j+1,a,l=>dn (fun k=>ext p w j (upd a (p.m-((j:Int)+1)) k) (l-k*(p.L (p.m-((j:Int)+1))+p.aV))) (least w (p.m-((j:Int)+1)))
      (min (p.D (p.m-((j:Int)+1))) (l.tdiv (p.L (p.m-((j:Int)+1))+p.aV))+1-least w (p.m-((j:Int)+1))).toNat
def vg(p:cO)(w i:Int)(a:Of)(l:Int):List (Of):=ext p w (p.m-i).toNat a l
def most(p:cO)(i l:Int):Int:=min (p.D i) (l.tdiv (p.L i+p.aV))
theorem Vz{p:cO}{l:Int}(hi:i=p.m)(h:DU p a l):vg p w i a l= [a]:=by
 unfold vg;rw [show(p.m-i).toNat=0 by omega]
 show @ite _ (DU p a l) (Classical.propDecidable _) [a] []=_
 rw [if_pos h]
theorem UZ{p:cO}{l:Int}(hi:i=p.m)(h:¬DU p a l):vg p w i a l= []:=by
 unfold vg;rw [show(p.m-i).toNat=0 by omega]
 show @ite _ (DU p a l) (Classical.propDecidable _) [a] []=_
 rw [if_neg h]
def kid(p:cO)(w i:Int)(a:Of)(l:Int)(k:Int):List (Of):=vg p w (i+1) (upd a i k) (l-k*(p.L i+p.aV))
theorem XS{p:cO}{l:Int}(F:0<=i)(h1:i<p.m):vg p w i a l=dn (kid p w i a l) (least w i) (most p i l+1-least w i).toNat:=by
 unfold vg
 obtain⟨j,h⟩:∃j:Nat,(p.m-i).toNat=j+1:=⟨(p.m-i).toNat-1,Oa⟩
 have e:p.m-((j:Int)+1)=i:=Oa
 rw [h]
 simp only [ext]
 rw [e]
 have D:(fun k=>ext p w j (upd a i k) (l-k*(p.L i+p.aV)))=kid p w i a l:=by
   funext k
   unfold kid vg
   rw [show(p.m-(i+1)).toNat=j by omega]
 rw [D];rfl
def MX(p:cO)(w:Int):List (Of):=vg p w 0 (fun _=>0) (p.bP+p.aV)
structure wQ (p:cO) (i:Int) (a:Of) (l:Int):Prop where
  rng:∀k,0<=k->k<i->0<=a k/\a k<=p.D k
  zero:∀k,k<0\/i<=k->a k=0
  left:l=p.bP+p.aV-ZD p a i.toNat
  l0:0<=l
theorem wQ.start{p:cO}(h:p.Ok):wQ p 0 (fun _=>0) (p.bP+p.aV):=
 ⟨fun k D h1=>Oa,fun _ _=>rfl,by show _=_-Zd _ 0;simp [Zd],by have:=h.s1;have:=h.k1;omega⟩
theorem XO{p:cO}(h:p.Ok){l:Int}(O:0<=i)(h1:i<p.m)(J:0<=l)(I:0<=k)(F:k<=most p i l):k<=p.D i/\0<=k*(p.L i+p.aV)/\k*(p.L i+p.aV)<=l:=by
 have N:=h.all i O h1
 unfold cO.each at N
 have U:=h.k1
 unfold most at F
 have D:k<=l.tdiv (p.L i+p.aV):=Oa
 rw [Int.tdiv_eq_ediv_of_nonneg J] at D
 exact⟨by omega,Int.mul_nonneg I Oa,(Int.le_ediv_iff_mul_le Oa).1 D⟩
theorem Zgr{p:cO}(h:0<=i):ZD p (upd a i k) (i+1).toNat=ZD p a i.toNat+k*(p.L i+p.aV):=by
 have e:ZD p (upd a i k) (i+1).toNat=ZD p (upd a i k) i.toNat+upd a i k i*(p.L i+p.aV):=ZI _ h
 rw [e,Zp]
 congr 1
 exact Zh fun j F D=>by rw [upd_ne _ _ Oa]
theorem wQ.step{p:cO}(N:p.Ok){l:Int}(h:wQ p i a l)(F:0<=i)(h1:i<p.m)(D:0<=k)(I:k<=most p i l):wQ p (i+1) (upd a i k) (l-k*(p.L i+p.aV)):=by
 obtain⟨O,Z,Y⟩:=XO N F h1 h.l0 D I
 refine⟨fun j J U=> ?_,fun j W=> ?_,by rw [Zgr F,h.left];omega,Oa⟩
 {
 by_cases e:j=i
 · rw [e,Zp];exact⟨D,O⟩
 · rw [upd_ne _ _ e];exact h.rng j J Oa}
 · rw [upd_ne _ _ Oa];exact h.zero j Oa
structure BP (p:cO) (w:Int) (x:Of):Prop where
  rng:∀k,0<=k->k<p.m->0<=x k/\x k<=p.D k
  zero:∀k,k<0\/p.m<=k->x k=0
  used:ZD p x p.m.toNat<=p.bP+p.aV
  Jq:DU p x (p.bP+p.aV-ZD p x p.m.toNat)
theorem SH{p:cO}(J:p.Ok){w:Int}:∀(j:Nat) {i l:Int} {a x:Of},(p.m-i).toNat=j->0<=i->i<=p.m->wQ p i a l->x∈vg p w i a l->BP p w x/\(∀k,k<i->x k=a k)/\(i<=w->w<p.m->1<=x w)
 | 0,i,l,a,x,hj,h0,h1,h,D=>by
   have hi:i=p.m:=Oa
   by_cases hm:DU p a l
   {
   rw [Vz hi hm,List.mem_singleton] at D
   subst D
   have N:=h.left;have aa:=h.l0
   rw [hi] at N
   refine⟨⟨fun k F W=>h.rng k F Oa,fun k O=>h.zero k Oa,Oa,?_⟩,fun _ _=>rfl,fun _ _=>Oa⟩
   rw [<-N];exact hm}
   · rw [UZ hi hm] at D;cases D
 | j+1,i,l,a,x,hj,h0,h1,h,D=>by
   rw [XS h0 Oa] at D
   obtain⟨k,F,W,O⟩:=QE D
   have Z:0<=least w i:=by unfold least;split<;>omega
   have Y:=h.step J h0 Oa (k:=k) Oa Oa
   obtain⟨g1,U,g3⟩:=SH J j Oa Oa Oa Y O
   refine⟨g1,fun q hq=>by rw [U q Oa,upd_ne _ _ Oa],fun hw I=> ?_⟩
   by_cases e:w=i
   {
   have:=U w Oa
   rw [e,Zp] at this
   rw [e,this]
   unfold least at F;rw [if_pos e] at F;exact F}
   · exact g3 Oa I
theorem Ja{p:cO}(D:p.Ok)(h:x∈MX p w):BP p w x/\(0<=w->w<p.m->1<=x w):=by
 have:=D.m1
 obtain⟨h1,_,F⟩:=SH D _ rfl (Int.le_refl 0) Oa (wQ.start D) h
 exact⟨h1,F⟩
def Nl(p:cO):Nat->Int
  |0=>0
  |j+1=>Nl p j+p.D (p.m-((j:Int)+1))*(p.L (p.m-((j:Int)+1))+p.aV)
def XD(p:cO)(i:Int):Int:=Nl p (p.m-i).toNat
theorem o9{p:cO}(h:p.m<=i):XD p i=0:=by unfold XD;rw [show(p.m-i).toNat=0 by omega];rfl
theorem Tc{p:cO}(D:0<=i)(h1:i<p.m):XD p i=XD p (i+1)+p.D i*(p.L i+p.aV):=by
 unfold XD
 obtain⟨j,h⟩:∃j:Nat,(p.m-i).toNat=j+1:=⟨(p.m-i).toNat-1,Oa⟩
 rw [h,show(p.m-(i+1)).toNat=j by omega]
 simp only [Nl]
 rw [show p.m-((j:Int)+1)=i by omega]
theorem Y5{p:cO}(h:p.Ok):∀(j:Nat) {i:Int},(p.m-i).toNat=j->0<=i->i<=p.m->0<=XD p i/\XD p i<=(p.m-i)*2100000
 |0,i,hj,h0,h1=>by rw [o9 Oa,show p.m-i=0 by omega];omega
 | j+1,i,hj,h0,h1=>by
   have F:=Y5 h j (i:=i+1) Oa Oa Oa
   rw [Tc h0 Oa]
   have D:=h.all i h0 Oa
   unfold cO.each at D
   have:=h.k1;have:=h.k2;have:=h.s2
   have I:=Int.mul_nonneg D.2.2.2.1 (show 0<=p.L i+p.aV by omega)
   have a2:p.D i*(p.L i+p.aV)<=1000*2100:=Int.mul_le_mul D.2.2.2.2 Oa Oa Oa
   have e:(p.m-i)*2100000=(p.m-(i+1))*2100000+2100000:=Oa
   omega
theorem MC{p:cO}(D:p.Ok)(F:0<=i):0<=XD p i/\XD p i<=42000000:=by
 by_cases h:i<=p.m
 · have:=Y5 D _ rfl F h;have:=D.m2;omega
 · rw [o9 Oa];omega
structure tu (p:cO) (a:Of) (i need:Int):Prop where
  top:need<=p.bP+p.aV+1
  all:∀k,0<=k->k<i->a k<p.D k->need<=p.L k+p.aV
  ex:need=p.bP+p.aV+1\/∃k,0<=k/\k<i/\a k<p.D k/\p.L k+p.aV=need
theorem tu.start(p:cO):tu p (fun _=>0) 0 (p.bP+p.aV+1):=⟨Int.le_refl _,fun k h h1=>Oa,.inl rfl⟩
theorem tu.yes{p:cO}(h:tu p a i need)(W:0<=i)(O:k<p.D i):tu p (upd a i k) (i+1) (min need (p.L i+p.aV)):=by
 refine⟨by have:=h.top;omega,fun j D N F=> ?_,?_⟩
 {
 by_cases e:j=i
 · rw [e];omega
 · rw [upd_ne _ _ e] at F
   have:=h.all j D Oa F;omega}
 {
 by_cases hm:need<=p.L i+p.aV
 {
 rw [Int.min_eq_left hm]
 rcases h.ex with U|⟨j,D,N,J,I⟩
 · exact .inl U
 · exact .inr ⟨j,D,Oa,by rw [upd_ne _ _ Oa];exact J,I⟩}
 · rw [Int.min_eq_right Oa]
   exact .inr ⟨i,W,Oa,by rw [Zp];exact O,rfl⟩}
theorem tu.no{p:cO}(h:tu p a i need)(W:0<=i)(O:¬k<p.D i):tu p (upd a i k) (i+1) need:=by
 refine⟨h.top,fun j F N D=> ?_,?_⟩
 {
 by_cases e:j=i
 · rw [e,Zp] at D;exact absurd D O
 · rw [upd_ne _ _ e] at D
   exact h.all j F Oa D}
 {
 rcases h.ex with U|⟨j,F,N,J,I⟩
 · exact .inl U
 · exact .inr ⟨j,F,Oa,by rw [upd_ne _ _ Oa];exact J,I⟩}
theorem SG{p:cO}(h:p.Ok){w:Int}:∀(j:Nat) {i l:Int} {a:Of},(p.m-i).toNat=j->0<=i->i<=p.m->0<=l->(∃k,0<=k/\k<i/\a k<p.D k/\p.L k+p.aV<=l-XD p i)->vg p w i a l= []
 | 0,i,l,a,hj,h0,h1,hl,⟨k,k0,k1,k2,k3⟩=>by
   refine UZ Oa fun D=> ?_
   rw [o9 Oa] at k3
   have:=D.2 k k0 Oa k2
   omega
 | j+1,i,l,a,hj,h0,h1,hl,⟨k,k0,k1,k2,k3⟩=>by
   rw [XS h0 Oa]
   have F:0<=least w i:=by unfold least;split<;>omega
   refine Qq fun c U c1=> ?_
   obtain⟨J,O,N⟩:=XO h h0 Oa hl (k:=c) Oa Oa
   refine SG h j Oa Oa Oa Oa ⟨k,k0,Oa,by rw [upd_ne _ _ Oa];exact k2,?_⟩
   rw [Tc h0 Oa] at k3
   have I:=h.all i h0 Oa
   unfold cO.each at I
   have:=h.k1
   have:c*(p.L i+p.aV)<=p.D i*(p.L i+p.aV):=Int.mul_le_mul_of_nonneg_right J Oa
   omega
theorem Ir{p:cO}(D:p.Ok){l:Int}(I:0<=i)(h1:i<=p.m)(h:wQ p i a l)(hn:tu p a i need)(hg:need<=l-XD p i):vg p w i a l= []:=by
 refine SG D _ rfl I h1 h.l0 ?_
 have hL:=(MC D I).1
 have Z:0<=ZD p a i.toNat:=Z8 fun j F Y=>by
   have:=h.rng j F Oa
   have U:=D.all j F Oa
   unfold cO.each at U
   have:=D.k1
   exact Int.mul_nonneg Oa Oa
 have hl:=h.left
 rcases hn.ex with h2|⟨k,O,N,J,W⟩
 · omega
 · exact⟨k,O,N,J,Oa⟩
theorem Wt{p:cO}{l:Int}(hi:i=p.m)(hn:tu p a i need)(J:l<need)(D:∃k,0<=k/\k<p.m/\0<a k):vg p w i a l= [a]:=
 Vz hi ⟨D,fun k h I F=>by have:=hn.all k h Oa F;omega⟩
theorem TD{p:cO}{l:Int}(hi:i=p.m)(D:¬∃k,0<=k/\k<p.m/\0<a k):vg p w i a l= []:=
 UZ hi fun h=>D h.1
def Yi(l:List (Of))(k:Int):Of:=l.getD k.toNat (fun _=>0)
def Ls(m u:Int)(f:Og)(l:List (Of)):Prop:=u=l.length/\∀k,0<=k->k<u->∀j,0<=j->j<m->f k j=Yi l k j
theorem Ls.nil{m:Int}{f:Og}:Ls m 0 f []:=⟨rfl,fun k h h1=>Oa⟩
theorem ZjQ{l m:List (Of)}(h:0<=k)(h1:k<l.length):Yi (l++m) k=Yi l k:=by
 unfold Yi;rw [List.getD_eq_getElem?_getD,List.getD_eq_getElem?_getD,List.getElem?_append_left Oa]
theorem ZjR{l:List (Of)}(h:k=l.length):Yi (l++ [x]) k=x:=by
 unfold Yi;rw [List.getD_eq_getElem?_getD,h,Int.toNat_natCast,List.getElem?_append_right (Nat.le_refl _)];simp
theorem Ui{l:List (Of)}(h:0<=k)(h1:k<l.length):Yi l k∈l:=by
 unfold Yi
 have:k.toNat<l.length:=Oa
 rw [List.getD_eq_getElem?_getD,List.getElem?_eq_getElem this];exact List.getElem_mem this
theorem Ls.snoc{m u:Int}{f:Og}{l:List (Of)}{g:Of}(h:Ls m u f l)(J:∀j,0<=j->j<m->g j=x j):Ls m (u+1) (lD f u g) (l++ [x]):=by
 obtain⟨h1,N⟩:=h
 refine⟨by simp [h1],fun k D O j I F=> ?_⟩
 by_cases e:k<u
 · rw [Zl e,N k D e j I F,ZjQ D Oa]
 · rw [Zo e,ZjR Oa];exact J j I F
end
end Go.Proofs.Gw
namespace Go.Proofs.YtpnamgfdakfccaaGreat
open Go Go.RowKit Go.Proofs.Gw
variable {f:Of}
theorem Pn:Zc Om 167=true:=Oc
theorem Ka{p:cO}{f:Of}{i:Int}(F:0<=i):∀{n:Nat},i<(n:Int)->ZD p (upd f i (f i+1)) n=ZD p f n+(p.L i+p.aV)
 |0,h=>Oa
 | n+1,h=>by
   show Zd _ (n+1)=Zd _ (n+1)+_
   simp only [Zd]
   by_cases e:i=n
   {
   subst e
   have:Zd (fun j=>upd f (n:Int) (f n+1) j*(p.L j+p.aV)) n=Zd (fun j=>f j*(p.L j+p.aV)) n:=Zh fun j J I=>by rw [upd_ne _ _ Oa]
   rw [this,Zp,Int.add_mul,Int.one_mul];omega}
   {
   have D:=Ka (p:=p) (f:=f) F (n:=n) Oa
   unfold ZD at D
   rw [D,upd_ne _ _ (fun h=>e h.symm)];omega}
theorem X2{p:cO}(I:p.Ok)(hr:∀k,0<=k->k<p.m->0<=f k/\f k<=p.D k){i:Int}(F:0<=i)(h1:i<p.m):Z4 p p.m (upd f i (f i+1))↔f i<p.D i/\p.L i+p.aV<=p.bP+p.aV-ZD p f p.m.toNat:=by
 have U:ZD p (upd f i (f i+1)) p.m.toNat=ZD p f p.m.toNat+(p.L i+p.aV):=Ka F Oa
 have W:=hr i F h1
 constructor
 {
 rintro⟨hf,O⟩
 have N:=O i F h1
 rw [Zp] at N
 have Z:=hf.used
 exact⟨by omega,Oa⟩}
 {
 rintro⟨O,N⟩
 have J:∀k,0<=k->k<p.m->0<=upd f i (f i+1) k/\upd f i (f i+1) k<=p.D k:=fun k D h=>by
   by_cases e:k=i
   · rw [e,Zp];omega
   · rw [upd_ne _ _ e];exact hr k D h
 exact⟨⟨I,rfl,fun k D h=>(by have:=J k D h;have Y:=I.all k D h;unfold cO.each at Y;omega),by rw [U];omega⟩,fun k D h=>(J k D h).2⟩}
theorem ZkR{vL vD:Value}{p:cO}{vA:Value}{n:Int}(w0:World)(h:oO w0 vL vD p)(F:p.Ok)(U:Row w0 vA 1 n (ints f))(ad:n=p.m)(hr:∀k,0<=k->k<p.m->0<=f k/\f k<=p.D k):
   Calls Om 92 [.agg #[vL,vD,.int Oi p.bP,.int Oi p.aV],vA].toArray w0 fun e w=>∃v,e= .returned v/\v=B (DU p f (p.bP+p.aV-ZD p f p.m.toNat))/\Sat w0 w []:=by
 subst ad
 obtain⟨Y,al,hd,hd1,hs,Z⟩:=h.Oq
 have hn:=U.fP.n0;have ak:=U.fP.n1
 have ai:=F.m1;have qM:=F.m2;have aj:=F.d;have ah:=F.s1;have ag:=F.s2;have an:=F.k1;have am:=F.k2
 refine iE Tryz.func92 Tryz.ntmps92 fun w D=> ?_
 refine fQ<|iG (nS (cs:= [_,_,_,_]) D) ?_;rintro _ w ⟨g1,rfl,D⟩
 refine(zP)<|iT<|(zP)<|GR 5 (u:=B (∃j,0<=j/\j<0/\0<f j)) (Zi fun⟨j,j0,j1,_⟩=>Oa) ?_
 refine l9<|(zP)<|nI<|ny (fun mm M w=>∃(i:Int),mm=((p.m-i).toNat)/\(0<=i)/\(i<=p.m)/\(∀k,0<=k->k<i->f k<p.D k->p.bP+p.aV-ZD p f p.m.toNat<p.L k+p.aV)/\M= [(1,vA),(2,Or g1),(5,B (∃j,0<=j/\j<i/\0<f j)),(6,.int Oi i)]/\Sat w0 w [.blk g1 [vL,vD,.int Oi p.bP,.int Oi p.aV]]) ⟨0,rfl,Oa,Oa,?_,rfl,D⟩ ?_
 {
 intro k W k1;omega}
 clear D w
 rintro mm M w ⟨i,rfl,J,h1,qa,rfl,D⟩
 refine lW<|fQ<|(On)<|(zV (iW Zb U.fP))<|(zP)<|ig<|Zf ?_ ?_<;>intro hc
 {
 refine oC<|(On)<|lX 15 ?_ ?_<;>intro hc
 {
 iterate 5 refine oq ?_
 refine(zP)<|GR 21 (u:=B (∃j,0<=j/\j<(i+1)/\0<f j)) (Yk (by first|(obtain⟨j,j0,j1,j2⟩:=‹∃j,0<=j/\j<i/\0<f j›;exact⟨j,j0,Oa,j2⟩)|exact⟨i,Oa,Oa,Oa⟩)) ?_
 refine(zP)<|iT<|iG (Du (c:=ints f) Zb D) ?_;rintro v1 w ⟨D,af⟩
 refine(zP)<|iG (pz 1 (r:=p.m) (f:=ints f) Zb Zq D (U.below D.below) (by exact YH _ _)) ?_;rintro v2 w ⟨D,ab⟩
 have ac:=hr i J Oa;have O:=F.all i J Oa;unfold cO.each at O
 refine(zP)<|iT<|(On)<|(zV (iy (kk:=i) Zb ab))<|(zV (iR (u:= .int Oi (f i)) dw (D.f_ 1 rfl)))<|(zV (Zg (r:=f i+1)))<|(zV (iy (kk:=i) Zb ab))<|lJ (rV 1 dw D (ZA _ _ _)) ?_;clear D;rintro w D
 refine iT<|(zV (lH 0 rQ D))<|(zP)<|iJ (xc0 Pn) (Tn (p:=p) w (h.below D.below) (D.f_ 1 rfl)) ?_;rintro _ w ⟨rfl,I⟩
 replace D:=D.cmp I;clear I
 refine ig<|Zf ?_ ?_<;>intro hc
 {
 refine fQ<|(zP)<|sG<|Oj ?_
 exact⟨Zi fun Y=>by have h9:=(X2 F hr J Oa).1 ‹_›;have:=Y.2 i J Oa h9.1;omega,D.nl⟩}
 refine rU<|(zP)<|(zV (Zg (r:=i+1)))<|(zP)<|iq<|jm ⟨i+1,rfl,Oa,Oa,?_,rfl,D.pk [0]⟩
 {
 intro k W k1 Z;rcases Int.lt_or_eq_of_le (show k<=i by omega) with N|N
 · exact qa k W N Z
 · subst N;have h9:=(not_congr (X2 F hr J Oa)).1 ‹_›;omega}}
 refine(On)<|(zV (iy (kk:=i) Zb U.fP))<|(zV (iR (u:= .int Oi (f i)) dw (U.below D.below)))<|(On)<|GR 21 (u:=B (∃j,0<=j/\j<(i+1)/\0<f j)) (Zm ⟨fun hh=>⟨i,Oa,Oa,hh⟩,fun⟨j,j0,j1,j2⟩=>by by_cases e:j=i;exact e▸j2;exact absurd ⟨j,j0,Oa,j2⟩ ‹¬(∃j,0<=j/\j<i/\0<f j)›⟩) ?_
 refine(zP)<|iT<|iG (Du (c:=ints f) Zb D) ?_;rintro v3 w ⟨D,ae⟩
 refine(zP)<|iG (pz 1 (r:=p.m) (f:=ints f) Zb Zq D (U.below D.below) (by exact YH _ _)) ?_;rintro v4 w ⟨D,aa⟩
 have ac:=hr i J Oa;have O:=F.all i J Oa;unfold cO.each at O
 refine(zP)<|iT<|(On)<|(zV (iy (kk:=i) Zb aa))<|(zV (iR (u:= .int Oi (f i)) dw (D.f_ 1 rfl)))<|(zV (Zg (r:=f i+1)))<|(zV (iy (kk:=i) Zb aa))<|lJ (rV 1 dw D (ZA _ _ _)) ?_;clear D;rintro w D
 refine iT<|(zV (lH 0 rQ D))<|(zP)<|iJ (xc0 Pn) (Tn (p:=p) w (h.below D.below) (D.f_ 1 rfl)) ?_;rintro _ w ⟨rfl,I⟩
 replace D:=D.cmp I;clear I
 refine ig<|Zf ?_ ?_<;>intro hc
 {
 refine fQ<|(zP)<|sG<|Oj ?_
 exact⟨Zi fun Y=>by have h9:=(X2 F hr J Oa).1 ‹_›;have:=Y.2 i J Oa h9.1;omega,D.nl⟩}
 refine rU<|(zP)<|(zV (Zg (r:=i+1)))<|(zP)<|iq<|jm ⟨i+1,rfl,Oa,Oa,?_,rfl,D.pk [0]⟩
 {
 intro k W k1 Z;rcases Int.lt_or_eq_of_le (show k<=i by omega) with N|N
 · exact qa k W N Z
 · subst N;have h9:=(not_congr (X2 F hr J Oa)).1 ‹_›;omega}}
 refine oM<|(On)<|jk<|Oj ?_
 obtain rfl:i=p.m:=Oa
 exact⟨Zm ⟨fun hh=>⟨hh,fun k W k1 Z=>qa k W k1 Z⟩,fun Y=>Y.1⟩,D.nl⟩
end Go.Proofs.YtpnamgfdakfccaaGreat
